/-
  A logic over the model, in one text.
-/
import Derived.Test.YtmhfodjiefednaaFHa1
import Derived.Laws.Tables
import Derived.Laws.BytesString
import Derived.Laws.BytesArg
/-
  A logic over the model, part four: what may be forgotten, and what a callee sees.
-/
namespace Go.Fhl
set_option linter.unusedVariables false
set_option linter.unusedSimpArgs false

/-! ## What names nothing above -/
def okA (m k : Nat) (a : Addr) : Bool := match a.spot with | some 0 => Nat.blt a.block k | _ => Nat.blt a.block m
def okP (m k : Nat) : Value → Bool
  | .pointer (some a) => okA m k a
  | _ => true
def okv1 (m k : Nat) : Value → Bool
  | .pointer (some a) => okA m k a
  | .slice (some a) _ _ => Nat.blt a.block m
  | .func _ _ cap => cap.toList.all (okP m k)
  | .agg _ => false
  | .tuple _ => false
  | _ => true
def okv (m k : Nat) : Value → Bool
  | .agg cs => cs.toList.all (okv1 m k)
  | .tuple vs => vs.toList.all fun | .agg cs => cs.toList.all (okv1 m k) | v => okv1 m k v
  | v => okv1 m k v

def GM.cut (hm : GM) (m : Nat) : GM := ⟨fun n => if n < m then hm.map n else none, hm.fz⟩
theorem blt_lt {a b : Nat} (h : Nat.blt a b = true) : a < b := by rw [Nat.blt_eq] at h; exact h

section
variable {hm : GM} {lb : LM} {m k : Nat}
theorem ARel.cut {a c : Addr} (h : okA m k a = true) (e : ARel hm lb a c) : ARel (hm.cut m) (lb.take k) a c := by
  unfold okA at h
  unfold ARel at *
  split at e
  · rename_i q; simp only [q] at h
    have := blt_lt h
    obtain ⟨i, h1, h2⟩ := e
    exact ⟨i, by simp [GM.cut, this, h1], h2⟩
  · rename_i q; simp only [q] at h
    have := blt_lt h
    obtain ⟨B, h1, h2⟩ := e
    exact ⟨B, by rw [List.getElem?_take_of_lt this]; exact h1, h2⟩
  · rename_i q; simp only [q] at h
    have := blt_lt h
    obtain ⟨i, h1, h2⟩ := e
    exact ⟨i, by simp [GM.cut, this, h1], h2⟩
theorem PR.cut {x v : Value} (h : okP m k x = true) (e : PR hm lb x v) : PR (hm.cut m) (lb.take k) x v := by
  unfold PR at *
  split at e
  · obtain ⟨c, h1, h2⟩ := e; exact ⟨c, h1.cut h, h2⟩
  · exact e
  all_goals first | exact e | cases e
theorem SR.cut {x v : Value} (h : okv1 m k x = true) (e : SR hm lb x v) : SR (hm.cut m) (lb.take k) x v := by
  unfold SR at *
  split at e
  · obtain ⟨c, h1, h2⟩ := e; exact ⟨c, h1.cut h, h2⟩
  · have := blt_lt h
    split at e
    · obtain ⟨i, o, h1, h2⟩ := e; exact ⟨i, o, by simp [GM.cut, this, h1], h2⟩
    · obtain ⟨i, o, c, h1, h2⟩ := e; exact ⟨i, o, c, by simp [GM.cut, this, h1], h2⟩
    · obtain ⟨i, o, c, h1, h2⟩ := e; exact ⟨i, o, c, by simp [GM.cut, this, h1], h2⟩
  · exact e
  · obtain ⟨c', h1, h2, h3⟩ := e
    refine ⟨c', h1, h2, h3.mono fun a b ha q => PR.cut ?_ q⟩
    simp only [okv1] at h
    exact List.all_eq_true.1 h a ha
  all_goals first | exact e | cases e
theorem VR1.cut {x v : Value} (h : (match x with | .agg cs => cs.toList.all (okv1 m k) | v => okv1 m k v) = true) (e : VR1 hm lb x v) : VR1 (hm.cut m) (lb.take k) x v := by
  unfold VR1 at *
  split at e
  · obtain ⟨c, h1, h2⟩ := e; exact ⟨c, h1, h2.mono fun a b ha q => SR.cut (List.all_eq_true.1 h a ha) q⟩
  · rename_i hx
    refine SR.cut ?_ e
    split at h
    · exact absurd rfl (hx _)
    · exact h
theorem VR.cut {x v : Value} (h : okv m k x = true) (e : VR hm lb x v) : VR (hm.cut m) (lb.take k) x v := by
  unfold VR at *
  split at e
  · rcases e with e | e | ⟨c, h1, h2⟩
    · exact .inl e
    · exact .inr (.inl e)
    · refine .inr (.inr ⟨c, h1, h2.mono fun a b ha q => VR1.cut ?_ q⟩)
      exact List.all_eq_true.1 h a ha
  · rename_i hx
    refine VR1.cut ?_ e
    unfold okv at h
    split at h
    · exact h
    · exact absurd rfl (hx _)
    · rename_i h1 h2
      split
      · exact absurd rfl (h1 _)
      · exact h
end

def keepT (l : List (Nat × Value)) : List Nat → List (Nat × Value)
  | [] => []
  | t :: ts => match lk l t with | some v => (t, v) :: keepT l ts | none => keepT l ts
def keepH (m : Nat) : List (Nat × Blk) → List (Nat × Blk)
  | [] => []
  | (n, b) :: l => cond (Nat.blt n m) ((n, b) :: keepH m l) (keepH m l)
/-- Slots, boxes and names: what is read still. -/
def AS.keep (st : AS) (ts : List Nat) (k m : Nat) : AS := ⟨st.n, st.base, keepT st.tmps ts, st.locs.take k, ⟨m, keepH m st.heap.l⟩⟩
def okKeep (st : AS) (ts : List Nat) (k m : Nat) : Bool :=
  (keepT st.tmps ts).all (fun p => okv m k p.2) && ((st.locs.take k).all (fun cs => cs.all (okv1 m k)) && (Nat.ble st.base m && Nat.ble m st.heap.next))

theorem lk_keepT {l : List (Nat × Value)} {ts : List Nat} {t : Nat} {v : Value} (h : lk (keepT l ts) t = some v) : lk l t = some v ∧ (t, v) ∈ keepT l ts := by
  induction ts with
  | nil => simp [keepT, lk] at h
  | cons u ts ih =>
    unfold keepT at h ⊢
    cases hu : lk l u with
    | none => simp only [hu] at h ⊢; exact ih h
    | some x =>
      simp only [hu] at h ⊢
      by_cases e : u = t
      · subst e; rw [lk_cons_self] at h; cases h; exact ⟨hu, by simp⟩
      · rw [lk_cons_ne e] at h; exact ⟨(ih h).1, by simp [(ih h).2]⟩
theorem lk_keepH {m : Nat} {l : List (Nat × Blk)} {n : Nat} {b : Blk} (h : lk (keepH m l) n = some b) : lk l n = some b ∧ n < m := by
  induction l with
  | nil => simp [keepH, lk] at h
  | cons p l ih =>
    obtain ⟨x, c⟩ := p
    unfold keepH at h
    cases hb : Nat.blt x m with
    | true =>
      simp only [hb, cond_true] at h
      by_cases e : x = n
      · subst e; rw [lk_cons_self] at h ⊢; exact ⟨h, blt_lt hb⟩
      · rw [lk_cons_ne e] at h ⊢; exact ih h
    | false =>
      simp only [hb, cond_false] at h
      obtain ⟨h1, h2⟩ := ih h
      refine ⟨?_, h2⟩
      have : x ≠ n := fun e => by
        subst e
        have : ¬ Nat.blt x m = true := by simp [hb]
        rw [Nat.blt_eq] at this; omega
      rw [lk_cons_ne this]; exact h1

section
variable {hm : GM} {lb : LM} {w0 : World} {U : Env} {st : AS} {w : World} {a : Act}

theorem Rel.keep (r : Rel hm lb w0 U st w a) {ts : List Nat} {k m : Nat} (h : okKeep st ts k m = true) :
    hm.leb st.base (hm.cut m) ∧ Rel (hm.cut m) (lb.take k) w0 U (st.keep ts k m) w a := by
  unfold okKeep at h
  simp only [Bool.and_eq_true] at h
  obtain ⟨h1, h2, h3, h4⟩ := h
  rw [Nat.ble_eq] at h3 h4
  have hcut : ∀ n i, (hm.cut m).map n = some i → hm.map n = some i ∧ n < m := by
    intro n i hn
    simp only [GM.cut] at hn
    split at hn
    · exact ⟨hn, ‹_›⟩
    · cases hn
  have hpure : ∀ v v', pure1 v = true → SR hm [] v v' → SR (hm.cut m) [] v v' := fun v v' hp hs => hs.repl hp fun _ _ _ q => q
  refine ⟨⟨fun n i hn hi => ⟨i, by simp [GM.cut, hi]; omega, .inl rfl⟩, fun _ _ _ q => q⟩, ?_⟩
  have hget : ∀ n b, (st.keep ts k m).heap.get n = some b → st.heap.get n = some b ∧ n < m := fun n b hb => lk_keepH hb
  refine { os := r.os, tape := r.tape, output := r.output, size := r.size, prot := r.prot, protz := r.protz, fresh := ?_, frz := ?_, blk := ?_, inj := ?_, defers := r.defers, tsize := r.tsize, base_le := h3, tmps := ?_, llen := ?_, loc := ?_, linj := ?_, lheap := ?_ }
  · intro n hn
    have hn' : m ≤ n := hn
    simp only [GM.cut]; rw [if_neg (by omega)]
  · intro B j v hz
    obtain ⟨g1, C, e, fz, v', g2, g3, g4⟩ := r.frz B j v hz
    exact ⟨g1, C, e, fz, v', g2, g3, hpure _ _ g1 g4⟩
  · intro n b hb
    obtain ⟨hb, hn⟩ := hget n b hb
    obtain ⟨i, g1, g2, g3, g4, gp, g5⟩ := r.blk n b hb
    refine ⟨i, by simp [GM.cut, hn, g1], g2, g3, g4, gp, g5.imp id ?_⟩
    rintro ⟨C, e, fz, k1, k2, k3, k4, k5, k6, k7⟩
    refine ⟨C, e, fz, k1, k2, k3, k4, k5, k6, fun j v hj => ?_⟩
    obtain ⟨v', k8, k9⟩ := k7 j v hj
    exact ⟨v', k8, hpure _ _ (List.all_eq_true.1 gp v (List.mem_of_getElem? hj)) k9⟩
  · intro n b n' b' i i' g1 g2 g3 g4 g5 g6 g7
    exact r.inj n b n' b' i i' (hget _ _ g1).1 (hget _ _ g2).1 g3 (hcut _ _ g4).1 (hcut _ _ g5).1 g6 g7
  · intro t v ht
    obtain ⟨g1, g2⟩ := lk_keepT ht
    obtain ⟨cv, g3, g4⟩ := r.tmps t v g1
    exact ⟨cv, g3, g4.cut (List.all_eq_true.1 h1 _ g2)⟩
  · simp [AS.keep, r.llen]
  · intro j cs hj
    have hj' : (st.locs.take k)[j]? = some cs := hj
    have hjk : j < k := by have := lookup_lt hj'; simp at this; omega
    have hj2 := hj'
    rw [List.getElem?_take_of_lt hjk] at hj2
    obtain ⟨B, C, e, fz, g1, g2, g3, g4, g5, g6, g7⟩ := r.loc j cs hj2
    refine ⟨B, C, e, fz, by rw [List.getElem?_take_of_lt hjk]; exact g1, g2, g3, g4, g5, g6, fun x v hx => ?_⟩
    obtain ⟨v', g8, g9⟩ := g7 x v hx
    have := List.all_eq_true.1 h2 cs (List.mem_of_getElem? hj')
    exact ⟨v', g8, g9.cut (List.all_eq_true.1 this v (List.mem_of_getElem? hx))⟩
  · intro j j' B g1 g2
    have e1 : lb[j]? = some B := by
      have : j < k := by have := lookup_lt g1; simp at this; omega
      rwa [List.getElem?_take_of_lt this] at g1
    have e2 : lb[j']? = some B := by
      have : j' < k := by have := lookup_lt g2; simp at this; omega
      rwa [List.getElem?_take_of_lt this] at g2
    exact r.linj j j' B e1 e2
  · intro j B n b i g1 g2 g3 g4
    have e1 : lb[j]? = some B := by
      have : j < k := by have := lookup_lt g1; simp at this; omega
      rwa [List.getElem?_take_of_lt this] at g1
    exact r.lheap j B n b i e1 (hget _ _ g2).1 (hcut _ _ g3).1 g4

/-- The slots of another state that knew no more. -/
theorem Rel.withTmps {st2 : AS} {hm' : GM} {lb' : LM} {w' : World} (r : Rel hm lb w0 U st w a) (r2 : Rel hm' lb' w0 U st2 w' a) (h : hm.le hm') (hl : LM.le lb lb') :
    Rel hm' lb' w0 U { st2 with tmps := st.tmps } w' a :=
  { toHRel := r2.toHRel, defers := r2.defers, tsize := r2.tsize, base_le := r2.base_le
    tmps := fun t v ht => by obtain ⟨cv, h1, h2⟩ := r.tmps t v ht; exact ⟨cv, h1, h2.mono h hl⟩
    llen := r2.llen, loc := r2.loc, linj := r2.linj, lheap := r2.lheap }

/-- Fewer slots. -/
theorem Rel.fewer (r : Rel hm lb w0 U st w a) (l : List (Nat × Value)) (h : ∀ t v, lk l t = some v → lk st.tmps t = some v) : Rel hm lb w0 U { st with tmps := l } w a :=
  { toHRel := r.toHRel, defers := r.defers, tsize := r.tsize, base_le := r.base_le
    tmps := fun t v ht => r.tmps t v (h t v ht)
    llen := r.llen, loc := r.loc, linj := r.linj, lheap := r.lheap }

/-! ## What a callee sees -/
def AH.empty : AH := ⟨0, []⟩
def hideU (hm : GM) (w : World) : Env := ⟨fun B => B < w.heap.size, hm.fz⟩
def GM.bare (hm : GM) : GM := ⟨fun _ => none, hm.fz⟩

theorem Rel.hide (r : Rel hm lb w0 U st w a) : HRel hm.bare w (hideU hm w) AH.empty w where
  os := rfl
  tape := rfl
  output := rfl
  size := Nat.le_refl _
  prot := fun B hB => ⟨hB, rfl⟩
  protz := fun B hB k => rfl
  fresh := fun n _ => rfl
  frz := fun B k v hz => by
    obtain ⟨h1, C, e, fz, v', h2, h3, h4⟩ := r.frz B k v hz
    exact ⟨h1, C, e, fz, v', h2, h3, h4.repl h1 fun _ _ _ q => q⟩
  blk := fun n b hb => by cases hb
  inj := fun n b n' b' i i' hb => by cases hb

theorem Rel.unhide (r : Rel hm lb w0 U st w a) {hm1 : GM} {H1 : AH} {w' : World} (hz : ∀ B k v, hm.fz B k = some v → hm1.fz B k = some v) (h : HRel hm1 w (hideU hm w) H1 w') :
    hm.le ⟨hm.map, hm1.fz⟩ ∧ Rel ⟨hm.map, hm1.fz⟩ lb w0 U st w' a := by
  have hle : hm.le ⟨hm.map, hm1.fz⟩ := ⟨fun n i hi => ⟨i, hi, .inl rfl⟩, hz⟩
  refine ⟨hle, ?_⟩
  have hkeep : ∀ B, B < w.heap.size → w'.heap[B]? = w.heap[B]? := fun B hB => (h.prot B hB).2
  have hfz : ∀ B k, B < w.heap.size → hm1.fz B k = hm.fz B k := fun B k hB => h.protz B hB k
  have r' : HRel ⟨hm.map, hm1.fz⟩ w0 U st.heap w' :=
    { os := h.os.trans r.os
      tape := h.tape.trans r.tape
      output := h.output.trans r.output
      size := Nat.le_trans r.size h.size
      prot := fun B hB => ⟨(r.prot B hB).1, (hkeep B (r.ult hB)).trans (r.prot B hB).2⟩
      protz := fun B hB k => (hfz B k (r.ult hB)).trans (r.protz B hB k)
      fresh := r.fresh
      frz := fun B k v hv => by
        obtain ⟨h1, C, e, fz, v', h2, h3, h4⟩ := h.frz B k v hv
        exact ⟨h1, C, e, fz, v', h2, h3, h4.repl h1 fun _ _ _ q => q⟩
      blk := fun n b hb => by
        refine r.toHRel.other hle hb rfl (fun i hi hs => ?_) (fun B hB ⟨C, e, fz, h1, h2⟩ => ⟨C, e, fz, by rw [hkeep B hB]; exact h1, h2⟩)
        have hlt := r.toHRel.blk_lt hb hi hs
        exact ⟨hkeep _ hlt, fun k hk => by rw [hfz _ _ hlt]; exact r.toHRel.blk_fz hb hi hs k hk⟩
      inj := r.inj }
  have hst : st = { st with heap := st.heap } := rfl
  rw [hst]
  exact r.frame hle r' (Nat.le_refl _) (fun k B hk => ⟨hkeep B (r.loc_lt hk), fun j => by rw [hfz B j (r.loc_lt hk)]; exact r.loc_fz hk j⟩) r.lheap

/-- What may not be written by a callee that sees all names. -/
def callU (st : AS) (hm : GM) (w : World) : Env := ⟨fun B => B < w.heap.size ∧ ∀ n b i, st.heap.get n = some b → hm.map n = some i → i.size ≠ 0 → i.blk ≠ B, hm.fz⟩

theorem Rel.enter (r : Rel hm lb w0 U st w a) : HRel hm w (callU st hm w) st.heap w where
  os := rfl
  tape := rfl
  output := rfl
  size := Nat.le_refl _
  prot := fun B hB => ⟨hB.1, rfl⟩
  protz := fun B hB k => rfl
  fresh := r.fresh
  frz := r.frz
  blk := fun n b hb => by
    obtain ⟨i, h1, h2, h3, h4, hp, h5⟩ := r.blk n b hb
    refine ⟨i, h1, h2, h3, h4, hp, ?_⟩
    rcases h5 with h5 | ⟨C, e, fz, k1, k2, k3, k4, k5, k6⟩
    · exact .inl h5
    · exact .inr ⟨C, e, fz, k1, k2, k3, k4, fun hs hu => hu.2 n b i hb h1 hs rfl, k6⟩
  inj := r.inj

theorem Rel.back (r : Rel hm lb w0 U st w a) {hm' : GM} {H' : AH} {w' : World} (hl : hm.leb st.heap.next hm') (hnx : st.heap.next ≤ H'.next) (h : HRel hm' w (callU st hm w) H' w') :
    hm.le hm' ∧ Rel hm' lb w0 U (st.setHeap H') w' a := by
  have hlm : ∀ n i, hm.map n = some i → ∃ i', hm'.map n = some i' ∧ i.le i' := by
    intro n i hi
    rcases Nat.lt_or_ge n st.heap.next with q | q
    · exact hl.map n i q hi
    · rw [r.fresh n q] at hi; cases hi
  have hle : hm.le hm' := ⟨hlm, hl.fz⟩
  refine ⟨hle, ?_⟩
  have hU : ∀ B, U.U B → (callU st hm w).U B := by
    intro B hB
    refine ⟨r.ult hB, fun n b i hb hi hs e => ?_⟩
    obtain ⟨i', h1, h2, h3, h4, hp, h5⟩ := r.blk n b hb
    rw [hi] at h1; cases h1
    rcases h5 with ⟨_, h5, _⟩ | ⟨C, e1, fz, k1, k2, k3, k4, k5, k6⟩
    · exact hs h5
    · exact k5 hs (e ▸ hB)
  have hL : ∀ k B, lb[k]? = some B → (callU st hm w).U B := fun k B hk => ⟨r.loc_lt hk, fun n b i hb hi hs => r.lheap k B n b i hk hb hi hs⟩
  have hfz : ∀ B k, (callU st hm w).U B → hm'.fz B k = hm.fz B k := fun B k hB => h.protz B hB k
  have r' : HRel hm' w0 U H' w' :=
    { os := h.os.trans r.os
      tape := h.tape.trans r.tape
      output := h.output.trans r.output
      size := Nat.le_trans r.size h.size
      prot := fun B hB => ⟨(r.prot B hB).1, ((h.prot B (hU B hB)).2).trans (r.prot B hB).2⟩
      protz := fun B hB k => (hfz B k (hU B hB)).trans (r.protz B hB k)
      fresh := h.fresh
      frz := h.frz
      blk := fun n b hb => by
        obtain ⟨i, h1, h2, h3, h4, hp, h5⟩ := h.blk n b hb
        refine ⟨i, h1, h2, h3, h4, hp, ?_⟩
        rcases h5 with h5 | ⟨C, e, fz, k1, k2, k3, k4, k5, k6⟩
        · exact .inl h5
        · exact .inr ⟨C, e, fz, k1, k2, k3, k4, fun hs hu => k5 hs (hU _ hu), k6⟩
      inj := h.inj }
  refine r.frame hle r' hnx (fun k B hk => ⟨(h.prot B (hL k B hk)).2, fun j => by rw [hfz B j (hL k B hk)]; exact r.loc_fz hk j⟩) ?_
  intro k B n b i hk hb hi hs e
  obtain ⟨i', h1, h2, h3, h4, hp, h5⟩ := h.blk n b hb
  rw [hi] at h1; cases h1
  rcases h5 with ⟨_, h5, _⟩ | ⟨C, e1, fz, k1, k2, k3, k4, k5, k6⟩
  · exact hs h5
  · exact k5 hs (e ▸ hL k B hk)

/-! ### A callee that sees one named block, as its number 0 -/
def oneU (hm : GM) (w : World) (i : Info) : Env := ⟨fun B => B < w.heap.size ∧ (i.size ≠ 0 → i.blk ≠ B), hm.fz⟩
def GM.only (hm : GM) (i : Info) : GM := ⟨fun m => if m = 0 then some i else none, hm.fz⟩

theorem Rel.enter1 (r : Rel hm lb w0 U st w a) {n : Nat} {b : Blk} {i : Info} (hn : st.heap.get n = some b) (hi : hm.map n = some i) : HRel (hm.only i) w (oneU hm w i) ⟨1, [(0, b)]⟩ w where
  os := rfl
  tape := rfl
  output := rfl
  size := Nat.le_refl _
  prot := fun B hB => ⟨hB.1, rfl⟩
  protz := fun B hB k => rfl
  fresh := fun n hn => by have : n ≠ 0 := by simp only at hn; omega
                          simp [GM.only, this]
  frz := fun B k v hz => by
    obtain ⟨h1, C, e, fz, v', h2, h3, h4⟩ := r.frz B k v hz
    exact ⟨h1, C, e, fz, v', h2, h3, h4.repl h1 fun _ _ _ q => q⟩
  blk := fun m c hc => by
    have hm0 : m = 0 ∧ c = b := by
      unfold AH.get at hc
      by_cases q : 0 = m
      · subst q; rw [lk_cons_self] at hc; cases hc; exact ⟨rfl, rfl⟩
      · rw [lk_cons_ne q] at hc; cases hc
    obtain ⟨rfl, rfl⟩ := hm0
    obtain ⟨i', h1, h2, h3, h4, hp, h5⟩ := r.blk n _ hn
    rw [hi] at h1; cases h1
    refine ⟨i, by simp [GM.only], h2, h3, h4, hp, ?_⟩
    rcases h5 with h5 | ⟨C, e, fz, k1, k2, k3, k4, k5, k6, k7⟩
    · exact .inl h5
    · refine .inr ⟨C, e, fz, k1, k2, k3, k4, fun hs hu => hu.2 hs rfl, k6, fun k v hk => ?_⟩
      obtain ⟨v', k8, k9⟩ := k7 k v hk
      exact ⟨v', k8, k9.repl (List.all_eq_true.1 hp v (List.mem_of_getElem? hk)) fun _ _ _ q => q⟩
  inj := fun m c m' c' j j' h1 h2 h3 => by
    have key : ∀ m c, AH.get ⟨1, [(0, b)]⟩ m = some c → m = 0 := by
      intro m c hc
      unfold AH.get at hc
      by_cases q : 0 = m
      · exact q.symm
      · rw [lk_cons_ne q] at hc; cases hc
    exact absurd ((key m c h1).trans (key m' c' h2).symm) h3

/-- What the caller knows then: of the block, and of the rest. -/
theorem Rel.back1 (r : Rel hm lb w0 U st w a) {n : Nat} {b : Blk} {i : Info} (hn : st.heap.get n = some b) (hi : hm.map n = some i) {hm1 : GM} {H1 : AH} {w' : World} {b' : Blk}
    (hl : (hm.only i).leb 1 hm1) (h : HRel hm1 w (oneU hm w i) H1 w') (hb' : H1.get 0 = some b') :
    ∃ i', hm1.map 0 = some i' ∧ hm.le ⟨(hm.put n i').map, hm1.fz⟩ ∧ Rel ⟨(hm.put n i').map, hm1.fz⟩ lb w0 U (st.setHeap (st.heap.set n b')) w' a := by
  obtain ⟨i', hi', hii⟩ := hl.map 0 i (by omega) (by simp [GM.only])
  refine ⟨i', hi', ?_⟩
  have hzle : ∀ B k v, hm.fz B k = some v → hm1.fz B k = some v := hl.fz
  have hle : hm.le ⟨(hm.put n i').map, hm1.fz⟩ := by
    refine ⟨fun m j hj => ?_, hzle⟩
    by_cases e : m = n
    · subst e; rw [hi] at hj; cases hj; exact ⟨i', GM.put_same, hii⟩
    · exact ⟨j, by show (hm.put n i').map m = _; rw [GM.put_ne e]; exact hj, .inl rfl⟩
  refine ⟨hle, ?_⟩
  have hkeep : ∀ B, (oneU hm w i).U B → w'.heap[B]? = w.heap[B]? := fun B hB => (h.prot B hB).2
  have hfz : ∀ B k, (oneU hm w i).U B → hm1.fz B k = hm.fz B k := fun B k hB => h.protz B hB k
  have hU : ∀ B, U.U B → (oneU hm w i).U B := by
    intro B hB
    refine ⟨r.ult hB, fun hs e => ?_⟩
    obtain ⟨i0, h1, h2, h3, h4, hp, h5⟩ := r.blk n b hn
    rw [hi] at h1; cases h1
    rcases h5 with ⟨_, h5, _⟩ | ⟨C, e1, fz, k1, k2, k3, k4, k5, k6⟩
    · exact hs h5
    · exact k5 hs (e ▸ hB)
  have hL : ∀ k B, lb[k]? = some B → (oneU hm w i).U B := fun k B hk => ⟨r.loc_lt hk, fun hs => r.lheap k B n b i hk hn hi hs⟩
  have hO : ∀ m c j, st.heap.get m = some c → m ≠ n → hm.map m = some j → j.size ≠ 0 → (oneU hm w i).U j.blk := fun m c j hm1' hne hj hs =>
    ⟨r.toHRel.blk_lt hm1' hj hs, fun hs' e => r.inj m c n b j i hm1' hn hne hj hi hs hs' e.symm⟩
  obtain ⟨i2, g1, g2, g3, g4, gp, g5⟩ := h.blk 0 b' hb'
  rw [hi'] at g1; cases g1
  have hout : i'.size ≠ 0 → ¬ (oneU hm w i).U i'.blk := by
    intro hs
    rcases g5 with ⟨_, g5, _⟩ | ⟨C, e1, fz, k1, k2, k3, k4, k5, k6⟩
    · exact absurd g5 hs
    · exact k5 hs
  have r' : HRel ⟨(hm.put n i').map, hm1.fz⟩ w0 U (st.heap.set n b') w' :=
    { os := h.os.trans r.os
      tape := h.tape.trans r.tape
      output := h.output.trans r.output
      size := Nat.le_trans r.size h.size
      prot := fun B hB => ⟨(r.prot B hB).1, ((h.prot B (hU B hB)).2).trans (r.prot B hB).2⟩
      protz := fun B hB k => (hfz B k (hU B hB)).trans (r.protz B hB k)
      fresh := fun m hm' => by
        have hnlt := r.toHRel.lt hn
        simp only [AH.set] at hm'
        show (hm.put n i').map m = none
        rw [GM.put_ne (by omega)]; exact r.fresh m hm'
      frz := fun B k v hv => by
        obtain ⟨h1, C, e, fz, v', h2, h3, h4⟩ := h.frz B k v hv
        exact ⟨h1, C, e, fz, v', h2, h3, h4.repl h1 fun _ _ _ q => q⟩
      blk := fun m c hc => by
        rw [set_get] at hc
        by_cases q : m = n
        · subst q
          simp at hc; subst hc
          refine ⟨i', GM.put_same, g2, g3, g4, gp, g5.imp id ?_⟩
          rintro ⟨C, e, fz, k1, k2, k3, k4, k5, k6, k7⟩
          refine ⟨C, e, fz, k1, k2, k3, k4, fun hs hu => k5 hs (hU _ hu), k6, fun k v hk => ?_⟩
          obtain ⟨v', k8, k9⟩ := k7 k v hk
          exact ⟨v', k8, k9.repl (List.all_eq_true.1 gp v (List.mem_of_getElem? hk)) fun _ _ _ q => q⟩
        · rw [if_neg q] at hc
          refine r.toHRel.other hle hc (GM.put_ne q) (fun j hj hs => ?_) ?_
          · have hu := hO m c j hc q hj hs
            exact ⟨hkeep _ hu, fun k hk => by show hm1.fz _ _ = _; rw [hfz _ _ hu]; exact r.toHRel.blk_fz hc hj hs k hk⟩
          · rintro B hB ⟨C, e, fz, h1, h2⟩
            refine ⟨C, e, fz, ?_, h2⟩
            rw [hkeep B ⟨hB, fun hs e' => ?_⟩]; exact h1
            subst e'
            obtain ⟨i0, x1, x2, x3, x4, xp, x5⟩ := r.blk n b hn
            rw [hi] at x1; cases x1
            rcases x5 with ⟨_, x5, _⟩ | ⟨C0, e0, fz0, y1, y2, _⟩
            · exact hs x5
            · rw [h1] at y1; cases y1; omega
      inj := fun m c m' c' j j' h1 h2 h3 h4 h5 h6 h7 => by
        rw [set_get] at h1 h2
        by_cases q : m = n <;> by_cases q' : m' = n
        · omega
        · subst q
          rw [if_neg q'] at h2
          have e4 : (hm.put m i').map m = some j := h4
          rw [GM.put_same] at e4; cases e4
          have e5 : (hm.put m i').map m' = some j' := h5
          rw [GM.put_ne q'] at e5
          exact fun e => hout h6 (e ▸ hO m' c' j' h2 q' e5 h7)
        · subst q'
          rw [if_neg q] at h1
          have e5 : (hm.put m' i').map m' = some j' := h5
          rw [GM.put_same] at e5; cases e5
          have e4 : (hm.put m' i').map m = some j := h4
          rw [GM.put_ne q] at e4
          exact fun e => hout h7 (e ▸ hO m c j h1 q e4 h6)
        · rw [if_neg q] at h1
          rw [if_neg q'] at h2
          have e4 : (hm.put n i').map m = some j := h4
          rw [GM.put_ne q] at e4
          have e5 : (hm.put n i').map m' = some j' := h5
          rw [GM.put_ne q'] at e5
          exact r.inj m c m' c' j j' h1 h2 h3 e4 e5 h6 h7 }
  refine r.frame hle r' (by simp [AH.set]) (fun k B hk => ⟨hkeep B (hL k B hk), fun j => by show hm1.fz B j = none; rw [hfz B j (hL k B hk)]; exact r.loc_fz hk j⟩) ?_
  intro k B m c j hk hc hj hs e
  rw [set_get] at hc
  by_cases q : m = n
  · subst q
    have e4 : (hm.put m i').map m = some j := hj
    rw [GM.put_same] at e4; cases e4
    exact hout hs (e ▸ hL k B hk)
  · rw [if_neg q] at hc
    have e4 : (hm.put n i').map m = some j := hj
    rw [GM.put_ne q] at e4
    exact r.lheap k B m c j hk hc e4 hs e
end

end Go.Fhl

/-
  A logic over the model, part five: operands, loads, stores, new boxes, arithmetic, parts and places.
-/
namespace Go.Fhl
set_option linter.unusedVariables false
set_option linter.unusedSimpArgs false

/-! ## Types -/
def sz (P : Program) (t : TypeId) : Option Nat := (P.info? t).map (·.size)
def bt (P : Program) (t : TypeId) : Option Nat := (P.info? t).map (·.bytes)
def zr (P : Program) (t : TypeId) : Option Value := (P.info? t).bind (·.zero)
def und (P : Program) (t : TypeId) : Option TypeDesc := P.underlying t

section
variable {P : Program} {w : World}
theorem run_und {t : TypeId} {d : TypeDesc} (h : und P t = some d) : (underlying t).run P w = .ok d w := by
  unfold und at h
  simp [underlying, h]
theorem run_typeInfo {t : TypeId} {i : TypeInfo} (h : P.info? t = some i) : (typeInfo t).run P w = .ok i w := by
  simp [typeInfo, h]
theorem run_sizeOf {t : TypeId} {n : Nat} (h : sz P t = some n) : (sizeOf t).run P w = .ok n w := by
  unfold sz at h
  cases hi : P.info? t with
  | none => simp [hi] at h
  | some i => simp [hi] at h; simp [sizeOf, run_typeInfo hi, h]
theorem run_zero {t : TypeId} {v : Value} (h : zr P t = some v) : (zeroValue t).run P w = .ok v w := by
  unfold zr at h
  cases hi : P.info? t with
  | none => simp [hi] at h
  | some i => simp [hi] at h; simp [zeroValue, run_typeInfo hi, h]
end

def agg? : TypeDesc → Bool
  | .struct _ | .array _ _ => true
  | _ => false
theorem run_isAgg {P : Program} {w : World} {t : TypeId} {d : TypeDesc} (h : und P t = some d) : (isAgg t).run P w = .ok (agg? d) w := by
  simp only [isAgg, Sem.run_bind, run_und h, Result.andThen_ok]
  cases d <;> rfl

/-! ## Operands -/
def ev (l : List (Nat × Value)) : Operand → Value
  | .tmp t => match lk l t with | some v => v | none => undef
  | .const v => cond (plain v) v undef
  | .global _ => undef
  | .func f => .func (.func f) #[] #[]

section
variable {hm : GM} {lb : LM} {w0 : World} {U : Env} {st : AS} {w : World} {a : Act}

theorem Rel.ev (r : Rel hm lb w0 U st w a) (x : Operand) : VR hm lb (Fhl.ev st.tmps x) (a.eval x) := by
  cases x with
  | tmp t =>
    show VR hm lb (match lk st.tmps t with | some v => v | none => undef) (a.tmps.getD t undef)
    cases h : lk st.tmps t with
    | some v =>
      obtain ⟨cv, h1, h2⟩ := r.tmps t v h
      simp only [Array.getD_eq_getD_getElem?, h1, Option.getD_some]
      exact h2
    | none => exact VR.undef _
  | const v =>
    show VR hm lb (cond (plain v) v undef) v
    cases h : plain v with
    | true => exact VR.of_plain h
    | false => exact VR.undef _
  | global g => exact VR.undef _
  | func f => exact ⟨#[], rfl, rfl, .nil⟩
theorem Rel.evEq (r : Rel hm lb w0 U st w a) {x : Operand} {v : Value} (h : Fhl.ev st.tmps x = v) : VR hm lb v (a.eval x) := h ▸ r.ev x

/-! ## Cells at a place -/
/-- The cells of the block or box of a place. -/
def CellsAt (st : AS) (x : Addr) (cs : List Value) : Prop :=
  match x.spot with
  | none => ∃ b, st.heap.get x.block = some b ∧ b.gro = false ∧ b.cells = cs
  | some 0 => st.locs[x.block]? = some cs
  | some (k + 1) => ∃ b, st.heap.get x.block = some b ∧ b.gro = true ∧ b.cells = cs ∧ cs.length = k

theorem Rel.at_ (r : Rel hm lb w0 U st w a) {x : Addr} {cs : List Value} (h : CellsAt st x cs) {c : Addr} (hc : ARel hm lb x c) (hne : cs ≠ []) :
    ∃ B C e fz, c = ⟨B, x.off, none⟩ ∧ w.heap[B]? = some (.cells C e fz) ∧ cs.length ≤ C.size ∧
      ∀ (k : Nat) (v : Value), cs[k]? = some v → ∃ v', C[k]? = some v' ∧ SR hm lb v v' := by
  unfold CellsAt at h
  unfold ARel at hc
  split at h
  · rename_i hs; simp only [hs] at hc
    obtain ⟨b, h1, h2, rfl⟩ := h
    obtain ⟨i, h3, h4, rfl⟩ := hc
    obtain ⟨i', g1, g2, g3, g4, gp, g5⟩ := r.blk _ b h1
    rw [h3] at g1; cases g1
    rcases g5 with ⟨g5, _⟩ | ⟨C, e, fz, k1, k2, k3, k4, k5, k6, k7⟩
    · rw [h2] at g5; cases g5
    · refine ⟨i.blk, C, e, fz, rfl, k1, by omega, fun k v hk => ?_⟩
      obtain ⟨v', k8, k9⟩ := k7 k v hk
      exact ⟨v', k8, k9.mono (GM.le_refl _) (LM.nil_le _)⟩
  · rename_i hs; simp only [hs] at hc
    obtain ⟨B, C, e, fz, h1, h2, h3, h4, h5, h6, h7⟩ := r.loc _ cs h
    obtain ⟨B', g1, rfl⟩ := hc
    rw [h1] at g1; cases g1
    exact ⟨B, C, e, fz, rfl, h2, by omega, h7⟩
  · rename_i n hs; simp only [hs] at hc
    obtain ⟨b, h1, h2, rfl, h5⟩ := h
    obtain ⟨i, h3, h4, h6, h7, h8⟩ := hc
    obtain ⟨i', g1, g2, g3, g4, gp, g5⟩ := r.blk _ b h1
    rw [h3] at g1; cases g1
    have hl := (g4 h2).1
    obtain rfl := h8 (by omega)
    rcases g5 with ⟨_, _, g5⟩ | ⟨C, e, fz, k1, k2, k3, k4, k5, k6, k7⟩
    · exact absurd g5 hne
    · refine ⟨i.blk, C, e, fz, rfl, k1, by omega, fun k v hk => ?_⟩
      obtain ⟨v', k8, k9⟩ := k7 k v hk
      exact ⟨v', k8, k9.mono (GM.le_refl _) (LM.nil_le _)⟩

theorem slice_rel {R : Value → Value → Prop} {cs : List Value} {C : Array Value} {base : Nat} (h : ∀ (k : Nat) (v : Value), cs[k]? = some v → ∃ v', C[base + k]? = some v' ∧ R v v')
    (off n : Nat) (hn : off + n ≤ cs.length) (hl : base + cs.length ≤ C.size) : L2 R ((cs.drop off).take n) ((C.extract (base + off) (base + off + n)).toList) := by
  refine ⟨by simp; omega, fun i x y hx hy => ?_⟩
  have hi : i < n := by have := lookup_lt hx; simp at this; omega
  have hx' : cs[off + i]? = some x := by
    rw [List.getElem?_take_of_lt hi, List.getElem?_drop] at hx; exact hx
  obtain ⟨v', h1, h2⟩ := h _ _ hx'
  have : y = v' := by
    simp only [Array.getElem?_toList, Array.getElem?_extract] at hy
    split at hy
    · rw [show base + off + i = base + (off + i) from by omega, h1] at hy; exact (Option.some.inj hy).symm
    · cases hy
  rw [this]; exact h2

/-- The cells of a frozen row, where they lie. -/
theorem HRel.deep {H : AH} (r : HRel hm w0 U H w) {B o : Nat} {cs : List Value} (h : ∀ (j : Nat) (c : Value), cs[j]? = some c → hm.fz B (o + j) = some c) (hne : cs ≠ []) :
    ∃ C e fz, w.heap[B]? = some (.cells C e fz) ∧ o + cs.length ≤ C.size ∧ ∀ (k : Nat) (v : Value), cs[k]? = some v → pure1 v = true ∧ ∃ v', C[o + k]? = some v' ∧ SR hm [] v v' := by
  have hpos : 0 < cs.length := by cases cs with | nil => exact absurd rfl hne | cons x l => simp
  have hlast : ∃ v, cs[cs.length - 1]? = some v := ⟨cs[cs.length - 1], List.getElem?_eq_getElem (by omega)⟩
  obtain ⟨v, hv⟩ := hlast
  obtain ⟨h1, C, e, fz, v', h2, h3, h4⟩ := r.frz _ _ v (h _ v hv)
  refine ⟨C, e, fz, h2, by have := alookup_lt h3; omega, fun k u hk => ?_⟩
  obtain ⟨g1, C', e', fz', u', g2, g3, g4⟩ := r.frz _ _ u (h k u hk)
  rw [h2] at g2; cases g2
  exact ⟨g1, u', g3, g4⟩
theorem HRel.deep_pure {H : AH} (r : HRel hm w0 U H w) {e : Nat} {cs : List Value} {v : Value} (h : DeepR hm.fz e cs v) : cs.all pure1 = true := by
  rw [List.all_eq_true]
  intro x hx
  obtain ⟨k, hk, rfl⟩ := List.getElem_of_mem hx
  have hk' := List.getElem?_eq_getElem hk
  cases e with
  | zero => obtain ⟨B, o, _, h2⟩ := h; exact (r.frz _ _ _ (h2 k _ hk')).1
  | succ e =>
    obtain ⟨a, n, cap, _, _, _, h4⟩ := h
    rcases h4 with rfl | ⟨B, o, _, h5⟩
    · simp at hk
    · exact (r.frz _ _ _ (h5 k _ hk')).1

/-! ## Load -/
/-- What is loaded out of a row of cells, for a type. -/
def Part (P : Program) (T : TypeId) (cs : List Value) (off : Nat) (v : Value) : Prop :=
  ∃ d, und P T = some d ∧ ((agg? d = false ∧ cs[off]? = some v) ∨ (agg? d = true ∧ ∃ s, sz P T = some s ∧ 0 < s ∧ off + s ≤ cs.length ∧ v = .agg ((cs.drop off).take s).toArray))
theorem Part.ne {P : Program} {T : TypeId} {cs : List Value} {off : Nat} {v : Value} (h : Part P T cs off v) : cs ≠ [] := by
  obtain ⟨d, h1, h2⟩ := h
  rintro rfl
  rcases h2 with ⟨_, h2⟩ | ⟨_, s, _, h3, h4, _⟩
  · simp at h2
  · simp at h4; omega

theorem load_cells {P : Program} {T : TypeId} {cs : List Value} {off base B : Nat} {C : Array Value} {e : TypeId} {fz : Nat × Nat} {v : Value} (h : Part P T cs off v) (hB : w.heap[B]? = some (.cells C e fz)) (hl : base + cs.length ≤ C.size)
    (hv : ∀ (k : Nat) (v : Value), cs[k]? = some v → ∃ v', C[base + k]? = some v' ∧ SR hm lb v v') :
    ∃ cv, (Instr.loadAt T (.pointer (some ⟨B, base + off, none⟩))).run P w = .ok cv w ∧ VR hm lb v cv := by
  obtain ⟨d, hd, h⟩ := h
  rcases h with ⟨hg, hoff⟩ | ⟨hg, s, hs, hpos, hle, rfl⟩
  · obtain ⟨v', h1, h2⟩ := hv _ _ hoff
    refine ⟨v', ?_, .of_sr h2.one_left h2⟩
    simp only [Instr.loadAt, Instr.sureAddr, Sem.run_bind, Sem.run_pure, Result.andThen_ok, loadVar, run_isAgg hd, hg]
    exact run_load1 P w B (base + off) C e fz v' hB h1
  · refine ⟨.agg (C.extract (base + off) (base + off + s)), ?_, _, rfl, ?_⟩
    · simp only [Instr.loadAt, Instr.sureAddr, Sem.run_bind, Sem.run_pure, Result.andThen_ok, loadVar, run_isAgg hd, hg, if_true, run_sizeOf hs]
      rw [run_loadCells' P w B (base + off) C e fz s hB (by omega)]
      rfl
    · simpa using slice_rel hv off s hle hl

theorem load_at {P : Program} (r : Rel hm lb w0 U st w a) {T : TypeId} {x : Addr} {cs : List Value} {cx v : Value} (h : CellsAt st x cs) (hp : Part P T cs x.off v) (hx : VR hm lb (.pointer (some x)) cx) :
    ∃ cv, (Instr.loadAt T cx).run P w = .ok cv w ∧ VR hm lb v cv := by
  obtain ⟨c, hc, rfl⟩ := hx.sr rfl
  obtain ⟨B, C, e, fz, rfl, hB, hl, hv⟩ := r.at_ h hc hp.ne
  have := load_cells (P := P) (base := 0) hp hB (by omega) (fun k v hk => by simpa using hv k v hk)
  simpa using this

theorem load_deep {P : Program} (r : Rel hm lb w0 U st w a) {T : TypeId} {cs : Array Value} {cx v : Value} (hp : Part P T cs.toList 0 v) (hx : VR hm lb (.iface 0 (.tuple cs)) cx) :
    ∃ cv, (Instr.loadAt T cx).run P w = .ok cv w ∧ VR hm lb v cv := by
  obtain ⟨B, o, rfl, hz⟩ := hx.sr rfl
  obtain ⟨C, e, fz, h1, h2, h3⟩ := r.toHRel.deep hz hp.ne
  exact load_cells (P := P) (base := o) hp h1 h2 fun k v hk => by
    obtain ⟨_, v', g1, g2⟩ := h3 k v hk
    exact ⟨v', g1, g2.mono (GM.le_refl _) (LM.nil_le _)⟩

/-! ## Store -/
def cellsOf : Value → Option (List Value)
  | .agg cs => some cs.toList
  | .tuple _ => none
  | v => some [v]
theorem cells_rel {v cv : Value} (h : VR hm lb v cv) {cs : List Value} (hc : cellsOf v = some cs) : L2 (SR hm lb) cs cv.cells.toList := by
  by_cases ho : one v = true
  · have hs := h.sr ho
    have h1 := hs.one
    have e1 : cs = [v] := by cases v <;> first | (simp [one] at ho; done) | exact (Option.some.inj hc).symm
    have e2 : cv.cells = #[cv] := by cases cv <;> first | (simp [one] at h1; done) | rfl
    rw [e1, e2]
    exact .cons hs .nil
  · cases v <;> first | (simp [cellsOf] at hc; done) | (simp [one] at ho; done) | skip
    case agg cs0 => obtain ⟨cs', rfl, h2⟩ := h; cases hc; exact h2
theorem all_one {l l' : List Value} (h : L2 (SR hm lb) l l') : ∀ v ∈ l', one v = true := by
  intro v hv
  obtain ⟨i, hi, rfl⟩ := List.getElem_of_mem hv
  have hi' : i < l.length := h.1 ▸ hi
  exact (h.2 i _ _ (List.getElem?_eq_getElem hi') (List.getElem?_eq_getElem hi)).one
theorem spl_rel {R : Value → Value → Prop} {cs vs vs' : List Value} {C : Array Value} {off : Nat} (h : ∀ (k : Nat) (v : Value), cs[k]? = some v → ∃ v', C[k]? = some v' ∧ R v v')
    (hvs : L2 R vs vs') (hn : off + vs.length ≤ cs.length) (hl : cs.length ≤ C.size) :
    ∀ (k : Nat) (v : Value), (spl cs off vs)[k]? = some v → ∃ v', ((spl C.toList off vs').toArray)[k]? = some v' ∧ R v v' := by
  intro k v hk
  have e1 := hvs.1
  rw [spl_get hn] at hk
  rw [arr_spl_get C off vs' (by omega)]
  by_cases p : k < off
  · simp only [p, if_true] at hk ⊢
    exact h k v hk
  · simp only [p, if_false] at hk ⊢
    by_cases q : k < off + vs.length
    · have q' : k < off + vs'.length := by omega
      simp only [q, if_true] at hk
      simp only [q', if_true]
      exact hvs.get hk
    · have q' : ¬ k < off + vs'.length := by omega
      simp only [q, if_false] at hk
      simp only [q', if_false]
      exact h k v hk
theorem spl_pure {cs vs : List Value} {off : Nat} (h : cs.all pure1 = true) (hv : vs.all pure1 = true) : (spl cs off vs).all pure1 = true := by
  rw [List.all_eq_true] at *
  intro x hx
  simp only [spl, List.mem_append] at hx
  rcases hx with (hx | hx) | hx
  · exact h x (List.mem_of_mem_take hx)
  · exact hv x hx
  · exact h x (List.mem_of_mem_drop hx)

/-- Cells are written into a box. -/
theorem write_loc {P : Program} (r : Rel hm lb w0 U st w a) {k off : Nat} {cs vs vs' : List Value} {c : Addr} (h : st.locs[k]? = some cs) (hl : off + vs.length ≤ cs.length) (hc : ARel hm lb ⟨k, off, some 0⟩ c) (hv : L2 (SR hm lb) vs vs') :
    ∃ w', (storeCells c vs').run P w = .ok () w' ∧ Rel hm lb w0 U (st.setLocs (st.locs.set k (spl cs off vs))) w' a := by
  obtain ⟨B, C, e, fz, h1, h2, h3, h4, h5, h6, h7⟩ := r.loc _ cs h
  obtain ⟨B', g1, rfl⟩ : ∃ B, lb[k]? = some B ∧ c = ⟨B, off, none⟩ := hc
  rw [h1] at g1; cases g1
  have hlen := hv.1
  have hrun := run_storeCells P B off e fz vs' 0 w C h2 (by omega) (fun k k1 k2 => h4 k (by omega)) (all_one hv)
  refine ⟨_, hrun, ?_⟩
  refine r.storeLoc h h1 h2 (arr_spl_size C _ vs' (by omega)) (spl_length hl) ?_
  intro k v hk
  have := spl_rel (C := C) h7 hv hl (by omega) k v hk
  simpa using this

/-- Cells are written into a named block. -/
theorem write_blk {P : Program} (r : Rel hm lb w0 U st w a) {n off : Nat} {b : Blk} {vs vs' : List Value} {c : Addr} {s : Option Nat} (h : st.heap.get n = some b) (hl : off + vs.length ≤ b.cells.length) (hp : vs.all pure1 = true)
    (hs : (s = none ∧ b.gro = false) ∨ (b.gro = true ∧ s = some (b.cells.length + 1))) (hc : ARel hm lb ⟨n, off, s⟩ c) (hv : L2 (SR hm lb) vs vs') (hne : vs ≠ []) :
    ∃ hm' w', (storeCells c vs').run P w = .ok () w' ∧ hm.le hm' ∧ Rel hm' lb w0 U (st.setHeap (st.heap.set n { b with cells := spl b.cells off vs })) w' a := by
  obtain ⟨i, g1, g2, g3, g4, gp, g5⟩ := r.blk _ b h
  have hpos : 0 < vs.length := by cases vs with | nil => exact absurd rfl hne | cons x l => simp
  have hc' : c = ⟨i.blk, off, none⟩ := by
    rcases hs with ⟨rfl, hg⟩ | ⟨hg, rfl⟩
    · obtain ⟨i', h1, h2, h3⟩ := hc
      simp only at h1
      rw [g1] at h1; cases h1; exact h3
    · obtain ⟨i', h1, h2, h3, h4, h5⟩ := hc
      simp only at h1
      rw [g1] at h1; cases h1
      exact h5 (g4 hg).1
  subst hc'
  rcases g5 with ⟨_, _, g5⟩ | ⟨C, e, fz, k1, k2, k3, k4, k5, k6, k7⟩
  · rw [g5, List.length_nil] at hl; omega
  · have hlen := hv.1
    have hv' : L2 (SR hm []) vs vs' := hv.mono fun x y hx q => q.repl (List.all_eq_true.1 hp x hx) fun _ _ _ q => q
    have hrun := run_storeCells P i.blk off e fz vs' 0 w C k1 (by omega) (fun k q1 q2 => k4 k (by omega)) (all_one hv)
    have hsz : i.size ≠ 0 := by omega
    have hre := r.reBlk (i' := i) (b' := { b with cells := spl b.cells off vs }) (w' := bset w i.blk (.cells ((spl C.toList off vs').toArray) e fz)) h g1 (.inl rfl) g2 g3 (fun q => by rw [spl_length hl]; exact g4 q) (spl_pure gp hp)
      rfl rfl rfl (by rw [bset_size]; exact Nat.le_refl _) (fun B hB _ => bset_other (fun q => hB q.symm)) (.inl ⟨rfl, rfl, hsz⟩)
      ⟨_, e, fz, bset_same k1, (arr_spl_size C _ vs' (by omega)).trans k2, by rw [spl_length hl]; exact k3, k4, fun k v hk => spl_rel k7 hv' hl (by omega) k v hk⟩
    exact ⟨_, _, hrun, hre.1, hre.2⟩

theorem store_run {P : Program} {T : TypeId} {c : Addr} {cv : Value} {s : Nat} {w' : World} (hs : sz P T = some s) (hl : cv.cells.size = s) (h : (storeCells c cv.cells.toList).run P w = .ok () w') :
    (Instr.storeAt T (.pointer (some c)) cv).run P w = .ok () w' := by
  have hsize : ¬ cv.cells.size ≠ s := by simp [hl]
  simp only [Instr.storeAt, Instr.sureAddr, Sem.run_bind, Sem.run_pure, Result.andThen_ok, storeVar, run_sizeOf hs, hsize, if_false]
  exact h

/-! ## New boxes and blocks -/
theorem newBox_loc {P : Program} (r : Rel hm lb w0 U st w a) {cs : List Value} {T : TypeId} {C : Array Value} (hc : L2 (SR hm lb) cs C.toList) :
    ∃ lb' w', (newRow T C).run P w = .ok ⟨w.heap.size, 0, none⟩ w' ∧ LM.le lb lb' ∧ Rel hm lb' w0 U (st.setLocs (st.locs ++ [cs])) w' a ∧ VR hm lb' (.pointer (some ⟨st.locs.length, 0, some 0⟩)) (.pointer (some ⟨w.heap.size, 0, none⟩)) := by
  refine ⟨_, _, by simp [newRow], LM.app_le _ _, r.newLoc C T cs hc, ?_⟩
  exact ⟨⟨w.heap.size, 0, none⟩, ⟨w.heap.size, by simp [← r.llen], rfl⟩, rfl⟩
theorem newBox_heap {P : Program} (r : Rel hm lb w0 U st w a) {cs : List Value} {T : TypeId} {C : Array Value} (hp : cs.all pure1 = true) (hc : L2 (SR hm lb) cs C.toList) :
    ∃ hm' w', (newRow T C).run P w = .ok ⟨w.heap.size, 0, none⟩ w' ∧ hm.le hm' ∧ Rel hm' lb w0 U (st.setHeap (st.heap.alloc ⟨1, cs, false⟩)) w' a ∧ VR hm' lb (.pointer (some ⟨st.heap.next, 0, none⟩)) (.pointer (some ⟨w.heap.size, 0, none⟩)) := by
  have hlen := hc.1
  simp at hlen
  have h := r.newBlk C T (0, 0) (Free.zero _) ⟨1, cs, false⟩ (by simp; omega) (fun q => by cases q) hp (fun k v hk => by
    obtain ⟨v', h1, h2⟩ := hc.get hk
    exact ⟨v', by simpa using h1, h2.repl (List.all_eq_true.1 hp v (List.mem_of_getElem? hk)) fun _ _ _ q => q⟩)
  refine ⟨_, _, by simp [newRow], h.1, h.2, ?_⟩
  exact ⟨⟨w.heap.size, 0, none⟩, ⟨_, GM.put_same, rfl, rfl⟩, rfl⟩
end

end Go.Fhl

/-
  A logic over the model, part six: arithmetic, parts of values, places of fields and elements, values made of parts.
-/
namespace Go.Fhl
set_option linter.unusedVariables false
set_option linter.unusedSimpArgs false

/-! ## What neither reads nor writes memory -/
def pureRun {α : Type} (P : Program) : Sem α → Option α
  | .pure a => some a
  | .program k => pureRun P (k P)
  | .mark _ k => pureRun P k
  | _ => none
theorem pureRun_ok {α : Type} {P : Program} {s : Sem α} {x : α} (h : pureRun P s = some x) (w : World) : s.run P w = .ok x w := by
  induction s with
  | pure y => cases h; rfl
  | program k ih => exact ih P h
  | mark m k ih => exact ih h
  | _ => simp [pureRun] at h
theorem pureRun_bind {α β : Type} {P : Program} (s : Sem α) (f : α → Sem β) : pureRun P (s >>= f) = (pureRun P s).bind fun x => pureRun P (f x) := by
  show pureRun P (s.bind f) = _
  induction s with
  | pure y => rfl
  | program k ih => exact ih P
  | mark m k ih => exact ih
  | _ => rfl
theorem pureRun_pure {α : Type} {P : Program} (x : α) : pureRun P (pure x) = some x := rfl
/-- What is made of plain values by a pure operation is taken where it is plain. -/
def keep (v : Option Value) : Option Value := v.bind fun v => if plain v then some v else none
theorem keep_ok {o : Option Value} {v : Value} (h : keep o = some v) : o = some v ∧ plain v = true := by
  cases o with
  | none => simp [keep] at h
  | some x =>
    simp only [keep, Option.bind_some] at h
    split at h
    · cases h; exact ⟨rfl, ‹_›⟩
    · cases h

def abin (P : Program) (op : BinOp) (t : TypeId) (xo yo : Operand) (x y : Value) : Option Value :=
  if plain x && plain y then pureRun P (do eqGuard op t xo yo x y; binOp op t x y) else none

section
variable {hm : GM} {lb : LM} {w0 : World} {U : Env} {st : AS} {w : World} {a : Act} {P : Program}

theorem abin_ok {op : BinOp} {t : TypeId} {xo yo : Operand} {x y v cx cy : Value} (h : keep (abin P op t xo yo x y) = some v) (hx : VR hm lb x cx) (hy : VR hm lb y cy) :
    (do eqGuard op t xo yo cx cy; binOp op t cx cy : Sem Value).run P w = .ok v w ∧ VR hm lb v v := by
  obtain ⟨h, hp⟩ := keep_ok h
  unfold abin at h
  split at h
  · rename_i hc
    simp only [Bool.and_eq_true] at hc
    obtain rfl := hx.plain hc.1
    obtain rfl := hy.plain hc.2
    exact ⟨pureRun_ok h w, .of_plain hp⟩
  · cases h

theorem equal_eq (t : TypeId) (x y : Value) : Op.equal t x y = Op.equalIn (9999 + 1) t x y := rfl
def aun (P : Program) (op : UnOp) (x : Value) : Option Value := if plain x then keep (pureRun P (Op.unary op x)) else none
theorem aun_ok {op : UnOp} {x v cx : Value} (h : aun P op x = some v) (hx : VR hm lb x cx) : (Op.unary op cx).run P w = .ok v w ∧ VR hm lb v v := by
  unfold aun at h
  split at h
  · rename_i hc
    obtain ⟨h, hp⟩ := keep_ok h
    obtain rfl := hx.plain hc
    exact ⟨pureRun_ok h w, .of_plain hp⟩
  · cases h

/-! ## Parts -/
def apart (P : Program) (t : TypeId) (cs : Array Value) (off : Nat) : Option Value :=
  match und P t with
  | some d => if agg? d then (match sz P t with | some s => if off + s ≤ cs.size then some (.agg (cs.extract off (off + s))) else none | none => none) else cs[off]?
  | none => none
theorem apart_ok {t : TypeId} {cs cs' : Array Value} {off : Nat} {v : Value} (h : apart P t cs off = some v) (hc : L2 (SR hm lb) cs.toList cs'.toList) :
    ∃ cv, (∀ w, (part t cs' off).run P w = .ok cv w) ∧ VR hm lb v cv := by
  unfold apart at h
  have hlen : cs.size = cs'.size := by have := hc.1; simpa using this
  cases hu : und P t with
  | none => simp [hu] at h
  | some d =>
    simp only [hu] at h
    by_cases hg : agg? d = true
    · simp only [hg, if_true] at h
      cases hs : sz P t with
      | none => simp [hs] at h
      | some s =>
        simp only [hs] at h
        split at h
        · rename_i hle
          cases h
          refine ⟨.agg (cs'.extract off (off + s)), fun w => ?_, _, rfl, ?_⟩
          · simp [part, run_isAgg hu, hg, run_sizeOf hs]
          · have := slice_rel (R := SR hm lb) (cs := cs.toList) (C := cs') (base := 0) (fun k v hk => by simpa using hc.get hk) off s (by simpa using hle) (by simp [hlen])
            have e : (cs.extract off (off + s)).toList = (cs.toList.drop off).take s := by
              rw [Array.toList_extract, List.extract_eq_take_drop, Nat.add_sub_cancel_left]
            rw [e]
            simpa using this
        · cases h
    · simp only [hg] at h
      have h' : cs.toList[off]? = some v := by simpa using h
      obtain ⟨cv, h1, h2⟩ := hc.get h'
      have h1' : cs'[off]? = some cv := by simpa using h1
      refine ⟨cv, fun w => ?_, ?_⟩
      · simp [part, run_isAgg hu, hg, h1']
      · by_cases ho : one v = true
        · exact .of_sr ho h2
        · cases v <;> first | (simp [one] at ho; done) | exact h2.elim

def afield (P : Program) (t : TypeId) (x : Value) (f : Nat) : Option Value :=
  match und P t, x with
  | some (.struct fs), .agg cs => match fs[f]? with | some fd => apart P fd.type cs fd.offset | none => none
  | _, _ => none
theorem afield_ok {t : TypeId} {x cx v : Value} {f : Nat} (h : afield P t x f = some v) (hx : VR hm lb x cx) :
    ∃ cv, (∀ w, (Instr.field t cx f).run P w = .ok cv w) ∧ VR hm lb v cv := by
  unfold afield at h
  split at h
  · rename_i fs cs hu
    cases hf : fs[f]? with
    | none => simp [hf] at h
    | some fd =>
      simp only [hf] at h
      obtain ⟨cs', rfl, hc⟩ := hx
      obtain ⟨cv, h1, h2⟩ := apart_ok h hc
      refine ⟨cv, fun w => ?_, h2⟩
      simp [Instr.field, run_und hu, hf, asAgg, h1]
  · cases h

def aindexv (P : Program) (t : TypeId) (x i : Value) : Option Value :=
  match und P t, x, i with
  | some (.array len e), .agg cs, .int k i => match sz P e with | some s => if 0 ≤ i ∧ i < len then apart P e cs (i.toNat * s) else none | none => none
  | some .string, .string s, .int k i => if 0 ≤ i then (s[i.toNat]?).map fun b => .int .u8 b.toNat else none
  | _, _, _ => none
theorem aindexv_ok {t : TypeId} {x cx i ci v : Value} (h : aindexv P t x i = some v) (hx : VR hm lb x cx) (hi : VR hm lb i ci) :
    ∃ cv, (∀ w, (Instr.index t cx ci).run P w = .ok cv w) ∧ VR hm lb v cv := by
  unfold aindexv at h
  split at h
  · rename_i len e cs k i hu
    obtain rfl : ci = _ := hi.sr rfl
    cases hs : sz P e with
    | none => simp [hs] at h
    | some s =>
      simp only [hs] at h
      split at h
      · rename_i hb
        obtain ⟨cs', rfl, hc⟩ := hx
        obtain ⟨cv, h1, h2⟩ := apart_ok h hc
        refine ⟨cv, fun w => ?_, h2⟩
        simp [Instr.index, asIntOf, run_und hu, hb, run_sizeOf hs, h1]
      · cases h
  · rename_i s k i hu
    obtain rfl : ci = _ := hi.sr rfl
    obtain rfl : cx = _ := hx.sr rfl
    split at h
    · rename_i hb
      cases hg : s[i.toNat]? with
      | none => simp [hg] at h
      | some b =>
        simp [hg] at h
        subst h
        refine ⟨_, fun w => ?_, .of_sr rfl rfl⟩
        simp [Instr.index, asIntOf, run_und hu, hb, hg]
    · cases h
  · cases h

def aextract (x : Value) (i : Nat) : Option Value :=
  match x with
  | .tuple vs => (vs[i]?).bind fun v => match v with | .tuple _ => none | v => some v
  | _ => none
theorem VR.of_vr1 {v cv : Value} (h : ∀ vs, v ≠ .tuple vs) (e : VR1 hm lb v cv) : VR hm lb v cv := by
  unfold VR
  split
  · exact absurd rfl (h _)
  · exact e
theorem aextract_ok {x cx v : Value} {i : Nat} (h : aextract x i = some v) (hx : VR hm lb x cx) :
    ∃ cv, (∀ w, (Instr.extract cx i).run P w = .ok cv w) ∧ VR hm lb v cv := by
  unfold aextract at h
  split at h
  · rename_i vs
    cases hv : vs[i]? with
    | none => simp [hv] at h
    | some u =>
      simp only [hv, Option.bind_some] at h
      rcases hx with rfl | ⟨rfl, _⟩ | ⟨vs', rfl, hc⟩
      · simp at hv
      · have hi : i = 0 := by have := alookup_lt hv; simpa using this
        subst hi
        simp at hv
        subst hv
        simp at h
      · obtain ⟨cv, h1, h2⟩ := hc.get (i := i) (a := u) (by simpa using hv)
        split at h
        · cases h
        · rename_i hnt
          cases h
          refine ⟨cv, fun w => ?_, VR.of_vr1 hnt h2⟩
          have h1' : vs'[i]? = some cv := by simpa using h1
          simp [Instr.extract, h1']
  · cases h

/-! ## Places of fields and elements -/
/-! ## Places of fields and elements -/
/-! ## Places of fields and elements -/
theorem ARel.add {x c : Addr} (h : ARel hm lb x c) (k : Nat) : ARel hm lb ⟨x.block, x.off + k, x.spot⟩ (c.add k) ∧ c.spot = none := by
  unfold ARel at *
  cases hs : x.spot with
  | none =>
    simp only [hs] at h ⊢
    obtain ⟨i, h1, h2, rfl⟩ := h
    exact ⟨⟨i, h1, h2, by simp [add_none]⟩, rfl⟩
  | some s =>
    cases s with
    | zero =>
      simp only [hs] at h ⊢
      obtain ⟨B, h1, rfl⟩ := h
      exact ⟨⟨B, h1, by simp [add_none]⟩, rfl⟩
    | succ s =>
      simp only [hs] at h ⊢
      obtain ⟨i, h1, h2, h3, h4, h5⟩ := h
      refine ⟨⟨i, h1, h2, h3, ?_, fun q => ?_⟩, h4⟩
      · unfold Addr.add; split
        · exact h4
        · rfl
      · rw [h5 q, add_none]
theorem fieldAddr_ok {t : TypeId} {fs : Array Field} {fd : Field} {p : Addr} {cx : Value} {f s : Nat} (hu : und P t = some (.struct fs)) (hf : fs[f]? = some fd) (hs : sz P fd.type = some s) (hpos : s ≠ 0) (hx : VR hm lb (.pointer (some p)) cx) :
    ∃ cv, (Instr.fieldAt t cx f).run P w = .ok cv w ∧ VR hm lb (.pointer (some ⟨p.block, p.off + fd.offset, p.spot⟩)) cv := by
  obtain ⟨c, hc, rfl⟩ := hx.sr rfl
  refine ⟨.pointer (some (c.add fd.offset)), ?_, .of_sr rfl ⟨_, (hc.add fd.offset).1, rfl⟩⟩
  simp [Instr.fieldAt, run_und hu, hf, Instr.sureAddr, fieldPlace, run_sizeOf hs, hpos]
theorem fieldAddrD_ok {t : TypeId} {fs : Array Field} {fd : Field} {cs : Array Value} {cx : Value} {f s : Nat} (hu : und P t = some (.struct fs)) (hf : fs[f]? = some fd) (hs : sz P fd.type = some s) (hpos : s ≠ 0) (hx : VR hm lb (.iface 0 (.tuple cs)) cx) :
    ∃ cv, (Instr.fieldAt t cx f).run P w = .ok cv w ∧ VR hm lb (.iface 0 (.tuple (cs.toList.drop fd.offset).toArray)) cv := by
  obtain ⟨B, o, rfl, hz⟩ := hx.sr rfl
  refine ⟨.pointer (some ⟨B, o + fd.offset, none⟩), ?_, .of_sr rfl ⟨B, o + fd.offset, rfl, fun j c hj => ?_⟩⟩
  · simp [Instr.fieldAt, run_und hu, hf, Instr.sureAddr, fieldPlace, run_sizeOf hs, hpos, add_none]
  · have : cs.toList[fd.offset + j]? = some c := by simpa [List.getElem?_drop] using hj
    rw [Nat.add_assoc]; exact hz _ c this

theorem indexAddrArr_ok {t e : TypeId} {len s : Nat} {p : Addr} {k : IntKind} {i : Int} {cx ci : Value} (hu : und P t = some (.array len e)) (hs : sz P e = some s) (h0 : 0 ≤ i ∧ i < len) (hx : VR hm lb (.pointer (some p)) cx) (hi : VR hm lb (.int k i) ci) :
    ∃ cv, (Instr.indexAt t cx ci).run P w = .ok cv w ∧ VR hm lb (.pointer (some ⟨p.block, p.off + i.toNat * s, p.spot⟩)) cv := by
  obtain rfl : ci = _ := hi.sr rfl
  obtain ⟨c, hc, rfl⟩ := hx.sr rfl
  refine ⟨.pointer (some (c.add (i.toNat * s))), ?_, .of_sr rfl ⟨_, (hc.add _).1, rfl⟩⟩
  simp [Instr.indexAt, asIntOf, run_und hu, Instr.sureAddr, h0, run_sizeOf hs]
theorem indexAddrArrD_ok {t e : TypeId} {len s : Nat} {cs : Array Value} {k : IntKind} {i : Int} {cx ci : Value} (hu : und P t = some (.array len e)) (hs : sz P e = some s) (h0 : 0 ≤ i ∧ i < len) (hx : VR hm lb (.iface 0 (.tuple cs)) cx) (hi : VR hm lb (.int k i) ci) :
    ∃ cv, (Instr.indexAt t cx ci).run P w = .ok cv w ∧ VR hm lb (.iface 0 (.tuple (cs.toList.drop (i.toNat * s)).toArray)) cv := by
  obtain rfl : ci = _ := hi.sr rfl
  obtain ⟨B, o, rfl, hz⟩ := hx.sr rfl
  refine ⟨.pointer (some ⟨B, o + i.toNat * s, none⟩), ?_, .of_sr rfl ⟨B, o + i.toNat * s, rfl, fun j c hj => ?_⟩⟩
  · simp [Instr.indexAt, asIntOf, run_und hu, Instr.sureAddr, h0, run_sizeOf hs, add_none]
  · have : cs.toList[i.toNat * s + j]? = some c := by simpa [List.getElem?_drop] using hj
    rw [Nat.add_assoc]; exact hz _ c this

/-- The element of a frozen slice. -/
theorem indexAddrD_ok {t e : TypeId} {s : Nat} {cs : Array Value} {k : IntKind} {i : Int} {cx ci : Value} (hu : und P t = some (.slice e)) (hs : sz P e = some (s + 1)) (h0 : 0 ≤ i) (h1 : i.toNat * (s + 1) + (s + 1) ≤ cs.size)
    (hx : VR hm lb (.iface (s + 1) (.tuple cs)) cx) (hi : VR hm lb (.int k i) ci) :
    ∃ cv, (Instr.indexAt t cx ci).run P w = .ok cv w ∧ VR hm lb (.iface 0 (.tuple ((cs.toList.drop (i.toNat * (s + 1))).take (s + 1)).toArray)) cv := by
  obtain rfl : ci = _ := hi.sr rfl
  obtain ⟨a0, n, cap, rfl, hn, hcap, hz⟩ := hx.sr rfl
  have hne : cs.toList ≠ [] := by
    intro q
    have : cs.size = 0 := by rw [← Array.length_toList, q]; rfl
    omega
  rcases hz with hz | ⟨B, o, rfl, hz⟩
  · exact absurd hz hne
  · have hlt : i.toNat < n := by
      have h2 : (i.toNat + 1) * (s + 1) ≤ n * (s + 1) := by rw [Nat.add_mul, hn]; simpa using h1
      exact Nat.lt_of_succ_le (Nat.le_of_mul_le_mul_right h2 (by omega))
    refine ⟨.pointer (some ⟨B, o + i.toNat * (s + 1), none⟩), ?_, .of_sr rfl ⟨B, o + i.toNat * (s + 1), rfl, fun j c hj => ?_⟩⟩
    · have hb : 0 ≤ i ∧ i < (n : Int) := ⟨h0, by omega⟩
      simp [Instr.indexAt, asIntOf, run_und hu, hb, run_sizeOf hs, add_none]
    · have hj2 : j < s + 1 := by have := lookup_lt hj; simp at this; omega
      have : cs.toList[i.toNat * (s + 1) + j]? = some c := by
        simp only [List.toList_toArray] at hj
        rw [List.getElem?_take_of_lt hj2, List.getElem?_drop] at hj; exact hj
      rw [Nat.add_assoc]; exact hz _ c this

/-- The element of a named slice whose block stays. -/
theorem indexAddrF_ok {t e : TypeId} {s : Nat} {n off len cap : Nat} {k : IntKind} {i : Int} {cx ci : Value} (hu : und P t = some (.slice e)) (hs : sz P e = some s) (h0 : 0 ≤ i) (h1 : i.toNat < len)
    (hx : VR hm lb (.slice (some ⟨n, off, none⟩) len cap) cx) (hi : VR hm lb (.int k i) ci) :
    ∃ cv, (Instr.indexAt t cx ci).run P w = .ok cv w ∧ VR hm lb (.pointer (some ⟨n, off + i.toNat * s, none⟩)) cv := by
  obtain rfl : ci = _ := hi.sr rfl
  obtain ⟨j, o, h2, h3, rfl, h4, h5, h6⟩ := hx.sr rfl
  have ho := h5 (by omega)
  simp only at ho
  subst ho
  refine ⟨.pointer (some ⟨j.blk, o + i.toNat * s, none⟩), ?_, .of_sr rfl ⟨_, ⟨j, h2, h3, rfl⟩, rfl⟩⟩
  have hb : 0 ≤ i ∧ i < (len : Int) := ⟨h0, by omega⟩
  simp [Instr.indexAt, asIntOf, run_und hu, hb, run_sizeOf hs, add_none]

/-- The element of a slice that may grow. -/
theorem indexAddrG_ok (r : Rel hm lb w0 U st w a) {t e : TypeId} {s : Nat} {n len cap : Nat} {b : Blk} {k : IntKind} {i : Int} {cx ci : Value} (hu : und P t = some (.slice e)) (hs : sz P e = some s) (h0 : 0 ≤ i) (h1 : i.toNat < len)
    (hb : st.heap.get n = some b) (hg : b.gro = true) (hez : b.esz = s) (hl : len * s = b.cells.length)
    (hx : VR hm lb (.slice (some ⟨n, 0, some 1⟩) len cap) cx) (hi : VR hm lb (.int k i) ci) :
    ∃ cv, (Instr.indexAt t cx ci).run P w = .ok cv w ∧ VR hm lb (.pointer (some ⟨n, i.toNat * s, some (b.cells.length + 1)⟩)) cv := by
  obtain rfl : ci = _ := hi.sr rfl
  obtain ⟨j, p, cap', h2, h3, rfl, h4, h5⟩ := hx.sr rfl
  obtain ⟨i', g1, g2, g3, g4, gp, g5⟩ := r.blk n b hb
  simp only at h2
  rw [h2] at g1; cases g1
  have hjl : j.len = len * j.esz := by rw [(g4 hg).1, g2, hez, hl]
  obtain ⟨k1, k2, k3⟩ := h5 hjl
  obtain rfl := k2 (by omega)
  refine ⟨.pointer (some ⟨j.blk, 0 + i.toNat * s, none⟩), ?_, .of_sr rfl ⟨_, ⟨j, h2, h3, by have := (g4 hg).1; omega, rfl, fun _ => by simp⟩, rfl⟩⟩
  have hb : 0 ≤ i ∧ i < (len : Int) := ⟨h0, by omega⟩
  simp [Instr.indexAt, asIntOf, run_und hu, hb, run_sizeOf hs, add_none]

def anilCheck : Value → Option Value
  | .pointer (some a) => some (.pointer (some a))
  | .func (.func f) first c => some (.func (.func f) first c)
  | _ => none

/-! ## Values made of parts -/
def SR1 (hm : GM) (lb : LM) (x y : Nat × Value) : Prop := x.1 = y.1 ∧ VR hm lb x.2 y.2 ∧ (∀ vs, x.2 ≠ .tuple vs)

theorem cells_of {v : Value} (h : ∀ vs, v ≠ .tuple vs) : cellsOf v = some v.cells.toList := by
  cases v <;> first | rfl | exact absurd rfl (h _)

theorem foldl_set_rel {R : Value → Value → Prop} (off : Nat) : ∀ (l l' : List Value) (j : Nat) (cs cs' : Array Value), L2 R l l' → L2 R cs.toList cs'.toList →
    L2 R ((l.zipIdx j).foldl (fun cs (c, j) => cs.setIfInBounds (off + j) c) cs).toList ((l'.zipIdx j).foldl (fun cs (c, j) => cs.setIfInBounds (off + j) c) cs').toList
  | [], l', j, cs, cs', h, k => by rw [h.nil_inv]; exact k
  | x :: l, l', j, cs, cs', h, k => by
    obtain ⟨y, t, rfl, h1, h2⟩ := h.cons_inv
    simp only [List.zipIdx_cons, List.foldl_cons]
    refine foldl_set_rel off l t (j + 1) _ _ h2 ?_
    refine ⟨by have := k.1; simpa using this, fun i u v hu hv => ?_⟩
    simp only [Array.getElem?_toList, Array.getElem?_setIfInBounds] at hu hv
    have hlen : cs.size = cs'.size := by have := k.1; simpa using this
    by_cases q : off + j = i
    · simp only [q, if_true] at hu hv
      split at hu
      · rw [if_pos (by omega)] at hv
        cases hu; cases hv; exact h1
      · cases hu
    · simp only [q, if_false] at hu hv
      exact k.2 i u v (by simpa using hu) (by simpa using hv)

theorem fill_rel (place : Nat → Option (Nat × Nat)) : ∀ (ps ps' : List (Nat × Value)) (cs cs' r : Array Value), L2 (SR1 hm lb) ps ps' → L2 (SR hm lb) cs.toList cs'.toList →
    Instr.fill place cs ps = some r → ∃ r', Instr.fill place cs' ps' = some r' ∧ L2 (SR hm lb) r.toList r'.toList
  | [], ps', cs, cs', r, h, k, e => by
    rw [h.nil_inv]
    simp only [Instr.fill] at e ⊢
    cases e
    exact ⟨cs', rfl, k⟩
  | (i, v) :: ps, ps', cs, cs', r, h, k, e => by
    obtain ⟨⟨i', v'⟩, t, rfl, h1, h2⟩ := h.cons_inv
    obtain ⟨e1, e2, e3⟩ := h1
    simp only at e1 e2 e3
    subst e1
    have hc := cells_rel e2 (cells_of e3)
    have hsz : v.cells.size = v'.cells.size := by have := hc.1; simpa using this
    have hlen : cs.size = cs'.size := by have := k.1; simpa using this
    simp only [Instr.fill] at e ⊢
    cases hp : place i with
    | none => simp [hp] at e
    | some q =>
      obtain ⟨off, size⟩ := q
      simp only [hp] at e ⊢
      rw [← hsz, ← hlen]
      split at e
      · cases e
      · rename_i hcond
        rw [if_neg hcond]
        refine fill_rel place ps t _ _ r h2 ?_ e
        have := foldl_set_rel (R := SR hm lb) off v.cells.toList v'.cells.toList 0 cs cs' hc k
        have e1 : ∀ (u : Array Value) (cs : Array Value), Array.foldl (fun (cs : Array Value) (x : Value × Nat) => match x with | (c, j) => cs.setIfInBounds (off + j) c) cs u.zipIdx =
            (u.toList.zipIdx 0).foldl (fun cs (c, j) => cs.setIfInBounds (off + j) c) cs := by
          intro u cs
          rw [← Array.foldl_toList, Array.toList_zipIdx]
        rw [e1, e1]
        exact this

def abuild (P : Program) (t : TypeId) (ps : List (Nat × Value)) : Option Value :=
  match zr P t with
  | some z => if z.cells.toList.all plain1 ∧ ps.all (fun p => !(p.2 matches .tuple _)) then (P.built t ps).map .agg else none
  | none => none

theorem abuild_ok {t : TypeId} {ps : List (Nat × Value)} {ps' : Array (Nat × Value)} {v : Value} (h : abuild P t ps = some v)
    (hp : L2 (fun x y => x.1 = y.1 ∧ VR hm lb x.2 y.2) ps ps'.toList) : ∃ cv, (∀ w, (Instr.build t ps').run P w = .ok cv w) ∧ VR hm lb v cv := by
  unfold abuild at h
  cases hz : zr P t with
  | none => simp [hz] at h
  | some z =>
    simp only [hz] at h
    split at h
    · rename_i hc
      obtain ⟨hc1, hc2⟩ := hc
      cases hb : P.built t ps with
      | none => simp [hb] at h
      | some cells =>
        simp [hb] at h
        subst h
        have hps : L2 (SR1 hm lb) ps ps'.toList := ⟨hp.1, fun i x y hx hy => by
          obtain ⟨h1, h2⟩ := hp.2 i x y hx hy
          refine ⟨h1, h2, fun vs e => ?_⟩
          have := List.all_eq_true.1 hc2 x (List.mem_of_getElem? hx)
          rw [e] at this; simp at this⟩
        have key : ∃ cells', P.built t ps'.toList = some cells' ∧ L2 (SR hm lb) cells.toList cells'.toList := by
          unfold Program.built at hb ⊢
          unfold zr at hz
          cases hit : P.info? t with
          | none => simp [hit] at hz
          | some it =>
            simp [hit] at hz
            have hzz : L2 (SR hm lb) z.cells.toList z.cells.toList := L2.of_plain hc1
            cases hu : P.underlying t with
            | none => simp [hit, hu] at hb
            | some d =>
              cases d <;> try (simp [hit, hu] at hb; done)
              case array n e =>
                simp only [hit, hu, hz] at hb ⊢
                cases hie : P.info? e with
                | none => simp [hie] at hb
                | some ie =>
                  simp only [hie] at hb ⊢
                  exact fill_rel _ ps ps'.toList _ _ _ hps hzz hb
              case struct fields =>
                simp only [hit, hu, hz] at hb ⊢
                split at hb
                · rename_i z' places hz' hpl
                  cases hz'
                  exact fill_rel _ ps ps'.toList _ _ _ hps hzz hb
                · cases hb
        obtain ⟨cells', h1, h2⟩ := key
        exact ⟨.agg cells', fun w => run_build w t ps' cells' h1, cells', rfl, h2⟩
    · cases h

/-! ## New slices -/
def zcells (zs : List Value) (n : Nat) : List Value := (List.range n).map fun i => zs.getD (i % zs.length) default
theorem zcells_eq (zs : Array Value) (n : Nat) : (Array.range n).map (zs[· % zs.size]!) = (zcells zs.toList n).toArray := by
  apply Array.toList_inj.1
  simp only [zcells, Array.toList_map, Array.toList_range, Array.length_toList]
  refine List.map_congr_left fun i _ => ?_
  rw [Array.getElem!_eq_getD, List.getD_eq_getElem?_getD, Array.getD_eq_getD_getElem?, Array.getElem?_toList]

/-- One of a row of cells that are plain. -/
theorem zcells_plain {zs : List Value} {n : Nat} (h : zs.all plain1 = true) (hz : n = 0 ∨ 0 < zs.length) : (zcells zs n).all plain1 = true := by
  rw [List.all_eq_true]
  intro v hv
  simp only [zcells, List.mem_map, List.mem_range] at hv
  obtain ⟨i, hi, rfl⟩ := hv
  have hl : i % zs.length < zs.length := Nat.mod_lt _ (by omega)
  rw [List.getD_eq_getElem?_getD, List.getElem?_eq_getElem hl]
  exact List.all_eq_true.1 h _ (List.getElem_mem hl)

end

end Go.Fhl

/-
  A logic over the model, part seven: new slices, lengths, slices of slices, append, bytes and strings.
-/
namespace Go.Fhl
set_option linter.unusedVariables false
set_option linter.unusedSimpArgs false

theorem growBy_le (newLen : Nat) : ∀ (r c : Nat), c < newLen → Builtin.growBy newLen r c ≤ 2 * newLen + 192
  | 0, c, h => by simp [Builtin.growBy]; omega
  | r + 1, c, h => by
    unfold Builtin.growBy
    rw [if_neg (by omega)]
    by_cases q : c + (c + 768) / 4 < newLen
    · exact growBy_le newLen r _ q
    · cases r with
      | zero => simp [Builtin.growBy]; omega
      | succ r => unfold Builtin.growBy; rw [if_pos (by omega)]; omega
theorem nextslicecap_le {need c : Nat} (h : c < need) : Builtin.nextslicecap need c ≤ 2 * need + 192 := by
  unfold Builtin.nextslicecap
  split
  · omega
  · split
    · omega
    · exact growBy_le need 4 c h


section
variable {hm : GM} {lb : LM} {w0 : World} {U : Env} {st : AS} {w : World} {a : Act} {P : Program}

/-- A new block that is frozen at once: no name. -/
theorem Rel.newDeep (r : Rel hm lb w0 U st w a) (C : Array Value) (e : TypeId) (fz0 : Nat × Nat) (cells : List Value) (hpu : cells.all pure1 = true)
    (h : ∀ (k : Nat) (v : Value), cells[k]? = some v → ∃ v', C[k]? = some v' ∧ SR hm [] v v') :
    ∃ hm', hm.le hm' ∧ Rel hm' lb w0 U st (w.alloc (.cells C e fz0)) a ∧ (∀ j c, cells[j]? = some c → hm'.fz w.heap.size j = some c) := by
  have hno : ∀ k, hm.fz w.heap.size k = none := fun k => by
    cases hz : hm.fz w.heap.size k with
    | none => rfl
    | some v => have := r.fz_lt hz; omega
  refine ⟨⟨hm.map, fun B k => if B = w.heap.size then cells[k]? else hm.fz B k⟩, ?_, ?_, fun j c hj => by simp [hj]⟩
  · refine ⟨fun n i hi => ⟨i, hi, .inl rfl⟩, fun B k v hz => ?_⟩
    have hne : B ≠ w.heap.size := fun e => by rw [e, hno] at hz; cases hz
    simp [hne, hz]
  · have hle : hm.le ⟨hm.map, fun B k => if B = w.heap.size then cells[k]? else hm.fz B k⟩ := by
      refine ⟨fun n i hi => ⟨i, hi, .inl rfl⟩, fun B k v hz => ?_⟩
      have hne : B ≠ w.heap.size := fun e => by rw [e, hno] at hz; cases hz
      simp [hne, hz]
    have ra := r.toHRel.alloc (.cells C e fz0)
    have hoth : ∀ B k, B < w.heap.size → (if B = w.heap.size then cells[k]? else hm.fz B k) = hm.fz B k := fun B k hB => by
      have : B ≠ w.heap.size := by omega
      simp [this]
    have r' : HRel ⟨hm.map, fun B k => if B = w.heap.size then cells[k]? else hm.fz B k⟩ w0 U st.heap (w.alloc (.cells C e fz0)) := by
      refine { os := ra.os, tape := ra.tape, output := ra.output, size := ra.size, prot := ra.prot, protz := ?_, fresh := r.fresh, frz := ?_, blk := ?_, inj := r.inj }
      · intro B hB k
        exact (hoth B k (r.ult hB)).trans (r.protz B hB k)
      · intro B k v hz
        by_cases q : B = w.heap.size
        · subst q
          simp only [if_true] at hz
          have hp := List.all_eq_true.1 hpu v (List.mem_of_getElem? hz)
          obtain ⟨v', h1, h2⟩ := h k v hz
          exact ⟨hp, C, e, fz0, v', alloc_get_new w _, h1, h2.repl hp hle.fz⟩
        · simp only [q, if_false] at hz
          obtain ⟨h1, C', e', fz', v', h2, h3, h4⟩ := ra.frz B k v hz
          exact ⟨h1, C', e', fz', v', h2, h3, h4.repl h1 hle.fz⟩
      · intro n b hb
        refine r.toHRel.other hle hb rfl (fun i hi hs => ⟨alloc_get_lt (r.toHRel.blk_lt hb hi hs), fun k hk => ?_⟩) (fun B hB ⟨C', e', fz', h1, h2⟩ => ⟨C', e', fz', alloc_get_old h1, h2⟩)
        show (if i.blk = w.heap.size then cells[k]? else hm.fz i.blk k) = none
        rw [hoth _ _ (r.toHRel.blk_lt hb hi hs)]; exact r.toHRel.blk_fz hb hi hs k hk
    have hst : st = { st with heap := st.heap } := rfl
    rw [hst]
    exact r.frame hle r' (Nat.le_refl _) (fun k B hk => ⟨alloc_get_lt (r.loc_lt hk), fun j => by show (if B = w.heap.size then cells[j]? else hm.fz B j) = none; rw [hoth _ _ (r.loc_lt hk)]; exact r.loc_fz hk j⟩) r.lheap

/-! ## New slices -/
def bsCells (P : Program) (e : TypeId) (s len : Nat) (ps : List (Nat × Value)) : Option (List Value) :=
  match zr P e with
  | some z => if z.cells.toList.all plain1 && Nat.beq z.cells.size s then (Instr.fill (fun i => some (i * s, s)) (zcells z.cells.toList (len * s)).toArray ps).map (·.toList) else none
  | none => none

theorem buildSlice_run (r : Rel hm lb w0 U st w a) {t e : TypeId} {s len : Nat} {ps : List (Nat × Value)} {ps' : Array (Nat × Value)} {cells : List Value} (hu : und P t = some (.slice e)) (hs : sz P e = some s)
    (hlen : len * s ≤ 16777216) (hpos : 0 < s) (hnt : ps.all (fun p => !(p.2 matches .tuple _)) = true) (hb : bsCells P e s len ps = some cells) (hp : L2 (fun x y => x.1 = y.1 ∧ VR hm lb x.2 y.2) ps ps'.toList) :
    ∃ cells' : Array Value, (Instr.buildSlice t len ps').run P w = .ok (.slice (some ⟨w.heap.size, 0, none⟩) len len) (w.alloc (.cells cells' e)) ∧ L2 (SR hm lb) cells cells'.toList := by
  unfold bsCells at hb
  cases hz : zr P e with
  | none => simp [hz] at hb
  | some z =>
    simp only [hz] at hb
    split at hb
    · rename_i hc
      simp only [Bool.and_eq_true] at hc
      have hzs : z.cells.size = s := Nat.eq_of_beq_eq_true hc.2
      cases hf : Instr.fill (fun i => some (i * s, s)) (zcells z.cells.toList (len * s)).toArray ps with
      | none => simp [hf] at hb
      | some cs =>
        simp [hf] at hb
        subst hb
        have hps : L2 (SR1 hm lb) ps ps'.toList := ⟨hp.1, fun i x y hx hy => by
          obtain ⟨h1, h2⟩ := hp.2 i x y hx hy
          refine ⟨h1, h2, fun vs e => ?_⟩
          have := List.all_eq_true.1 hnt x (List.mem_of_getElem? hx)
          rw [e] at this; simp at this⟩
        have hzc := zcells_plain (n := len * s) hc.1 (by right; simp; omega)
        obtain ⟨cells', f1, f2⟩ := fill_rel (hm := hm) (lb := lb) _ ps ps'.toList _ (zcells z.cells.toList (len * s)).toArray cs hps (by simpa using L2.of_plain hzc) hf
        refine ⟨cells', ?_, f2⟩
        have hn : ¬ len * s > 2 ^ 24 := by omega
        simp only [Instr.buildSlice, Sem.run_bind, run_und hu, Result.andThen_ok, run_sizeOf hs, hn, if_false]
        by_cases hz0 : len * s = 0
        · rw [hz0] at f1 ⊢
          simp only [if_true, Sem.run_bind, Sem.run_pure, Result.andThen_ok]
          have : (Array.range 0).map (fun x => (#[] : Array Value)[x % (#[] : Array Value).size]!) = (zcells z.cells.toList 0).toArray := by simp [zcells]
          rw [this, f1]
          simp [newRow]
        · simp only [hz0, if_false, Sem.run_bind, run_zero hz, Sem.run_pure, Result.andThen_ok]
          rw [zcells_eq, f1]
          simp [newRow]
    · cases hb

theorem buildSliceD_ok (r : Rel hm lb w0 U st w a) {t e : TypeId} {s len : Nat} {ps : List (Nat × Value)} {ps' : Array (Nat × Value)} {cells : List Value} (hu : und P t = some (.slice e)) (hs : sz P e = some (s + 1))
    (hlen : len * (s + 1) ≤ 16777216) (hnt : ps.all (fun p => !(p.2 matches .tuple _)) = true) (hb : bsCells P e (s + 1) len ps = some cells) (hpu : cells.all pure1 = true) (hl : cells.length = len * (s + 1))
    (hp : L2 (fun x y => x.1 = y.1 ∧ VR hm lb x.2 y.2) ps ps'.toList) :
    ∃ hm' w' cv, (Instr.buildSlice t len ps').run P w = .ok cv w' ∧ hm.le hm' ∧ Rel hm' lb w0 U st w' a ∧ VR hm' lb (.iface (s + 1) (.tuple cells.toArray)) cv := by
  obtain ⟨C, h1, h2⟩ := buildSlice_run r hu hs hlen (by omega) hnt hb hp
  obtain ⟨hm', h3, h4, h5⟩ := r.newDeep C e (0, 0) cells hpu (fun k v hk => by
    obtain ⟨v', h3, h4⟩ := h2.get hk
    exact ⟨v', by simpa using h3, h4.repl (List.all_eq_true.1 hpu v (List.mem_of_getElem? hk)) fun _ _ _ q => q⟩)
  exact ⟨hm', _, _, h1, h3, h4, .of_sr rfl ⟨_, len, len, rfl, hl.symm, Nat.le_refl _, .inr ⟨_, 0, rfl, fun j c hj => by rw [Nat.zero_add]; exact h5 j c hj⟩⟩⟩

theorem wrap_i64 {n : Int} (h0 : -9223372036854775808 ≤ n) (h1 : n ≤ 9223372036854775807) : IntKind.i64.wrap n = n := by
  simp only [IntKind.wrap, IntKind.bits, IntKind.signed, Bool.true_and]
  split
  · rename_i h; simp at h; omega
  · rename_i h; simp at h; omega


theorem plain_pure {l : List Value} (h : l.all plain1 = true) : l.all pure1 = true := by
  rw [List.all_eq_true] at h ⊢
  exact fun v hv => plain1_pure1 (h v hv)

theorem makeSlice_run {t e : TypeId} {s b : Nat} {z : Value} {kl kc : IntKind} {l c : Int} (hu : und P t = some (.slice e)) (hs : sz P e = some s) (hb : bt P e = some b) (hz : zr P e = some z) (hzs : z.cells.size = s)
    (hc : 0 ≤ l ∧ l ≤ c ∧ c ≤ 9223372036854775807 ∧ (b : Int) * c ≤ 281474976710656) :
    (Instr.makeSlice t (.int kl l) (.int kc c)).run P w = .ok (.slice (some ⟨w.heap.size, 0, none⟩) l.toNat c.toNat) (w.alloc (.cells (zcells z.cells.toList (c.toNat * s)).toArray e)) := by
  obtain ⟨c1, c2, c3, c4⟩ := hc
  unfold bt at hb
  cases hi : P.info? e with
  | none => simp [hi] at hb
  | some ie =>
    simp [hi] at hb
    have w1 := wrap_i64 (n := l) (by omega) (by omega)
    have w2 := wrap_i64 (n := c) (by omega) (by omega)
    have h1 : (decide (c < 0) || decide ((2 : Int) ^ 48 < (b : Int) * c) || decide (l < 0) || decide (c < l)) = false := by
      simp; omega
    simp only [Instr.makeSlice, Sem.run_bind, run_und hu, Result.andThen_ok, asInt, asIntOf, Sem.run_pure, run_typeInfo hi, hb, w1, w2]
    rw [if_neg (by simp; omega)]
    simp only [Sem.run_bind, run_askRoom, Result.andThen_ok, run_sizeOf hs]
    by_cases hz0 : c.toNat * s = 0
    · simp only [hz0, if_true]
      have hr : Array.range 0 = #[] := rfl
      simp [newRow, zcells, hr]
    · simp only [hz0, if_false, Sem.run_bind, run_zero hz, Result.andThen_ok, Sem.run_pure]
      rw [zcells_eq]
      simp [newRow]

theorem makeSlice_ok (r : Rel hm lb w0 U st w a) {t e : TypeId} {s b : Nat} {z : Value} {kl kc : IntKind} {l c : Int} {cl cc : Value} (hu : und P t = some (.slice e)) (hs : sz P e = some s) (hb : bt P e = some b) (hz : zr P e = some z)
    (hzp : z.cells.toList.all plain1 = true) (hzs : z.cells.size = s) (hpos : 0 < s)
    (hc : 0 ≤ l ∧ l ≤ c ∧ c ≤ 9223372036854775807 ∧ (b : Int) * c ≤ 281474976710656) (hl : VR hm lb (.int kl l) cl) (hcc : VR hm lb (.int kc c) cc) :
    ∃ hm' w' cv, (Instr.makeSlice t cl cc).run P w = .ok cv w' ∧ hm.le hm' ∧ Rel hm' lb w0 U (st.setHeap (st.heap.alloc ⟨s, zcells z.cells.toList (c.toNat * s), false⟩)) w' a ∧ VR hm' lb (.slice (some ⟨st.heap.next, 0, none⟩) l.toNat c.toNat) cv := by
  obtain rfl : cl = _ := hl.sr rfl
  obtain rfl : cc = _ := hcc.sr rfl
  have hzc := zcells_plain (n := c.toNat * s) hzp (by right; simp; omega)
  have hlen : (zcells z.cells.toList (c.toNat * s)).length = c.toNat * s := by simp [zcells]
  have h := r.newBlk (zcells z.cells.toList (c.toNat * s)).toArray e (0, 0) (Free.zero _) ⟨s, zcells z.cells.toList (c.toNat * s), false⟩ (by simp) (fun q => by cases q) (plain_pure hzc) (fun k v hk => by
    have := L2.of_plain (hm := hm) (lb := []) hzc
    obtain ⟨v', g1, g2⟩ := this.get hk
    exact ⟨v', by simpa using g1, g2⟩)
  refine ⟨_, _, _, makeSlice_run hu hs hb hz hzs hc, h.1, h.2, .of_sr rfl ⟨_, 0, GM.put_same, rfl, rfl, by omega, fun _ => rfl, ?_⟩⟩
  simp [hlen]

/-! ## Lengths -/
theorem lenS_ok {t : TypeId} {ts : Array TypeId} {T : TypeId} {s : ByteArray} {cx : Value} (hu : und P t = some .string) (hx : VR hm lb (.string s) cx) (ht : ts[0]? = some t) : (Builtin.len_ ts T #[cx]).run P w = .ok (.int .i64 s.size) w := by
  obtain rfl : cx = _ := hx.sr rfl
  simp [Builtin.len_, ht, run_und hu, goInt]
theorem lenN_ok {t e : TypeId} {ts : Array TypeId} {T : TypeId} {p : Option Addr} {n c : Nat} {cx : Value} (hu : und P t = some (.slice e)) (hx : VR hm lb (.slice p n c) cx) (ht : ts[0]? = some t) : (Builtin.len_ ts T #[cx]).run P w = .ok (.int .i64 n) w := by
  have hcx : ∃ p' c', cx = .slice p' n c' := by
    cases p with
    | none => exact ⟨_, _, hx.sr rfl⟩
    | some p =>
      have := hx.sr rfl
      unfold SR at this
      simp only at this
      split at this
      · obtain ⟨i, o, _, _, rfl, _⟩ := this; exact ⟨_, _, rfl⟩
      · obtain ⟨i, q, c', _, _, rfl, _⟩ := this; exact ⟨_, _, rfl⟩
      · obtain ⟨i, q, c', _, _, rfl, _⟩ := this; exact ⟨_, _, rfl⟩
  obtain ⟨p', c', rfl⟩ := hcx
  simp [Builtin.len_, ht, run_und hu, goInt]
theorem lenD_ok {t e : TypeId} {ts : Array TypeId} {T : TypeId} {s n : Nat} {cs : Array Value} {cx : Value} (hu : und P t = some (.slice e)) (hn : n * (s + 1) = cs.size) (hx : VR hm lb (.iface (s + 1) (.tuple cs)) cx) (ht : ts[0]? = some t) : (Builtin.len_ ts T #[cx]).run P w = .ok (.int .i64 n) w := by
  obtain ⟨a0, n', cap, rfl, h1, h2, h3⟩ := hx.sr rfl
  have : n' = n := by
    have h4 : n' * (s + 1) = n * (s + 1) := by rw [h1, hn]; simp
    exact Nat.eq_of_mul_eq_mul_right (by omega) h4
  subst this
  simp [Builtin.len_, ht, run_und hu, goInt]
/-! ## Slices of slices -/
def bnd (v : Option Value) (d : Nat) : Option Nat :=
  match v with
  | none => some d
  | some (.int _ i) => if 0 ≤ i then some i.toNat else none
  | _ => none
/-- A bound that was given, or was not. -/
def Bnd (v : Option Value) (d n : Nat) : Prop := (v = none ∧ n = d) ∨ ∃ k i, v = some (.int k i) ∧ 0 ≤ i ∧ n = i.toNat
def optR (hm : GM) (lb : LM) : Option Value → Option Value → Prop
  | none, none => True
  | some x, some y => VR hm lb x y
  | _, _ => False
theorem optR_none {y : Option Value} (h : optR hm lb none y) : y = none := by cases y <;> first | rfl | exact h.elim
theorem optR_some {x : Value} {y : Option Value} (h : optR hm lb (some x) y) : ∃ v, y = some v ∧ VR hm lb x v := by
  cases y with
  | none => exact h.elim
  | some v => exact ⟨v, rfl, h⟩
theorem bnd_rel {v cv : Option Value} {d n : Nat} (h : Bnd v d n) (hr : optR hm lb v cv) : Bnd cv d n := by
  rcases h with ⟨rfl, rfl⟩ | ⟨k, i, rfl, h1, h2⟩
  · rw [optR_none hr]; exact .inl ⟨rfl, rfl⟩
  · obtain ⟨c, rfl, hc⟩ := optR_some hr
    obtain rfl : c = _ := hc.sr rfl
    exact .inr ⟨k, i, rfl, h1, h2⟩
theorem optR_map (r : Rel hm lb w0 U st w a) (x : Option Operand) : optR hm lb (x.map (ev st.tmps)) (x.map a.eval) := by
  cases x with
  | none => trivial
  | some x => exact r.ev x

theorem run_sliceBound {k : IntKind} {i : Int} {y : Nat} {code : BoundsCode} (h0 : 0 ≤ i) (h1 : i.toNat ≤ y) : (Instr.sliceBound (.int k i) y code).run P w = .ok i.toNat w := by
  have : 0 ≤ i ∧ i ≤ (y : Int) := ⟨h0, by omega⟩
  simp [Instr.sliceBound, asIntOf, this]

theorem run_bounds {isSlice : Bool} {len cap l h m : Nat} {lo hi mx : Option Value}
    (em : (mx = none ∧ m = cap) ∨ (hi.isSome = true ∧ ∃ k i, mx = some (.int k i) ∧ 0 ≤ i ∧ m = i.toNat ∧ m ≤ cap))
    (eh : (hi = none ∧ h = len) ∨ ∃ k i, hi = some (.int k i) ∧ 0 ≤ i ∧ h = i.toNat ∧ h ≤ m)
    (el : (lo = none ∧ l = 0) ∨ ∃ k i, lo = some (.int k i) ∧ 0 ≤ i ∧ l = i.toNat ∧ l ≤ h) :
    (Instr.sliceBounds isSlice len cap lo hi mx).run P w = .ok (l, h, m) w := by
  rcases em with ⟨rfl, rfl⟩ | ⟨hs, km, im, rfl, m0, rfl, m1⟩
  · rcases eh with ⟨rfl, rfl⟩ | ⟨kh, ih, rfl, h0, rfl, h1⟩ <;> rcases el with ⟨rfl, rfl⟩ | ⟨kl, il, rfl, l0, rfl, l1⟩ <;>
      simp [Instr.sliceBounds, run_sliceBound, *]
  · rcases eh with ⟨rfl, rfl⟩ | ⟨kh, ih, rfl, h0, rfl, h1⟩
    · simp at hs
    · rcases el with ⟨rfl, rfl⟩ | ⟨kl, il, rfl, l0, rfl, l1⟩ <;> simp [Instr.sliceBounds, run_sliceBound, *]


theorem sliceS_ok {t : TypeId} {s : ByteArray} {lo hi clo chi cmx : Option Value} {l h : Nat} {cx : Value} (hu : und P t = some .string) (hl : Bnd lo 0 l) (hh : Bnd hi s.size h) (h1 : l ≤ h) (h2 : h ≤ s.size)
    (hx : VR hm lb (.string s) cx) (hlo : optR hm lb lo clo) (hhi : optR hm lb hi chi) (hmx : optR hm lb none cmx) : (Instr.sliceAt t cx clo chi cmx).run P w = .ok (.string (s.extract l h)) w := by
  obtain rfl : cx = _ := hx.sr rfl
  have bl := bnd_rel hl hlo
  have bh := bnd_rel hh hhi
  obtain rfl := optR_none hmx
  simp only [Instr.sliceAt, Sem.run_bind, run_und hu, Result.andThen_ok, Instr.slice]
  have := run_bounds (P := P) (w := w) (isSlice := false) (len := s.size) (cap := s.size) (l := l) (h := h) (m := s.size) (lo := clo) (hi := chi) (mx := none) (.inl ⟨rfl, rfl⟩)
    (bh.imp (fun q => q) (fun ⟨k, i, q1, q2, q3⟩ => ⟨k, i, q1, q2, q3, h2⟩)) (bl.imp (fun q => q) (fun ⟨k, i, q1, q2, q3⟩ => ⟨k, i, q1, q2, q3, h1⟩))
  simp [this]

/-- A piece of a frozen slice. -/
theorem sliceD_ok {t e : TypeId} {s n : Nat} {cs : Array Value} {lo hi clo chi cmx : Option Value} {l h : Nat} {cx : Value} (hu : und P t = some (.slice e)) (hs : sz P e = some (s + 1)) (hn : n * (s + 1) = cs.size) (hl : Bnd lo 0 l) (hh : Bnd hi n h) (h1 : l ≤ h) (h2 : h ≤ n)
    (hx : VR hm lb (.iface (s + 1) (.tuple cs)) cx) (hlo : optR hm lb lo clo) (hhi : optR hm lb hi chi) (hmx : optR hm lb none cmx) :
    ∃ cv, (Instr.sliceAt t cx clo chi cmx).run P w = .ok cv w ∧ VR hm lb (.iface (s + 1) (.tuple ((cs.toList.drop (l * (s + 1))).take ((h - l) * (s + 1))).toArray)) cv := by
  obtain ⟨a0, n', cap, rfl, g1, g2, g3⟩ := hx.sr rfl
  have : n' = n := by
    have h4 : n' * (s + 1) = n * (s + 1) := by rw [g1, hn]; simp
    exact Nat.eq_of_mul_eq_mul_right (by omega) h4
  subst this
  have bl := bnd_rel hl hlo
  have bh := bnd_rel hh hhi
  obtain rfl := optR_none hmx
  have hrun := run_bounds (P := P) (w := w) (isSlice := true) (len := n') (cap := cap) (l := l) (h := h) (m := cap) (lo := clo) (hi := chi) (mx := none) (.inl ⟨rfl, rfl⟩)
    (bh.imp (fun q => q) (fun ⟨k, i, q1, q2, q3⟩ => ⟨k, i, q1, q2, q3, by omega⟩)) (bl.imp (fun q => q) (fun ⟨k, i, q1, q2, q3⟩ => ⟨k, i, q1, q2, q3, h1⟩))
  have hsub : (h - l) * (s + 1) + l * (s + 1) ≤ n' * (s + 1) := by rw [← Nat.add_mul]; exact Nat.mul_le_mul_right _ (by omega)
  have hlen : (h - l) * (s + 1) = ((cs.toList.drop (l * (s + 1))).take ((h - l) * (s + 1))).length := by
    simp only [List.length_take, List.length_drop, Array.length_toList]; omega
  refine ⟨.slice (if cap - l = 0 then a0 else a0.map (·.add (l * (s + 1)))) (h - l) (cap - l), ?_, .of_sr rfl ⟨_, h - l, cap - l, rfl, by simpa using hlen, by omega, ?_⟩⟩
  · simp only [Instr.sliceAt, Sem.run_bind, run_und hu, Result.andThen_ok, Instr.slice, hrun, run_sizeOf hs]
    by_cases hml : cap = l
    · simp [hml]
    · have : ¬ cap - l = 0 := by omega
      cases a0 <;> simp [this, hml]
  · rcases g3 with g3 | ⟨B, o, rfl, hz⟩
    · refine .inl ?_
      simp [g3]
    · by_cases hhl : h = l
      · exact .inl (by simp [hhl])
      · refine .inr ⟨B, o + l * (s + 1), ?_, fun j c hj => ?_⟩
        · have : ¬ cap - l = 0 := by omega
          simp [this, add_none]
        · have hj2 : j < (h - l) * (s + 1) := by have := lookup_lt hj; simp only [List.toList_toArray] at this; omega
          have : cs.toList[l * (s + 1) + j]? = some c := by
            simp only [List.toList_toArray] at hj
            rw [List.getElem?_take_of_lt hj2, List.getElem?_drop] at hj; exact hj
          rw [Nat.add_assoc]; exact hz _ c this
end

end Go.Fhl
