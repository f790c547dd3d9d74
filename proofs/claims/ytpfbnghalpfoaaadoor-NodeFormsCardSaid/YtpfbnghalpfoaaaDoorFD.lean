/-
  A logic over the model, part four: what may be forgotten, and what a callee sees.
-/
import Derived.Test.YtpfbnghalpfoaaaDoorFC
namespace Go.Fhl
set_option linter.unusedVariables false
set_option linter.unusedSimpArgs false

/-! ## What names nothing above -/
def okA (m k : Nat) (a : Addr) : Bool := match a.spot with | some 0 => Nat.blt a.block k | _ => Nat.blt a.block m
def okP (m k : Nat) : Value → Bool
  | .pointer (some a) => okA m k a
  | _ => true
def okv1 (m k : Nat) : Value → Bool
  | .pointer (some a) => okA m k a
  | .slice (some a) _ _ => Nat.blt a.block m
  | .func _ _ cap => cap.toList.all (okP m k)
  | .agg _ => false
  | .tuple _ => false
  | _ => true
def okv (m k : Nat) : Value → Bool
  | .agg cs => cs.toList.all (okv1 m k)
  | .tuple vs => vs.toList.all fun | .agg cs => cs.toList.all (okv1 m k) | v => okv1 m k v
  | v => okv1 m k v

def GM.cut (hm : GM) (m : Nat) : GM := ⟨fun n => if n < m then hm.map n else none, hm.fz⟩
theorem blt_lt {a b : Nat} (h : Nat.blt a b = true) : a < b := by rw [Nat.blt_eq] at h; exact h

section
variable {hm : GM} {lb : LM} {m k : Nat}
theorem ARel.cut {a c : Addr} (h : okA m k a = true) (e : ARel hm lb a c) : ARel (hm.cut m) (lb.take k) a c := by
  unfold okA at h
  unfold ARel at *
  split at e
  · rename_i q; simp only [q] at h
    have := blt_lt h
    obtain ⟨i, h1, h2⟩ := e
    exact ⟨i, by simp [GM.cut, this, h1], h2⟩
  · rename_i q; simp only [q] at h
    have := blt_lt h
    obtain ⟨B, h1, h2⟩ := e
    exact ⟨B, by rw [List.getElem?_take_of_lt this]; exact h1, h2⟩
  · rename_i q; simp only [q] at h
    have := blt_lt h
    obtain ⟨i, h1, h2⟩ := e
    exact ⟨i, by simp [GM.cut, this, h1], h2⟩
theorem PR.cut {x v : Value} (h : okP m k x = true) (e : PR hm lb x v) : PR (hm.cut m) (lb.take k) x v := by
  unfold PR at *
  split at e
  · obtain ⟨c, h1, h2⟩ := e; exact ⟨c, h1.cut h, h2⟩
  · exact e
  all_goals first | exact e | cases e
theorem SR.cut {x v : Value} (h : okv1 m k x = true) (e : SR hm lb x v) : SR (hm.cut m) (lb.take k) x v := by
  unfold SR at *
  split at e
  · obtain ⟨c, h1, h2⟩ := e; exact ⟨c, h1.cut h, h2⟩
  · have := blt_lt h
    split at e
    · obtain ⟨i, o, h1, h2⟩ := e; exact ⟨i, o, by simp [GM.cut, this, h1], h2⟩
    · obtain ⟨i, o, c, h1, h2⟩ := e; exact ⟨i, o, c, by simp [GM.cut, this, h1], h2⟩
    · obtain ⟨i, o, c, h1, h2⟩ := e; exact ⟨i, o, c, by simp [GM.cut, this, h1], h2⟩
  · exact e
  · obtain ⟨c', h1, h2, h3⟩ := e
    refine ⟨c', h1, h2, h3.mono fun a b ha q => PR.cut ?_ q⟩
    simp only [okv1] at h
    exact List.all_eq_true.1 h a ha
  all_goals first | exact e | cases e
theorem VR1.cut {x v : Value} (h : (match x with | .agg cs => cs.toList.all (okv1 m k) | v => okv1 m k v) = true) (e : VR1 hm lb x v) : VR1 (hm.cut m) (lb.take k) x v := by
  unfold VR1 at *
  split at e
  · obtain ⟨c, h1, h2⟩ := e; exact ⟨c, h1, h2.mono fun a b ha q => SR.cut (List.all_eq_true.1 h a ha) q⟩
  · rename_i hx
    refine SR.cut ?_ e
    split at h
    · exact absurd rfl (hx _)
    · exact h
theorem VR.cut {x v : Value} (h : okv m k x = true) (e : VR hm lb x v) : VR (hm.cut m) (lb.take k) x v := by
  unfold VR at *
  split at e
  · rcases e with e | e | ⟨c, h1, h2⟩
    · exact .inl e
    · exact .inr (.inl e)
    · refine .inr (.inr ⟨c, h1, h2.mono fun a b ha q => VR1.cut ?_ q⟩)
      exact List.all_eq_true.1 h a ha
  · rename_i hx
    refine VR1.cut ?_ e
    unfold okv at h
    split at h
    · exact h
    · exact absurd rfl (hx _)
    · rename_i h1 h2
      split
      · exact absurd rfl (h1 _)
      · exact h
end

def keepT (l : List (Nat × Value)) : List Nat → List (Nat × Value)
  | [] => []
  | t :: ts => match lk l t with | some v => (t, v) :: keepT l ts | none => keepT l ts
def keepH (m : Nat) : List (Nat × Blk) → List (Nat × Blk)
  | [] => []
  | (n, b) :: l => cond (Nat.blt n m) ((n, b) :: keepH m l) (keepH m l)
/-- Slots, boxes and names: what is read still. -/
def AS.keep (st : AS) (ts : List Nat) (k m : Nat) : AS := ⟨st.n, st.base, keepT st.tmps ts, st.locs.take k, ⟨m, keepH m st.heap.l⟩⟩
def okKeep (st : AS) (ts : List Nat) (k m : Nat) : Bool :=
  (keepT st.tmps ts).all (fun p => okv m k p.2) && ((st.locs.take k).all (fun cs => cs.all (okv1 m k)) && (Nat.ble st.base m && Nat.ble m st.heap.next))

theorem lk_keepT {l : List (Nat × Value)} {ts : List Nat} {t : Nat} {v : Value} (h : lk (keepT l ts) t = some v) : lk l t = some v ∧ (t, v) ∈ keepT l ts := by
  induction ts with
  | nil => simp [keepT, lk] at h
  | cons u ts ih =>
    unfold keepT at h ⊢
    cases hu : lk l u with
    | none => simp only [hu] at h ⊢; exact ih h
    | some x =>
      simp only [hu] at h ⊢
      by_cases e : u = t
      · subst e; rw [lk_cons_self] at h; cases h; exact ⟨hu, by simp⟩
      · rw [lk_cons_ne e] at h; exact ⟨(ih h).1, by simp [(ih h).2]⟩
theorem lk_keepH {m : Nat} {l : List (Nat × Blk)} {n : Nat} {b : Blk} (h : lk (keepH m l) n = some b) : lk l n = some b ∧ n < m := by
  induction l with
  | nil => simp [keepH, lk] at h
  | cons p l ih =>
    obtain ⟨x, c⟩ := p
    unfold keepH at h
    cases hb : Nat.blt x m with
    | true =>
      simp only [hb, cond_true] at h
      by_cases e : x = n
      · subst e; rw [lk_cons_self] at h ⊢; exact ⟨h, blt_lt hb⟩
      · rw [lk_cons_ne e] at h ⊢; exact ih h
    | false =>
      simp only [hb, cond_false] at h
      obtain ⟨h1, h2⟩ := ih h
      refine ⟨?_, h2⟩
      have : x ≠ n := fun e => by
        subst e
        have : ¬ Nat.blt x m = true := by simp [hb]
        rw [Nat.blt_eq] at this; omega
      rw [lk_cons_ne this]; exact h1

section
variable {hm : GM} {lb : LM} {w0 : World} {U : Env} {st : AS} {w : World} {a : Act}

theorem Rel.keep (r : Rel hm lb w0 U st w a) {ts : List Nat} {k m : Nat} (h : okKeep st ts k m = true) :
    hm.leb st.base (hm.cut m) ∧ Rel (hm.cut m) (lb.take k) w0 U (st.keep ts k m) w a := by
  unfold okKeep at h
  simp only [Bool.and_eq_true] at h
  obtain ⟨h1, h2, h3, h4⟩ := h
  rw [Nat.ble_eq] at h3 h4
  have hcut : ∀ n i, (hm.cut m).map n = some i → hm.map n = some i ∧ n < m := by
    intro n i hn
    simp only [GM.cut] at hn
    split at hn
    · exact ⟨hn, ‹_›⟩
    · cases hn
  have hpure : ∀ v v', pure1 v = true → SR hm [] v v' → SR (hm.cut m) [] v v' := fun v v' hp hs => hs.repl hp fun _ _ _ q => q
  refine ⟨⟨fun n i hn hi => ⟨i, by simp [GM.cut, hi]; omega, .inl rfl⟩, fun _ _ _ q => q⟩, ?_⟩
  have hget : ∀ n b, (st.keep ts k m).heap.get n = some b → st.heap.get n = some b ∧ n < m := fun n b hb => lk_keepH hb
  refine { os := r.os, tape := r.tape, output := r.output, size := r.size, prot := r.prot, protz := r.protz, fresh := ?_, frz := ?_, blk := ?_, inj := ?_, defers := r.defers, tsize := r.tsize, base_le := h3, tmps := ?_, llen := ?_, loc := ?_, linj := ?_, lheap := ?_ }
  · intro n hn
    have hn' : m ≤ n := hn
    simp only [GM.cut]; rw [if_neg (by omega)]
  · intro B j v hz
    obtain ⟨g1, C, e, fz, v', g2, g3, g4⟩ := r.frz B j v hz
    exact ⟨g1, C, e, fz, v', g2, g3, hpure _ _ g1 g4⟩
  · intro n b hb
    obtain ⟨hb, hn⟩ := hget n b hb
    obtain ⟨i, g1, g2, g3, g4, gp, g5⟩ := r.blk n b hb
    refine ⟨i, by simp [GM.cut, hn, g1], g2, g3, g4, gp, g5.imp id ?_⟩
    rintro ⟨C, e, fz, k1, k2, k3, k4, k5, k6, k7⟩
    refine ⟨C, e, fz, k1, k2, k3, k4, k5, k6, fun j v hj => ?_⟩
    obtain ⟨v', k8, k9⟩ := k7 j v hj
    exact ⟨v', k8, hpure _ _ (List.all_eq_true.1 gp v (List.mem_of_getElem? hj)) k9⟩
  · intro n b n' b' i i' g1 g2 g3 g4 g5 g6 g7
    exact r.inj n b n' b' i i' (hget _ _ g1).1 (hget _ _ g2).1 g3 (hcut _ _ g4).1 (hcut _ _ g5).1 g6 g7
  · intro t v ht
    obtain ⟨g1, g2⟩ := lk_keepT ht
    obtain ⟨cv, g3, g4⟩ := r.tmps t v g1
    exact ⟨cv, g3, g4.cut (List.all_eq_true.1 h1 _ g2)⟩
  · simp [AS.keep, r.llen]
  · intro j cs hj
    have hj' : (st.locs.take k)[j]? = some cs := hj
    have hjk : j < k := by have := lookup_lt hj'; simp at this; omega
    have hj2 := hj'
    rw [List.getElem?_take_of_lt hjk] at hj2
    obtain ⟨B, C, e, fz, g1, g2, g3, g4, g5, g6, g7⟩ := r.loc j cs hj2
    refine ⟨B, C, e, fz, by rw [List.getElem?_take_of_lt hjk]; exact g1, g2, g3, g4, g5, g6, fun x v hx => ?_⟩
    obtain ⟨v', g8, g9⟩ := g7 x v hx
    have := List.all_eq_true.1 h2 cs (List.mem_of_getElem? hj')
    exact ⟨v', g8, g9.cut (List.all_eq_true.1 this v (List.mem_of_getElem? hx))⟩
  · intro j j' B g1 g2
    have e1 : lb[j]? = some B := by
      have : j < k := by have := lookup_lt g1; simp at this; omega
      rwa [List.getElem?_take_of_lt this] at g1
    have e2 : lb[j']? = some B := by
      have : j' < k := by have := lookup_lt g2; simp at this; omega
      rwa [List.getElem?_take_of_lt this] at g2
    exact r.linj j j' B e1 e2
  · intro j B n b i g1 g2 g3 g4
    have e1 : lb[j]? = some B := by
      have : j < k := by have := lookup_lt g1; simp at this; omega
      rwa [List.getElem?_take_of_lt this] at g1
    exact r.lheap j B n b i e1 (hget _ _ g2).1 (hcut _ _ g3).1 g4

/-- The slots of another state that knew no more. -/
theorem Rel.withTmps {st2 : AS} {hm' : GM} {lb' : LM} {w' : World} (r : Rel hm lb w0 U st w a) (r2 : Rel hm' lb' w0 U st2 w' a) (h : hm.le hm') (hl : LM.le lb lb') :
    Rel hm' lb' w0 U { st2 with tmps := st.tmps } w' a :=
  { toHRel := r2.toHRel, defers := r2.defers, tsize := r2.tsize, base_le := r2.base_le
    tmps := fun t v ht => by obtain ⟨cv, h1, h2⟩ := r.tmps t v ht; exact ⟨cv, h1, h2.mono h hl⟩
    llen := r2.llen, loc := r2.loc, linj := r2.linj, lheap := r2.lheap }

/-- Fewer slots. -/
theorem Rel.fewer (r : Rel hm lb w0 U st w a) (l : List (Nat × Value)) (h : ∀ t v, lk l t = some v → lk st.tmps t = some v) : Rel hm lb w0 U { st with tmps := l } w a :=
  { toHRel := r.toHRel, defers := r.defers, tsize := r.tsize, base_le := r.base_le
    tmps := fun t v ht => r.tmps t v (h t v ht)
    llen := r.llen, loc := r.loc, linj := r.linj, lheap := r.lheap }

/-! ## What a callee sees -/
def AH.empty : AH := ⟨0, []⟩
theorem empty_get (n : Nat) : AH.empty.get n = none := rfl
def hideU (hm : GM) (w : World) : Env := ⟨fun B => B < w.heap.size, hm.fz⟩
def GM.bare (hm : GM) : GM := ⟨fun _ => none, hm.fz⟩

theorem Rel.hide (r : Rel hm lb w0 U st w a) : HRel hm.bare w (hideU hm w) AH.empty w where
  os := rfl
  tape := rfl
  output := rfl
  size := Nat.le_refl _
  prot := fun B hB => ⟨hB, rfl⟩
  protz := fun B hB k => rfl
  fresh := fun n _ => rfl
  frz := fun B k v hz => by
    obtain ⟨h1, C, e, fz, v', h2, h3, h4⟩ := r.frz B k v hz
    exact ⟨h1, C, e, fz, v', h2, h3, h4.repl h1 fun _ _ _ q => q⟩
  blk := fun n b hb => by cases hb
  inj := fun n b n' b' i i' hb => by cases hb

theorem Rel.unhide (r : Rel hm lb w0 U st w a) {hm1 : GM} {H1 : AH} {w' : World} (hz : ∀ B k v, hm.fz B k = some v → hm1.fz B k = some v) (h : HRel hm1 w (hideU hm w) H1 w') :
    hm.le ⟨hm.map, hm1.fz⟩ ∧ Rel ⟨hm.map, hm1.fz⟩ lb w0 U st w' a := by
  have hle : hm.le ⟨hm.map, hm1.fz⟩ := ⟨fun n i hi => ⟨i, hi, .inl rfl⟩, hz⟩
  refine ⟨hle, ?_⟩
  have hkeep : ∀ B, B < w.heap.size → w'.heap[B]? = w.heap[B]? := fun B hB => (h.prot B hB).2
  have hfz : ∀ B k, B < w.heap.size → hm1.fz B k = hm.fz B k := fun B k hB => h.protz B hB k
  have r' : HRel ⟨hm.map, hm1.fz⟩ w0 U st.heap w' :=
    { os := h.os.trans r.os
      tape := h.tape.trans r.tape
      output := h.output.trans r.output
      size := Nat.le_trans r.size h.size
      prot := fun B hB => ⟨(r.prot B hB).1, (hkeep B (r.ult hB)).trans (r.prot B hB).2⟩
      protz := fun B hB k => (hfz B k (r.ult hB)).trans (r.protz B hB k)
      fresh := r.fresh
      frz := fun B k v hv => by
        obtain ⟨h1, C, e, fz, v', h2, h3, h4⟩ := h.frz B k v hv
        exact ⟨h1, C, e, fz, v', h2, h3, h4.repl h1 fun _ _ _ q => q⟩
      blk := fun n b hb => by
        refine r.toHRel.other hle hb rfl (fun i hi hs => ?_) (fun B hB ⟨C, e, fz, h1, h2⟩ => ⟨C, e, fz, by rw [hkeep B hB]; exact h1, h2⟩)
        have hlt := r.toHRel.blk_lt hb hi hs
        exact ⟨hkeep _ hlt, fun k hk => by rw [hfz _ _ hlt]; exact r.toHRel.blk_fz hb hi hs k hk⟩
      inj := r.inj }
  have hst : st = { st with heap := st.heap } := rfl
  rw [hst]
  exact r.frame hle r' (Nat.le_refl _) (fun k B hk => ⟨hkeep B (r.loc_lt hk), fun j => by rw [hfz B j (r.loc_lt hk)]; exact r.loc_fz hk j⟩) r.lheap

/-- What may not be written by a callee that sees all names. -/
def callU (st : AS) (hm : GM) (w : World) : Env := ⟨fun B => B < w.heap.size ∧ ∀ n b i, st.heap.get n = some b → hm.map n = some i → i.size ≠ 0 → i.blk ≠ B, hm.fz⟩

theorem Rel.enter (r : Rel hm lb w0 U st w a) : HRel hm w (callU st hm w) st.heap w where
  os := rfl
  tape := rfl
  output := rfl
  size := Nat.le_refl _
  prot := fun B hB => ⟨hB.1, rfl⟩
  protz := fun B hB k => rfl
  fresh := r.fresh
  frz := r.frz
  blk := fun n b hb => by
    obtain ⟨i, h1, h2, h3, h4, hp, h5⟩ := r.blk n b hb
    refine ⟨i, h1, h2, h3, h4, hp, ?_⟩
    rcases h5 with h5 | ⟨C, e, fz, k1, k2, k3, k4, k5, k6⟩
    · exact .inl h5
    · exact .inr ⟨C, e, fz, k1, k2, k3, k4, fun hs hu => hu.2 n b i hb h1 hs rfl, k6⟩
  inj := r.inj

theorem Rel.back (r : Rel hm lb w0 U st w a) {hm' : GM} {H' : AH} {w' : World} (hl : hm.leb st.heap.next hm') (hnx : st.heap.next ≤ H'.next) (h : HRel hm' w (callU st hm w) H' w') :
    hm.le hm' ∧ Rel hm' lb w0 U (st.setHeap H') w' a := by
  have hlm : ∀ n i, hm.map n = some i → ∃ i', hm'.map n = some i' ∧ i.le i' := by
    intro n i hi
    rcases Nat.lt_or_ge n st.heap.next with q | q
    · exact hl.map n i q hi
    · rw [r.fresh n q] at hi; cases hi
  have hle : hm.le hm' := ⟨hlm, hl.fz⟩
  refine ⟨hle, ?_⟩
  have hU : ∀ B, U.U B → (callU st hm w).U B := by
    intro B hB
    refine ⟨r.ult hB, fun n b i hb hi hs e => ?_⟩
    obtain ⟨i', h1, h2, h3, h4, hp, h5⟩ := r.blk n b hb
    rw [hi] at h1; cases h1
    rcases h5 with ⟨_, h5, _⟩ | ⟨C, e1, fz, k1, k2, k3, k4, k5, k6⟩
    · exact hs h5
    · exact k5 hs (e ▸ hB)
  have hL : ∀ k B, lb[k]? = some B → (callU st hm w).U B := fun k B hk => ⟨r.loc_lt hk, fun n b i hb hi hs => r.lheap k B n b i hk hb hi hs⟩
  have hfz : ∀ B k, (callU st hm w).U B → hm'.fz B k = hm.fz B k := fun B k hB => h.protz B hB k
  have r' : HRel hm' w0 U H' w' :=
    { os := h.os.trans r.os
      tape := h.tape.trans r.tape
      output := h.output.trans r.output
      size := Nat.le_trans r.size h.size
      prot := fun B hB => ⟨(r.prot B hB).1, ((h.prot B (hU B hB)).2).trans (r.prot B hB).2⟩
      protz := fun B hB k => (hfz B k (hU B hB)).trans (r.protz B hB k)
      fresh := h.fresh
      frz := h.frz
      blk := fun n b hb => by
        obtain ⟨i, h1, h2, h3, h4, hp, h5⟩ := h.blk n b hb
        refine ⟨i, h1, h2, h3, h4, hp, ?_⟩
        rcases h5 with h5 | ⟨C, e, fz, k1, k2, k3, k4, k5, k6⟩
        · exact .inl h5
        · exact .inr ⟨C, e, fz, k1, k2, k3, k4, fun hs hu => k5 hs (hU _ hu), k6⟩
      inj := h.inj }
  refine r.frame hle r' hnx (fun k B hk => ⟨(h.prot B (hL k B hk)).2, fun j => by rw [hfz B j (hL k B hk)]; exact r.loc_fz hk j⟩) ?_
  intro k B n b i hk hb hi hs e
  obtain ⟨i', h1, h2, h3, h4, hp, h5⟩ := h.blk n b hb
  rw [hi] at h1; cases h1
  rcases h5 with ⟨_, h5, _⟩ | ⟨C, e1, fz, k1, k2, k3, k4, k5, k6⟩
  · exact hs h5
  · exact k5 hs (e ▸ hL k B hk)

/-! ### A callee that sees one named block, as its number 0 -/
def oneU (hm : GM) (w : World) (i : Info) : Env := ⟨fun B => B < w.heap.size ∧ (i.size ≠ 0 → i.blk ≠ B), hm.fz⟩
def GM.only (hm : GM) (i : Info) : GM := ⟨fun m => if m = 0 then some i else none, hm.fz⟩

theorem Rel.enter1 (r : Rel hm lb w0 U st w a) {n : Nat} {b : Blk} {i : Info} (hn : st.heap.get n = some b) (hi : hm.map n = some i) : HRel (hm.only i) w (oneU hm w i) ⟨1, [(0, b)]⟩ w where
  os := rfl
  tape := rfl
  output := rfl
  size := Nat.le_refl _
  prot := fun B hB => ⟨hB.1, rfl⟩
  protz := fun B hB k => rfl
  fresh := fun n hn => by have : n ≠ 0 := by simp only at hn; omega
                          simp [GM.only, this]
  frz := fun B k v hz => by
    obtain ⟨h1, C, e, fz, v', h2, h3, h4⟩ := r.frz B k v hz
    exact ⟨h1, C, e, fz, v', h2, h3, h4.repl h1 fun _ _ _ q => q⟩
  blk := fun m c hc => by
    have hm0 : m = 0 ∧ c = b := by
      unfold AH.get at hc
      by_cases q : 0 = m
      · subst q; rw [lk_cons_self] at hc; cases hc; exact ⟨rfl, rfl⟩
      · rw [lk_cons_ne q] at hc; cases hc
    obtain ⟨rfl, rfl⟩ := hm0
    obtain ⟨i', h1, h2, h3, h4, hp, h5⟩ := r.blk n _ hn
    rw [hi] at h1; cases h1
    refine ⟨i, by simp [GM.only], h2, h3, h4, hp, ?_⟩
    rcases h5 with h5 | ⟨C, e, fz, k1, k2, k3, k4, k5, k6, k7⟩
    · exact .inl h5
    · refine .inr ⟨C, e, fz, k1, k2, k3, k4, fun hs hu => hu.2 hs rfl, k6, fun k v hk => ?_⟩
      obtain ⟨v', k8, k9⟩ := k7 k v hk
      exact ⟨v', k8, k9.repl (List.all_eq_true.1 hp v (List.mem_of_getElem? hk)) fun _ _ _ q => q⟩
  inj := fun m c m' c' j j' h1 h2 h3 => by
    have key : ∀ m c, AH.get ⟨1, [(0, b)]⟩ m = some c → m = 0 := by
      intro m c hc
      unfold AH.get at hc
      by_cases q : 0 = m
      · exact q.symm
      · rw [lk_cons_ne q] at hc; cases hc
    exact absurd ((key m c h1).trans (key m' c' h2).symm) h3

/-- What the caller knows then: of the block, and of the rest. -/
theorem Rel.back1 (r : Rel hm lb w0 U st w a) {n : Nat} {b : Blk} {i : Info} (hn : st.heap.get n = some b) (hi : hm.map n = some i) {hm1 : GM} {H1 : AH} {w' : World} {b' : Blk}
    (hl : (hm.only i).leb 1 hm1) (h : HRel hm1 w (oneU hm w i) H1 w') (hb' : H1.get 0 = some b') :
    ∃ i', hm1.map 0 = some i' ∧ hm.le ⟨(hm.put n i').map, hm1.fz⟩ ∧ Rel ⟨(hm.put n i').map, hm1.fz⟩ lb w0 U (st.setHeap (st.heap.set n b')) w' a := by
  obtain ⟨i', hi', hii⟩ := hl.map 0 i (by omega) (by simp [GM.only])
  refine ⟨i', hi', ?_⟩
  have hzle : ∀ B k v, hm.fz B k = some v → hm1.fz B k = some v := hl.fz
  have hle : hm.le ⟨(hm.put n i').map, hm1.fz⟩ := by
    refine ⟨fun m j hj => ?_, hzle⟩
    by_cases e : m = n
    · subst e; rw [hi] at hj; cases hj; exact ⟨i', GM.put_same, hii⟩
    · exact ⟨j, by show (hm.put n i').map m = _; rw [GM.put_ne e]; exact hj, .inl rfl⟩
  refine ⟨hle, ?_⟩
  have hkeep : ∀ B, (oneU hm w i).U B → w'.heap[B]? = w.heap[B]? := fun B hB => (h.prot B hB).2
  have hfz : ∀ B k, (oneU hm w i).U B → hm1.fz B k = hm.fz B k := fun B k hB => h.protz B hB k
  have hU : ∀ B, U.U B → (oneU hm w i).U B := by
    intro B hB
    refine ⟨r.ult hB, fun hs e => ?_⟩
    obtain ⟨i0, h1, h2, h3, h4, hp, h5⟩ := r.blk n b hn
    rw [hi] at h1; cases h1
    rcases h5 with ⟨_, h5, _⟩ | ⟨C, e1, fz, k1, k2, k3, k4, k5, k6⟩
    · exact hs h5
    · exact k5 hs (e ▸ hB)
  have hL : ∀ k B, lb[k]? = some B → (oneU hm w i).U B := fun k B hk => ⟨r.loc_lt hk, fun hs => r.lheap k B n b i hk hn hi hs⟩
  have hO : ∀ m c j, st.heap.get m = some c → m ≠ n → hm.map m = some j → j.size ≠ 0 → (oneU hm w i).U j.blk := fun m c j hm1' hne hj hs =>
    ⟨r.toHRel.blk_lt hm1' hj hs, fun hs' e => r.inj m c n b j i hm1' hn hne hj hi hs hs' e.symm⟩
  obtain ⟨i2, g1, g2, g3, g4, gp, g5⟩ := h.blk 0 b' hb'
  rw [hi'] at g1; cases g1
  have hout : i'.size ≠ 0 → ¬ (oneU hm w i).U i'.blk := by
    intro hs
    rcases g5 with ⟨_, g5, _⟩ | ⟨C, e1, fz, k1, k2, k3, k4, k5, k6⟩
    · exact absurd g5 hs
    · exact k5 hs
  have r' : HRel ⟨(hm.put n i').map, hm1.fz⟩ w0 U (st.heap.set n b') w' :=
    { os := h.os.trans r.os
      tape := h.tape.trans r.tape
      output := h.output.trans r.output
      size := Nat.le_trans r.size h.size
      prot := fun B hB => ⟨(r.prot B hB).1, ((h.prot B (hU B hB)).2).trans (r.prot B hB).2⟩
      protz := fun B hB k => (hfz B k (hU B hB)).trans (r.protz B hB k)
      fresh := fun m hm' => by
        have hnlt := r.toHRel.lt hn
        simp only [AH.set] at hm'
        show (hm.put n i').map m = none
        rw [GM.put_ne (by omega)]; exact r.fresh m hm'
      frz := fun B k v hv => by
        obtain ⟨h1, C, e, fz, v', h2, h3, h4⟩ := h.frz B k v hv
        exact ⟨h1, C, e, fz, v', h2, h3, h4.repl h1 fun _ _ _ q => q⟩
      blk := fun m c hc => by
        rw [set_get] at hc
        by_cases q : m = n
        · subst q
          simp at hc; subst hc
          refine ⟨i', GM.put_same, g2, g3, g4, gp, g5.imp id ?_⟩
          rintro ⟨C, e, fz, k1, k2, k3, k4, k5, k6, k7⟩
          refine ⟨C, e, fz, k1, k2, k3, k4, fun hs hu => k5 hs (hU _ hu), k6, fun k v hk => ?_⟩
          obtain ⟨v', k8, k9⟩ := k7 k v hk
          exact ⟨v', k8, k9.repl (List.all_eq_true.1 gp v (List.mem_of_getElem? hk)) fun _ _ _ q => q⟩
        · rw [if_neg q] at hc
          refine r.toHRel.other hle hc (GM.put_ne q) (fun j hj hs => ?_) ?_
          · have hu := hO m c j hc q hj hs
            exact ⟨hkeep _ hu, fun k hk => by show hm1.fz _ _ = _; rw [hfz _ _ hu]; exact r.toHRel.blk_fz hc hj hs k hk⟩
          · rintro B hB ⟨C, e, fz, h1, h2⟩
            refine ⟨C, e, fz, ?_, h2⟩
            rw [hkeep B ⟨hB, fun hs e' => ?_⟩]; exact h1
            subst e'
            obtain ⟨i0, x1, x2, x3, x4, xp, x5⟩ := r.blk n b hn
            rw [hi] at x1; cases x1
            rcases x5 with ⟨_, x5, _⟩ | ⟨C0, e0, fz0, y1, y2, _⟩
            · exact hs x5
            · rw [h1] at y1; cases y1; omega
      inj := fun m c m' c' j j' h1 h2 h3 h4 h5 h6 h7 => by
        rw [set_get] at h1 h2
        by_cases q : m = n <;> by_cases q' : m' = n
        · omega
        · subst q
          rw [if_neg q'] at h2
          have e4 : (hm.put m i').map m = some j := h4
          rw [GM.put_same] at e4; cases e4
          have e5 : (hm.put m i').map m' = some j' := h5
          rw [GM.put_ne q'] at e5
          exact fun e => hout h6 (e ▸ hO m' c' j' h2 q' e5 h7)
        · subst q'
          rw [if_neg q] at h1
          have e5 : (hm.put m' i').map m' = some j' := h5
          rw [GM.put_same] at e5; cases e5
          have e4 : (hm.put m' i').map m = some j := h4
          rw [GM.put_ne q] at e4
          exact fun e => hout h7 (e ▸ hO m c j h1 q e4 h6)
        · rw [if_neg q] at h1
          rw [if_neg q'] at h2
          have e4 : (hm.put n i').map m = some j := h4
          rw [GM.put_ne q] at e4
          have e5 : (hm.put n i').map m' = some j' := h5
          rw [GM.put_ne q'] at e5
          exact r.inj m c m' c' j j' h1 h2 h3 e4 e5 h6 h7 }
  refine r.frame hle r' (by simp [AH.set]) (fun k B hk => ⟨hkeep B (hL k B hk), fun j => by show hm1.fz B j = none; rw [hfz B j (hL k B hk)]; exact r.loc_fz hk j⟩) ?_
  intro k B m c j hk hc hj hs e
  rw [set_get] at hc
  by_cases q : m = n
  · subst q
    have e4 : (hm.put m i').map m = some j := hj
    rw [GM.put_same] at e4; cases e4
    exact hout hs (e ▸ hL k B hk)
  · rw [if_neg q] at hc
    have e4 : (hm.put n i').map m = some j := hj
    rw [GM.put_ne q] at e4
    exact r.lheap k B m c j hk hc e4 hs e
end

end Go.Fhl
