/-
  A logic over the model, part three: blocks made, written, grown, frozen, forgotten.
-/
import Derived.Test.YtpfbnghalpfoaaaDoorFB
namespace Go.Fhl
set_option linter.unusedVariables false
set_option linter.unusedSimpArgs false

section
variable {hm : GM} {lb : LM} {w0 : World} {U : Env} {st : AS} {w : World} {a : Act}

/-- A new block of the heap: the cells that are named, and perhaps some more behind. -/
theorem Rel.newBlk (r : Rel hm lb w0 U st w a) (C : Array Value) (e : TypeId) (fz0 : Nat × Nat) (hf0 : Free fz0 C.size) (b : Blk) (hlen : b.cells.length ≤ C.size) (hg : b.gro = true → 1 ≤ b.esz) (hpu : b.cells.all pure1 = true)
    (h : ∀ (k : Nat) (v : Value), b.cells[k]? = some v → ∃ v', C[k]? = some v' ∧ SR hm [] v v') :
    hm.le (hm.put st.heap.next ⟨w.heap.size, C.size, b.esz, b.gro, b.cells.length⟩) ∧
    Rel (hm.put st.heap.next ⟨w.heap.size, C.size, b.esz, b.gro, b.cells.length⟩) lb w0 U { st with heap := st.heap.alloc b } (w.alloc (.cells C e fz0)) a := by
  have hn := r.fresh st.heap.next (Nat.le_refl _)
  have hle := GM.put_le_none (i := ⟨w.heap.size, C.size, b.esz, b.gro, b.cells.length⟩) hn
  refine ⟨hle, ?_⟩
  have hfz : ∀ k, hm.fz w.heap.size k = none := fun k => by
    cases hz : hm.fz w.heap.size k with
    | none => rfl
    | some v => have := r.fz_lt hz; omega
  have ra := r.toHRel.alloc (.cells C e fz0)
  have r' : HRel (hm.put st.heap.next ⟨w.heap.size, C.size, b.esz, b.gro, b.cells.length⟩) w0 U (st.heap.alloc b) (w.alloc (.cells C e fz0)) := by
    refine { os := ra.os, tape := ra.tape, output := ra.output, size := ra.size, prot := ra.prot, protz := ra.protz, fresh := ?_, frz := ?_, blk := ?_, inj := ?_ }
    · intro n hn'
      simp only [AH.alloc] at hn'
      rw [GM.put_ne (by omega)]
      exact r.fresh n (by omega)
    · intro B k v hz
      obtain ⟨h1, C', e', fz', v', h2, h3, h4⟩ := ra.frz B k v hz
      exact ⟨h1, C', e', fz', v', h2, h3, h4.mono hle (LM.le_refl _)⟩
    · intro n c hc
      rw [alloc_get] at hc
      by_cases q : n = st.heap.next
      · subst q
        simp at hc; subst hc
        refine ⟨_, GM.put_same, rfl, rfl, fun z => ⟨rfl, hg z⟩, hpu, .inr ⟨C, e, fz0, alloc_get_new w _, rfl, hlen, hf0, fun _ hu => by have := r.ult hu; simp at this, fun k _ => hfz k, fun k v hk => ?_⟩⟩
        obtain ⟨v', h1, h2⟩ := h k v hk
        exact ⟨v', h1, h2.mono hle (LM.le_refl _)⟩
      · rw [if_neg q] at hc
        exact r.toHRel.other hle hc (GM.put_ne q) (fun i hi hs => ⟨alloc_get_lt (r.toHRel.blk_lt hc hi hs), fun k hk => by
          obtain ⟨i', g1, g2, g3, g4, _, g5⟩ := r.blk n c hc
          rw [hi] at g1; cases g1
          rcases g5 with ⟨_, g6, _⟩ | ⟨_, _, _, _, _, _, _, _, g6, _⟩
          · exact absurd g6 hs
          · exact g6 k hk⟩) (fun B hB ⟨C', e', fz', h1, h2⟩ => ⟨C', e', fz', alloc_get_old h1, h2⟩)
    · intro n c n' c' i i' h1 h2 h3 h4 h5 h6 h7
      rw [alloc_get] at h1 h2
      by_cases q : n = st.heap.next <;> by_cases q' : n' = st.heap.next
      · omega
      · subst q
        rw [if_neg q'] at h2
        rw [GM.put_same] at h4
        rw [GM.put_ne q'] at h5
        have := r.toHRel.blk_lt h2 h5 h7
        cases h4
        simp only; omega
      · subst q'
        rw [if_neg q] at h1
        rw [GM.put_same] at h5
        rw [GM.put_ne q] at h4
        have := r.toHRel.blk_lt h1 h4 h6
        cases h5
        simp only; omega
      · rw [if_neg q] at h1
        rw [if_neg q'] at h2
        rw [GM.put_ne q] at h4
        rw [GM.put_ne q'] at h5
        exact r.inj n c n' c' i i' h1 h2 h3 h4 h5 h6 h7
  refine r.frame hle r' (by simp [AH.alloc]) (fun k B hk => ⟨alloc_get_lt (r.loc_lt hk), r.loc_fz hk⟩) ?_
  intro k B n c i h1 h2 h3 h4
  rw [alloc_get] at h2
  have hB := r.loc_lt h1
  by_cases q : n = st.heap.next
  · subst q
    rw [GM.put_same] at h3
    cases h3
    simp only; omega
  · rw [if_neg q] at h2
    rw [GM.put_ne q] at h3
    exact r.lheap k B n c i h1 h2 h3 h4

/-- A named block of no cells, that may grow: nothing is made. -/
theorem Rel.newGro (r : Rel hm lb w0 U st w a) (s : Nat) (hs : 1 ≤ s) :
    hm.le (hm.put st.heap.next ⟨0, 0, s, true, 0⟩) ∧ Rel (hm.put st.heap.next ⟨0, 0, s, true, 0⟩) lb w0 U { st with heap := st.heap.alloc ⟨s, [], true⟩ } w a := by
  have hn := r.fresh st.heap.next (Nat.le_refl _)
  have hle := GM.put_le_none (i := ⟨0, 0, s, true, 0⟩) hn
  refine ⟨hle, ?_⟩
  have r' : HRel (hm.put st.heap.next ⟨0, 0, s, true, 0⟩) w0 U (st.heap.alloc ⟨s, [], true⟩) w := by
    refine { os := r.os, tape := r.tape, output := r.output, size := r.size, prot := r.prot, protz := r.protz, fresh := ?_, frz := ?_, blk := ?_, inj := ?_ }
    · intro n hn'
      simp only [AH.alloc] at hn'
      rw [GM.put_ne (by omega)]
      exact r.fresh n (by omega)
    · intro B k v hz
      obtain ⟨h1, C', e', fz', v', h2, h3, h4⟩ := r.frz B k v hz
      exact ⟨h1, C', e', fz', v', h2, h3, h4.mono hle (LM.le_refl _)⟩
    · intro n c hc
      rw [alloc_get] at hc
      by_cases q : n = st.heap.next
      · subst q
        simp at hc; subst hc
        exact ⟨_, GM.put_same, rfl, rfl, fun z => ⟨rfl, hs⟩, rfl, .inl ⟨rfl, rfl, rfl⟩⟩
      · rw [if_neg q] at hc
        exact r.toHRel.other hle hc (GM.put_ne q) (fun i hi hs => ⟨rfl, fun k hk => by
          obtain ⟨i', g1, g2, g3, g4, _, g5⟩ := r.blk n c hc
          rw [hi] at g1; cases g1
          rcases g5 with ⟨_, g6, _⟩ | ⟨_, _, _, _, _, _, _, _, g6, _⟩
          · exact absurd g6 hs
          · exact g6 k hk⟩) (fun B hB h => h)
    · intro n c n' c' i i' h1 h2 h3 h4 h5 h6 h7
      rw [alloc_get] at h1 h2
      by_cases q : n = st.heap.next
      · subst q
        rw [GM.put_same] at h4
        cases h4; exact absurd rfl h6
      · by_cases q' : n' = st.heap.next
        · subst q'
          rw [GM.put_same] at h5
          cases h5; exact absurd rfl h7
        · rw [if_neg q] at h1
          rw [if_neg q'] at h2
          rw [GM.put_ne q] at h4
          rw [GM.put_ne q'] at h5
          exact r.inj n c n' c' i i' h1 h2 h3 h4 h5 h6 h7
  refine r.frame hle r' (by simp [AH.alloc]) (fun k B hk => ⟨rfl, r.loc_fz hk⟩) ?_
  intro k B n c i h1 h2 h3 h4
  rw [alloc_get] at h2
  by_cases q : n = st.heap.next
  · subst q
    rw [GM.put_same] at h3
    cases h3; exact absurd rfl h4
  · rw [if_neg q] at h2
    rw [GM.put_ne q] at h3
    exact r.lheap k B n c i h1 h2 h3 h4

theorem HRel.blk_fz {H : AH} (r : HRel hm w0 U H w) {n : Nat} {b : Blk} {i : Info} (h : H.get n = some b) (hi : hm.map n = some i) (hs : i.size ≠ 0) : ∀ k, k < i.size → hm.fz i.blk k = none := by
  obtain ⟨i', g1, g2, g3, g4, _, g5⟩ := r.blk n b h
  rw [hi] at g1; cases g1
  rcases g5 with ⟨_, g6, _⟩ | ⟨_, _, _, _, _, _, _, _, g6, _⟩
  · exact absurd g6 hs
  · exact g6

/-- A named block becomes another one of as many cells or more: in its place, or in a new one. -/
theorem Rel.reBlk (r : Rel hm lb w0 U st w a) {n : Nat} {b b' : Blk} {i i' : Info} {w' : World}
    (hn : st.heap.get n = some b) (hi : hm.map n = some i) (hle : i.le i') (hez : i'.esz = b'.esz) (hgr : i'.gro = b'.gro) (hgl : b'.gro = true → i'.len = b'.cells.length ∧ 1 ≤ b'.esz) (hpu : b'.cells.all pure1 = true)
    (hwo : w'.os = w.os) (hwt : w'.tape = w.tape) (hwu : w'.output = w.output) (hws : w.heap.size ≤ w'.heap.size)
    (hw : ∀ B, B ≠ i'.blk → B < w.heap.size → w'.heap[B]? = w.heap[B]?)
    (hi' : (i'.blk = i.blk ∧ i'.size = i.size ∧ i.size ≠ 0) ∨ (w.heap.size ≤ i'.blk ∧ i'.blk < w'.heap.size))
    (ht : ∃ C e fz, w'.heap[i'.blk]? = some (.cells C e fz) ∧ C.size = i'.size ∧ b'.cells.length ≤ i'.size ∧ Free fz i'.size ∧ ∀ (k : Nat) (v : Value), b'.cells[k]? = some v → ∃ v', C[k]? = some v' ∧ SR hm [] v v') :
    hm.le (hm.put n i') ∧ Rel (hm.put n i') lb w0 U { st with heap := st.heap.set n b' } w' a := by
  have hle' : hm.le (hm.put n i') := GM.put_le fun j hj => by rw [hi] at hj; cases hj; exact hle
  refine ⟨hle', ?_⟩
  have hnlt := r.toHRel.lt hn
  -- what is known of the place
  have hplace : ¬ U.U i'.blk ∧ (∀ k, k < i'.size → hm.fz i'.blk k = none) := by
    rcases hi' with ⟨e1, e2, e3⟩ | ⟨e1, e2⟩
    · obtain ⟨i0, g1, g2, g3, g4, gp, g5⟩ := r.blk n b hn
      rw [hi] at g1; cases g1
      rcases g5 with ⟨_, g6, _⟩ | ⟨_, _, _, _, _, _, _, g5, g6, _⟩
      · exact absurd g6 e3
      · rw [e1, e2]; exact ⟨g5 e3, g6⟩
    · refine ⟨fun hu => by have := r.ult hu; omega, fun k _ => ?_⟩
      cases hz : hm.fz i'.blk k with
      | none => rfl
      | some v => have := r.fz_lt hz; omega
  have hoth : ∀ m c j, st.heap.get m = some c → m ≠ n → hm.map m = some j → j.size ≠ 0 → j.blk ≠ i'.blk := by
    intro m c j hm1 hne hj hs
    rcases hi' with ⟨e1, e2, e3⟩ | ⟨e1, e2⟩
    · rw [e1]; exact r.inj m c n b j i hm1 hn hne hj hi hs e3
    · have := r.toHRel.blk_lt hm1 hj hs; omega
  have hnofz : ∀ k v, hm.fz i'.blk k ≠ some v := by
    intro k v hz
    rcases hi' with ⟨e1, e2, e3⟩ | ⟨e1, e2⟩
    · obtain ⟨i0, g1, g2, g3, g4, gp, g5⟩ := r.blk n b hn
      rw [hi] at g1; cases g1
      rcases g5 with ⟨_, g6, _⟩ | ⟨C, e, fz, h1, h2, _, _, g5, g6, _⟩
      · exact absurd g6 e3
      · obtain ⟨_, C', e', fz', v', k1, k2, _⟩ := r.frz _ k v hz
        rw [e1, h1] at k1; cases k1
        have := alookup_lt k2
        have := g6 k (by omega)
        rw [e1, this] at hz; cases hz
    · have := r.fz_lt hz; omega
  have r' : HRel (hm.put n i') w0 U (st.heap.set n b') w' := by
    refine { os := hwo.trans r.os, tape := hwt.trans r.tape, output := hwu.trans r.output, size := Nat.le_trans r.size hws, prot := ?_, protz := r.protz, fresh := ?_, frz := ?_, blk := ?_, inj := ?_ }
    · intro B hB
      refine ⟨(r.prot B hB).1, (hw B (fun e => hplace.1 (e ▸ hB)) (r.ult hB)).trans (r.prot B hB).2⟩
    · intro m hm'
      simp only [AH.set] at hm'
      rw [GM.put_ne (by omega)]
      exact r.fresh m hm'
    · intro B k v hz
      obtain ⟨h1, C', e', fz', v', h2, h3, h4⟩ := r.frz B k v hz
      refine ⟨h1, C', e', fz', v', ?_, h3, h4.mono hle' (LM.le_refl _)⟩
      rw [hw B (fun e => hnofz k v (e ▸ hz)) (r.fz_lt hz)]; exact h2
    · intro m c hc
      rw [set_get] at hc
      by_cases q : m = n
      · subst q
        simp at hc; subst hc
        obtain ⟨C, e, fz, h1, h2, h3, h4, h5⟩ := ht
        refine ⟨i', GM.put_same, hez, hgr, hgl, hpu, .inr ⟨C, e, fz, h1, h2, h3, h4, fun _ => hplace.1, hplace.2, fun k v hk => ?_⟩⟩
        obtain ⟨v', h6, h7⟩ := h5 k v hk
        exact ⟨v', h6, h7.mono hle' (LM.le_refl _)⟩
      · rw [if_neg q] at hc
        refine r.toHRel.other hle' hc (GM.put_ne q) (fun j hj hs => ⟨hw _ (hoth m c j hc q hj hs) (r.toHRel.blk_lt hc hj hs), r.toHRel.blk_fz hc hj hs⟩) ?_
        rintro B hB ⟨C, e, fz, h1, h2⟩
        by_cases z : B = i'.blk
        · subst z
          obtain ⟨C', e', fz', k1, k2, _⟩ := ht
          refine ⟨C', e', fz', k1, ?_⟩
          rcases hi' with ⟨e1, e2, e3⟩ | ⟨e1, e2⟩
          · obtain ⟨i0, g1, g2, g3, g4, gp, g5⟩ := r.blk n b hn
            rw [hi] at g1; cases g1
            rcases g5 with ⟨_, g6, _⟩ | ⟨C0, e0, fz0, g6, g7, _⟩
            · exact absurd g6 e3
            · rw [← e1, h1] at g6; cases g6; omega
          · omega
        · exact ⟨C, e, fz, by rw [hw B z hB]; exact h1, h2⟩
    · intro m c m' c' j j' h1 h2 h3 h4 h5 h6 h7
      rw [set_get] at h1 h2
      by_cases q : m = n <;> by_cases q' : m' = n
      · omega
      · subst q
        rw [if_neg q'] at h2
        rw [GM.put_same] at h4; cases h4
        rw [GM.put_ne q'] at h5
        exact fun e => hoth m' c' j' h2 q' h5 h7 e.symm
      · subst q'
        rw [if_neg q] at h1
        rw [GM.put_same] at h5; cases h5
        rw [GM.put_ne q] at h4
        exact hoth m c j h1 q h4 h6
      · rw [if_neg q] at h1
        rw [if_neg q'] at h2
        rw [GM.put_ne q] at h4
        rw [GM.put_ne q'] at h5
        exact r.inj m c m' c' j j' h1 h2 h3 h4 h5 h6 h7
  have hlb : ∀ (k B : Nat), lb[k]? = some B → i'.size ≠ 0 → B ≠ i'.blk := by
    intro k B hk hs
    rcases hi' with ⟨e1, e2, e3⟩ | ⟨e1, e2⟩
    · rw [e1]; exact fun e => r.lheap k B n b i hk hn hi e3 e.symm
    · have := r.loc_lt hk; omega
  have hlb' : ∀ (k B : Nat), lb[k]? = some B → B ≠ i'.blk := by
    intro k B hk
    rcases hi' with ⟨e1, e2, e3⟩ | ⟨e1, e2⟩
    · rw [e1]; exact fun e => r.lheap k B n b i hk hn hi e3 e.symm
    · have := r.loc_lt hk; omega
  refine r.frame hle' r' (by simp [AH.set]) (fun k B hk => ⟨hw B (hlb' k B hk) (r.loc_lt hk), r.loc_fz hk⟩) ?_
  intro k B m c j h1 h2 h3 h4
  rw [set_get] at h2
  by_cases q : m = n
  · subst q
    rw [GM.put_same] at h3; cases h3
    exact fun e => hlb k B h1 h4 e.symm
  · rw [if_neg q] at h2
    rw [GM.put_ne q] at h3
    exact r.lheap k B m c j h1 h2 h3 h4

/-- A name dies. -/
theorem Rel.kill (r : Rel hm lb w0 U st w a) (n : Nat) : Rel hm lb w0 U { st with heap := st.heap.kill n } w a := by
  have old : ∀ x y, (st.heap.kill n).get x = some y → st.heap.get x = some y := by
    intro x y hx
    rw [kill_get] at hx
    split at hx
    · cases hx
    · exact hx
  have r' : HRel hm w0 U (st.heap.kill n) w := by
    refine { os := r.os, tape := r.tape, output := r.output, size := r.size, prot := r.prot, protz := r.protz, fresh := r.fresh, frz := r.frz, blk := ?_, inj := ?_ }
    · intro m b h; exact r.blk m b (old m b h)
    · intro m c m' c' j j' g1 g2 g3; exact r.inj m c m' c' j j' (old _ _ g1) (old _ _ g2) g3
  refine r.frame (GM.le_refl _) r' (by simp [AH.kill]) (fun k B hk => ⟨rfl, r.loc_fz hk⟩) ?_
  intro k B m c j h1 h2 h3
  exact r.lheap k B m c j h1 (old _ _ h2) h3

def GM.freeze (hm : GM) (B : Nat) (cells : List Value) : GM :=
  ⟨hm.map, fun B' k => if B' = B ∧ k < cells.length then cells[k]? else hm.fz B' k⟩

/-- A block's cells are frozen, and its name dies. -/
theorem Rel.freeze (r : Rel hm lb w0 U st w a) {n : Nat} {b : Blk} {i : Info} (hn : st.heap.get n = some b) (hi : hm.map n = some i) :
    hm.le (hm.freeze i.blk b.cells) ∧ Rel (hm.freeze i.blk b.cells) lb w0 U { st with heap := st.heap.kill n } w a ∧ (∀ j c, b.cells[j]? = some c → (hm.freeze i.blk b.cells).fz i.blk j = some c) := by
  obtain ⟨i0, g1, g2, g3, g4, gp, g5⟩ := r.blk n b hn
  rw [hi] at g1; cases g1
  have hp := gp
  have hthere : b.cells = [] ∨ There hm U w i b.cells := g5.imp (fun q => q.2.2) id
  have hsz : b.cells ≠ [] → i.size ≠ 0 := by
    intro h
    rcases hthere with q | ⟨C, e, fz, h1, h2, h3, _⟩
    · exact absurd q h
    · have : 0 < b.cells.length := by cases hc : b.cells with | nil => exact absurd hc h | cons x l => simp
      omega
  have hfz : ∀ B k v, hm.fz B k = some v → ¬ (B = i.blk ∧ k < b.cells.length) := by
    rintro B k v hz ⟨rfl, hk⟩
    have hne : b.cells ≠ [] := fun e => by rw [e] at hk; simp at hk
    rcases hthere with q | ⟨C, e, fz, h1, h2, h3, h4, h5, h6, h7⟩
    · exact hne q
    · rw [h6 k (by omega)] at hz; cases hz
  have hle : hm.le (hm.freeze i.blk b.cells) := ⟨fun m j hj => ⟨j, hj, .inl rfl⟩, fun B k v hz => by
    show (if B = i.blk ∧ k < b.cells.length then b.cells[k]? else hm.fz B k) = some v
    rw [if_neg (hfz B k v hz)]; exact hz⟩
  have hnew : ∀ j c, b.cells[j]? = some c → (hm.freeze i.blk b.cells).fz i.blk j = some c := by
    intro j c hj
    show (if i.blk = i.blk ∧ j < b.cells.length then b.cells[j]? else hm.fz i.blk j) = some c
    rw [if_pos ⟨rfl, lookup_lt hj⟩]; exact hj
  have old : ∀ x y, (st.heap.kill n).get x = some y → st.heap.get x = some y ∧ x ≠ n := by
    intro x y hx
    rw [kill_get] at hx
    split at hx
    · cases hx
    · exact ⟨hx, ‹_›⟩
  have hother : ∀ B k, (b.cells ≠ [] → B ≠ i.blk) → (hm.freeze i.blk b.cells).fz B k = hm.fz B k := by
    intro B k h
    show (if B = i.blk ∧ k < b.cells.length then b.cells[k]? else hm.fz B k) = _
    refine if_neg ?_
    rintro ⟨h1, h2⟩
    exact h (fun e => by rw [e] at h2; simp at h2) h1
  refine ⟨hle, ?_, hnew⟩
  have rk := r.kill n
  refine rk.frame (st := { st with heap := st.heap.kill n }) hle (H' := st.heap.kill n) (w' := w) ?_ (by simp) (fun k B hk => ⟨rfl, fun j => ?_⟩) ?_
  · refine { os := r.os, tape := r.tape, output := r.output, size := r.size, prot := r.prot, protz := ?_, fresh := r.fresh, frz := ?_, blk := ?_, inj := rk.inj }
    · intro B hB k
      rw [hother B k ?_]; exact r.protz B hB k
      intro hne e
      rcases hthere with q | ⟨C, e1, fz, h1, h2, h3, h4, h5, h6, h7⟩
      · exact hne q
      · exact h5 (hsz hne) (e ▸ hB)
    · intro B k v hz
      by_cases q : B = i.blk ∧ k < b.cells.length
      · obtain ⟨rfl, hk⟩ := q
        have hz' : b.cells[k]? = some v := by
          have : (if i.blk = i.blk ∧ k < b.cells.length then b.cells[k]? else hm.fz i.blk k) = some v := hz
          rwa [if_pos ⟨rfl, hk⟩] at this
        have hpv := List.all_eq_true.1 hp v (List.mem_of_getElem? hz')
        refine ⟨hpv, ?_⟩
        have hne : b.cells ≠ [] := fun e => by rw [e] at hk; simp at hk
        rcases hthere with q | ⟨C, e, fz, h1, h2, h3, h4, h5, h6, h7⟩
        · exact absurd q hne
        · obtain ⟨v', h8, h9⟩ := h7 k v hz'
          exact ⟨C, e, fz, v', h1, h8, h9.pure hpv hle.fz⟩
      · have hz' : hm.fz B k = some v := by
          have : (if B = i.blk ∧ k < b.cells.length then b.cells[k]? else hm.fz B k) = some v := hz
          rwa [if_neg q] at this
        obtain ⟨h1, C', e', fz', v', h2, h3, h4⟩ := r.frz B k v hz'
        exact ⟨h1, C', e', fz', v', h2, h3, h4.pure h1 hle.fz⟩
    · intro m c hc
      obtain ⟨hc, hmn⟩ := old m c hc
      refine r.toHRel.other hle hc rfl (fun j hj hs => ⟨rfl, fun k hk => ?_⟩) (fun B hB h => h)
      rw [hother]
      · exact r.toHRel.blk_fz hc hj hs k hk
      · intro hne
        exact r.inj m c n b j i hc hn hmn hj hi hs (hsz hne)
  · rw [hother B j (fun hne e => r.lheap k B n b i hk hn hi (hsz hne) e.symm)]
    exact r.loc_fz hk j
  · exact rk.lheap

/-- A store into a box. -/
theorem Rel.storeLoc (r : Rel hm lb w0 U st w a) {k B : Nat} {cs cs' : List Value} {C C' : Array Value} {e : TypeId} {fz : Nat × Nat}
    (hk : st.locs[k]? = some cs) (hB : lb[k]? = some B) (hc : w.heap[B]? = some (.cells C e fz)) (hs : C'.size = C.size) (hl : cs'.length = cs.length)
    (hv : ∀ (j : Nat) (v : Value), cs'[j]? = some v → ∃ v', C'[j]? = some v' ∧ SR hm lb v v') :
    Rel hm lb w0 U { st with locs := st.locs.set k cs' } (bset w B (.cells C' e fz)) a := by
  obtain ⟨B0, C0, e0, fz0, h1, h2, h3, h4, h5, h6, h7⟩ := r.loc k cs hk
  rw [hB] at h1; cases h1
  rw [hc] at h2; cases h2
  have hw : ∀ B', B' ≠ B → (bset w B (.cells C' e fz)).heap[B']? = w.heap[B']? := fun B' q => Fhl.bset_other (fun z => q z.symm)
  have r' : HRel hm w0 U st.heap (bset w B (.cells C' e fz)) := by
    refine { os := r.os, tape := r.tape, output := r.output, size := by rw [bset_size]; exact r.size, prot := ?_, protz := r.protz, fresh := r.fresh, frz := ?_, blk := ?_, inj := r.inj }
    · intro B' hB'
      exact ⟨(r.prot B' hB').1, (hw B' (fun q => h5 (q ▸ hB'))).trans (r.prot B' hB').2⟩
    · intro B' k' v hz
      obtain ⟨g1, C1, e1, fz1, v', g2, g3⟩ := r.frz B' k' v hz
      refine ⟨g1, C1, e1, fz1, v', ?_, g3⟩
      rw [hw B' (fun q => by rw [q, h6] at hz; cases hz)]; exact g2
    · intro m c hm1
      refine r.toHRel.other (GM.le_refl _) hm1 rfl (fun j hj hs => ⟨hw _ (r.lheap k B m c j hB hm1 hj hs), r.toHRel.blk_fz hm1 hj hs⟩) ?_
      rintro B' hB' ⟨C1, e1, fz1, g1, g2⟩
      by_cases q : B' = B
      · subst q
        rw [hc] at g1; cases g1
        exact ⟨C', e, fz, bset_same hc, by omega⟩
      · exact ⟨C1, e1, fz1, by rw [hw B' q]; exact g1, g2⟩
  refine { toHRel := r', defers := r.defers, tsize := r.tsize, base_le := r.base_le, tmps := r.tmps, llen := by simp [r.llen], loc := ?_, linj := r.linj, lheap := r.lheap }
  intro j c hj
  simp only at hj
  by_cases q : j = k
  · subst q
    have hlt := lookup_lt hk
    rw [List.getElem?_set_self hlt] at hj
    cases hj
    exact ⟨B, C', e, fz, hB, bset_same hc, by omega, by rw [hs]; exact h4, h5, h6, hv⟩
  · rw [List.getElem?_set_ne (fun z => q z.symm)] at hj
    obtain ⟨B1, C1, e1, fz1, g1, g2, g3⟩ := r.loc j c hj
    refine ⟨B1, C1, e1, fz1, g1, ?_, g3⟩
    rw [hw B1 (fun z => q (r.linj j k B1 g1 (by rw [hB, z])))]; exact g2
end

end Go.Fhl
