/-
  The abstract heap logic, part three: stores into boxes and blocks, and a block that goes over into a longer one.
-/
import Derived.Test.YtmafhfnalekgnaaAhlB
namespace Go.Ahl
set_option linter.unusedVariables false

theorem lookup_lt {α : Type} {l : List α} {k : Nat} {x : α} (h : l[k]? = some x) : k < l.length := by
  rcases Nat.lt_or_ge k l.length with q | q
  · exact q
  · rw [List.getElem?_eq_none q] at h; cases h
theorem alookup_lt {α : Type} {l : Array α} {k : Nat} {x : α} (h : l[k]? = some x) : k < l.size := by
  rcases Nat.lt_or_ge k l.size with q | q
  · exact q
  · rw [Array.getElem?_eq_none q] at h; cases h

section
variable {hm : HM} {lb : LM} {w0 : World} {U : Env} {st : AS} {w : World} {a : Act}

/-- A block that stands for no live name is written. -/
theorem HRel.bset_other {H : AH} (r : HRel hm w0 U H w) {B : Nat} (o : Obj) (hB : ∀ n b i, H.get n = some b → hm n = some i → i.blk ≠ B) (hU : ¬ U B) :
    HRel hm w0 U H (bset w B o) where
  nsz := by rw [bset_size]; exact r.nsz
  os := r.os
  tape := r.tape
  output := r.output
  size := by rw [bset_size]; exact r.size
  prot := fun k hk => by
    obtain ⟨h1, h2⟩ := r.prot k hk
    refine ⟨h1, ?_⟩
    have hne : B ≠ k := fun e => hU (by rw [e]; exact hk)
    rw [Ahl.bset_other hne, h2]
  fresh := r.fresh
  blk := fun n b h => by
    obtain ⟨i, C, e, fz, h1, h2, h3⟩ := r.blk n b h
    exact ⟨i, C, e, fz, h1, by rw [Ahl.bset_other (fun q => hB n b i h h1 q.symm)]; exact h2, h3⟩
  inj := r.inj

/-- A live block is written. -/
theorem HRel.storeBlk {H : AH} (r : HRel hm w0 U H w) {n : Nat} {b b' : Blk} {i : Info} {C C' : Array Value} {e : TypeId} {fz : Nat × Nat}
    (hn : H.get n = some b) (hi : hm n = some i) (hw : b.wr = true) (hc : w.heap[i.blk]? = some (.cells C e fz)) (hs : C'.size = C.size)
    (hez : b'.esz = b.esz) (hl : b'.cells.length ≤ i.size)
    (hv : ∀ (k : Nat) (v : Value), b'.cells[k]? = some v → ∃ v', C'[k]? = some v' ∧ SR hm [] v v') (hw' : b'.wr = b.wr) :
    HRel hm w0 U (H.set n b') (bset w i.blk (.cells C' e fz)) := by
  obtain ⟨i0, C0, e0, fz0, h1, h2, h3, h4, h5, h6, h7⟩ := r.blk n b hn
  rw [hi] at h1; cases h1
  rw [hc] at h2; cases h2
  obtain ⟨hbase, hfree, hnU⟩ := h7.1 hw
  refine { nsz := by rw [bset_size]; exact r.nsz, os := r.os, tape := r.tape, output := r.output, size := by rw [bset_size]; exact r.size, prot := ?_, fresh := r.fresh, blk := ?_, inj := ?_ }
  · intro k hk
    obtain ⟨p1, p2⟩ := r.prot k hk
    refine ⟨p1, ?_⟩
    have hne : i.blk ≠ k := fun e => hnU (by rw [e]; exact hk)
    rw [Ahl.bset_other hne, p2]
  · intro m c hcm
    simp only [AH.set] at hcm
    by_cases q : m = n
    · subst q
      simp at hcm; subst hcm
      refine ⟨i, C', e, fz, hi, bset_same hc, by omega, by rw [hez]; exact h4, by rw [hbase]; omega, fun k v hk => ?_, ⟨fun _ => ⟨hbase, hfree, hnU⟩, fun q => by rw [hw', hw] at q; cases q⟩⟩
      rw [hbase, Nat.zero_add]; exact hv k v hk
    · simp [q] at hcm
      obtain ⟨j, D, e1, fz1, g1, g2, g3⟩ := r.blk m c hcm
      refine ⟨j, D, e1, fz1, g1, ?_, g3⟩
      rw [Ahl.bset_other (r.inj n b m c i j hn hw hcm (fun z => q z.symm) hi g1)]; exact g2
  · intro m c m' c' j j' g1 g2 g3 g4 g5 g6
    simp only [AH.set] at g1 g3
    have old : ∀ x y, (if x = n then some b' else H.get x) = some y → ∃ y0, H.get x = some y0 ∧ (y.wr = true → y0.wr = true) := by
      intro x y hx
      by_cases q : x = n
      · subst q; simp at hx; subst hx; exact ⟨b, hn, fun _ => hw⟩
      · simp [q] at hx; exact ⟨y, hx, id⟩
    obtain ⟨d, hd, hdw⟩ := old m c g1
    obtain ⟨d', hd', _⟩ := old m' c' g3
    exact r.inj m d m' d' j j' hd (hdw g2) hd' g4 g5 g6

/-- A name dies. -/
theorem HRel.kill {H : AH} (r : HRel hm w0 U H w) (n : Nat) : HRel hm w0 U (H.kill n) w := by
  have old : ∀ x y, (H.kill n).get x = some y → H.get x = some y := by
    intro x y hx
    simp only [AH.kill] at hx
    by_cases q : x = n
    · simp [q] at hx
    · simpa [q] using hx
  exact { nsz := r.nsz, os := r.os, tape := r.tape, output := r.output, size := r.size, prot := r.prot, fresh := r.fresh, blk := fun m b h => r.blk m b (old m b h),
          inj := fun m c m' c' j j' g1 g2 g3 => r.inj m c m' c' j j' (old _ _ g1) g2 (old _ _ g3) }

/-- A live block dies, and what it stood for goes on under a new name. -/
theorem HRel.rename {H : AH} (r : HRel hm w0 U H w) {n : Nat} {b b' : Blk} (hbw : b'.wr = true) {i : Info} {C C' : Array Value} {e : TypeId} {fz : Nat × Nat}
    (hn : H.get n = some b) (hi : hm n = some i) (hw : b.wr = true) (hc : w.heap[i.blk]? = some (.cells C e fz)) (hs : C'.size = C.size)
    (hez : b'.esz = b.esz) (hl : b'.cells.length ≤ i.size)
    (hv : ∀ (k : Nat) (v : Value), b'.cells[k]? = some v → ∃ v', C'[k]? = some v' ∧ SR hm [] v v') :
    HRel (hm.put H.next i) w0 U ((H.kill n).alloc b') (bset w i.blk (.cells C' e fz)) := by
  obtain ⟨i0, C0, e0, fz0, h1, h2, h3, h4, h5, h6, h7⟩ := r.blk n b hn
  rw [hi] at h1; cases h1
  rw [hc] at h2; cases h2
  obtain ⟨hbase, hfree, hnU⟩ := h7.1 hw
  have hnx := r.fresh H.next (Nat.le_refl _)
  have hle := HM.put_le (i := i) hnx
  have hnlt := r.lt hn
  refine { nsz := by rw [bset_size]; exact r.nsz, os := r.os, tape := r.tape, output := r.output, size := by rw [bset_size]; exact r.size, prot := ?_, fresh := ?_, blk := ?_, inj := ?_ }
  · intro k hk
    obtain ⟨p1, p2⟩ := r.prot k hk
    refine ⟨p1, ?_⟩
    have hne : i.blk ≠ k := fun e => hnU (by rw [e]; exact hk)
    rw [Ahl.bset_other hne, p2]
  · intro m hm'
    simp only [AH.alloc, AH.kill] at hm'
    unfold HM.put
    rw [if_neg (by omega)]
    exact r.fresh m (by omega)
  · intro m c hcm
    simp only [AH.alloc, AH.kill] at hcm
    by_cases q : m = H.next
    · subst q
      simp at hcm; subst hcm
      refine ⟨i, C', e, fz, by simp [HM.put], bset_same hc, by omega, by rw [hez]; exact h4, by rw [hbase]; omega, fun k v hk => ?_, ⟨fun _ => ⟨hbase, hfree, hnU⟩, fun q => by rw [hbw] at q; cases q⟩⟩
      obtain ⟨v', g1, g2⟩ := hv k v hk
      exact ⟨v', by rw [hbase, Nat.zero_add]; exact g1, g2.mono hle fun _ _ x => x⟩
    · simp [q] at hcm
      obtain ⟨qn, hcm⟩ := hcm
      obtain ⟨j, D, e1, fz1, g1, g2, g3, g4, g5, g6, g7⟩ := r.blk m c hcm
      refine ⟨j, D, e1, fz1, hle _ _ g1, ?_, g3, g4, g5, fun k v hk => ?_, g7⟩
      · rw [Ahl.bset_other (r.inj n b m c i j hn hw hcm (fun z => qn z.symm) hi g1)]; exact g2
      · obtain ⟨v', x1, x2⟩ := g6 k v hk
        exact ⟨v', x1, x2.mono hle fun _ _ x => x⟩
  · intro m c m' c' j j' g1 g2 g3 g4 g5 g6
    simp only [AH.alloc, AH.kill] at g1 g3
    by_cases q : m = H.next <;> by_cases q' : m' = H.next
    · omega
    · subst q
      simp [q'] at g3
      simp [HM.put] at g5; simp [HM.put, q'] at g6
      subst g5
      exact r.inj n b m' c' i j' hn hw g3.2 (fun z => g3.1 z.symm) hi g6
    · subst q'
      simp [q] at g1
      simp [HM.put] at g6; simp [HM.put, q] at g5
      subst g6
      exact r.inj m c n b j i g1.2 g2 hn g1.1 g5 hi
    · simp [q] at g1; simp [q'] at g3
      simp [HM.put, q] at g5; simp [HM.put, q'] at g6
      exact r.inj m c m' c' j j' g1.2 g2 g3.2 g4 g5 g6

/-- The frame beside a change of the heap: the boxes keep their blocks. -/
theorem Rel.frame (r : Rel hm lb w0 U st w a) {hm' : HM} {H' : AH} {w' : World} (hle : hm.le hm') (r' : HRel hm' w0 U H' w')
    (hl : ∀ (k B : Nat), lb[k]? = some B → w'.heap[B]? = w.heap[B]?) (hx : ∀ (k B n : Nat) (b : Blk) (i : Info), lb[k]? = some B → H'.get n = some b → hm' n = some i → i.blk ≠ B) :
    Rel hm' lb w0 U { st with heap := H' } w' a :=
  { toHRel := r', defers := r.defers, tsize := r.tsize
    tmps := fun t ht => by obtain ⟨v, h1, h2⟩ := r.tmps t ht; exact ⟨v, h1, h2.mono hle fun _ _ x => x⟩
    llen := r.llen
    loc := fun k cs hk => by
      obtain ⟨B, C, e, fz, h1, h2, h3, h4, h5, h6⟩ := r.loc k cs hk
      refine ⟨B, C, e, fz, h1, by rw [hl k B h1]; exact h2, h3, h4, h5, fun j v hj => ?_⟩
      obtain ⟨v', h7, h8⟩ := h6 j v hj
      exact ⟨v', h7, h8.mono hle fun _ _ x => x⟩
    linj := r.linj
    lheap := hx }

/-- A new block of the heap. -/
theorem Rel.newBlk (r : Rel hm lb w0 U st w a) (C : Array Value) (e : TypeId) (fz0 : Nat × Nat) (hf0 : Free fz0 C.size) (b : Blk) (hbw : b.wr = true) (hlen : b.cells.length ≤ C.size)
    (h : ∀ (k : Nat) (v : Value), b.cells[k]? = some v → ∃ v', C[k]? = some v' ∧ SR hm [] v v') :
    Rel (hm.put st.heap.next ⟨w.heap.size, 0, C.size, b.esz⟩) lb w0 U { st with heap := st.heap.alloc b } (w.alloc (.cells C e fz0)) a := by
  have hn := r.fresh st.heap.next (Nat.le_refl _)
  refine r.frame (HM.put_le hn) (r.toHRel.newBlk C e fz0 hf0 b hbw hlen h) (fun k B hk => ?_) ?_
  · exact alloc_get_lt (r.loc_lt hk)
  · intro k B n c i h1 h2 h3
    simp only [AH.alloc] at h2
    have hB := r.loc_lt h1
    by_cases q : n = st.heap.next
    · subst q
      simp [HM.put] at h3; rw [← h3]; simp; omega
    · simp [q] at h2
      simp [HM.put, q] at h3
      exact r.lheap k B n c i h1 h2 h3

theorem Rel.storeBlk (r : Rel hm lb w0 U st w a) {n : Nat} {b b' : Blk} {i : Info} {C C' : Array Value} {e : TypeId} {fz : Nat × Nat}
    (hn : st.heap.get n = some b) (hi : hm n = some i) (hw : b.wr = true) (hc : w.heap[i.blk]? = some (.cells C e fz)) (hs : C'.size = C.size)
    (hez : b'.esz = b.esz) (hl : b'.cells.length ≤ i.size)
    (hv : ∀ (k : Nat) (v : Value), b'.cells[k]? = some v → ∃ v', C'[k]? = some v' ∧ SR hm [] v v') (hw' : b'.wr = b.wr) :
    Rel hm lb w0 U { st with heap := st.heap.set n b' } (bset w i.blk (.cells C' e fz)) a := by
  refine r.frame (HM.le_refl _) (r.toHRel.storeBlk hn hi hw hc hs hez hl hv hw') (fun k B hk => Ahl.bset_other (r.lheap k B n b i hk hn hi)) ?_
  intro k B m c j h1 h2 h3
  simp only [AH.set] at h2
  by_cases q : m = n
  · subst q; exact r.lheap k B m b j h1 hn h3
  · simp [q] at h2; exact r.lheap k B m c j h1 h2 h3

theorem Rel.rename (r : Rel hm lb w0 U st w a) {n : Nat} {b b' : Blk} (hbw : b'.wr = true) {i : Info} {C C' : Array Value} {e : TypeId} {fz : Nat × Nat}
    (hn : st.heap.get n = some b) (hi : hm n = some i) (hw : b.wr = true) (hc : w.heap[i.blk]? = some (.cells C e fz)) (hs : C'.size = C.size)
    (hez : b'.esz = b.esz) (hl : b'.cells.length ≤ i.size)
    (hv : ∀ (k : Nat) (v : Value), b'.cells[k]? = some v → ∃ v', C'[k]? = some v' ∧ SR hm [] v v') :
    Rel (hm.put st.heap.next i) lb w0 U { st with heap := (st.heap.kill n).alloc b' } (bset w i.blk (.cells C' e fz)) a := by
  have hnx := r.fresh st.heap.next (Nat.le_refl _)
  refine r.frame (HM.put_le hnx) (r.toHRel.rename hbw hn hi hw hc hs hez hl hv) (fun k B hk => Ahl.bset_other (r.lheap k B n b i hk hn hi)) ?_
  intro k B m c j h1 h2 h3
  simp only [AH.alloc, AH.kill] at h2
  by_cases q : m = st.heap.next
  · subst q
    simp [HM.put] at h3; subst h3
    exact r.lheap k B n b i h1 hn hi
  · simp [q] at h2
    simp [HM.put, q] at h3
    exact r.lheap k B m c j h1 h2.2 h3

theorem Rel.kill (r : Rel hm lb w0 U st w a) (n : Nat) : Rel hm lb w0 U { st with heap := st.heap.kill n } w a := by
  refine r.frame (HM.le_refl _) (r.toHRel.kill n) (fun _ _ _ => rfl) ?_
  intro k B m c j h1 h2 h3
  simp only [AH.kill] at h2
  by_cases q : m = n
  · simp [q] at h2
  · simp [q] at h2; exact r.lheap k B m c j h1 h2 h3

/-- A store into a box. -/
theorem Rel.storeLoc (r : Rel hm lb w0 U st w a) {k B : Nat} {cs cs' : List Value} {C C' : Array Value} {e : TypeId} {fz : Nat × Nat}
    (hk : st.locs[k]? = some cs) (hB : lb[k]? = some B) (hc : w.heap[B]? = some (.cells C e fz)) (hs : C'.size = C.size) (hl : cs'.length = cs.length)
    (hv : ∀ (j : Nat) (v : Value), cs'[j]? = some v → ∃ v', C'[j]? = some v' ∧ SR hm lb v v') :
    Rel hm lb w0 U { st with locs := st.locs.set k cs' } (bset w B (.cells C' e fz)) a := by
  obtain ⟨B0, C0, e0, fz0, h1, h2, h3, h4, h5, h6⟩ := r.loc k cs hk
  rw [hB] at h1; cases h1
  rw [hc] at h2; cases h2
  refine { toHRel := r.toHRel.bset_other _ (fun n b i h1 h2 => r.lheap k B n b i hB h1 h2) h5.1, defers := r.defers, tsize := r.tsize, tmps := r.tmps, llen := by simp [r.llen], loc := ?_, linj := r.linj, lheap := r.lheap }
  intro j c hj
  simp only at hj
  by_cases q : j = k
  · subst q
    have hlt := lookup_lt hk
    rw [List.getElem?_set_self hlt] at hj
    cases hj
    exact ⟨B, C', e, fz, hB, bset_same hc, by omega, by rw [hs]; exact h4, h5, hv⟩
  · rw [List.getElem?_set_ne (fun z => q z.symm)] at hj
    obtain ⟨B1, C1, e1, fz1, g1, g2, g3⟩ := r.loc j c hj
    refine ⟨B1, C1, e1, fz1, g1, ?_, g3⟩
    have hne : B ≠ B1 := fun z => q (r.linj j k B1 g1 (by rw [hB, z]))
    rw [Ahl.bset_other hne]; exact g2
end

end Go.Ahl
