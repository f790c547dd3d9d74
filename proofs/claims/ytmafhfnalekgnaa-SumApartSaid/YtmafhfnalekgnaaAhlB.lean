/-
  The abstract heap logic, part two: how the relation fares when a block is made, written, renamed.
-/
import Derived.Test.YtmafhfnalekgnaaAhlA
namespace Go.Ahl
theorem Free.zero (n : Nat) : Free (0, 0) n := fun k _ hk => by omega
set_option linter.unusedVariables false

/-! ## The world with one block written -/
def bset (w : World) (B : Nat) (o : Obj) : World := { w with heap := w.heap.setIfInBounds B o }
theorem bset_get (w : World) (B : Nat) (o : Obj) (k : Nat) : (bset w B o).heap[k]? = if B = k then (if B < w.heap.size then some o else none) else w.heap[k]? := by
  simp only [bset, Array.getElem?_setIfInBounds]
theorem bset_size (w : World) (B : Nat) (o : Obj) : (bset w B o).heap.size = w.heap.size := by simp [bset]
theorem lt_of_get {w : World} {B : Nat} {o : Obj} (h : w.heap[B]? = some o) : B < w.heap.size := by
  rcases Nat.lt_or_ge B w.heap.size with q | q
  · exact q
  · rw [Array.getElem?_eq_none q] at h; cases h
theorem bset_same {w : World} {B : Nat} {o o' : Obj} (h : w.heap[B]? = some o) : (bset w B o').heap[B]? = some o' := by
  rw [bset_get]; simp [lt_of_get h]
theorem bset_other {w : World} {B k : Nat} {o : Obj} (h : B ≠ k) : (bset w B o).heap[k]? = w.heap[k]? := by
  rw [bset_get]; simp [h]
theorem bset_bset (w : World) (B : Nat) (o o' : Obj) : bset (bset w B o) B o' = bset w B o' := by
  simp [bset]
theorem bset_self {w : World} {B : Nat} {o : Obj} (h : w.heap[B]? = some o) : bset w B o = w := by
  have hl := lt_of_get h
  have : w.heap.setIfInBounds B o = w.heap := by
    refine Array.ext_getElem? fun k => ?_
    rw [Array.getElem?_setIfInBounds]
    by_cases e : B = k
    · subst e; simp [hl, ← h]
    · simp [e]
  simp [bset, this]

/-- All blocks that were there are as they were. -/
def Grows (w w' : World) : Prop := ∀ (B : Nat) (o : Obj), w.heap[B]? = some o → w'.heap[B]? = some o
theorem Grows.refl (w : World) : Grows w w := fun _ _ h => h
theorem Grows.trans {a b c : World} (h : Grows a b) (k : Grows b c) : Grows a c := fun B o e => k B o (h B o e)

/-- Nothing of the tuples and aggregates. -/
def one : Value → Bool
  | .agg _ | .tuple _ => false
  | _ => true

theorem SR.one {hm : HM} {lb : LM} {x v : Value} (e : SR hm lb x v) : Ahl.one v = true := by
  unfold SR at e
  split at e
  · obtain ⟨c, _, rfl⟩ := e; rfl
  · obtain ⟨i, o, cap', _, rfl, _⟩ := e; rfl
  · obtain ⟨c', rfl, _⟩ := e; rfl
  · cases e
  · cases e
  · subst e; rename_i h1 h2 h3 h4 h5
    cases v <;> first | rfl | (exact absurd rfl (h4 _)) | (exact absurd rfl (h5 _))

theorem run_store1 (P : Program) (w : World) (B off : Nat) (C : Array Value) (e : TypeId) (fz : Nat × Nat) (v : Value) (h : w.heap[B]? = some (.cells C e fz))
    (hl : off < C.size) (hf : ¬ (fz.1 ≤ off ∧ off < fz.2)) (hv : one v = true) :
    (store ⟨B, off, none⟩ v).run P w = .ok () (bset w B (.cells (C.setIfInBounds off v) e fz)) := by
  have hc : w.cell? ⟨B, off, none⟩ = some C[off] := by simp [World.cell?, h, hl]
  have hz : w.frozen? ⟨B, off, none⟩ = false := by
    have : fz = (fz.1, fz.2) := rfl
    rw [this] at h
    simp only [World.frozen?, h]
    by_cases q : fz.1 ≤ off
    · have : ¬ off < fz.2 := fun r => hf ⟨q, r⟩
      simp [this]
    · simp [q]
  have hs : w.setCell ⟨B, off, none⟩ v = bset w B (.cells (C.setIfInBounds off v) e fz) := by
    unfold World.setCell bset
    congr 1
    refine Array.ext_getElem? fun k => ?_
    rw [Array.getElem?_modify, Array.getElem?_setIfInBounds]
    by_cases q : B = k
    · subst q; rw [if_pos rfl, h]; simp [lt_of_get h]
    · simp [q]
  cases v <;> first | (simp [one] at hv; done) | (simp [store, Sem.run, hc, hz, hs])

theorem set_spl {α : Type} (l : List α) (o : Nat) (v : α) (vs : List α) (h : o + vs.length + 1 ≤ l.length) : spl (l.set o v) (o + 1) vs = spl l o (v :: vs) := by
  refine List.ext_getElem? fun k => ?_
  rw [spl_get (by simp; omega), spl_get (by simp; omega)]
  by_cases a : k < o
  · have : k < o + 1 := by omega
    simp only [this, a, if_true]
    rw [List.getElem?_set_ne (by omega)]
  · by_cases b : k = o
    · subst b
      have c1 : k < k + 1 := by omega
      have c2 : k < k + (v :: vs).length := by simp
      simp only [c1, if_true, c2, Nat.lt_irrefl, if_false, Nat.sub_self]
      rw [List.getElem?_set_self (by omega)]; rfl
    · have c1 : ¬ k < o + 1 := by omega
      simp only [c1, a, if_false]
      by_cases d : k < o + 1 + vs.length
      · have d' : k < o + (v :: vs).length := by simp; omega
        simp only [d, d', if_true]
        have : k - o = (k - (o + 1)) + 1 := by omega
        rw [this]; rfl
      · have d' : ¬ k < o + (v :: vs).length := by simp; omega
        simp only [d, d', if_false]
        rw [List.getElem?_set_ne (by omega)]

theorem run_storeCells (P : Program) (B off : Nat) (e : TypeId) (fz : Nat × Nat) : ∀ (vs : List Value) (i : Nat) (w : World) (C : Array Value), w.heap[B]? = some (.cells C e fz) →
    off + i + vs.length ≤ C.size → (∀ k, off + i ≤ k → k < off + i + vs.length → ¬ (fz.1 ≤ k ∧ k < fz.2)) → (∀ v ∈ vs, one v = true) →
    (storeCells ⟨B, off, none⟩ vs i).run P w = .ok () (bset w B (.cells (spl C.toList (off + i) vs).toArray e fz))
  | [], i, w, C, h, hl, hf, hv => by
    have : spl C.toList (off + i) [] = C.toList := by simp [spl]
    simp [storeCells, this, bset_self h]
  | v :: vs, i, w, C, h, hl, hf, hv => by
    have ha : (⟨B, off, none⟩ : Addr).add i = ⟨B, off + i, none⟩ := by
      unfold Addr.add; split
      · next q => simp [q]
      · rfl
    simp only [List.length_cons] at hl hf
    have h1 := run_store1 P w B (off + i) C e fz v h (by omega) (hf _ (by omega) (by omega)) (hv v (by simp))
    have h2 := run_storeCells P B off e fz vs (i + 1) (bset w B (.cells (C.setIfInBounds (off + i) v) e fz)) (C.setIfInBounds (off + i) v)
      (bset_same h) (by simp; omega) (fun k h1 h2 => hf k (by omega) (by omega)) (fun u hu => hv u (by simp [hu]))
    unfold storeCells
    rw [Sem.run_bind, ha, h1, Result.andThen_ok, h2, bset_bset]
    congr 3
    rw [← Nat.add_assoc]
    have : (C.setIfInBounds (off + i) v).toList = C.toList.set (off + i) v := by simp
    rw [this, set_spl _ _ _ _ (by simp; omega)]

/-- What a block's cells are after a part is written. -/
theorem arr_spl_get (C : Array Value) (o : Nat) (vs : List Value) (h : o + vs.length ≤ C.size) (k : Nat) :
    ((spl C.toList o vs).toArray)[k]? = if k < o then C[k]? else if k < o + vs.length then vs[k - o]? else C[k]? := by
  simp [spl_get (l := C.toList) (by simpa using h)]

theorem arr_spl_size (C : Array Value) (o : Nat) (vs : List Value) (h : o + vs.length ≤ C.size) : ((spl C.toList o vs).toArray).size = C.size := by
  simp [spl_length (l := C.toList) (by simpa using h)]

/-! ## Loading -/
theorem run_load1 (P : Program) (w : World) (B off : Nat) (C : Array Value) (e : TypeId) (fz : Nat × Nat) (v : Value) (h : w.heap[B]? = some (.cells C e fz)) (hv : C[off]? = some v) :
    (load ⟨B, off, none⟩).run P w = .ok v w := by
  have hc : w.cell? ⟨B, off, none⟩ = some v := by simp [World.cell?, h, hv]
  simp [load, Sem.run, hc]

theorem add_none (B off k : Nat) : (⟨B, off, none⟩ : Addr).add k = ⟨B, off + k, none⟩ := by
  unfold Addr.add; split
  · next q => simp [q]
  · rfl

theorem run_loadCellsFrom' (P : Program) (w : World) (B off : Nat) (C : Array Value) (e : TypeId) (fz : Nat × Nat) (h : w.heap[B]? = some (.cells C e fz)) :
    ∀ (n i : Nat) (acc : Array Value), off + i + n ≤ C.size → (loadCellsFrom ⟨B, off, none⟩ i n acc).run P w = .ok (acc ++ C.extract (off + i) (off + i + n)) w
  | 0, i, acc, hl => by
    simp only [loadCellsFrom, Sem.run_pure, Nat.add_zero]
    congr 1
    apply Array.toList_inj.1
    simp [List.extract_eq_take_drop]
  | n + 1, i, acc, hl => by
    unfold loadCellsFrom
    have hv : C[off + i]? = some C[off + i] := by rw [Array.getElem?_eq_getElem]
    rw [Sem.run_bind, add_none, run_load1 P w B (off + i) C e fz _ h hv, Result.andThen_ok, run_loadCellsFrom' P w B off C e fz h n (i + 1) _ (by omega)]
    congr 1
    apply Array.toList_inj.1
    simp only [Array.toList_append, Array.toList_push, Array.toList_extract, List.append_assoc]
    congr 1
    rw [List.extract_eq_take_drop, List.extract_eq_take_drop]
    have e1 : off + i + (n + 1) - (off + i) = n + 1 := by omega
    have e2 : off + (i + 1) + n - (off + (i + 1)) = n := by omega
    rw [e1, e2]
    have e3 : C.toList.drop (off + i) = C[off + i] :: C.toList.drop (off + i + 1) := List.drop_eq_getElem_cons (by simpa using by omega)
    rw [e3]
    simp [List.take_succ_cons, Nat.add_assoc]

theorem run_loadCells' (P : Program) (w : World) (B off : Nat) (C : Array Value) (e : TypeId) (fz : Nat × Nat) (n : Nat) (h : w.heap[B]? = some (.cells C e fz)) (hl : off + n ≤ C.size) :
    (loadCells ⟨B, off, none⟩ n).run P w = .ok (C.extract off (off + n)) w := by
  unfold loadCells
  rw [run_loadCellsFrom' P w B off C e fz h n 0 #[] (by omega)]
  simp

/-! ## The relation, world by world -/
def AS.put (st : AS) (d : Option Nat) (v : Value) : AS :=
  match d with
  | some d => { st with tmps := fun t => if t = d then v else st.tmps t }
  | none => st

section
variable {hm : HM} {lb : LM} {w0 : World} {U : Env} {st : AS} {w : World} {a : Act}

theorem Rel.put (r : Rel hm lb w0 U st w a) (d : Option Nat) {v cv : Value} (h : VR hm lb v cv) : Rel hm lb w0 U (st.put d v) w (a.put d cv) := by
  cases d with
  | none => exact r
  | some d =>
    refine { toHRel := r.toHRel, defers := r.defers, tsize := by simpa [Act.put, AS.put] using r.tsize, tmps := ?_, llen := r.llen, loc := r.loc, linj := r.linj, lheap := r.lheap }
    intro t ht
    obtain ⟨u, hu, hr⟩ := r.tmps t ht
    by_cases e : t = d
    · subst e
      refine ⟨cv, ?_, by simpa [AS.put] using h⟩
      simp only [Act.put, Array.getElem?_setIfInBounds]
      have : t < a.tmps.size := by rw [r.tsize]; exact ht
      simp [this]
    · refine ⟨u, ?_, by simpa [AS.put, e] using hr⟩
      simp only [Act.put, Array.getElem?_setIfInBounds]
      have : d ≠ t := fun q => e q.symm
      simp [this, hu]

theorem HRel.drawn {H : AH} (r : HRel hm w0 U H w) (k : Nat) : HRel hm w0 U H { w with drawn := k } :=
  { nsz := r.nsz, os := r.os, tape := r.tape, output := r.output, size := r.size, prot := r.prot, fresh := r.fresh, blk := r.blk, inj := r.inj }
theorem Rel.drawn (r : Rel hm lb w0 U st w a) (k : Nat) : Rel hm lb w0 U st { w with drawn := k } a :=
  { toHRel := r.toHRel.drawn k, defers := r.defers, tsize := r.tsize, tmps := r.tmps, llen := r.llen, loc := r.loc, linj := r.linj, lheap := r.lheap }

theorem alloc_get_old {w : World} {o : Obj} {k : Nat} {x : Obj} (h : w.heap[k]? = some x) : (w.alloc o).heap[k]? = some x := by
  have := lt_of_get h
  show (w.heap.push o)[k]? = _
  rw [Array.getElem?_push, if_neg (by omega), h]
theorem Grows.alloc (w : World) (o : Obj) : Grows w (w.alloc o) := fun B x h => alloc_get_old h
theorem Grows.alloc_drawn (w : World) (k : Nat) (o : Obj) : Grows w (World.alloc { w with drawn := k } o) := fun B x h => alloc_get_old (w := { w with drawn := k }) h
theorem alloc_get_new (w : World) (o : Obj) : (w.alloc o).heap[w.heap.size]? = some o := by
  show (w.heap.push o)[w.heap.size]? = _
  simp
theorem alloc_get_lt {w : World} {o : Obj} {k : Nat} (h : k < w.heap.size) : (w.alloc o).heap[k]? = w.heap[k]? := by
  show (w.heap.push o)[k]? = _
  rw [Array.getElem?_push, if_neg (by omega)]

theorem HRel.alloc {H : AH} (r : HRel hm w0 U H w) (o : Obj) : HRel hm w0 U H (w.alloc o) where
  nsz := by simp; have := r.nsz; omega
  os := r.os
  tape := r.tape
  output := r.output
  size := by simp; have := r.size; omega
  prot := fun B hB => by
    obtain ⟨h1, h2⟩ := r.prot B hB
    have := r.size
    exact ⟨h1, (alloc_get_lt (by omega)).trans h2⟩
  fresh := r.fresh
  blk := fun n b h => by
    obtain ⟨i, C, e, fz, h1, h2, h3⟩ := r.blk n b h
    exact ⟨i, C, e, fz, h1, alloc_get_old h2, h3⟩
  inj := r.inj

theorem Rel.alloc (r : Rel hm lb w0 U st w a) (o : Obj) : Rel hm lb w0 U st (w.alloc o) a :=
  { toHRel := r.toHRel.alloc o, defers := r.defers, tsize := r.tsize, tmps := r.tmps, llen := r.llen,
    loc := fun k cs h => by
      obtain ⟨B, C, e, fz, h1, h2, h3⟩ := r.loc k cs h
      exact ⟨B, C, e, fz, h1, alloc_get_old h2, h3⟩
    linj := r.linj, lheap := r.lheap }

/-- Every block that a live name or a box stands for is there. -/
theorem HRel.blk_lt {H : AH} (r : HRel hm w0 U H w) {n : Nat} {b : Blk} {i : Info} (h : H.get n = some b) (hi : hm n = some i) : i.blk < w.heap.size := by
  obtain ⟨i', C, e, fz, h1, h2, _⟩ := r.blk n b h
  rw [hi] at h1; cases h1
  exact lt_of_get h2
theorem Rel.loc_lt (r : Rel hm lb w0 U st w a) {k B : Nat} (h : lb[k]? = some B) : B < w.heap.size := by
  have hk : k < st.locs.length := by
    rw [← r.llen]
    rcases Nat.lt_or_ge k lb.length with q | q
    · exact q
    · rw [List.getElem?_eq_none q] at h; cases h
  obtain ⟨B', C, e, fz, h1, h2, _⟩ := r.loc k _ (List.getElem?_eq_getElem hk)
  rw [h] at h1; cases h1
  exact lt_of_get h2

theorem app_old {lb : LM} {x : Nat} : ∀ (k B : Nat), lb[k]? = some B → (lb ++ [x])[k]? = some B := by
  intro k B h
  have : k < lb.length := by
    rcases Nat.lt_or_ge k lb.length with q | q
    · exact q
    · rw [List.getElem?_eq_none q] at h; cases h
  rw [List.getElem?_append_left this]; exact h

/-- A new box of the frame. -/
theorem Rel.newLoc (r : Rel hm lb w0 U st w a) (C : Array Value) (e : TypeId) (cs : List Value) (h : L2 (SR hm lb) cs C.toList) (hU : ∀ B, U B → B < w.heap.size) :
    Rel hm (lb ++ [w.heap.size]) w0 U { st with locs := st.locs ++ [cs] } (w.alloc (.cells C e)) a := by
  have ho := app_old (lb := lb) (x := w.heap.size)
  refine { toHRel := r.toHRel.alloc _, defers := r.defers, tsize := r.tsize, tmps := ?_, llen := by simp [r.llen], loc := ?_, linj := ?_, lheap := ?_ }
  · intro t ht
    obtain ⟨v, h1, h2⟩ := r.tmps t ht
    exact ⟨v, h1, h2.mono (HM.le_refl _) ho⟩
  · intro k c hk
    simp only at hk
    by_cases q : k < st.locs.length
    · rw [List.getElem?_append_left q] at hk
      obtain ⟨B, C', e', fz, h1, h2, h3, h4, h5, h6⟩ := r.loc k c hk
      refine ⟨B, C', e', fz, ho _ _ h1, alloc_get_old h2, h3, h4, h5, fun j v hj => ?_⟩
      obtain ⟨v', h7, h8⟩ := h6 j v hj
      exact ⟨v', h7, h8.mono (HM.le_refl _) ho⟩
    · rw [List.getElem?_append_right (by omega)] at hk
      have hz : k - st.locs.length = 0 := by
        rcases Nat.eq_zero_or_pos (k - st.locs.length) with z | z
        · exact z
        · rw [List.getElem?_eq_none (by simp; omega)] at hk; cases hk
      rw [hz] at hk
      simp at hk
      subst hk
      have hk' : k = lb.length := by rw [r.llen]; omega
      refine ⟨w.heap.size, C, e, (0, 0), by rw [hk']; simp, alloc_get_new w _, by simpa using h.1.symm, fun k _ hk => by omega, ⟨fun hu => by have := hU _ hu; omega, r.nsz⟩, fun j v hj => ?_⟩
      obtain ⟨v', h7, h8⟩ := h.get hj
      exact ⟨v', by simpa using h7, h8.mono (HM.le_refl _) ho⟩
  · intro k k' B h1 h2
    have key : ∀ k, (lb ++ [w.heap.size])[k]? = some B → (lb[k]? = some B) ∨ (k = lb.length ∧ B = w.heap.size) := by
      intro k hk
      by_cases q : k < lb.length
      · rw [List.getElem?_append_left q] at hk; exact .inl hk
      · rw [List.getElem?_append_right (by omega)] at hk
        have hz : k - lb.length = 0 := by
          rcases Nat.eq_zero_or_pos (k - lb.length) with z | z
          · exact z
          · rw [List.getElem?_eq_none (by simp; omega)] at hk; cases hk
        rw [hz] at hk
        simp at hk
        exact .inr ⟨by omega, hk.symm⟩
    rcases key k h1 with a1 | ⟨a1, b1⟩ <;> rcases key k' h2 with a2 | ⟨a2, b2⟩
    · exact r.linj k k' B a1 a2
    · have := r.loc_lt a1; omega
    · have := r.loc_lt a2; omega
    · omega
  · intro k B n b i h1 h2 h3
    have := r.toHRel.blk_lt h2 h3
    by_cases q : k < lb.length
    · rw [List.getElem?_append_left q] at h1; exact r.lheap k B n b i h1 h2 h3
    · rw [List.getElem?_append_right (by omega)] at h1
      have hz : k - lb.length = 0 := by
        rcases Nat.eq_zero_or_pos (k - lb.length) with z | z
        · exact z
        · rw [List.getElem?_eq_none (by simp; omega)] at h1; cases h1
      rw [hz] at h1
      simp at h1
      omega

def HM.put (hm : HM) (n : Nat) (i : Info) : HM := fun m => if m = n then some i else hm m
theorem HM.put_le {hm : HM} {n : Nat} {i : Info} (h : hm n = none) : hm.le (hm.put n i) := by
  intro m j hj
  unfold HM.put
  by_cases e : m = n
  · subst e; rw [h] at hj; cases hj
  · simp [e, hj]

/-- A new block of the heap: the cells that are named, and perhaps some more behind. -/
theorem HRel.newBlk {H : AH} (r : HRel hm w0 U H w) (C : Array Value) (e : TypeId) (fz0 : Nat × Nat) (hf0 : Free fz0 C.size) (b : Blk) (hbw : b.wr = true) (hlen : b.cells.length ≤ C.size)
    (h : ∀ (k : Nat) (v : Value), b.cells[k]? = some v → ∃ v', C[k]? = some v' ∧ SR hm [] v v') :
    HRel (hm.put H.next ⟨w.heap.size, 0, C.size, b.esz⟩) w0 U (H.alloc b) (w.alloc (.cells C e fz0)) := by
  have hn := r.fresh H.next (Nat.le_refl _)
  have hle := HM.put_le (i := ⟨w.heap.size, 0, C.size, b.esz⟩) hn
  have hU : ¬ U w.heap.size := fun hu => by have := (r.prot _ hu).1; have := r.size; omega
  refine { nsz := (r.alloc (.cells C e fz0)).nsz, os := r.os, tape := r.tape, output := r.output, size := (r.alloc (.cells C e fz0)).size, prot := (r.alloc (.cells C e fz0)).prot, fresh := ?_, blk := ?_, inj := ?_ }
  · intro n hn'
    simp only [AH.alloc] at hn'
    unfold HM.put
    rw [if_neg (by omega)]
    exact r.fresh n (by omega)
  · intro n c hc
    simp only [AH.alloc] at hc
    by_cases q : n = H.next
    · subst q
      simp at hc; subst hc
      refine ⟨⟨w.heap.size, 0, C.size, b.esz⟩, C, e, fz0, by simp [HM.put], alloc_get_new w _, rfl, rfl, by simpa using hlen, fun k v hk => ?_, ⟨fun _ => ⟨rfl, hf0, hU⟩, fun q => by rw [hbw] at q; cases q⟩⟩
      obtain ⟨v', h1, h2⟩ := h k v hk
      exact ⟨v', by simpa using h1, h2.mono hle fun _ _ x => x⟩
    · simp [q] at hc
      obtain ⟨i, C', e', fz, h1, h2, h3, h4, h5, h6, h7⟩ := r.blk n c hc
      refine ⟨i, C', e', fz, hle _ _ h1, alloc_get_old h2, h3, h4, h5, fun k v hk => ?_, h7⟩
      obtain ⟨v', h8, h9⟩ := h6 k v hk
      exact ⟨v', h8, h9.mono hle fun _ _ x => x⟩
  · intro n c n' c' i i' h1 h2 h3 h4 h5 h6
    simp only [AH.alloc] at h1 h3
    by_cases q : n = H.next <;> by_cases q' : n' = H.next
    · omega
    · subst q
      simp [HM.put] at h5; simp [q'] at h3
      simp [HM.put, q'] at h6
      have := r.blk_lt h3 h6
      rw [← h5]; simp; omega
    · subst q'
      simp [HM.put] at h6; simp [q] at h1
      simp [HM.put, q] at h5
      have := r.blk_lt h1 h5
      rw [← h6]; simp; omega
    · simp [q] at h1; simp [q'] at h3
      simp [HM.put, q] at h5; simp [HM.put, q'] at h6
      exact r.inj n c n' c' i i' h1 h2 h3 h4 h5 h6
end

end Go.Ahl
