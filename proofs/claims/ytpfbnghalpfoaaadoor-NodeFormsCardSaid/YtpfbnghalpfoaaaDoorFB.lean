/-
  A logic over the model, part two: how the relation fares when a block is made, written, grown, frozen, forgotten.
-/
import Derived.Test.YtpfbnghalpfoaaaDoorFA
namespace Go.Fhl
set_option linter.unusedVariables false
set_option linter.unusedSimpArgs false

/-! ## The world with one block written -/
def bset (w : World) (B : Nat) (o : Obj) : World := { w with heap := w.heap.setIfInBounds B o }
theorem bset_get (w : World) (B : Nat) (o : Obj) (k : Nat) : (bset w B o).heap[k]? = if B = k then (if B < w.heap.size then some o else none) else w.heap[k]? := by
  simp only [bset, Array.getElem?_setIfInBounds]
theorem bset_size (w : World) (B : Nat) (o : Obj) : (bset w B o).heap.size = w.heap.size := by simp [bset]
theorem lt_of_get {w : World} {B : Nat} {o : Obj} (h : w.heap[B]? = some o) : B < w.heap.size := by
  rcases Nat.lt_or_ge B w.heap.size with q | q
  · exact q
  · rw [Array.getElem?_eq_none q] at h; cases h
theorem bset_same {w : World} {B : Nat} {o o' : Obj} (h : w.heap[B]? = some o) : (bset w B o').heap[B]? = some o' := by
  rw [bset_get]; simp [lt_of_get h]
theorem bset_other {w : World} {B k : Nat} {o : Obj} (h : B ≠ k) : (bset w B o).heap[k]? = w.heap[k]? := by
  rw [bset_get]; simp [h]
theorem bset_bset (w : World) (B : Nat) (o o' : Obj) : bset (bset w B o) B o' = bset w B o' := by
  simp [bset]
theorem bset_self {w : World} {B : Nat} {o : Obj} (h : w.heap[B]? = some o) : bset w B o = w := by
  have hl := lt_of_get h
  have : w.heap.setIfInBounds B o = w.heap := by
    refine Array.ext_getElem? fun k => ?_
    rw [Array.getElem?_setIfInBounds]
    by_cases e : B = k
    · subst e; simp [hl, ← h]
    · simp [e]
  simp [bset, this]

theorem run_store1 (P : Program) (w : World) (B off : Nat) (C : Array Value) (e : TypeId) (fz : Nat × Nat) (v : Value) (h : w.heap[B]? = some (.cells C e fz))
    (hl : off < C.size) (hf : ¬ (fz.1 ≤ off ∧ off < fz.2)) (hv : one v = true) :
    (store ⟨B, off, none⟩ v).run P w = .ok () (bset w B (.cells (C.setIfInBounds off v) e fz)) := by
  have hc : w.cell? ⟨B, off, none⟩ = some C[off] := by simp [World.cell?, h, hl]
  have hz : w.frozen? ⟨B, off, none⟩ = false := by
    have : fz = (fz.1, fz.2) := rfl
    rw [this] at h
    simp only [World.frozen?, h]
    by_cases q : fz.1 ≤ off
    · have : ¬ off < fz.2 := fun r => hf ⟨q, r⟩
      simp [this]
    · simp [q]
  have hs : w.setCell ⟨B, off, none⟩ v = bset w B (.cells (C.setIfInBounds off v) e fz) := by
    unfold World.setCell bset
    congr 1
    refine Array.ext_getElem? fun k => ?_
    rw [Array.getElem?_modify, Array.getElem?_setIfInBounds]
    by_cases q : B = k
    · subst q; rw [if_pos rfl, h]; simp [lt_of_get h]
    · simp [q]
  cases v <;> first | (simp [one] at hv; done) | (simp [store, Sem.run, hc, hz, hs])

theorem set_spl {α : Type} (l : List α) (o : Nat) (v : α) (vs : List α) (h : o + vs.length + 1 ≤ l.length) : spl (l.set o v) (o + 1) vs = spl l o (v :: vs) := by
  refine List.ext_getElem? fun k => ?_
  rw [spl_get (by simp; omega), spl_get (by simp; omega)]
  by_cases a : k < o
  · have : k < o + 1 := by omega
    simp only [this, a, if_true]
    rw [List.getElem?_set_ne (by omega)]
  · by_cases b : k = o
    · subst b
      have c1 : k < k + 1 := by omega
      have c2 : k < k + (v :: vs).length := by simp
      simp only [c1, if_true, c2, Nat.lt_irrefl, if_false, Nat.sub_self]
      rw [List.getElem?_set_self (by omega)]; rfl
    · have c1 : ¬ k < o + 1 := by omega
      simp only [c1, a, if_false]
      by_cases d : k < o + 1 + vs.length
      · have d' : k < o + (v :: vs).length := by simp; omega
        simp only [d, d', if_true]
        have : k - o = (k - (o + 1)) + 1 := by omega
        rw [this]; rfl
      · have d' : ¬ k < o + (v :: vs).length := by simp; omega
        simp only [d, d', if_false]
        rw [List.getElem?_set_ne (by omega)]

theorem run_storeCells (P : Program) (B off : Nat) (e : TypeId) (fz : Nat × Nat) : ∀ (vs : List Value) (i : Nat) (w : World) (C : Array Value), w.heap[B]? = some (.cells C e fz) →
    off + i + vs.length ≤ C.size → (∀ k, off + i ≤ k → k < off + i + vs.length → ¬ (fz.1 ≤ k ∧ k < fz.2)) → (∀ v ∈ vs, one v = true) →
    (storeCells ⟨B, off, none⟩ vs i).run P w = .ok () (bset w B (.cells (spl C.toList (off + i) vs).toArray e fz))
  | [], i, w, C, h, hl, hf, hv => by
    have : spl C.toList (off + i) [] = C.toList := by simp [spl]
    simp [storeCells, this, bset_self h]
  | v :: vs, i, w, C, h, hl, hf, hv => by
    have ha : (⟨B, off, none⟩ : Addr).add i = ⟨B, off + i, none⟩ := by
      unfold Addr.add; split
      · next q => simp [q]
      · rfl
    simp only [List.length_cons] at hl hf
    have h1 := run_store1 P w B (off + i) C e fz v h (by omega) (hf _ (by omega) (by omega)) (hv v (by simp))
    have h2 := run_storeCells P B off e fz vs (i + 1) (bset w B (.cells (C.setIfInBounds (off + i) v) e fz)) (C.setIfInBounds (off + i) v)
      (bset_same h) (by simp; omega) (fun k h1 h2 => hf k (by omega) (by omega)) (fun u hu => hv u (by simp [hu]))
    unfold storeCells
    rw [Sem.run_bind, ha, h1, Result.andThen_ok, h2, bset_bset]
    congr 3
    rw [← Nat.add_assoc]
    have : (C.setIfInBounds (off + i) v).toList = C.toList.set (off + i) v := by simp
    rw [this, set_spl _ _ _ _ (by simp; omega)]

/-- What a block's cells are after a part is written. -/
theorem arr_spl_get (C : Array Value) (o : Nat) (vs : List Value) (h : o + vs.length ≤ C.size) (k : Nat) :
    ((spl C.toList o vs).toArray)[k]? = if k < o then C[k]? else if k < o + vs.length then vs[k - o]? else C[k]? := by
  simp [spl_get (l := C.toList) (by simpa using h)]

theorem arr_spl_size (C : Array Value) (o : Nat) (vs : List Value) (h : o + vs.length ≤ C.size) : ((spl C.toList o vs).toArray).size = C.size := by
  simp [spl_length (l := C.toList) (by simpa using h)]

/-! ## Loading -/
theorem run_load1 (P : Program) (w : World) (B off : Nat) (C : Array Value) (e : TypeId) (fz : Nat × Nat) (v : Value) (h : w.heap[B]? = some (.cells C e fz)) (hv : C[off]? = some v) :
    (load ⟨B, off, none⟩).run P w = .ok v w := by
  have hc : w.cell? ⟨B, off, none⟩ = some v := by simp [World.cell?, h, hv]
  simp [load, Sem.run, hc]

theorem add_none (B off k : Nat) : (⟨B, off, none⟩ : Addr).add k = ⟨B, off + k, none⟩ := by
  unfold Addr.add; split
  · next q => simp [q]
  · rfl

theorem run_loadCellsFrom' (P : Program) (w : World) (B off : Nat) (C : Array Value) (e : TypeId) (fz : Nat × Nat) (h : w.heap[B]? = some (.cells C e fz)) :
    ∀ (n i : Nat) (acc : Array Value), off + i + n ≤ C.size → (loadCellsFrom ⟨B, off, none⟩ i n acc).run P w = .ok (acc ++ C.extract (off + i) (off + i + n)) w
  | 0, i, acc, hl => by
    simp only [loadCellsFrom, Sem.run_pure, Nat.add_zero]
    congr 1
    apply Array.toList_inj.1
    simp [List.extract_eq_take_drop]
  | n + 1, i, acc, hl => by
    unfold loadCellsFrom
    have hv : C[off + i]? = some C[off + i] := by rw [Array.getElem?_eq_getElem]
    rw [Sem.run_bind, add_none, run_load1 P w B (off + i) C e fz _ h hv, Result.andThen_ok, run_loadCellsFrom' P w B off C e fz h n (i + 1) _ (by omega)]
    congr 1
    apply Array.toList_inj.1
    simp only [Array.toList_append, Array.toList_push, Array.toList_extract, List.append_assoc]
    congr 1
    rw [List.extract_eq_take_drop, List.extract_eq_take_drop]
    have e1 : off + i + (n + 1) - (off + i) = n + 1 := by omega
    have e2 : off + (i + 1) + n - (off + (i + 1)) = n := by omega
    rw [e1, e2]
    have e3 : C.toList.drop (off + i) = C[off + i] :: C.toList.drop (off + i + 1) := List.drop_eq_getElem_cons (by simpa using by omega)
    rw [e3]
    simp [List.take_succ_cons, Nat.add_assoc]

theorem run_loadCells' (P : Program) (w : World) (B off : Nat) (C : Array Value) (e : TypeId) (fz : Nat × Nat) (n : Nat) (h : w.heap[B]? = some (.cells C e fz)) (hl : off + n ≤ C.size) :
    (loadCells ⟨B, off, none⟩ n).run P w = .ok (C.extract off (off + n)) w := by
  unfold loadCells
  rw [run_loadCellsFrom' P w B off C e fz h n 0 #[] (by omega)]
  simp

/-! ## The relation, world by world -/
def putL (n : Nat) (l : List (Nat × Value)) (d : Option Nat) (v : Value) : List (Nat × Value) :=
  match d with
  | some d => cond (Nat.blt d n) (ups l d v) l
  | none => l
def AS.put (st : AS) (d : Option Nat) (v : Value) : AS := { st with tmps := putL st.n st.tmps d v }
theorem lk_putL {n : Nat} {l : List (Nat × Value)} {d : Option Nat} {v : Value} {t : Nat} {u : Value} (hu : lk (putL n l d v) t = some u) :
    (∃ e, d = some e ∧ t = e ∧ e < n ∧ u = v) ∨ (lk l t = some u ∧ ∀ e, d = some e → (t ≠ e ∨ ¬ e < n)) := by
  cases d with
  | none => exact .inr ⟨hu, fun e q => by cases q⟩
  | some d =>
    simp only [putL] at hu
    cases hb : Nat.blt d n with
    | true =>
      have hlt : d < n := by rw [Nat.blt_eq] at hb; exact hb
      simp only [hb, cond_true] at hu
      rw [lk_ups] at hu
      by_cases e : t = d
      · simp only [e, if_true] at hu; cases hu; exact .inl ⟨d, rfl, e, hlt, rfl⟩
      · simp only [e, if_false] at hu; exact .inr ⟨hu, fun e' q => by cases q; exact .inl e⟩
    | false =>
      have hlt : ¬ d < n := fun q => by rw [← Nat.blt_eq] at q; rw [q] at hb; cases hb
      simp only [hb, cond_false] at hu
      exact .inr ⟨hu, fun e' q => by cases q; exact .inr hlt⟩

theorem alloc_get_old {w : World} {o : Obj} {k : Nat} {x : Obj} (h : w.heap[k]? = some x) : (w.alloc o).heap[k]? = some x := by
  have := lt_of_get h
  show (w.heap.push o)[k]? = _
  rw [Array.getElem?_push, if_neg (by omega), h]
theorem alloc_get_new (w : World) (o : Obj) : (w.alloc o).heap[w.heap.size]? = some o := by
  show (w.heap.push o)[w.heap.size]? = _
  simp
theorem alloc_get_lt {w : World} {o : Obj} {k : Nat} (h : k < w.heap.size) : (w.alloc o).heap[k]? = w.heap[k]? := by
  show (w.heap.push o)[k]? = _
  rw [Array.getElem?_push, if_neg (by omega)]

/-- A block of the world of which we know nothing that is not known still. -/
theorem There.mono {hm hm' : GM} {U : Env} {w w' : World} {i : Info} {cells : List Value} (t : There hm U w i cells) (h : hm.le hm') (hw : w'.heap[i.blk]? = w.heap[i.blk]?)
    (hz : ∀ k, k < i.size → hm'.fz i.blk k = none) : There hm' U w' i cells := by
  obtain ⟨C, e, fz, h1, h2, h3, h4, h5, h6, h7⟩ := t
  refine ⟨C, e, fz, by rw [hw]; exact h1, h2, h3, h4, h5, hz, fun k v hk => ?_⟩
  obtain ⟨v', h8, h9⟩ := h7 k v hk
  exact ⟨v', h8, h9.mono h (LM.le_refl _)⟩

section
variable {hm : GM} {lb : LM} {w0 : World} {U : Env} {st : AS} {w : World} {a : Act}

theorem Rel.put (r : Rel hm lb w0 U st w a) (d : Option Nat) {v cv : Value} (h : VR hm lb v cv) : Rel hm lb w0 U (st.put d v) w (a.put d cv) := by
  refine { toHRel := r.toHRel, defers := ?_, tsize := ?_, base_le := r.base_le, tmps := ?_, llen := r.llen, loc := r.loc, linj := r.linj, lheap := r.lheap }
  · cases d <;> exact r.defers
  · cases d with
    | none => exact r.tsize
    | some d => simpa [Act.put, AS.put] using r.tsize
  intro t u hu
  rcases lk_putL hu with ⟨d, rfl, rfl, hlt, rfl⟩ | ⟨hu, hne⟩
  · refine ⟨cv, ?_, h⟩
    simp only [Act.put, Array.getElem?_setIfInBounds]
    have : t < a.tmps.size := by rw [r.tsize]; exact hlt
    simp [this]
  · obtain ⟨x, hx, hr⟩ := r.tmps t u hu
    refine ⟨x, ?_, hr⟩
    cases d with
    | none => exact hx
    | some d =>
      simp only [Act.put, Array.getElem?_setIfInBounds]
      rcases hne d rfl with q | q
      · have : d ≠ t := fun e => q e.symm
        simp [this, hx]
      · have q' : ¬ d < a.tmps.size := by rw [r.tsize]; exact q
        by_cases e : d = t
        · subst e
          have := alookup_lt hx
          exact absurd this q'
        · simp [e, hx]

theorem HRel.drawn {H : AH} (r : HRel hm w0 U H w) (k : Nat) : HRel hm w0 U H { w with drawn := k } :=
  { os := r.os, tape := r.tape, output := r.output, size := r.size, prot := r.prot, protz := r.protz, fresh := r.fresh, frz := r.frz, blk := r.blk, inj := r.inj }
theorem Rel.drawn (r : Rel hm lb w0 U st w a) (k : Nat) : Rel hm lb w0 U st { w with drawn := k } a :=
  { toHRel := r.toHRel.drawn k, defers := r.defers, tsize := r.tsize, base_le := r.base_le, tmps := r.tmps, llen := r.llen, loc := r.loc, linj := r.linj, lheap := r.lheap }

/-- Every block that a name or a box stands for is there. -/
theorem There.lt {i : Info} {cells : List Value} (t : There hm U w i cells) : i.blk < w.heap.size := by
  obtain ⟨C, e, fz, h1, _⟩ := t
  exact lt_of_get h1
theorem HRel.blk_lt {H : AH} (r : HRel hm w0 U H w) {n : Nat} {b : Blk} {i : Info} (h : H.get n = some b) (hi : hm.map n = some i) (hs : i.size ≠ 0) : i.blk < w.heap.size := by
  obtain ⟨i', h1, h2, h3, h4, _, h5⟩ := r.blk n b h
  rw [hi] at h1; cases h1
  rcases h5 with ⟨_, h6, _⟩ | h6
  · exact absurd h6 hs
  · exact h6.lt
theorem Rel.loc_lt (r : Rel hm lb w0 U st w a) {k B : Nat} (h : lb[k]? = some B) : B < w.heap.size := by
  have hk : k < st.locs.length := by rw [← r.llen]; exact lookup_lt h
  obtain ⟨B', C, e, fz, h1, h2, _⟩ := r.loc k _ (List.getElem?_eq_getElem hk)
  rw [h] at h1; cases h1
  exact lt_of_get h2
theorem HRel.fz_lt {H : AH} (r : HRel hm w0 U H w) {B k : Nat} {v : Value} (h : hm.fz B k = some v) : B < w.heap.size := by
  obtain ⟨_, C, e, fz, v', h1, _⟩ := r.frz B k v h
  exact lt_of_get h1
theorem HRel.ult {H : AH} (r : HRel hm w0 U H w) {B : Nat} (h : U.U B) : B < w.heap.size := by
  have := (r.prot B h).1; have := r.size; omega

/-- A change of the world that leaves all blocks that were there. -/
theorem HRel.alloc {H : AH} (r : HRel hm w0 U H w) (o : Obj) : HRel hm w0 U H (w.alloc o) where
  os := r.os
  tape := r.tape
  output := r.output
  size := by simp; have := r.size; omega
  prot := fun B hB => ⟨(r.prot B hB).1, (alloc_get_lt (r.ult hB)).trans (r.prot B hB).2⟩
  protz := r.protz
  fresh := r.fresh
  frz := fun B k v h => by
    obtain ⟨h1, C, e, fz, v', h2, h3⟩ := r.frz B k v h
    exact ⟨h1, C, e, fz, v', alloc_get_old h2, h3⟩
  blk := fun n b h => by
    obtain ⟨i, h1, h2, h3, h4, hp, h5⟩ := r.blk n b h
    refine ⟨i, h1, h2, h3, h4, hp, h5.imp id fun t => ?_⟩
    obtain ⟨C, e, fz, g1, g2⟩ := t
    exact ⟨C, e, fz, alloc_get_old g1, g2⟩
  inj := r.inj

theorem Rel.alloc (r : Rel hm lb w0 U st w a) (o : Obj) : Rel hm lb w0 U st (w.alloc o) a :=
  { toHRel := r.toHRel.alloc o, defers := r.defers, tsize := r.tsize, base_le := r.base_le, tmps := r.tmps, llen := r.llen,
    loc := fun k cs h => by
      obtain ⟨B, C, e, fz, h1, h2, h3⟩ := r.loc k cs h
      exact ⟨B, C, e, fz, h1, alloc_get_old h2, h3⟩
    linj := r.linj, lheap := r.lheap }

theorem app_cases {α : Type} {l : List α} {x y : α} {k : Nat} (h : (l ++ [x])[k]? = some y) : l[k]? = some y ∨ (k = l.length ∧ y = x) := by
  by_cases q : k < l.length
  · rw [List.getElem?_append_left q] at h; exact .inl h
  · rw [List.getElem?_append_right (by omega)] at h
    have hz : k - l.length = 0 := by
      rcases Nat.eq_zero_or_pos (k - l.length) with z | z
      · exact z
      · rw [List.getElem?_eq_none (by simp; omega)] at h; cases h
    rw [hz] at h
    simp at h
    exact .inr ⟨by omega, h.symm⟩

/-- A new box of the frame. -/
theorem Rel.newLoc (r : Rel hm lb w0 U st w a) (C : Array Value) (e : TypeId) (cs : List Value) (h : L2 (SR hm lb) cs C.toList) :
    Rel hm (lb ++ [w.heap.size]) w0 U { st with locs := st.locs ++ [cs] } (w.alloc (.cells C e)) a := by
  have ho := LM.app_le lb w.heap.size
  refine { toHRel := r.toHRel.alloc _, defers := r.defers, tsize := r.tsize, base_le := r.base_le, tmps := ?_, llen := by simp [r.llen], loc := ?_, linj := ?_, lheap := ?_ }
  · intro t v ht
    obtain ⟨cv, h1, h2⟩ := r.tmps t v ht
    exact ⟨cv, h1, h2.mono (GM.le_refl _) ho⟩
  · intro k c hk
    rcases app_cases hk with hk | ⟨hk2, rfl⟩
    · obtain ⟨B, C', e', fz, h1, h2, h3, h4, h5, h6, h7⟩ := r.loc k c hk
      refine ⟨B, C', e', fz, ho _ _ h1, alloc_get_old h2, h3, h4, h5, h6, fun j v hj => ?_⟩
      obtain ⟨v', h8, h9⟩ := h7 j v hj
      exact ⟨v', h8, h9.mono (GM.le_refl _) ho⟩
    · refine ⟨w.heap.size, C, e, (0, 0), by rw [hk2, ← r.llen]; simp, alloc_get_new w _, by simpa using h.1.symm, Free.zero _, fun hu => by have := r.ult hu; omega, fun k => ?_, fun j v hj => ?_⟩
      · cases hz : hm.fz w.heap.size k with
        | none => rfl
        | some v => have := r.fz_lt hz; omega
      · obtain ⟨v', h7, h8⟩ := h.get hj
        exact ⟨v', by simpa using h7, h8.mono (GM.le_refl _) ho⟩
  · intro k k' B h1 h2
    rcases app_cases h1 with a1 | ⟨a1, b1⟩ <;> rcases app_cases h2 with a2 | ⟨a2, b2⟩
    · exact r.linj k k' B a1 a2
    · have := r.loc_lt a1; omega
    · have := r.loc_lt a2; omega
    · omega
  · intro k B n b i h1 h2 h3 h4
    have := r.toHRel.blk_lt h2 h3 h4
    rcases app_cases h1 with a1 | ⟨a1, b1⟩
    · exact r.lheap k B n b i a1 h2 h3 h4
    · omega

def GM.put (hm : GM) (n : Nat) (i : Info) : GM := ⟨fun m => if m = n then some i else hm.map m, hm.fz⟩
theorem GM.put_same {hm : GM} {n : Nat} {i : Info} : (hm.put n i).map n = some i := by simp [GM.put]
theorem GM.put_ne {hm : GM} {n m : Nat} {i : Info} (h : m ≠ n) : (hm.put n i).map m = hm.map m := by simp [GM.put, h]
theorem GM.put_le {hm : GM} {n : Nat} {i : Info} (h : ∀ j, hm.map n = some j → j.le i) : hm.le (hm.put n i) := by
  refine ⟨fun m j hj => ?_, fun _ _ _ h => h⟩
  by_cases e : m = n
  · subst e; exact ⟨i, GM.put_same, h j hj⟩
  · exact ⟨j, by rw [GM.put_ne e]; exact hj, .inl rfl⟩
theorem GM.put_le_none {hm : GM} {n : Nat} {i : Info} (h : hm.map n = none) : hm.le (hm.put n i) := GM.put_le fun j hj => by rw [h] at hj; cases hj

/-- The frame beside a change of the heap: the boxes keep their blocks. -/
theorem Rel.frame (r : Rel hm lb w0 U st w a) {hm' : GM} {H' : AH} {w' : World} (hle : hm.le hm') (r' : HRel hm' w0 U H' w') (hnx : st.heap.next ≤ H'.next)
    (hl : ∀ (k B : Nat), lb[k]? = some B → w'.heap[B]? = w.heap[B]? ∧ ∀ j, hm'.fz B j = none) (hx : ∀ (k B n : Nat) (b : Blk) (i : Info), lb[k]? = some B → H'.get n = some b → hm'.map n = some i → i.size ≠ 0 → i.blk ≠ B) :
    Rel hm' lb w0 U { st with heap := H' } w' a :=
  { toHRel := r', defers := r.defers, tsize := r.tsize
    base_le := Nat.le_trans r.base_le hnx
    tmps := fun t v ht => by obtain ⟨cv, h1, h2⟩ := r.tmps t v ht; exact ⟨cv, h1, h2.mono hle (LM.le_refl _)⟩
    llen := r.llen
    loc := fun k cs hk => by
      obtain ⟨B, C, e, fz, h1, h2, h3, h4, h5, h6, h7⟩ := r.loc k cs hk
      refine ⟨B, C, e, fz, h1, by rw [(hl k B h1).1]; exact h2, h3, h4, h5, (hl k B h1).2, fun j v hj => ?_⟩
      obtain ⟨v', h8, h9⟩ := h7 j v hj
      exact ⟨v', h8, h9.mono hle (LM.le_refl _)⟩
    linj := r.linj
    lheap := hx }

theorem Rel.loc_fz (r : Rel hm lb w0 U st w a) {k B : Nat} (h : lb[k]? = some B) : ∀ j, hm.fz B j = none := by
  have hk : k < st.locs.length := by rw [← r.llen]; exact lookup_lt h
  obtain ⟨B', C, e, fz, h1, h2, h3, h4, h5, h6, _⟩ := r.loc k _ (List.getElem?_eq_getElem hk)
  rw [h] at h1; cases h1
  exact h6

/-- What holds of a named block after another one is changed in the ghost alone. -/
theorem HRel.other {H : AH} (r : HRel hm w0 U H w) {hm' : GM} {w' : World} (hle : hm.le hm') {n : Nat} {b : Blk} (hn : H.get n = some b) (hm1 : hm'.map n = hm.map n)
    (hw : ∀ i, hm.map n = some i → i.size ≠ 0 → w'.heap[i.blk]? = w.heap[i.blk]? ∧ ∀ k, k < i.size → hm'.fz i.blk k = none)
    (hw0 : ∀ B, B < w.heap.size → (∃ C e fz, w.heap[B]? = some (.cells C e fz) ∧ C.size = 0) → ∃ C e fz, w'.heap[B]? = some (.cells C e fz) ∧ C.size = 0) :
    ∃ i, hm'.map n = some i ∧ i.esz = b.esz ∧ i.gro = b.gro ∧ (b.gro = true → i.len = b.cells.length ∧ 1 ≤ b.esz) ∧ b.cells.all pure1 = true ∧ ((b.gro = true ∧ i.size = 0 ∧ b.cells = []) ∨ There hm' U w' i b.cells) := by
  obtain ⟨i, h1, h2, h3, h4, hp, h5⟩ := r.blk n b hn
  refine ⟨i, by rw [hm1]; exact h1, h2, h3, h4, hp, h5.imp id fun t => ?_⟩
  by_cases hs : i.size = 0
  · obtain ⟨C, e, fz, g1, g2, g3, g4, g5, g6, g7⟩ := t
    obtain ⟨C', e', fz', k1, k2⟩ := hw0 i.blk (lt_of_get g1) ⟨C, e, fz, g1, by omega⟩
    refine ⟨C', e', fz', k1, by omega, g3, ?_, g5, fun k hk => by omega, fun k v hk => ?_⟩
    · rw [hs]; intro k hk; omega
    · have := lookup_lt hk; omega
  · exact t.mono hle (hw i h1 hs).1 (hw i h1 hs).2
end

end Go.Fhl
