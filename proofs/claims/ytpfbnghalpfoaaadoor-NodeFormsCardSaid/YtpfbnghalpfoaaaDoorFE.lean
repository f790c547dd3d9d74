/-
  A logic over the model, part five: operands, loads, stores, new boxes, arithmetic, parts and places.
-/
import Derived.Test.YtpfbnghalpfoaaaDoorFD
namespace Go.Fhl
set_option linter.unusedVariables false
set_option linter.unusedSimpArgs false

/-! ## Types -/
def sz (P : Program) (t : TypeId) : Option Nat := (P.info? t).map (·.size)
def bt (P : Program) (t : TypeId) : Option Nat := (P.info? t).map (·.bytes)
def zr (P : Program) (t : TypeId) : Option Value := (P.info? t).bind (·.zero)
def und (P : Program) (t : TypeId) : Option TypeDesc := P.underlying t

section
variable {P : Program} {w : World}
theorem run_und {t : TypeId} {d : TypeDesc} (h : und P t = some d) : (underlying t).run P w = .ok d w := by
  unfold und at h
  simp [underlying, h]
theorem run_typeInfo {t : TypeId} {i : TypeInfo} (h : P.info? t = some i) : (typeInfo t).run P w = .ok i w := by
  simp [typeInfo, h]
theorem run_sizeOf {t : TypeId} {n : Nat} (h : sz P t = some n) : (sizeOf t).run P w = .ok n w := by
  unfold sz at h
  cases hi : P.info? t with
  | none => simp [hi] at h
  | some i => simp [hi] at h; simp [sizeOf, run_typeInfo hi, h]
theorem run_zero {t : TypeId} {v : Value} (h : zr P t = some v) : (zeroValue t).run P w = .ok v w := by
  unfold zr at h
  cases hi : P.info? t with
  | none => simp [hi] at h
  | some i => simp [hi] at h; simp [zeroValue, run_typeInfo hi, h]
end

def agg? : TypeDesc → Bool
  | .struct _ | .array _ _ => true
  | _ => false
theorem run_isAgg {P : Program} {w : World} {t : TypeId} {d : TypeDesc} (h : und P t = some d) : (isAgg t).run P w = .ok (agg? d) w := by
  simp only [isAgg, Sem.run_bind, run_und h, Result.andThen_ok]
  cases d <;> rfl

/-! ## Operands -/
def ev (l : List (Nat × Value)) : Operand → Value
  | .tmp t => match lk l t with | some v => v | none => undef
  | .const v => cond (plain v) v undef
  | .global _ => undef
  | .func f => .func (.func f) #[] #[]

section
variable {hm : GM} {lb : LM} {w0 : World} {U : Env} {st : AS} {w : World} {a : Act}

theorem Rel.ev (r : Rel hm lb w0 U st w a) (x : Operand) : VR hm lb (Fhl.ev st.tmps x) (a.eval x) := by
  cases x with
  | tmp t =>
    show VR hm lb (match lk st.tmps t with | some v => v | none => undef) (a.tmps.getD t undef)
    cases h : lk st.tmps t with
    | some v =>
      obtain ⟨cv, h1, h2⟩ := r.tmps t v h
      simp only [Array.getD_eq_getD_getElem?, h1, Option.getD_some]
      exact h2
    | none => exact VR.undef _
  | const v =>
    show VR hm lb (cond (plain v) v undef) v
    cases h : plain v with
    | true => exact VR.of_plain h
    | false => exact VR.undef _
  | global g => exact VR.undef _
  | func f => exact ⟨#[], rfl, rfl, .nil⟩
theorem Rel.evEq (r : Rel hm lb w0 U st w a) {x : Operand} {v : Value} (h : Fhl.ev st.tmps x = v) : VR hm lb v (a.eval x) := h ▸ r.ev x

/-! ## Cells at a place -/
/-- The cells of the block or box of a place. -/
def CellsAt (st : AS) (x : Addr) (cs : List Value) : Prop :=
  match x.spot with
  | none => ∃ b, st.heap.get x.block = some b ∧ b.gro = false ∧ b.cells = cs
  | some 0 => st.locs[x.block]? = some cs
  | some (k + 1) => ∃ b, st.heap.get x.block = some b ∧ b.gro = true ∧ b.cells = cs ∧ cs.length = k

theorem Rel.at_ (r : Rel hm lb w0 U st w a) {x : Addr} {cs : List Value} (h : CellsAt st x cs) {c : Addr} (hc : ARel hm lb x c) (hne : cs ≠ []) :
    ∃ B C e fz, c = ⟨B, x.off, none⟩ ∧ w.heap[B]? = some (.cells C e fz) ∧ cs.length ≤ C.size ∧
      ∀ (k : Nat) (v : Value), cs[k]? = some v → ∃ v', C[k]? = some v' ∧ SR hm lb v v' := by
  unfold CellsAt at h
  unfold ARel at hc
  split at h
  · rename_i hs; simp only [hs] at hc
    obtain ⟨b, h1, h2, rfl⟩ := h
    obtain ⟨i, h3, h4, rfl⟩ := hc
    obtain ⟨i', g1, g2, g3, g4, gp, g5⟩ := r.blk _ b h1
    rw [h3] at g1; cases g1
    rcases g5 with ⟨g5, _⟩ | ⟨C, e, fz, k1, k2, k3, k4, k5, k6, k7⟩
    · rw [h2] at g5; cases g5
    · refine ⟨i.blk, C, e, fz, rfl, k1, by omega, fun k v hk => ?_⟩
      obtain ⟨v', k8, k9⟩ := k7 k v hk
      exact ⟨v', k8, k9.mono (GM.le_refl _) (LM.nil_le _)⟩
  · rename_i hs; simp only [hs] at hc
    obtain ⟨B, C, e, fz, h1, h2, h3, h4, h5, h6, h7⟩ := r.loc _ cs h
    obtain ⟨B', g1, rfl⟩ := hc
    rw [h1] at g1; cases g1
    exact ⟨B, C, e, fz, rfl, h2, by omega, h7⟩
  · rename_i n hs; simp only [hs] at hc
    obtain ⟨b, h1, h2, rfl, h5⟩ := h
    obtain ⟨i, h3, h4, h6, h7, h8⟩ := hc
    obtain ⟨i', g1, g2, g3, g4, gp, g5⟩ := r.blk _ b h1
    rw [h3] at g1; cases g1
    have hl := (g4 h2).1
    obtain rfl := h8 (by omega)
    rcases g5 with ⟨_, _, g5⟩ | ⟨C, e, fz, k1, k2, k3, k4, k5, k6, k7⟩
    · exact absurd g5 hne
    · refine ⟨i.blk, C, e, fz, rfl, k1, by omega, fun k v hk => ?_⟩
      obtain ⟨v', k8, k9⟩ := k7 k v hk
      exact ⟨v', k8, k9.mono (GM.le_refl _) (LM.nil_le _)⟩

theorem slice_rel {R : Value → Value → Prop} {cs : List Value} {C : Array Value} {base : Nat} (h : ∀ (k : Nat) (v : Value), cs[k]? = some v → ∃ v', C[base + k]? = some v' ∧ R v v')
    (off n : Nat) (hn : off + n ≤ cs.length) (hl : base + cs.length ≤ C.size) : L2 R ((cs.drop off).take n) ((C.extract (base + off) (base + off + n)).toList) := by
  refine ⟨by simp; omega, fun i x y hx hy => ?_⟩
  have hi : i < n := by have := lookup_lt hx; simp at this; omega
  have hx' : cs[off + i]? = some x := by
    rw [List.getElem?_take_of_lt hi, List.getElem?_drop] at hx; exact hx
  obtain ⟨v', h1, h2⟩ := h _ _ hx'
  have : y = v' := by
    simp only [Array.getElem?_toList, Array.getElem?_extract] at hy
    split at hy
    · rw [show base + off + i = base + (off + i) from by omega, h1] at hy; exact (Option.some.inj hy).symm
    · cases hy
  rw [this]; exact h2

/-- The cells of a frozen row, where they lie. -/
theorem HRel.deep {H : AH} (r : HRel hm w0 U H w) {B o : Nat} {cs : List Value} (h : ∀ (j : Nat) (c : Value), cs[j]? = some c → hm.fz B (o + j) = some c) (hne : cs ≠ []) :
    ∃ C e fz, w.heap[B]? = some (.cells C e fz) ∧ o + cs.length ≤ C.size ∧ ∀ (k : Nat) (v : Value), cs[k]? = some v → pure1 v = true ∧ ∃ v', C[o + k]? = some v' ∧ SR hm [] v v' := by
  have hpos : 0 < cs.length := by cases cs with | nil => exact absurd rfl hne | cons x l => simp
  have hlast : ∃ v, cs[cs.length - 1]? = some v := ⟨cs[cs.length - 1], List.getElem?_eq_getElem (by omega)⟩
  obtain ⟨v, hv⟩ := hlast
  obtain ⟨h1, C, e, fz, v', h2, h3, h4⟩ := r.frz _ _ v (h _ v hv)
  refine ⟨C, e, fz, h2, by have := alookup_lt h3; omega, fun k u hk => ?_⟩
  obtain ⟨g1, C', e', fz', u', g2, g3, g4⟩ := r.frz _ _ u (h k u hk)
  rw [h2] at g2; cases g2
  exact ⟨g1, u', g3, g4⟩
theorem HRel.deep_pure {H : AH} (r : HRel hm w0 U H w) {e : Nat} {cs : List Value} {v : Value} (h : DeepR hm.fz e cs v) : cs.all pure1 = true := by
  rw [List.all_eq_true]
  intro x hx
  obtain ⟨k, hk, rfl⟩ := List.getElem_of_mem hx
  have hk' := List.getElem?_eq_getElem hk
  cases e with
  | zero => obtain ⟨B, o, _, h2⟩ := h; exact (r.frz _ _ _ (h2 k _ hk')).1
  | succ e =>
    obtain ⟨a, n, cap, _, _, _, h4⟩ := h
    rcases h4 with rfl | ⟨B, o, _, h5⟩
    · simp at hk
    · exact (r.frz _ _ _ (h5 k _ hk')).1

/-! ## Load -/
/-- What is loaded out of a row of cells, for a type. -/
def Part (P : Program) (T : TypeId) (cs : List Value) (off : Nat) (v : Value) : Prop :=
  ∃ d, und P T = some d ∧ ((agg? d = false ∧ cs[off]? = some v) ∨ (agg? d = true ∧ ∃ s, sz P T = some s ∧ 0 < s ∧ off + s ≤ cs.length ∧ v = .agg ((cs.drop off).take s).toArray))
theorem Part.ne {P : Program} {T : TypeId} {cs : List Value} {off : Nat} {v : Value} (h : Part P T cs off v) : cs ≠ [] := by
  obtain ⟨d, h1, h2⟩ := h
  rintro rfl
  rcases h2 with ⟨_, h2⟩ | ⟨_, s, _, h3, h4, _⟩
  · simp at h2
  · simp at h4; omega

theorem load_cells {P : Program} {T : TypeId} {cs : List Value} {off base B : Nat} {C : Array Value} {e : TypeId} {fz : Nat × Nat} {v : Value} (h : Part P T cs off v) (hB : w.heap[B]? = some (.cells C e fz)) (hl : base + cs.length ≤ C.size)
    (hv : ∀ (k : Nat) (v : Value), cs[k]? = some v → ∃ v', C[base + k]? = some v' ∧ SR hm lb v v') :
    ∃ cv, (Instr.loadAt T (.pointer (some ⟨B, base + off, none⟩))).run P w = .ok cv w ∧ VR hm lb v cv := by
  obtain ⟨d, hd, h⟩ := h
  rcases h with ⟨hg, hoff⟩ | ⟨hg, s, hs, hpos, hle, rfl⟩
  · obtain ⟨v', h1, h2⟩ := hv _ _ hoff
    refine ⟨v', ?_, .of_sr h2.one_left h2⟩
    simp only [Instr.loadAt, Instr.sureAddr, Sem.run_bind, Sem.run_pure, Result.andThen_ok, loadVar, run_isAgg hd, hg]
    exact run_load1 P w B (base + off) C e fz v' hB h1
  · refine ⟨.agg (C.extract (base + off) (base + off + s)), ?_, _, rfl, ?_⟩
    · simp only [Instr.loadAt, Instr.sureAddr, Sem.run_bind, Sem.run_pure, Result.andThen_ok, loadVar, run_isAgg hd, hg, if_true, run_sizeOf hs]
      rw [run_loadCells' P w B (base + off) C e fz s hB (by omega)]
      rfl
    · simpa using slice_rel hv off s hle hl

theorem load_at {P : Program} (r : Rel hm lb w0 U st w a) {T : TypeId} {x : Addr} {cs : List Value} {cx v : Value} (h : CellsAt st x cs) (hp : Part P T cs x.off v) (hx : VR hm lb (.pointer (some x)) cx) :
    ∃ cv, (Instr.loadAt T cx).run P w = .ok cv w ∧ VR hm lb v cv := by
  obtain ⟨c, hc, rfl⟩ := hx.sr rfl
  obtain ⟨B, C, e, fz, rfl, hB, hl, hv⟩ := r.at_ h hc hp.ne
  have := load_cells (P := P) (base := 0) hp hB (by omega) (fun k v hk => by simpa using hv k v hk)
  simpa using this

theorem load_deep {P : Program} (r : Rel hm lb w0 U st w a) {T : TypeId} {cs : Array Value} {cx v : Value} (hp : Part P T cs.toList 0 v) (hx : VR hm lb (.iface 0 (.tuple cs)) cx) :
    ∃ cv, (Instr.loadAt T cx).run P w = .ok cv w ∧ VR hm lb v cv := by
  obtain ⟨B, o, rfl, hz⟩ := hx.sr rfl
  obtain ⟨C, e, fz, h1, h2, h3⟩ := r.toHRel.deep hz hp.ne
  exact load_cells (P := P) (base := o) hp h1 h2 fun k v hk => by
    obtain ⟨_, v', g1, g2⟩ := h3 k v hk
    exact ⟨v', g1, g2.mono (GM.le_refl _) (LM.nil_le _)⟩

/-! ## Store -/
def cellsOf : Value → Option (List Value)
  | .agg cs => some cs.toList
  | .tuple _ => none
  | v => some [v]
theorem cells_rel {v cv : Value} (h : VR hm lb v cv) {cs : List Value} (hc : cellsOf v = some cs) : L2 (SR hm lb) cs cv.cells.toList := by
  by_cases ho : one v = true
  · have hs := h.sr ho
    have h1 := hs.one
    have e1 : cs = [v] := by cases v <;> first | (simp [one] at ho; done) | exact (Option.some.inj hc).symm
    have e2 : cv.cells = #[cv] := by cases cv <;> first | (simp [one] at h1; done) | rfl
    rw [e1, e2]
    exact .cons hs .nil
  · cases v <;> first | (simp [cellsOf] at hc; done) | (simp [one] at ho; done) | skip
    case agg cs0 => obtain ⟨cs', rfl, h2⟩ := h; cases hc; exact h2
theorem all_one {l l' : List Value} (h : L2 (SR hm lb) l l') : ∀ v ∈ l', one v = true := by
  intro v hv
  obtain ⟨i, hi, rfl⟩ := List.getElem_of_mem hv
  have hi' : i < l.length := h.1 ▸ hi
  exact (h.2 i _ _ (List.getElem?_eq_getElem hi') (List.getElem?_eq_getElem hi)).one
theorem spl_rel {R : Value → Value → Prop} {cs vs vs' : List Value} {C : Array Value} {off : Nat} (h : ∀ (k : Nat) (v : Value), cs[k]? = some v → ∃ v', C[k]? = some v' ∧ R v v')
    (hvs : L2 R vs vs') (hn : off + vs.length ≤ cs.length) (hl : cs.length ≤ C.size) :
    ∀ (k : Nat) (v : Value), (spl cs off vs)[k]? = some v → ∃ v', ((spl C.toList off vs').toArray)[k]? = some v' ∧ R v v' := by
  intro k v hk
  have e1 := hvs.1
  rw [spl_get hn] at hk
  rw [arr_spl_get C off vs' (by omega)]
  by_cases p : k < off
  · simp only [p, if_true] at hk ⊢
    exact h k v hk
  · simp only [p, if_false] at hk ⊢
    by_cases q : k < off + vs.length
    · have q' : k < off + vs'.length := by omega
      simp only [q, if_true] at hk
      simp only [q', if_true]
      exact hvs.get hk
    · have q' : ¬ k < off + vs'.length := by omega
      simp only [q, if_false] at hk
      simp only [q', if_false]
      exact h k v hk
theorem spl_pure {cs vs : List Value} {off : Nat} (h : cs.all pure1 = true) (hv : vs.all pure1 = true) : (spl cs off vs).all pure1 = true := by
  rw [List.all_eq_true] at *
  intro x hx
  simp only [spl, List.mem_append] at hx
  rcases hx with (hx | hx) | hx
  · exact h x (List.mem_of_mem_take hx)
  · exact hv x hx
  · exact h x (List.mem_of_mem_drop hx)

/-- Cells are written into a box. -/
theorem write_loc {P : Program} (r : Rel hm lb w0 U st w a) {k off : Nat} {cs vs vs' : List Value} {c : Addr} (h : st.locs[k]? = some cs) (hl : off + vs.length ≤ cs.length) (hc : ARel hm lb ⟨k, off, some 0⟩ c) (hv : L2 (SR hm lb) vs vs') :
    ∃ w', (storeCells c vs').run P w = .ok () w' ∧ Rel hm lb w0 U (st.setLocs (st.locs.set k (spl cs off vs))) w' a := by
  obtain ⟨B, C, e, fz, h1, h2, h3, h4, h5, h6, h7⟩ := r.loc _ cs h
  obtain ⟨B', g1, rfl⟩ : ∃ B, lb[k]? = some B ∧ c = ⟨B, off, none⟩ := hc
  rw [h1] at g1; cases g1
  have hlen := hv.1
  have hrun := run_storeCells P B off e fz vs' 0 w C h2 (by omega) (fun k k1 k2 => h4 k (by omega)) (all_one hv)
  refine ⟨_, hrun, ?_⟩
  refine r.storeLoc h h1 h2 (arr_spl_size C _ vs' (by omega)) (spl_length hl) ?_
  intro k v hk
  have := spl_rel (C := C) h7 hv hl (by omega) k v hk
  simpa using this

/-- Cells are written into a named block. -/
theorem write_blk {P : Program} (r : Rel hm lb w0 U st w a) {n off : Nat} {b : Blk} {vs vs' : List Value} {c : Addr} {s : Option Nat} (h : st.heap.get n = some b) (hl : off + vs.length ≤ b.cells.length) (hp : vs.all pure1 = true)
    (hs : (s = none ∧ b.gro = false) ∨ (b.gro = true ∧ s = some (b.cells.length + 1))) (hc : ARel hm lb ⟨n, off, s⟩ c) (hv : L2 (SR hm lb) vs vs') (hne : vs ≠ []) :
    ∃ hm' w', (storeCells c vs').run P w = .ok () w' ∧ hm.le hm' ∧ Rel hm' lb w0 U (st.setHeap (st.heap.set n { b with cells := spl b.cells off vs })) w' a := by
  obtain ⟨i, g1, g2, g3, g4, gp, g5⟩ := r.blk _ b h
  have hpos : 0 < vs.length := by cases vs with | nil => exact absurd rfl hne | cons x l => simp
  have hc' : c = ⟨i.blk, off, none⟩ := by
    rcases hs with ⟨rfl, hg⟩ | ⟨hg, rfl⟩
    · obtain ⟨i', h1, h2, h3⟩ := hc
      simp only at h1
      rw [g1] at h1; cases h1; exact h3
    · obtain ⟨i', h1, h2, h3, h4, h5⟩ := hc
      simp only at h1
      rw [g1] at h1; cases h1
      exact h5 (g4 hg).1
  subst hc'
  rcases g5 with ⟨_, _, g5⟩ | ⟨C, e, fz, k1, k2, k3, k4, k5, k6, k7⟩
  · rw [g5, List.length_nil] at hl; omega
  · have hlen := hv.1
    have hv' : L2 (SR hm []) vs vs' := hv.mono fun x y hx q => q.repl (List.all_eq_true.1 hp x hx) fun _ _ _ q => q
    have hrun := run_storeCells P i.blk off e fz vs' 0 w C k1 (by omega) (fun k q1 q2 => k4 k (by omega)) (all_one hv)
    have hsz : i.size ≠ 0 := by omega
    have hre := r.reBlk (i' := i) (b' := { b with cells := spl b.cells off vs }) (w' := bset w i.blk (.cells ((spl C.toList off vs').toArray) e fz)) h g1 (.inl rfl) g2 g3 (fun q => by rw [spl_length hl]; exact g4 q) (spl_pure gp hp)
      rfl rfl rfl (by rw [bset_size]; exact Nat.le_refl _) (fun B hB _ => bset_other (fun q => hB q.symm)) (.inl ⟨rfl, rfl, hsz⟩)
      ⟨_, e, fz, bset_same k1, (arr_spl_size C _ vs' (by omega)).trans k2, by rw [spl_length hl]; exact k3, k4, fun k v hk => spl_rel k7 hv' hl (by omega) k v hk⟩
    exact ⟨_, _, hrun, hre.1, hre.2⟩

theorem store_run {P : Program} {T : TypeId} {c : Addr} {cv : Value} {s : Nat} {w' : World} (hs : sz P T = some s) (hl : cv.cells.size = s) (h : (storeCells c cv.cells.toList).run P w = .ok () w') :
    (Instr.storeAt T (.pointer (some c)) cv).run P w = .ok () w' := by
  have hsize : ¬ cv.cells.size ≠ s := by simp [hl]
  simp only [Instr.storeAt, Instr.sureAddr, Sem.run_bind, Sem.run_pure, Result.andThen_ok, storeVar, run_sizeOf hs, hsize, if_false]
  exact h

/-! ## New boxes and blocks -/
theorem newBox_loc {P : Program} (r : Rel hm lb w0 U st w a) {cs : List Value} {T : TypeId} {C : Array Value} (hc : L2 (SR hm lb) cs C.toList) :
    ∃ lb' w', (newRow T C).run P w = .ok ⟨w.heap.size, 0, none⟩ w' ∧ LM.le lb lb' ∧ Rel hm lb' w0 U (st.setLocs (st.locs ++ [cs])) w' a ∧ VR hm lb' (.pointer (some ⟨st.locs.length, 0, some 0⟩)) (.pointer (some ⟨w.heap.size, 0, none⟩)) := by
  refine ⟨_, _, by simp [newRow], LM.app_le _ _, r.newLoc C T cs hc, ?_⟩
  exact ⟨⟨w.heap.size, 0, none⟩, ⟨w.heap.size, by simp [← r.llen], rfl⟩, rfl⟩
theorem newBox_heap {P : Program} (r : Rel hm lb w0 U st w a) {cs : List Value} {T : TypeId} {C : Array Value} (hp : cs.all pure1 = true) (hc : L2 (SR hm lb) cs C.toList) :
    ∃ hm' w', (newRow T C).run P w = .ok ⟨w.heap.size, 0, none⟩ w' ∧ hm.le hm' ∧ Rel hm' lb w0 U (st.setHeap (st.heap.alloc ⟨1, cs, false⟩)) w' a ∧ VR hm' lb (.pointer (some ⟨st.heap.next, 0, none⟩)) (.pointer (some ⟨w.heap.size, 0, none⟩)) := by
  have hlen := hc.1
  simp at hlen
  have h := r.newBlk C T (0, 0) (Free.zero _) ⟨1, cs, false⟩ (by simp; omega) (fun q => by cases q) hp (fun k v hk => by
    obtain ⟨v', h1, h2⟩ := hc.get hk
    exact ⟨v', by simpa using h1, h2.repl (List.all_eq_true.1 hp v (List.mem_of_getElem? hk)) fun _ _ _ q => q⟩)
  refine ⟨_, _, by simp [newRow], h.1, h.2, ?_⟩
  exact ⟨⟨w.heap.size, 0, none⟩, ⟨_, GM.put_same, rfl, rfl⟩, rfl⟩
end

end Go.Fhl
