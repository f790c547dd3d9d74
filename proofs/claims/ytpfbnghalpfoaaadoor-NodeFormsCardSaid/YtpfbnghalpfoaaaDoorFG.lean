/-
  A logic over the model, part seven: new slices, lengths, slices of slices, append, bytes and strings.
-/
import Derived.Test.YtpfbnghalpfoaaaDoorFF
import Derived.Laws.BytesString
import Derived.Laws.BytesArg
namespace Go.Fhl
set_option linter.unusedVariables false
set_option linter.unusedSimpArgs false

theorem growBy_le (newLen : Nat) : ∀ (r c : Nat), c < newLen → Builtin.growBy newLen r c ≤ 2 * newLen + 192
  | 0, c, h => by simp [Builtin.growBy]; omega
  | r + 1, c, h => by
    unfold Builtin.growBy
    rw [if_neg (by omega)]
    by_cases q : c + (c + 768) / 4 < newLen
    · exact growBy_le newLen r _ q
    · cases r with
      | zero => simp [Builtin.growBy]; omega
      | succ r => unfold Builtin.growBy; rw [if_pos (by omega)]; omega
theorem nextslicecap_le {need c : Nat} (h : c < need) : Builtin.nextslicecap need c ≤ 2 * need + 192 := by
  unfold Builtin.nextslicecap
  split
  · omega
  · split
    · omega
    · exact growBy_le need 4 c h


section
variable {hm : GM} {lb : LM} {w0 : World} {U : Env} {st : AS} {w : World} {a : Act} {P : Program}

/-- A new block that is frozen at once: no name. -/
theorem Rel.newDeep (r : Rel hm lb w0 U st w a) (C : Array Value) (e : TypeId) (fz0 : Nat × Nat) (cells : List Value) (hpu : cells.all pure1 = true)
    (h : ∀ (k : Nat) (v : Value), cells[k]? = some v → ∃ v', C[k]? = some v' ∧ SR hm [] v v') :
    ∃ hm', hm.le hm' ∧ Rel hm' lb w0 U st (w.alloc (.cells C e fz0)) a ∧ (∀ j c, cells[j]? = some c → hm'.fz w.heap.size j = some c) := by
  have hno : ∀ k, hm.fz w.heap.size k = none := fun k => by
    cases hz : hm.fz w.heap.size k with
    | none => rfl
    | some v => have := r.fz_lt hz; omega
  refine ⟨⟨hm.map, fun B k => if B = w.heap.size then cells[k]? else hm.fz B k⟩, ?_, ?_, fun j c hj => by simp [hj]⟩
  · refine ⟨fun n i hi => ⟨i, hi, .inl rfl⟩, fun B k v hz => ?_⟩
    have hne : B ≠ w.heap.size := fun e => by rw [e, hno] at hz; cases hz
    simp [hne, hz]
  · have hle : hm.le ⟨hm.map, fun B k => if B = w.heap.size then cells[k]? else hm.fz B k⟩ := by
      refine ⟨fun n i hi => ⟨i, hi, .inl rfl⟩, fun B k v hz => ?_⟩
      have hne : B ≠ w.heap.size := fun e => by rw [e, hno] at hz; cases hz
      simp [hne, hz]
    have ra := r.toHRel.alloc (.cells C e fz0)
    have hoth : ∀ B k, B < w.heap.size → (if B = w.heap.size then cells[k]? else hm.fz B k) = hm.fz B k := fun B k hB => by
      have : B ≠ w.heap.size := by omega
      simp [this]
    have r' : HRel ⟨hm.map, fun B k => if B = w.heap.size then cells[k]? else hm.fz B k⟩ w0 U st.heap (w.alloc (.cells C e fz0)) := by
      refine { os := ra.os, tape := ra.tape, output := ra.output, size := ra.size, prot := ra.prot, protz := ?_, fresh := r.fresh, frz := ?_, blk := ?_, inj := r.inj }
      · intro B hB k
        exact (hoth B k (r.ult hB)).trans (r.protz B hB k)
      · intro B k v hz
        by_cases q : B = w.heap.size
        · subst q
          simp only [if_true] at hz
          have hp := List.all_eq_true.1 hpu v (List.mem_of_getElem? hz)
          obtain ⟨v', h1, h2⟩ := h k v hz
          exact ⟨hp, C, e, fz0, v', alloc_get_new w _, h1, h2.repl hp hle.fz⟩
        · simp only [q, if_false] at hz
          obtain ⟨h1, C', e', fz', v', h2, h3, h4⟩ := ra.frz B k v hz
          exact ⟨h1, C', e', fz', v', h2, h3, h4.repl h1 hle.fz⟩
      · intro n b hb
        refine r.toHRel.other hle hb rfl (fun i hi hs => ⟨alloc_get_lt (r.toHRel.blk_lt hb hi hs), fun k hk => ?_⟩) (fun B hB ⟨C', e', fz', h1, h2⟩ => ⟨C', e', fz', alloc_get_old h1, h2⟩)
        show (if i.blk = w.heap.size then cells[k]? else hm.fz i.blk k) = none
        rw [hoth _ _ (r.toHRel.blk_lt hb hi hs)]; exact r.toHRel.blk_fz hb hi hs k hk
    have hst : st = { st with heap := st.heap } := rfl
    rw [hst]
    exact r.frame hle r' (Nat.le_refl _) (fun k B hk => ⟨alloc_get_lt (r.loc_lt hk), fun j => by show (if B = w.heap.size then cells[j]? else hm.fz B j) = none; rw [hoth _ _ (r.loc_lt hk)]; exact r.loc_fz hk j⟩) r.lheap

/-! ## New slices -/
def bsCells (P : Program) (e : TypeId) (s len : Nat) (ps : List (Nat × Value)) : Option (List Value) :=
  match zr P e with
  | some z => if z.cells.toList.all plain1 && Nat.beq z.cells.size s then (Instr.fill (fun i => some (i * s, s)) (zcells z.cells.toList (len * s)).toArray ps).map (·.toList) else none
  | none => none

theorem buildSlice_run (r : Rel hm lb w0 U st w a) {t e : TypeId} {s len : Nat} {ps : List (Nat × Value)} {ps' : Array (Nat × Value)} {cells : List Value} (hu : und P t = some (.slice e)) (hs : sz P e = some s)
    (hlen : len * s ≤ 16777216) (hpos : 0 < s) (hnt : ps.all (fun p => !(p.2 matches .tuple _)) = true) (hb : bsCells P e s len ps = some cells) (hp : L2 (fun x y => x.1 = y.1 ∧ VR hm lb x.2 y.2) ps ps'.toList) :
    ∃ cells' : Array Value, (Instr.buildSlice t len ps').run P w = .ok (.slice (some ⟨w.heap.size, 0, none⟩) len len) (w.alloc (.cells cells' e)) ∧ L2 (SR hm lb) cells cells'.toList := by
  unfold bsCells at hb
  cases hz : zr P e with
  | none => simp [hz] at hb
  | some z =>
    simp only [hz] at hb
    split at hb
    · rename_i hc
      simp only [Bool.and_eq_true] at hc
      have hzs : z.cells.size = s := Nat.eq_of_beq_eq_true hc.2
      cases hf : Instr.fill (fun i => some (i * s, s)) (zcells z.cells.toList (len * s)).toArray ps with
      | none => simp [hf] at hb
      | some cs =>
        simp [hf] at hb
        subst hb
        have hps : L2 (SR1 hm lb) ps ps'.toList := ⟨hp.1, fun i x y hx hy => by
          obtain ⟨h1, h2⟩ := hp.2 i x y hx hy
          refine ⟨h1, h2, fun vs e => ?_⟩
          have := List.all_eq_true.1 hnt x (List.mem_of_getElem? hx)
          rw [e] at this; simp at this⟩
        have hzc := zcells_plain (n := len * s) hc.1 (by right; simp; omega)
        obtain ⟨cells', f1, f2⟩ := fill_rel (hm := hm) (lb := lb) _ ps ps'.toList _ (zcells z.cells.toList (len * s)).toArray cs hps (by simpa using L2.of_plain hzc) hf
        refine ⟨cells', ?_, f2⟩
        have hn : ¬ len * s > 2 ^ 24 := by omega
        simp only [Instr.buildSlice, Sem.run_bind, run_und hu, Result.andThen_ok, run_sizeOf hs, hn, if_false]
        by_cases hz0 : len * s = 0
        · rw [hz0] at f1 ⊢
          simp only [if_true, Sem.run_bind, Sem.run_pure, Result.andThen_ok]
          have : (Array.range 0).map (fun x => (#[] : Array Value)[x % (#[] : Array Value).size]!) = (zcells z.cells.toList 0).toArray := by simp [zcells]
          rw [this, f1]
          simp [newRow]
        · simp only [hz0, if_false, Sem.run_bind, run_zero hz, Sem.run_pure, Result.andThen_ok]
          rw [zcells_eq, f1]
          simp [newRow]
    · cases hb

theorem buildSlice_ok (r : Rel hm lb w0 U st w a) {t e : TypeId} {s len : Nat} {ps : List (Nat × Value)} {ps' : Array (Nat × Value)} {cells : List Value} (hu : und P t = some (.slice e)) (hs : sz P e = some s)
    (hlen : len * s ≤ 16777216) (hpos : 0 < s) (hnt : ps.all (fun p => !(p.2 matches .tuple _)) = true) (hb : bsCells P e s len ps = some cells) (hpu : cells.all pure1 = true) (hl : cells.length = len * s)
    (hp : L2 (fun x y => x.1 = y.1 ∧ VR hm lb x.2 y.2) ps ps'.toList) :
    ∃ hm' w' cv, (Instr.buildSlice t len ps').run P w = .ok cv w' ∧ hm.le hm' ∧ Rel hm' lb w0 U (st.setHeap (st.heap.alloc ⟨s, cells, false⟩)) w' a ∧ VR hm' lb (.slice (some ⟨st.heap.next, 0, none⟩) len len) cv := by
  obtain ⟨C, h1, h2⟩ := buildSlice_run r hu hs hlen hpos hnt hb hp
  have hlen := h2.1
  simp at hlen
  have h := r.newBlk C e (0, 0) (Free.zero _) ⟨s, cells, false⟩ (by simp; omega) (fun q => by cases q) hpu (fun k v hk => by
    obtain ⟨v', h3, h4⟩ := h2.get hk
    exact ⟨v', by simpa using h3, h4.repl (List.all_eq_true.1 hpu v (List.mem_of_getElem? hk)) fun _ _ _ q => q⟩)
  refine ⟨_, _, _, h1, h.1, h.2, .of_sr rfl ⟨_, 0, GM.put_same, rfl, rfl, Nat.le_refl _, fun _ => rfl, ?_⟩⟩
  simp only; omega

theorem buildSliceD_ok (r : Rel hm lb w0 U st w a) {t e : TypeId} {s len : Nat} {ps : List (Nat × Value)} {ps' : Array (Nat × Value)} {cells : List Value} (hu : und P t = some (.slice e)) (hs : sz P e = some (s + 1))
    (hlen : len * (s + 1) ≤ 16777216) (hnt : ps.all (fun p => !(p.2 matches .tuple _)) = true) (hb : bsCells P e (s + 1) len ps = some cells) (hpu : cells.all pure1 = true) (hl : cells.length = len * (s + 1))
    (hp : L2 (fun x y => x.1 = y.1 ∧ VR hm lb x.2 y.2) ps ps'.toList) :
    ∃ hm' w' cv, (Instr.buildSlice t len ps').run P w = .ok cv w' ∧ hm.le hm' ∧ Rel hm' lb w0 U st w' a ∧ VR hm' lb (.iface (s + 1) (.tuple cells.toArray)) cv := by
  obtain ⟨C, h1, h2⟩ := buildSlice_run r hu hs hlen (by omega) hnt hb hp
  obtain ⟨hm', h3, h4, h5⟩ := r.newDeep C e (0, 0) cells hpu (fun k v hk => by
    obtain ⟨v', h3, h4⟩ := h2.get hk
    exact ⟨v', by simpa using h3, h4.repl (List.all_eq_true.1 hpu v (List.mem_of_getElem? hk)) fun _ _ _ q => q⟩)
  exact ⟨hm', _, _, h1, h3, h4, .of_sr rfl ⟨_, len, len, rfl, hl.symm, Nat.le_refl _, .inr ⟨_, 0, rfl, fun j c hj => by rw [Nat.zero_add]; exact h5 j c hj⟩⟩⟩

theorem wrap_i64 {n : Int} (h0 : -9223372036854775808 ≤ n) (h1 : n ≤ 9223372036854775807) : IntKind.i64.wrap n = n := by
  simp only [IntKind.wrap, IntKind.bits, IntKind.signed, Bool.true_and]
  split
  · rename_i h; simp at h; omega
  · rename_i h; simp at h; omega


theorem plain_pure {l : List Value} (h : l.all plain1 = true) : l.all pure1 = true := by
  rw [List.all_eq_true] at h ⊢
  exact fun v hv => plain1_pure1 (h v hv)

theorem makeSlice_run {t e : TypeId} {s b : Nat} {z : Value} {kl kc : IntKind} {l c : Int} (hu : und P t = some (.slice e)) (hs : sz P e = some s) (hb : bt P e = some b) (hz : zr P e = some z) (hzs : z.cells.size = s)
    (hc : 0 ≤ l ∧ l ≤ c ∧ c ≤ 9223372036854775807 ∧ (b : Int) * c ≤ 281474976710656) :
    (Instr.makeSlice t (.int kl l) (.int kc c)).run P w = .ok (.slice (some ⟨w.heap.size, 0, none⟩) l.toNat c.toNat) (w.alloc (.cells (zcells z.cells.toList (c.toNat * s)).toArray e)) := by
  obtain ⟨c1, c2, c3, c4⟩ := hc
  unfold bt at hb
  cases hi : P.info? e with
  | none => simp [hi] at hb
  | some ie =>
    simp [hi] at hb
    have w1 := wrap_i64 (n := l) (by omega) (by omega)
    have w2 := wrap_i64 (n := c) (by omega) (by omega)
    have h1 : (decide (c < 0) || decide ((2 : Int) ^ 48 < (b : Int) * c) || decide (l < 0) || decide (c < l)) = false := by
      simp; omega
    simp only [Instr.makeSlice, Sem.run_bind, run_und hu, Result.andThen_ok, asInt, asIntOf, Sem.run_pure, run_typeInfo hi, hb, w1, w2]
    rw [if_neg (by simp; omega)]
    simp only [Sem.run_bind, run_askRoom, Result.andThen_ok, run_sizeOf hs]
    by_cases hz0 : c.toNat * s = 0
    · simp only [hz0, if_true]
      have hr : Array.range 0 = #[] := rfl
      simp [newRow, zcells, hr]
    · simp only [hz0, if_false, Sem.run_bind, run_zero hz, Result.andThen_ok, Sem.run_pure]
      rw [zcells_eq]
      simp [newRow]

theorem makeSlice_ok (r : Rel hm lb w0 U st w a) {t e : TypeId} {s b : Nat} {z : Value} {kl kc : IntKind} {l c : Int} {cl cc : Value} (hu : und P t = some (.slice e)) (hs : sz P e = some s) (hb : bt P e = some b) (hz : zr P e = some z)
    (hzp : z.cells.toList.all plain1 = true) (hzs : z.cells.size = s) (hpos : 0 < s)
    (hc : 0 ≤ l ∧ l ≤ c ∧ c ≤ 9223372036854775807 ∧ (b : Int) * c ≤ 281474976710656) (hl : VR hm lb (.int kl l) cl) (hcc : VR hm lb (.int kc c) cc) :
    ∃ hm' w' cv, (Instr.makeSlice t cl cc).run P w = .ok cv w' ∧ hm.le hm' ∧ Rel hm' lb w0 U (st.setHeap (st.heap.alloc ⟨s, zcells z.cells.toList (c.toNat * s), false⟩)) w' a ∧ VR hm' lb (.slice (some ⟨st.heap.next, 0, none⟩) l.toNat c.toNat) cv := by
  obtain rfl : cl = _ := hl.sr rfl
  obtain rfl : cc = _ := hcc.sr rfl
  have hzc := zcells_plain (n := c.toNat * s) hzp (by right; simp; omega)
  have hlen : (zcells z.cells.toList (c.toNat * s)).length = c.toNat * s := by simp [zcells]
  have h := r.newBlk (zcells z.cells.toList (c.toNat * s)).toArray e (0, 0) (Free.zero _) ⟨s, zcells z.cells.toList (c.toNat * s), false⟩ (by simp) (fun q => by cases q) (plain_pure hzc) (fun k v hk => by
    have := L2.of_plain (hm := hm) (lb := []) hzc
    obtain ⟨v', g1, g2⟩ := this.get hk
    exact ⟨v', by simpa using g1, g2⟩)
  refine ⟨_, _, _, makeSlice_run hu hs hb hz hzs hc, h.1, h.2, .of_sr rfl ⟨_, 0, GM.put_same, rfl, rfl, by omega, fun _ => rfl, ?_⟩⟩
  simp [hlen]

/-! ## Lengths -/
theorem lenS_ok {t : TypeId} {ts : Array TypeId} {T : TypeId} {s : ByteArray} {cx : Value} (hu : und P t = some .string) (hx : VR hm lb (.string s) cx) (ht : ts[0]? = some t) : (Builtin.len_ ts T #[cx]).run P w = .ok (.int .i64 s.size) w := by
  obtain rfl : cx = _ := hx.sr rfl
  simp [Builtin.len_, ht, run_und hu, goInt]
theorem lenN_ok {t e : TypeId} {ts : Array TypeId} {T : TypeId} {p : Option Addr} {n c : Nat} {cx : Value} (hu : und P t = some (.slice e)) (hx : VR hm lb (.slice p n c) cx) (ht : ts[0]? = some t) : (Builtin.len_ ts T #[cx]).run P w = .ok (.int .i64 n) w := by
  have hcx : ∃ p' c', cx = .slice p' n c' := by
    cases p with
    | none => exact ⟨_, _, hx.sr rfl⟩
    | some p =>
      have := hx.sr rfl
      unfold SR at this
      simp only at this
      split at this
      · obtain ⟨i, o, _, _, rfl, _⟩ := this; exact ⟨_, _, rfl⟩
      · obtain ⟨i, q, c', _, _, rfl, _⟩ := this; exact ⟨_, _, rfl⟩
      · obtain ⟨i, q, c', _, _, rfl, _⟩ := this; exact ⟨_, _, rfl⟩
  obtain ⟨p', c', rfl⟩ := hcx
  simp [Builtin.len_, ht, run_und hu, goInt]
theorem lenD_ok {t e : TypeId} {ts : Array TypeId} {T : TypeId} {s n : Nat} {cs : Array Value} {cx : Value} (hu : und P t = some (.slice e)) (hn : n * (s + 1) = cs.size) (hx : VR hm lb (.iface (s + 1) (.tuple cs)) cx) (ht : ts[0]? = some t) : (Builtin.len_ ts T #[cx]).run P w = .ok (.int .i64 n) w := by
  obtain ⟨a0, n', cap, rfl, h1, h2, h3⟩ := hx.sr rfl
  have : n' = n := by
    have h4 : n' * (s + 1) = n * (s + 1) := by rw [h1, hn]; simp
    exact Nat.eq_of_mul_eq_mul_right (by omega) h4
  subst this
  simp [Builtin.len_, ht, run_und hu, goInt]
theorem lenA_ok {t e : TypeId} {ts : Array TypeId} {T : TypeId} {n : Nat} {cx : Value} (hu : und P t = some (.array n e)) (ht : ts[0]? = some t) : (Builtin.len_ ts T #[cx]).run P w = .ok (.int .i64 n) w := by
  simp [Builtin.len_, ht, run_und hu, goInt]

/-! ## Slices of slices -/
def bnd (v : Option Value) (d : Nat) : Option Nat :=
  match v with
  | none => some d
  | some (.int _ i) => if 0 ≤ i then some i.toNat else none
  | _ => none
/-- A bound that was given, or was not. -/
def Bnd (v : Option Value) (d n : Nat) : Prop := (v = none ∧ n = d) ∨ ∃ k i, v = some (.int k i) ∧ 0 ≤ i ∧ n = i.toNat
def optR (hm : GM) (lb : LM) : Option Value → Option Value → Prop
  | none, none => True
  | some x, some y => VR hm lb x y
  | _, _ => False
theorem optR_none {y : Option Value} (h : optR hm lb none y) : y = none := by cases y <;> first | rfl | exact h.elim
theorem optR_some {x : Value} {y : Option Value} (h : optR hm lb (some x) y) : ∃ v, y = some v ∧ VR hm lb x v := by
  cases y with
  | none => exact h.elim
  | some v => exact ⟨v, rfl, h⟩
theorem bnd_rel {v cv : Option Value} {d n : Nat} (h : Bnd v d n) (hr : optR hm lb v cv) : Bnd cv d n := by
  rcases h with ⟨rfl, rfl⟩ | ⟨k, i, rfl, h1, h2⟩
  · rw [optR_none hr]; exact .inl ⟨rfl, rfl⟩
  · obtain ⟨c, rfl, hc⟩ := optR_some hr
    obtain rfl : c = _ := hc.sr rfl
    exact .inr ⟨k, i, rfl, h1, h2⟩
theorem optR_map (r : Rel hm lb w0 U st w a) (x : Option Operand) : optR hm lb (x.map (ev st.tmps)) (x.map a.eval) := by
  cases x with
  | none => trivial
  | some x => exact r.ev x

theorem run_sliceBound {k : IntKind} {i : Int} {y : Nat} {code : BoundsCode} (h0 : 0 ≤ i) (h1 : i.toNat ≤ y) : (Instr.sliceBound (.int k i) y code).run P w = .ok i.toNat w := by
  have : 0 ≤ i ∧ i ≤ (y : Int) := ⟨h0, by omega⟩
  simp [Instr.sliceBound, asIntOf, this]

theorem run_bounds {isSlice : Bool} {len cap l h m : Nat} {lo hi mx : Option Value}
    (em : (mx = none ∧ m = cap) ∨ (hi.isSome = true ∧ ∃ k i, mx = some (.int k i) ∧ 0 ≤ i ∧ m = i.toNat ∧ m ≤ cap))
    (eh : (hi = none ∧ h = len) ∨ ∃ k i, hi = some (.int k i) ∧ 0 ≤ i ∧ h = i.toNat ∧ h ≤ m)
    (el : (lo = none ∧ l = 0) ∨ ∃ k i, lo = some (.int k i) ∧ 0 ≤ i ∧ l = i.toNat ∧ l ≤ h) :
    (Instr.sliceBounds isSlice len cap lo hi mx).run P w = .ok (l, h, m) w := by
  rcases em with ⟨rfl, rfl⟩ | ⟨hs, km, im, rfl, m0, rfl, m1⟩
  · rcases eh with ⟨rfl, rfl⟩ | ⟨kh, ih, rfl, h0, rfl, h1⟩ <;> rcases el with ⟨rfl, rfl⟩ | ⟨kl, il, rfl, l0, rfl, l1⟩ <;>
      simp [Instr.sliceBounds, run_sliceBound, *]
  · rcases eh with ⟨rfl, rfl⟩ | ⟨kh, ih, rfl, h0, rfl, h1⟩
    · simp at hs
    · rcases el with ⟨rfl, rfl⟩ | ⟨kl, il, rfl, l0, rfl, l1⟩ <;> simp [Instr.sliceBounds, run_sliceBound, *]


theorem sliceS_ok {t : TypeId} {s : ByteArray} {lo hi clo chi cmx : Option Value} {l h : Nat} {cx : Value} (hu : und P t = some .string) (hl : Bnd lo 0 l) (hh : Bnd hi s.size h) (h1 : l ≤ h) (h2 : h ≤ s.size)
    (hx : VR hm lb (.string s) cx) (hlo : optR hm lb lo clo) (hhi : optR hm lb hi chi) (hmx : optR hm lb none cmx) : (Instr.sliceAt t cx clo chi cmx).run P w = .ok (.string (s.extract l h)) w := by
  obtain rfl : cx = _ := hx.sr rfl
  have bl := bnd_rel hl hlo
  have bh := bnd_rel hh hhi
  obtain rfl := optR_none hmx
  simp only [Instr.sliceAt, Sem.run_bind, run_und hu, Result.andThen_ok, Instr.slice]
  have := run_bounds (P := P) (w := w) (isSlice := false) (len := s.size) (cap := s.size) (l := l) (h := h) (m := s.size) (lo := clo) (hi := chi) (mx := none) (.inl ⟨rfl, rfl⟩)
    (bh.imp (fun q => q) (fun ⟨k, i, q1, q2, q3⟩ => ⟨k, i, q1, q2, q3, h2⟩)) (bl.imp (fun q => q) (fun ⟨k, i, q1, q2, q3⟩ => ⟨k, i, q1, q2, q3, h1⟩))
  simp [this]

/-- A piece of a frozen slice. -/
theorem sliceD_ok {t e : TypeId} {s n : Nat} {cs : Array Value} {lo hi clo chi cmx : Option Value} {l h : Nat} {cx : Value} (hu : und P t = some (.slice e)) (hs : sz P e = some (s + 1)) (hn : n * (s + 1) = cs.size) (hl : Bnd lo 0 l) (hh : Bnd hi n h) (h1 : l ≤ h) (h2 : h ≤ n)
    (hx : VR hm lb (.iface (s + 1) (.tuple cs)) cx) (hlo : optR hm lb lo clo) (hhi : optR hm lb hi chi) (hmx : optR hm lb none cmx) :
    ∃ cv, (Instr.sliceAt t cx clo chi cmx).run P w = .ok cv w ∧ VR hm lb (.iface (s + 1) (.tuple ((cs.toList.drop (l * (s + 1))).take ((h - l) * (s + 1))).toArray)) cv := by
  obtain ⟨a0, n', cap, rfl, g1, g2, g3⟩ := hx.sr rfl
  have : n' = n := by
    have h4 : n' * (s + 1) = n * (s + 1) := by rw [g1, hn]; simp
    exact Nat.eq_of_mul_eq_mul_right (by omega) h4
  subst this
  have bl := bnd_rel hl hlo
  have bh := bnd_rel hh hhi
  obtain rfl := optR_none hmx
  have hrun := run_bounds (P := P) (w := w) (isSlice := true) (len := n') (cap := cap) (l := l) (h := h) (m := cap) (lo := clo) (hi := chi) (mx := none) (.inl ⟨rfl, rfl⟩)
    (bh.imp (fun q => q) (fun ⟨k, i, q1, q2, q3⟩ => ⟨k, i, q1, q2, q3, by omega⟩)) (bl.imp (fun q => q) (fun ⟨k, i, q1, q2, q3⟩ => ⟨k, i, q1, q2, q3, h1⟩))
  have hsub : (h - l) * (s + 1) + l * (s + 1) ≤ n' * (s + 1) := by rw [← Nat.add_mul]; exact Nat.mul_le_mul_right _ (by omega)
  have hlen : (h - l) * (s + 1) = ((cs.toList.drop (l * (s + 1))).take ((h - l) * (s + 1))).length := by
    simp only [List.length_take, List.length_drop, Array.length_toList]; omega
  refine ⟨.slice (if cap - l = 0 then a0 else a0.map (·.add (l * (s + 1)))) (h - l) (cap - l), ?_, .of_sr rfl ⟨_, h - l, cap - l, rfl, by simpa using hlen, by omega, ?_⟩⟩
  · simp only [Instr.sliceAt, Sem.run_bind, run_und hu, Result.andThen_ok, Instr.slice, hrun, run_sizeOf hs]
    by_cases hml : cap = l
    · simp [hml]
    · have : ¬ cap - l = 0 := by omega
      cases a0 <;> simp [this, hml]
  · rcases g3 with g3 | ⟨B, o, rfl, hz⟩
    · refine .inl ?_
      simp [g3]
    · by_cases hhl : h = l
      · exact .inl (by simp [hhl])
      · refine .inr ⟨B, o + l * (s + 1), ?_, fun j c hj => ?_⟩
        · have : ¬ cap - l = 0 := by omega
          simp [this, add_none]
        · have hj2 : j < (h - l) * (s + 1) := by have := lookup_lt hj; simp only [List.toList_toArray] at this; omega
          have : cs.toList[l * (s + 1) + j]? = some c := by
            simp only [List.toList_toArray] at hj
            rw [List.getElem?_take_of_lt hj2, List.getElem?_drop] at hj; exact hj
          rw [Nat.add_assoc]; exact hz _ c this
end

end Go.Fhl
