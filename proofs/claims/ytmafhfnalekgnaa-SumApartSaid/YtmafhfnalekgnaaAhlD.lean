/-
  The abstract heap logic, part four: operands, loads, stores, new boxes and blocks: what each comes to in the model.
-/
import Derived.Test.YtmafhfnalekgnaaAhlC
namespace Go.Ahl
set_option linter.unusedVariables false

/-! ## Types -/
def sz (P : Program) (t : TypeId) : Option Nat := (P.info? t).map (·.size)
def bt (P : Program) (t : TypeId) : Option Nat := (P.info? t).map (·.bytes)
def zr (P : Program) (t : TypeId) : Option Value := (P.info? t).bind (·.zero)
def und (P : Program) (t : TypeId) : Option TypeDesc := P.underlying t

section
variable {P : Program} {w : World}
theorem run_und {t : TypeId} {d : TypeDesc} (h : und P t = some d) : (underlying t).run P w = .ok d w := by
  unfold und at h
  simp [underlying, h]
theorem run_typeInfo {t : TypeId} {i : TypeInfo} (h : P.info? t = some i) : (typeInfo t).run P w = .ok i w := by
  simp [typeInfo, h]
theorem run_sizeOf {t : TypeId} {n : Nat} (h : sz P t = some n) : (sizeOf t).run P w = .ok n w := by
  unfold sz at h
  cases hi : P.info? t with
  | none => simp [hi] at h
  | some i => simp [hi] at h; simp [sizeOf, run_typeInfo hi, h]
theorem run_zero {t : TypeId} {v : Value} (h : zr P t = some v) : (zeroValue t).run P w = .ok v w := by
  unfold zr at h
  cases hi : P.info? t with
  | none => simp [hi] at h
  | some i => simp [hi] at h; simp [zeroValue, run_typeInfo hi, h]
end

def agg? : TypeDesc → Bool
  | .struct _ | .array _ _ => true
  | _ => false
theorem run_isAgg {P : Program} {w : World} {t : TypeId} {d : TypeDesc} (h : und P t = some d) : (isAgg t).run P w = .ok (agg? d) w := by
  simp only [isAgg, Sem.run_bind, run_und h, Result.andThen_ok]
  cases d <;> rfl

/-! ## Plain values: no place in them -/
def plain1 : Value → Bool
  | .bool _ | .int _ _ | .string _ | .pointer none | .slice none _ _ | .nilFunc | .nilIface | .map none | .float _ _ => true
  | _ => false
def plain : Value → Bool
  | .agg cs => cs.toList.all plain1
  | .tuple vs => false
  | v => plain1 v

theorem SR.plain {hm : HM} {lb : LM} {x v : Value} (h : plain1 x = true) (e : SR hm lb x v) : v = x := by
  cases x <;> first | (simp [plain1] at h; done) | exact e | skip
  case pointer a => cases a <;> first | exact e | (simp [plain1] at h; done)
  case slice a l c => cases a <;> first | exact e | (simp [plain1] at h; done)
theorem SR.of_plain {hm : HM} {lb : LM} {x : Value} (h : plain1 x = true) : SR hm lb x x := by
  cases x <;> first | (simp [plain1] at h; done) | exact rfl | skip
  case pointer a => cases a <;> first | exact rfl | (simp [plain1] at h; done)
  case slice a l c => cases a <;> first | exact rfl | (simp [plain1] at h; done)
theorem L2.plain {hm : HM} {lb : LM} : ∀ {l l' : List Value}, l.all plain1 = true → L2 (SR hm lb) l l' → l' = l
  | [], l', _, e => e.nil_inv
  | x :: l, l', h, e => by
    obtain ⟨b, t, rfl, h1, h2⟩ := e.cons_inv
    simp only [List.all_cons, Bool.and_eq_true] at h
    rw [h1.plain h.1, L2.plain h.2 h2]
theorem L2.of_plain {hm : HM} {lb : LM} : ∀ {l : List Value}, l.all plain1 = true → L2 (SR hm lb) l l
  | [], _ => .nil
  | x :: l, h => by
    simp only [List.all_cons, Bool.and_eq_true] at h
    exact .cons (.of_plain h.1) (L2.of_plain h.2)
theorem VR.sr {hm : HM} {lb : LM} {x v : Value} (h : one x = true) (e : VR hm lb x v) : SR hm lb x v := by
  unfold VR at e
  split at e
  · simp [one] at h
  · unfold VR1 at e
    split at e
    · simp [one] at h
    · exact e
theorem VR.of_sr {hm : HM} {lb : LM} {x v : Value} (h : one x = true) (e : SR hm lb x v) : VR hm lb x v := by
  unfold VR
  split
  · simp [one] at h
  · unfold VR1
    split
    · simp [one] at h
    · exact e
theorem plain_cases {x : Value} (h : Ahl.plain x = true) : (∃ cs, x = .agg cs ∧ cs.toList.all plain1 = true) ∨ (one x = true ∧ plain1 x = true) := by
  cases x <;> first | exact .inr ⟨rfl, h⟩ | (exact .inl ⟨_, rfl, h⟩) | (simp [Ahl.plain] at h; done)
theorem VR.plain {hm : HM} {lb : LM} {x v : Value} (h : Ahl.plain x = true) (e : VR hm lb x v) : v = x := by
  rcases plain_cases h with ⟨cs, rfl, h1⟩ | ⟨h1, h2⟩
  · obtain ⟨cs', rfl, h2⟩ := e
    congr 1; exact Array.toList_inj.1 (h2.plain h1)
  · exact SR.plain h2 (e.sr h1)
theorem VR.of_plain {hm : HM} {lb : LM} {x : Value} (h : Ahl.plain x = true) : VR hm lb x x := by
  rcases plain_cases h with ⟨cs, rfl, h1⟩ | ⟨h1, h2⟩
  · exact ⟨cs, rfl, L2.of_plain h1⟩
  · exact .of_sr h1 (SR.of_plain h2)

/-! ## Operands -/
def AS.eval (st : AS) : Operand → Value
  | .tmp t => if t < st.n then st.tmps t else undef
  | .const v => if plain v then v else undef
  | .global _ => undef
  | .func f => .func (.func f) #[] #[]

theorem VR.undef {hm : HM} {lb : LM} (v : Value) : VR hm lb Go.undef v := .inl rfl

section
variable {hm : HM} {lb : LM} {w0 : World} {U : Env} {st : AS} {w : World} {a : Act}

theorem Rel.eval (r : Rel hm lb w0 U st w a) (x : Operand) : VR hm lb (st.eval x) (a.eval x) := by
  cases x with
  | tmp t =>
    unfold AS.eval Act.eval
    by_cases h : t < st.n
    · obtain ⟨v, h1, h2⟩ := r.tmps t h
      simp only [h, if_true, Array.getD_eq_getD_getElem?, h1, Option.getD_some]
      exact h2
    · simp only [h, if_false]; exact .inl rfl
  | const v =>
    unfold AS.eval Act.eval
    by_cases h : plain v = true
    · simp only [h, if_true]; exact VR.of_plain h
    · simp only [h]; exact .inl rfl
  | global g => exact .inl rfl
  | func f => exact ⟨#[], rfl, rfl, .nil⟩

theorem Rel.Ult (r : Rel hm lb w0 U st w a) (B : Nat) (h : U B) : B < w.heap.size := by
  have := (r.prot B h).1; have := r.size; omega

/-! ## Cells at a place -/
def AS.cellsAt (st : AS) (x : Addr) : Option (List Value) :=
  match x.spot with
  | none => (st.heap.get x.block).map (·.cells)
  | some _ => st.locs[x.block]?

theorem Rel.at_ (r : Rel hm lb w0 U st w a) {x : Addr} {cs : List Value} (h : st.cellsAt x = some cs) {c : Addr} (hc : amap hm lb x = some c) :
    ∃ B base C e fz, c = ⟨B, base + x.off, none⟩ ∧ w.heap[B]? = some (.cells C e fz) ∧ base + cs.length ≤ C.size ∧
      ∀ (k : Nat) (v : Value), cs[k]? = some v → ∃ v', C[base + k]? = some v' ∧ SR hm lb v v' := by
  unfold AS.cellsAt at h
  unfold amap at hc
  cases hs : x.spot with
  | none =>
    simp only [hs] at h hc
    cases hb : st.heap.get x.block with
    | none => simp [hb] at h
    | some b =>
      simp [hb] at h; subst h
      obtain ⟨i, C, e, fz, h1, h2, h3, h4, h5, h6, h7⟩ := r.blk _ b hb
      simp [h1] at hc; subst hc
      refine ⟨i.blk, i.base, C, e, fz, rfl, h2, by omega, fun k v hk => ?_⟩
      obtain ⟨v', g1, g2⟩ := h6 k v hk
      exact ⟨v', g1, g2.mono (HM.le_refl _) fun k B q => by simp at q⟩
  | some s =>
    simp only [hs] at h hc
    obtain ⟨B, C, e, fz, h1, h2, h3, h4, h5, h6⟩ := r.loc _ cs h
    simp [h1] at hc; subst hc
    refine ⟨B, 0, C, e, fz, by simp, h2, by omega, fun k v hk => ?_⟩
    obtain ⟨v', g1, g2⟩ := h6 k v hk
    exact ⟨v', by simpa using g1, g2⟩

theorem slice_rel {R : Value → Value → Prop} {cs : List Value} {C : Array Value} {base : Nat} (h : ∀ (k : Nat) (v : Value), cs[k]? = some v → ∃ v', C[base + k]? = some v' ∧ R v v')
    (off n : Nat) (hn : off + n ≤ cs.length) (hl : base + cs.length ≤ C.size) : L2 R ((cs.drop off).take n) ((C.extract (base + off) (base + off + n)).toList) := by
  refine ⟨by simp; omega, fun i x y hx hy => ?_⟩
  have hi : i < n := by have := lookup_lt hx; simp at this; omega
  have hx' : cs[off + i]? = some x := by
    rw [List.getElem?_take_of_lt hi, List.getElem?_drop] at hx; exact hx
  obtain ⟨v', h1, h2⟩ := h _ _ hx'
  have : y = v' := by
    simp only [Array.getElem?_toList, Array.getElem?_extract] at hy
    split at hy
    · rw [show base + off + i = base + (off + i) from by omega, h1] at hy; exact (Option.some.inj hy).symm
    · cases hy
  rw [this]; exact h2

/-! ## Load -/
def aload (P : Program) (st : AS) (T : TypeId) : Value → Option Value
  | .pointer (some x) =>
    match st.cellsAt x, und P T with
    | some cs, some d =>
      if agg? d then
        match sz P T with
        | some s => if x.off + s ≤ cs.length then some (.agg ((cs.drop x.off).take s).toArray) else none
        | none => none
      else cs[x.off]?
    | _, _ => none
  | _ => none

theorem aload_ok {P : Program} (r : Rel hm lb w0 U st w a) {T : TypeId} {x cx v : Value} (h : aload P st T x = some v) (hx : VR hm lb x cx) :
    ∃ cv, (∀ w', Grows w w' → (Instr.loadAt T cx).run P w' = .ok cv w') ∧ VR hm lb v cv := by
  unfold aload at h
  split at h
  · rename_i x
    split at h
    · rename_i cs d hcs hd
      obtain ⟨c, hc, rfl⟩ : ∃ c, amap hm lb x = some c ∧ cx = .pointer (some c) := hx
      obtain ⟨B, base, C, e, fz, rfl, hB, hl, hv⟩ := r.at_ hcs hc
      by_cases hg : agg? d = true
      · simp only [hg, if_true] at h
        split at h
        · rename_i s hs
          split at h
          · rename_i hle
            cases h
            refine ⟨.agg (C.extract (base + x.off) (base + x.off + s)), fun w' hg' => ?_, _, rfl, ?_⟩
            · simp only [Instr.loadAt, Instr.sureAddr, Sem.run_bind, Sem.run_pure, Result.andThen_ok, loadVar, run_isAgg hd, hg, if_true, run_sizeOf hs]
              rw [run_loadCells' P w' B (base + x.off) C e fz s (hg' _ _ hB) (by omega)]
              rfl
            · simpa using slice_rel hv x.off s hle hl
          · cases h
        · cases h
      · simp only [hg] at h
        obtain ⟨v', h1, h2⟩ := hv _ _ h
        refine ⟨v', fun w' hg' => ?_, ?_⟩
        · simp only [Instr.loadAt, Instr.sureAddr, Sem.run_bind, Sem.run_pure, Result.andThen_ok, loadVar, run_isAgg hd, hg]
          exact run_load1 P w' B (base + x.off) C e fz v' (hg' _ _ hB) h1
        · have ho := h2.one
          by_cases hov : one v = true
          · exact .of_sr hov h2
          · cases v <;> first | (simp [one] at hov; done) | exact h2.elim
    · cases h
  · cases h

/-! ## What may lie in the heap -/
def hp1 : Value → Bool
  | .pointer (some x) => x.spot.isNone
  | .func _ _ c => c.toList.all fun | .pointer (some x) => x.spot.isNone | _ => true
  | _ => true

theorem amap_hp {x c : Addr} (hs : x.spot.isNone = true) (h : amap hm lb x = some c) (lb' : LM) : amap hm lb' x = some c := by
  unfold amap at *
  cases hx : x.spot with
  | none => simpa [hx] using h
  | some s => simp [hx] at hs

theorem SR.hp {x v : Value} (h : hp1 x = true) (e : SR hm lb x v) (lb' : LM) : SR hm lb' x v := by
  cases x <;> first | exact e | skip
  case pointer p =>
    cases p with
    | none => exact e
    | some p => obtain ⟨c, h1, h2⟩ := e; exact ⟨c, amap_hp h h1 lb', h2⟩
  case slice p l c => cases p <;> exact e
  case func f fi c =>
    obtain ⟨c', h1, h2, h3⟩ := e
    refine ⟨c', h1, h2, h3.1, fun i x y hx hy => ?_⟩
    have hr := h3.2 i x y hx hy
    have hm' : x ∈ c.toList := List.mem_of_getElem? hx
    have hq := List.all_eq_true.1 h x hm'
    cases x <;> first | exact hr | skip
    case pointer p =>
      cases p with
      | none => exact hr
      | some p => obtain ⟨d, g1, g2⟩ := hr; exact ⟨d, amap_hp hq g1 lb', g2⟩

def cellsOf : Value → Option (List Value)
  | .agg cs => some cs.toList
  | .tuple _ => none
  | v => some [v]

theorem cells_rel {v cv : Value} (h : VR hm lb v cv) {cs : List Value} (hc : cellsOf v = some cs) : L2 (SR hm lb) cs cv.cells.toList := by
  by_cases ho : one v = true
  · have hs := h.sr ho
    have h1 := hs.one
    have e1 : cs = [v] := by cases v <;> first | (simp [one] at ho; done) | exact (Option.some.inj hc).symm
    have e2 : cv.cells = #[cv] := by cases cv <;> first | (simp [one] at h1; done) | rfl
    rw [e1, e2]
    exact .cons hs .nil
  · cases v <;> first | (simp [cellsOf] at hc; done) | (simp [one] at ho; done) | skip
    case agg cs0 => obtain ⟨cs', rfl, h2⟩ := h; cases hc; exact h2

theorem all_one {l l' : List Value} (h : L2 (SR hm lb) l l') : ∀ v ∈ l', one v = true := by
  intro v hv
  obtain ⟨i, hi, rfl⟩ := List.getElem_of_mem hv
  have hi' : i < l.length := h.1 ▸ hi
  exact (h.2 i _ _ (List.getElem?_eq_getElem hi') (List.getElem?_eq_getElem hi)).one

theorem L2.hp {l l' : List Value} (h : L2 (SR hm lb) l l') (hh : l.all hp1 = true) (lb' : LM) : L2 (SR hm lb') l l' :=
  ⟨h.1, fun i x y hx hy => (h.2 i x y hx hy).hp (List.all_eq_true.1 hh x (List.mem_of_getElem? hx)) lb'⟩

theorem spl_rel {R : Value → Value → Prop} {cs vs vs' : List Value} {C : Array Value} {base off : Nat} (h : ∀ (k : Nat) (v : Value), cs[k]? = some v → ∃ v', C[base + k]? = some v' ∧ R v v')
    (hvs : L2 R vs vs') (hn : off + vs.length ≤ cs.length) (hl : base + cs.length ≤ C.size) :
    ∀ (k : Nat) (v : Value), (spl cs off vs)[k]? = some v → ∃ v', ((spl C.toList (base + off) vs').toArray)[base + k]? = some v' ∧ R v v' := by
  intro k v hk
  have e1 := hvs.1
  rw [spl_get hn] at hk
  rw [arr_spl_get C (base + off) vs' (by omega)]
  by_cases p : k < off
  · have p' : base + k < base + off := by omega
    simp only [p, if_true] at hk
    simp only [p', if_true]
    exact h k v hk
  · have p' : ¬ base + k < base + off := by omega
    simp only [p, if_false] at hk
    simp only [p', if_false]
    by_cases q : k < off + vs.length
    · have q' : base + k < base + off + vs'.length := by omega
      simp only [q, if_true] at hk
      simp only [q', if_true]
      obtain ⟨b, hb, hr⟩ := hvs.get hk
      exact ⟨b, by rw [show base + k - (base + off) = k - off from by omega]; exact hb, hr⟩
    · have q' : ¬ base + k < base + off + vs'.length := by omega
      simp only [q, if_false] at hk
      simp only [q', if_false]
      exact h k v hk

/-! ## Store: into a box or into a block that may be written -/
def AS.write (st : AS) (x : Addr) (vs : List Value) : Option AS :=
  match x.spot with
  | none =>
    match st.heap.get x.block with
    | some b => if b.wr = true ∧ x.off + vs.length ≤ b.cells.length ∧ vs.all hp1 = true then some (st.setHeap (st.heap.set x.block { b with cells := spl b.cells x.off vs })) else none
    | none => none
  | some _ =>
    match st.locs[x.block]? with
    | some cs => if x.off + vs.length ≤ cs.length then some (st.setLocs (st.locs.set x.block (spl cs x.off vs))) else none
    | none => none

theorem awrite_ok {P : Program} (r : Rel hm lb w0 U st w a) {x c : Addr} {vs vs' : List Value} {st' : AS} (h : st.write x vs = some st') (hc : amap hm lb x = some c) (hv : L2 (SR hm lb) vs vs') :
    ∃ w', (storeCells c vs').run P w = .ok () w' ∧ Rel hm lb w0 U st' w' a := by
  unfold AS.write at h
  cases hs : x.spot with
  | none =>
    simp only [hs] at h
    cases hb : st.heap.get x.block with
    | none => simp [hb] at h
    | some b =>
      simp only [hb] at h
      split at h
      · rename_i hcond
        obtain ⟨hw, hl, hh⟩ := hcond
        cases h
        obtain ⟨i, C, e, fz, h1, h2, h3, h4, h5, h6, h7⟩ := r.blk _ b hb
        obtain ⟨hbase, hfree, hU⟩ := h7.1 hw
        unfold amap at hc
        simp [hs, h1] at hc
        subst hc
        have hv' := hv.hp hh []
        have hlen := hv.1
        have hrun := run_storeCells P i.blk (i.base + x.off) e fz vs' 0 w C h2 (by omega) (fun k k1 k2 => hfree k (by omega)) (all_one hv)
        refine ⟨_, hrun, ?_⟩
        refine r.storeBlk hb h1 hw h2 (arr_spl_size C _ vs' (by omega)) rfl (by simp only [spl_length hl]; omega) ?_ rfl
        intro k v hk
        have := spl_rel h6 hv' hl (by omega) k v hk
        rw [hbase] at this ⊢
        simpa using this
      · cases h
  | some s =>
    simp only [hs] at h
    cases hb : st.locs[x.block]? with
    | none => simp [hb] at h
    | some cs =>
      simp only [hb] at h
      split at h
      · rename_i hl
        cases h
        obtain ⟨B, C, e, fz, h1, h2, h3, h4, h5, h6⟩ := r.loc _ cs hb
        unfold amap at hc
        simp [hs, h1] at hc
        subst hc
        have hlen := hv.1
        have hrun := run_storeCells P B x.off e fz vs' 0 w C h2 (by omega) (fun k k1 k2 => h4 k (by omega)) (all_one hv)
        refine ⟨_, hrun, ?_⟩
        refine r.storeLoc hb h1 h2 (arr_spl_size C _ vs' (by omega)) (spl_length hl) ?_
        intro k v hk
        have := spl_rel (base := 0) (C := C) (fun k v hk => by simpa using h6 k v hk) hv hl (by omega) k v hk
        simpa using this
      · cases h

def astore (P : Program) (st : AS) (T : TypeId) (x v : Value) : Option AS :=
  match x, cellsOf v, sz P T with
  | .pointer (some x), some cs, some s => if cs.length = s then st.write x cs else none
  | _, _, _ => none

theorem astore_ok {P : Program} (r : Rel hm lb w0 U st w a) {T : TypeId} {x cx v cv : Value} {st' : AS} (h : astore P st T x v = some st') (hx : VR hm lb x cx) (hv : VR hm lb v cv) :
    ∃ w', (Instr.storeAt T cx cv).run P w = .ok () w' ∧ Rel hm lb w0 U st' w' a := by
  unfold astore at h
  split at h
  · rename_i x cs s hcs hs
    split at h
    · rename_i hlen
      obtain ⟨c, hc, rfl⟩ : ∃ c, amap hm lb x = some c ∧ cx = .pointer (some c) := hx
      have hr := cells_rel hv hcs
      obtain ⟨w', h1, h2⟩ := awrite_ok (P := P) r h hc hr
      refine ⟨w', ?_, h2⟩
      have hsize : ¬ cv.cells.size ≠ s := by
        have := hr.1; simp at this; simp; omega
      simp only [Instr.storeAt, Instr.sureAddr, Sem.run_bind, Sem.run_pure, Result.andThen_ok, storeVar, run_sizeOf hs, hsize, if_false]
      exact h1
    · cases h
  · cases h

/-! ## New boxes and blocks -/
/-- 'esc': the slots whose boxes are laid in the heap. -/
def AS.newBox (st : AS) (heap : Bool) (cs : List Value) : Option (Value × AS) :=
  if heap then
    if cs.all hp1 = true then some (.pointer (some ⟨st.heap.next, 0, none⟩), (st.setHeap (st.heap.alloc ⟨1, cs, true⟩))) else none
  else some (.pointer (some ⟨st.locs.length, 0, some 0⟩), (st.setLocs (st.locs ++ [cs])))

theorem newBox_ok {P : Program} (r : Rel hm lb w0 U st w a) {heap : Bool} {cs : List Value} {v : Value} {st' : AS} (h : st.newBox heap cs = some (v, st')) {T : TypeId} {C : Array Value} (hc : L2 (SR hm lb) cs C.toList) :
    ∃ hm' lb' w' cv, (do pure (.pointer (some (← newRow T C))) : Sem Value).run P w = .ok cv w' ∧ hm.le hm' ∧ (∀ (k B : Nat), lb[k]? = some B → lb'[k]? = some B) ∧ Rel hm' lb' w0 U st' w' a ∧ VR hm' lb' v cv ∧ Grows w w' := by
  unfold AS.newBox at h
  have hrun : (do pure (.pointer (some (← newRow T C))) : Sem Value).run P w = .ok (.pointer (some ⟨w.heap.size, 0, none⟩)) (w.alloc (.cells C T)) := by
    simp [newRow]
  cases heap with
  | true =>
    simp only [if_true] at h
    split at h
    · rename_i hh
      cases h
      have hlen := hc.1
      have hc' := hc.hp hh []
      refine ⟨_, lb, _, _, hrun, HM.put_le (r.fresh _ (Nat.le_refl _)), fun _ _ x => x, r.newBlk C T (0, 0) (Free.zero _) ⟨1, cs, true⟩ rfl (by simp at hlen; simp; omega) (fun k v hk => ?_), ?_⟩
      · obtain ⟨v', h1, h2⟩ := hc'.get hk
        exact ⟨v', by simpa using h1, h2⟩
      · exact ⟨⟨⟨w.heap.size, 0, none⟩, by simp [amap, HM.put], rfl⟩, Grows.alloc w _⟩
    · cases h
  | false =>
    simp at h
    obtain ⟨rfl, rfl⟩ := h
    refine ⟨hm, _, _, _, hrun, HM.le_refl _, app_old, r.newLoc C T cs hc r.Ult, ?_⟩
    exact ⟨⟨⟨w.heap.size, 0, none⟩, by simp [amap, ← r.llen], rfl⟩, Grows.alloc w _⟩
end

end Go.Ahl
