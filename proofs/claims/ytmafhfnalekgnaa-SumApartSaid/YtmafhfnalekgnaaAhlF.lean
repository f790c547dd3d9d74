/-
  The abstract heap logic, part six: values made of parts, slices of slices and strings, new slices, lengths.
-/
import Derived.Test.YtmafhfnalekgnaaAhlE
import Derived.Laws.Tables
import Derived.Laws.BytesString
namespace Go.Ahl
set_option linter.unusedVariables false

section
variable {hm : HM} {lb : LM} {w0 : World} {U : Env} {st : AS} {w : World} {a : Act} {P : Program}

/-! ## Values made of parts -/
def SR1 (hm : HM) (lb : LM) (x y : Nat × Value) : Prop := x.1 = y.1 ∧ VR hm lb x.2 y.2 ∧ (∀ vs, x.2 ≠ .tuple vs)

theorem cells_of {v : Value} (h : ∀ vs, v ≠ .tuple vs) : cellsOf v = some v.cells.toList := by
  cases v <;> first | rfl | exact absurd rfl (h _)

theorem foldl_set_rel {R : Value → Value → Prop} (off : Nat) : ∀ (l l' : List Value) (j : Nat) (cs cs' : Array Value), L2 R l l' → L2 R cs.toList cs'.toList →
    L2 R ((l.zipIdx j).foldl (fun cs (c, j) => cs.setIfInBounds (off + j) c) cs).toList ((l'.zipIdx j).foldl (fun cs (c, j) => cs.setIfInBounds (off + j) c) cs').toList
  | [], l', j, cs, cs', h, k => by rw [h.nil_inv]; exact k
  | x :: l, l', j, cs, cs', h, k => by
    obtain ⟨y, t, rfl, h1, h2⟩ := h.cons_inv
    simp only [List.zipIdx_cons, List.foldl_cons]
    refine foldl_set_rel off l t (j + 1) _ _ h2 ?_
    refine ⟨by have := k.1; simpa using this, fun i u v hu hv => ?_⟩
    simp only [Array.getElem?_toList, Array.getElem?_setIfInBounds] at hu hv
    have hlen : cs.size = cs'.size := by have := k.1; simpa using this
    by_cases q : off + j = i
    · simp only [q, if_true] at hu hv
      split at hu
      · rw [if_pos (by omega)] at hv
        cases hu; cases hv; exact h1
      · cases hu
    · simp only [q, if_false] at hu hv
      exact k.2 i u v (by simpa using hu) (by simpa using hv)

theorem fill_rel (place : Nat → Option (Nat × Nat)) : ∀ (ps ps' : List (Nat × Value)) (cs cs' r : Array Value), L2 (SR1 hm lb) ps ps' → L2 (SR hm lb) cs.toList cs'.toList →
    Instr.fill place cs ps = some r → ∃ r', Instr.fill place cs' ps' = some r' ∧ L2 (SR hm lb) r.toList r'.toList
  | [], ps', cs, cs', r, h, k, e => by
    rw [h.nil_inv]
    simp only [Instr.fill] at e ⊢
    cases e
    exact ⟨cs', rfl, k⟩
  | (i, v) :: ps, ps', cs, cs', r, h, k, e => by
    obtain ⟨⟨i', v'⟩, t, rfl, h1, h2⟩ := h.cons_inv
    obtain ⟨e1, e2, e3⟩ := h1
    simp only at e1 e2 e3
    subst e1
    have hc := cells_rel e2 (cells_of e3)
    have hsz : v.cells.size = v'.cells.size := by have := hc.1; simpa using this
    have hlen : cs.size = cs'.size := by have := k.1; simpa using this
    simp only [Instr.fill] at e ⊢
    cases hp : place i with
    | none => simp [hp] at e
    | some q =>
      obtain ⟨off, size⟩ := q
      simp only [hp] at e ⊢
      rw [← hsz, ← hlen]
      split at e
      · cases e
      · rename_i hcond
        rw [if_neg hcond]
        refine fill_rel place ps t _ _ r h2 ?_ e
        have := foldl_set_rel (R := SR hm lb) off v.cells.toList v'.cells.toList 0 cs cs' hc k
        have e1 : ∀ (u : Array Value) (cs : Array Value), Array.foldl (fun (cs : Array Value) (x : Value × Nat) => match x with | (c, j) => cs.setIfInBounds (off + j) c) cs u.zipIdx =
            (u.toList.zipIdx 0).foldl (fun cs (c, j) => cs.setIfInBounds (off + j) c) cs := by
          intro u cs
          rw [← Array.foldl_toList, Array.toList_zipIdx]
        rw [e1, e1]
        exact this

def abuild (P : Program) (t : TypeId) (ps : List (Nat × Value)) : Option Value :=
  match zr P t with
  | some z => if z.cells.toList.all plain1 ∧ ps.all (fun p => !(p.2 matches .tuple _)) then (P.built t ps).map .agg else none
  | none => none

theorem abuild_ok {t : TypeId} {ps : List (Nat × Value)} {ps' : Array (Nat × Value)} {v : Value} (h : abuild P t ps = some v)
    (hp : L2 (fun x y => x.1 = y.1 ∧ VR hm lb x.2 y.2) ps ps'.toList) : ∃ cv, (∀ w, (Instr.build t ps').run P w = .ok cv w) ∧ VR hm lb v cv := by
  unfold abuild at h
  cases hz : zr P t with
  | none => simp [hz] at h
  | some z =>
    simp only [hz] at h
    split at h
    · rename_i hc
      obtain ⟨hc1, hc2⟩ := hc
      cases hb : P.built t ps with
      | none => simp [hb] at h
      | some cells =>
        simp [hb] at h
        subst h
        have hps : L2 (SR1 hm lb) ps ps'.toList := ⟨hp.1, fun i x y hx hy => by
          obtain ⟨h1, h2⟩ := hp.2 i x y hx hy
          refine ⟨h1, h2, fun vs e => ?_⟩
          have := List.all_eq_true.1 hc2 x (List.mem_of_getElem? hx)
          rw [e] at this; simp at this⟩
        have key : ∃ cells', P.built t ps'.toList = some cells' ∧ L2 (SR hm lb) cells.toList cells'.toList := by
          unfold Program.built at hb ⊢
          unfold zr at hz
          cases hit : P.info? t with
          | none => simp [hit] at hz
          | some it =>
            simp [hit] at hz
            have hzz : L2 (SR hm lb) z.cells.toList z.cells.toList := L2.of_plain hc1
            cases hu : P.underlying t with
            | none => simp [hit, hu] at hb
            | some d =>
              cases d <;> try (simp [hit, hu] at hb; done)
              case array n e =>
                simp only [hit, hu, hz] at hb ⊢
                cases hie : P.info? e with
                | none => simp [hie] at hb
                | some ie =>
                  simp only [hie] at hb ⊢
                  exact fill_rel _ ps ps'.toList _ _ _ hps hzz hb
              case struct fields =>
                simp only [hit, hu, hz] at hb ⊢
                split at hb
                · rename_i z' places hz' hpl
                  cases hz'
                  exact fill_rel _ ps ps'.toList _ _ _ hps hzz hb
                · cases hb
        obtain ⟨cells', h1, h2⟩ := key
        exact ⟨.agg cells', fun w => run_build w t ps' cells' h1, cells', rfl, h2⟩
    · cases h

/-! ## New slices -/
def zcells (zs : List Value) (n : Nat) : List Value := (List.range n).map fun i => zs.getD (i % zs.length) default
theorem zcells_eq (zs : Array Value) (n : Nat) : (Array.range n).map (zs[· % zs.size]!) = (zcells zs.toList n).toArray := by
  apply Array.toList_inj.1
  simp only [zcells, Array.toList_map, Array.toList_range, Array.length_toList]
  refine List.map_congr_left fun i _ => ?_
  rw [Array.getElem!_eq_getD, List.getD_eq_getElem?_getD, Array.getD_eq_getD_getElem?, Array.getElem?_toList]

/-- One of a row of cells that are plain. -/
theorem zcells_plain {zs : List Value} {n : Nat} (h : zs.all plain1 = true) (hz : n = 0 ∨ 0 < zs.length) : (zcells zs n).all plain1 = true := by
  rw [List.all_eq_true]
  intro v hv
  simp only [zcells, List.mem_map, List.mem_range] at hv
  obtain ⟨i, hi, rfl⟩ := hv
  have hl : i % zs.length < zs.length := Nat.mod_lt _ (by omega)
  rw [List.getD_eq_getElem?_getD, List.getElem?_eq_getElem hl]
  exact List.all_eq_true.1 h _ (List.getElem_mem hl)

theorem plain_hp {l : List Value} (h : l.all plain1 = true) : l.all hp1 = true := by
  rw [List.all_eq_true] at h ⊢
  intro v hv
  have := h v hv
  cases v <;> first | rfl | (simp [plain1] at this; done) | skip
  case pointer p => cases p <;> first | rfl | (simp [plain1] at this; done)

def abuildSlice (P : Program) (st : AS) (t : TypeId) (len : Nat) (ps : List (Nat × Value)) : Option (Value × AS) :=
  match und P t with
  | some (.slice e) =>
    match sz P e, zr P e with
    | some s, some z =>
      if len * s ≤ 16777216 ∧ z.cells.toList.all plain1 ∧ 0 < s ∧ z.cells.size = s ∧ ps.all (fun p => !(p.2 matches .tuple _)) then
        match Instr.fill (fun i => some (i * s, s)) (zcells z.cells.toList (len * s)).toArray ps with
        | some cells => if cells.toList.all hp1 ∧ cells.size = len * s then some (.slice (some ⟨st.heap.next, 0, none⟩) len len, (st.setHeap (st.heap.alloc ⟨s, cells.toList, true⟩))) else none
        | none => none
      else none
    | _, _ => none
  | _ => none

theorem put_same {n : Nat} {i : Info} : hm.put n i n = some i := by simp [HM.put]

theorem abuildSlice_ok (r : Rel hm lb w0 U st w a) {t : TypeId} {len : Nat} {ps : List (Nat × Value)} {ps' : Array (Nat × Value)} {v : Value} {st' : AS} (h : abuildSlice P st t len ps = some (v, st'))
    (hp : L2 (fun x y => x.1 = y.1 ∧ VR hm lb x.2 y.2) ps ps'.toList) :
    ∃ hm' w' cv, (Instr.buildSlice t len ps').run P w = .ok cv w' ∧ hm.le hm' ∧ Rel hm' lb w0 U st' w' a ∧ VR hm' lb v cv ∧ Grows w w' := by
  unfold abuildSlice at h
  split at h
  · rename_i e hu
    split at h
    · rename_i s z hs hz
      split at h
      · rename_i hc
        obtain ⟨c1, c2, c3, c4, c5⟩ := hc
        split at h
        · rename_i cells hf
          split at h
          · rename_i hh
            cases h
            have hps : L2 (SR1 hm lb) ps ps'.toList := ⟨hp.1, fun i x y hx hy => by
              obtain ⟨h1, h2⟩ := hp.2 i x y hx hy
              refine ⟨h1, h2, fun vs e => ?_⟩
              have := List.all_eq_true.1 c5 x (List.mem_of_getElem? hx)
              rw [e] at this; simp at this⟩
            have hzc := zcells_plain (n := len * s) c2 (by right; simp; omega)
            obtain ⟨cells', f1, f2⟩ := fill_rel (hm := hm) (lb := lb) _ ps ps'.toList _ (zcells z.cells.toList (len * s)).toArray cells hps (by simpa using L2.of_plain hzc) hf
            have f3 := f2.hp hh.1 []
            have hlen : cells.size = cells'.size := by have := f2.1; simpa using this
            refine ⟨_, _, .slice (some ⟨w.heap.size, 0, none⟩) len len, ?_, HM.put_le (r.fresh _ (Nat.le_refl _)), r.newBlk cells' e (0, 0) (Free.zero _) ⟨s, cells.toList, true⟩ rfl (by simp; omega) (fun k v hk => ?_), ?_⟩
            · have hn : ¬ len * s > 2 ^ 24 := by omega
              simp only [Instr.buildSlice, Sem.run_bind, run_und hu, Result.andThen_ok, run_sizeOf hs, hn, if_false]
              by_cases hz0 : len * s = 0
              · rw [hz0] at f1 ⊢
                simp only [if_true, Sem.run_bind, Sem.run_pure, Result.andThen_ok]
                have : (Array.range 0).map (fun x => (#[] : Array Value)[x % (#[] : Array Value).size]!) = (zcells z.cells.toList 0).toArray := by simp [zcells]
                rw [this, f1]
                simp [newRow]
              · simp only [hz0, if_false, Sem.run_bind, run_zero hz, Sem.run_pure, Result.andThen_ok]
                rw [zcells_eq, f1]
                simp [newRow]
            · obtain ⟨v', g1, g2⟩ := f3.get hk
              exact ⟨v', by simpa using g1, g2⟩
            · refine ⟨.of_sr rfl ⟨_, 0, len, put_same, rfl, Nat.le_refl _, fun _ => rfl, ?_, Nat.le_refl _, fun _ => rfl⟩, Grows.alloc w _⟩
              simp only [Nat.zero_add]; omega
          · cases h
        · cases h
      · cases h
    · cases h
  · cases h

def amakeSlice (P : Program) (st : AS) (t : TypeId) (l c : Value) : Option (Value × AS) :=
  match und P t, l, c with
  | some (.slice e), .int kl l, .int kc c =>
    match sz P e, bt P e, zr P e with
    | some s, some b, some z =>
      if 0 ≤ l ∧ l ≤ c ∧ c ≤ 9223372036854775807 ∧ (b : Int) * c ≤ 281474976710656 ∧ z.cells.toList.all plain1 ∧ 0 < s ∧ z.cells.size = s then
        some (.slice (some ⟨st.heap.next, 0, none⟩) l.toNat c.toNat, (st.setHeap (st.heap.alloc ⟨s, zcells z.cells.toList (c.toNat * s), true⟩)))
      else none
    | _, _, _ => none
  | _, _, _ => none

theorem wrap_i64 {n : Int} (h0 : -9223372036854775808 ≤ n) (h1 : n ≤ 9223372036854775807) : IntKind.i64.wrap n = n := by
  simp only [IntKind.wrap, IntKind.bits, IntKind.signed, Bool.true_and]
  split
  · rename_i h; simp at h; omega
  · rename_i h; simp at h; omega

theorem amakeSlice_ok (r : Rel hm lb w0 U st w a) {t : TypeId} {l c cl cc v : Value} {st' : AS} (h : amakeSlice P st t l c = some (v, st')) (hl : VR hm lb l cl) (hc : VR hm lb c cc) :
    ∃ hm' w' cv, (Instr.makeSlice t cl cc).run P w = .ok cv w' ∧ hm.le hm' ∧ Rel hm' lb w0 U st' w' a ∧ VR hm' lb v cv ∧ Grows w w' := by
  unfold amakeSlice at h
  split at h
  · rename_i e kl l kc c hu
    obtain rfl : cl = _ := hl.sr rfl
    obtain rfl : cc = _ := hc.sr rfl
    split at h
    · rename_i s b z hs hb hz
      split at h
      · rename_i hcond
        obtain ⟨c1, c2, c3, c4, c5, c6, c7⟩ := hcond
        cases h
        have hzc := zcells_plain (n := c.toNat * s) c5 (by right; simp; omega)
        have hlen : (zcells z.cells.toList (c.toNat * s)).length = c.toNat * s := by simp [zcells]
        refine ⟨_, w.alloc (.cells (zcells z.cells.toList (c.toNat * s)).toArray e), .slice (some ⟨w.heap.size, 0, none⟩) l.toNat c.toNat, ?_, HM.put_le (r.fresh _ (Nat.le_refl _)),
          r.newBlk (zcells z.cells.toList (c.toNat * s)).toArray e (0, 0) (Free.zero _) ⟨s, zcells z.cells.toList (c.toNat * s), true⟩ rfl (by simp) (fun k v hk => ?_), ?_⟩
        · unfold bt at hb
          cases hi : P.info? e with
          | none => simp [hi] at hb
          | some ie =>
            simp [hi] at hb
            have w1 := wrap_i64 (n := l) (by omega) (by omega)
            have w2 := wrap_i64 (n := c) (by omega) (by omega)
            have h1 : (decide (c < 0) || decide ((2 : Int) ^ 48 < (b : Int) * c) || decide (l < 0) || decide (c < l)) = false := by
              simp; omega
            simp only [Instr.makeSlice, Sem.run_bind, run_und hu, Result.andThen_ok, asInt, asIntOf, Sem.run_pure, run_typeInfo hi, hb, w1, w2]
            rw [if_neg (by simp; omega)]
            simp only [Sem.run_bind, run_askRoom, Result.andThen_ok, run_sizeOf hs]
            by_cases hz0 : c.toNat * s = 0
            · simp only [hz0, if_true]
              have hr : Array.range 0 = #[] := rfl
              simp [newRow, zcells, hr]
            · simp only [hz0, if_false, Sem.run_bind, run_zero hz, Result.andThen_ok, Sem.run_pure]
              rw [zcells_eq]
              simp [newRow]
        · have := L2.of_plain (hm := hm) (lb := []) hzc
          obtain ⟨v', g1, g2⟩ := this.get hk
          exact ⟨v', by simpa using g1, g2⟩
        · refine ⟨.of_sr rfl ⟨_, 0, c.toNat, put_same, rfl, by omega, fun _ => rfl, ?_, Nat.le_refl _, fun _ => rfl⟩, Grows.alloc w _⟩
          simp [hlen]
      · cases h
    · cases h
  · cases h

/-! ## Lengths -/
def alen (P : Program) (t : TypeId) (x : Value) : Option Value :=
  match und P t, x with
  | some .string, .string s => some (.int .i64 s.size)
  | some (.slice _), .slice _ n _ => some (.int .i64 n)
  | some (.array n _), _ => some (.int .i64 n)
  | _, _ => none
theorem alen_ok {t : TypeId} {ts : Array TypeId} {T : TypeId} {x cx v : Value} (h : alen P t x = some v) (hx : VR hm lb x cx) (ht : ts[0]? = some t) :
    (∀ w, (Builtin.len_ ts T #[cx]).run P w = .ok v w) ∧ VR hm lb v v := by
  unfold alen at h
  split at h
  · rename_i s hu
    cases h
    obtain rfl : cx = _ := hx.sr rfl
    exact ⟨fun w => by simp [Builtin.len_, ht, run_und hu, goInt], .of_sr rfl rfl⟩
  · rename_i e p n c hu
    cases h
    have hcx : ∃ p' c', cx = .slice p' n c' := by
      cases p with
      | none => exact ⟨_, _, hx.sr rfl⟩
      | some p => obtain ⟨i, o, cap', _, rfl, _⟩ := hx.sr rfl; exact ⟨_, _, rfl⟩
    obtain ⟨p', c', rfl⟩ := hcx
    exact ⟨fun w => by simp [Builtin.len_, ht, run_und hu, goInt], .of_sr rfl rfl⟩
  · rename_i n e hu
    cases h
    exact ⟨fun w => by simp [Builtin.len_, ht, run_und hu, goInt], .of_sr rfl rfl⟩
  · cases h

def acap (P : Program) (t : TypeId) (x : Value) : Option Value :=
  match und P t, x with
  | some (.slice _), .slice none _ c => some (.int .i64 c)
  | some (.slice _), .slice (some p) _ c => if p.spot.isNone then some (.int .i64 c) else none
  | _, _ => none
theorem acap_ok {t : TypeId} {ts : Array TypeId} {T : TypeId} {x cx v : Value} (h : acap P t x = some v) (hx : VR hm lb x cx) (ht : ts[0]? = some t) :
    (∀ w, (Builtin.cap_ ts T #[cx]).run P w = .ok v w) ∧ VR hm lb v v := by
  unfold acap at h
  split at h
  · rename_i e n c hu
    cases h
    obtain rfl : cx = _ := hx.sr rfl
    exact ⟨fun w => by simp [Builtin.cap_, ht, run_und hu, goInt], .of_sr rfl rfl⟩
  · rename_i e p n c hu
    split at h
    · rename_i hs
      cases h
      obtain ⟨i, o, cap', h1, rfl, h3, h4, h5, h6, h7⟩ := hx.sr rfl
      rw [h7 (by simpa using hs)]
      exact ⟨fun w => by simp [Builtin.cap_, ht, run_und hu, goInt], .of_sr rfl rfl⟩
    · cases h
  · cases h
end

end Go.Ahl
