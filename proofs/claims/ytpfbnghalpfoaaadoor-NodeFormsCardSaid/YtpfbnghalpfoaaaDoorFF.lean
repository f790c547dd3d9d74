/-
  A logic over the model, part six: arithmetic, parts of values, places of fields and elements, values made of parts.
-/
import Derived.Test.YtpfbnghalpfoaaaDoorFE
import Derived.Laws.Tables
namespace Go.Fhl
set_option linter.unusedVariables false
set_option linter.unusedSimpArgs false

/-! ## What neither reads nor writes memory -/
def pureRun {α : Type} (P : Program) : Sem α → Option α
  | .pure a => some a
  | .program k => pureRun P (k P)
  | .mark _ k => pureRun P k
  | _ => none
theorem pureRun_ok {α : Type} {P : Program} {s : Sem α} {x : α} (h : pureRun P s = some x) (w : World) : s.run P w = .ok x w := by
  induction s with
  | pure y => cases h; rfl
  | program k ih => exact ih P h
  | mark m k ih => exact ih h
  | _ => simp [pureRun] at h
theorem pureRun_bind {α β : Type} {P : Program} (s : Sem α) (f : α → Sem β) : pureRun P (s >>= f) = (pureRun P s).bind fun x => pureRun P (f x) := by
  show pureRun P (s.bind f) = _
  induction s with
  | pure y => rfl
  | program k ih => exact ih P
  | mark m k ih => exact ih
  | _ => rfl
theorem pureRun_pure {α : Type} {P : Program} (x : α) : pureRun P (pure x) = some x := rfl
theorem pureRun_ite {α : Type} {P : Program} (c : Prop) [Decidable c] (x y : Sem α) : pureRun P (if c then x else y) = if c then pureRun P x else pureRun P y := by split <;> rfl

/-- What is made of plain values by a pure operation is taken where it is plain. -/
def keep (v : Option Value) : Option Value := v.bind fun v => if plain v then some v else none
theorem keep_ok {o : Option Value} {v : Value} (h : keep o = some v) : o = some v ∧ plain v = true := by
  cases o with
  | none => simp [keep] at h
  | some x =>
    simp only [keep, Option.bind_some] at h
    split at h
    · cases h; exact ⟨rfl, ‹_›⟩
    · cases h

def abin (P : Program) (op : BinOp) (t : TypeId) (xo yo : Operand) (x y : Value) : Option Value :=
  if plain x && plain y then pureRun P (do eqGuard op t xo yo x y; binOp op t x y) else none

section
variable {hm : GM} {lb : LM} {w0 : World} {U : Env} {st : AS} {w : World} {a : Act} {P : Program}

theorem abin_ok {op : BinOp} {t : TypeId} {xo yo : Operand} {x y v cx cy : Value} (h : keep (abin P op t xo yo x y) = some v) (hx : VR hm lb x cx) (hy : VR hm lb y cy) :
    (do eqGuard op t xo yo cx cy; binOp op t cx cy : Sem Value).run P w = .ok v w ∧ VR hm lb v v := by
  obtain ⟨h, hp⟩ := keep_ok h
  unfold abin at h
  split at h
  · rename_i hc
    simp only [Bool.and_eq_true] at hc
    obtain rfl := hx.plain hc.1
    obtain rfl := hy.plain hc.2
    exact ⟨pureRun_ok h w, .of_plain hp⟩
  · cases h

theorem equalIn_ptr (d : Nat) {t e : TypeId} {c : Addr} (hu : und P t = some (.pointer e)) : (Op.equalIn (d + 1) t (.pointer (some c)) (.pointer none)).run P w = .ok false w := by
  simp [Op.equalIn, run_und hu]
theorem equal_eq (t : TypeId) (x y : Value) : Op.equal t x y = Op.equalIn (9999 + 1) t x y := rfl
/-- A pointer that is there is not nil. -/
theorem ptrNil_ok {op : BinOp} {t e : TypeId} {xo yo : Operand} {p : Addr} {b : Bool} {cx cy : Value} (hu : und P t = some (.pointer e)) (hop : (op = .eql ∧ b = false) ∨ (op = .neq ∧ b = true)) (hx : VR hm lb (.pointer (some p)) cx) (hy : VR hm lb (.pointer none) cy) :
    (do eqGuard op t xo yo cx cy; binOp op t cx cy : Sem Value).run P w = .ok (.bool b) w := by
  obtain ⟨c, _, rfl⟩ := hx.sr rfl
  obtain rfl : cy = _ := (hy.sr rfl)
  rcases hop with ⟨rfl, rfl⟩ | ⟨rfl, rfl⟩
  · simp only [eqGuard, binOp, equal_eq, Sem.run_bind, equalIn_ptr 9999 hu]
    rfl
  · simp only [eqGuard, binOp, equal_eq, Sem.run_bind, equalIn_ptr 9999 hu]
    rfl

def aun (P : Program) (op : UnOp) (x : Value) : Option Value := if plain x then keep (pureRun P (Op.unary op x)) else none
theorem aun_ok {op : UnOp} {x v cx : Value} (h : aun P op x = some v) (hx : VR hm lb x cx) : (Op.unary op cx).run P w = .ok v w ∧ VR hm lb v v := by
  unfold aun at h
  split at h
  · rename_i hc
    obtain ⟨h, hp⟩ := keep_ok h
    obtain rfl := hx.plain hc
    exact ⟨pureRun_ok h w, .of_plain hp⟩
  · cases h

/-! ## Parts -/
def apart (P : Program) (t : TypeId) (cs : Array Value) (off : Nat) : Option Value :=
  match und P t with
  | some d => if agg? d then (match sz P t with | some s => if off + s ≤ cs.size then some (.agg (cs.extract off (off + s))) else none | none => none) else cs[off]?
  | none => none
theorem apart_ok {t : TypeId} {cs cs' : Array Value} {off : Nat} {v : Value} (h : apart P t cs off = some v) (hc : L2 (SR hm lb) cs.toList cs'.toList) :
    ∃ cv, (∀ w, (part t cs' off).run P w = .ok cv w) ∧ VR hm lb v cv := by
  unfold apart at h
  have hlen : cs.size = cs'.size := by have := hc.1; simpa using this
  cases hu : und P t with
  | none => simp [hu] at h
  | some d =>
    simp only [hu] at h
    by_cases hg : agg? d = true
    · simp only [hg, if_true] at h
      cases hs : sz P t with
      | none => simp [hs] at h
      | some s =>
        simp only [hs] at h
        split at h
        · rename_i hle
          cases h
          refine ⟨.agg (cs'.extract off (off + s)), fun w => ?_, _, rfl, ?_⟩
          · simp [part, run_isAgg hu, hg, run_sizeOf hs]
          · have := slice_rel (R := SR hm lb) (cs := cs.toList) (C := cs') (base := 0) (fun k v hk => by simpa using hc.get hk) off s (by simpa using hle) (by simp [hlen])
            have e : (cs.extract off (off + s)).toList = (cs.toList.drop off).take s := by
              rw [Array.toList_extract, List.extract_eq_take_drop, Nat.add_sub_cancel_left]
            rw [e]
            simpa using this
        · cases h
    · simp only [hg] at h
      have h' : cs.toList[off]? = some v := by simpa using h
      obtain ⟨cv, h1, h2⟩ := hc.get h'
      have h1' : cs'[off]? = some cv := by simpa using h1
      refine ⟨cv, fun w => ?_, ?_⟩
      · simp [part, run_isAgg hu, hg, h1']
      · by_cases ho : one v = true
        · exact .of_sr ho h2
        · cases v <;> first | (simp [one] at ho; done) | exact h2.elim

def afield (P : Program) (t : TypeId) (x : Value) (f : Nat) : Option Value :=
  match und P t, x with
  | some (.struct fs), .agg cs => match fs[f]? with | some fd => apart P fd.type cs fd.offset | none => none
  | _, _ => none
theorem afield_ok {t : TypeId} {x cx v : Value} {f : Nat} (h : afield P t x f = some v) (hx : VR hm lb x cx) :
    ∃ cv, (∀ w, (Instr.field t cx f).run P w = .ok cv w) ∧ VR hm lb v cv := by
  unfold afield at h
  split at h
  · rename_i fs cs hu
    cases hf : fs[f]? with
    | none => simp [hf] at h
    | some fd =>
      simp only [hf] at h
      obtain ⟨cs', rfl, hc⟩ := hx
      obtain ⟨cv, h1, h2⟩ := apart_ok h hc
      refine ⟨cv, fun w => ?_, h2⟩
      simp [Instr.field, run_und hu, hf, asAgg, h1]
  · cases h

def aindexv (P : Program) (t : TypeId) (x i : Value) : Option Value :=
  match und P t, x, i with
  | some (.array len e), .agg cs, .int k i => match sz P e with | some s => if 0 ≤ i ∧ i < len then apart P e cs (i.toNat * s) else none | none => none
  | some .string, .string s, .int k i => if 0 ≤ i then (s[i.toNat]?).map fun b => .int .u8 b.toNat else none
  | _, _, _ => none
theorem aindexv_ok {t : TypeId} {x cx i ci v : Value} (h : aindexv P t x i = some v) (hx : VR hm lb x cx) (hi : VR hm lb i ci) :
    ∃ cv, (∀ w, (Instr.index t cx ci).run P w = .ok cv w) ∧ VR hm lb v cv := by
  unfold aindexv at h
  split at h
  · rename_i len e cs k i hu
    obtain rfl : ci = _ := hi.sr rfl
    cases hs : sz P e with
    | none => simp [hs] at h
    | some s =>
      simp only [hs] at h
      split at h
      · rename_i hb
        obtain ⟨cs', rfl, hc⟩ := hx
        obtain ⟨cv, h1, h2⟩ := apart_ok h hc
        refine ⟨cv, fun w => ?_, h2⟩
        simp [Instr.index, asIntOf, run_und hu, hb, run_sizeOf hs, h1]
      · cases h
  · rename_i s k i hu
    obtain rfl : ci = _ := hi.sr rfl
    obtain rfl : cx = _ := hx.sr rfl
    split at h
    · rename_i hb
      cases hg : s[i.toNat]? with
      | none => simp [hg] at h
      | some b =>
        simp [hg] at h
        subst h
        refine ⟨_, fun w => ?_, .of_sr rfl rfl⟩
        simp [Instr.index, asIntOf, run_und hu, hb, hg]
    · cases h
  · cases h

def aextract (x : Value) (i : Nat) : Option Value :=
  match x with
  | .tuple vs => (vs[i]?).bind fun v => match v with | .tuple _ => none | v => some v
  | _ => none
theorem VR.of_vr1 {v cv : Value} (h : ∀ vs, v ≠ .tuple vs) (e : VR1 hm lb v cv) : VR hm lb v cv := by
  unfold VR
  split
  · exact absurd rfl (h _)
  · exact e
theorem aextract_ok {x cx v : Value} {i : Nat} (h : aextract x i = some v) (hx : VR hm lb x cx) :
    ∃ cv, (∀ w, (Instr.extract cx i).run P w = .ok cv w) ∧ VR hm lb v cv := by
  unfold aextract at h
  split at h
  · rename_i vs
    cases hv : vs[i]? with
    | none => simp [hv] at h
    | some u =>
      simp only [hv, Option.bind_some] at h
      rcases hx with rfl | ⟨rfl, _⟩ | ⟨vs', rfl, hc⟩
      · simp at hv
      · have hi : i = 0 := by have := alookup_lt hv; simpa using this
        subst hi
        simp at hv
        subst hv
        simp at h
      · obtain ⟨cv, h1, h2⟩ := hc.get (i := i) (a := u) (by simpa using hv)
        split at h
        · cases h
        · rename_i hnt
          cases h
          refine ⟨cv, fun w => ?_, VR.of_vr1 hnt h2⟩
          have h1' : vs'[i]? = some cv := by simpa using h1
          simp [Instr.extract, h1']
  · cases h

/-! ## Places of fields and elements -/
/-! ## Places of fields and elements -/
/-! ## Places of fields and elements -/
theorem ARel.add {x c : Addr} (h : ARel hm lb x c) (k : Nat) : ARel hm lb ⟨x.block, x.off + k, x.spot⟩ (c.add k) ∧ c.spot = none := by
  unfold ARel at *
  cases hs : x.spot with
  | none =>
    simp only [hs] at h ⊢
    obtain ⟨i, h1, h2, rfl⟩ := h
    exact ⟨⟨i, h1, h2, by simp [add_none]⟩, rfl⟩
  | some s =>
    cases s with
    | zero =>
      simp only [hs] at h ⊢
      obtain ⟨B, h1, rfl⟩ := h
      exact ⟨⟨B, h1, by simp [add_none]⟩, rfl⟩
    | succ s =>
      simp only [hs] at h ⊢
      obtain ⟨i, h1, h2, h3, h4, h5⟩ := h
      refine ⟨⟨i, h1, h2, h3, ?_, fun q => ?_⟩, h4⟩
      · unfold Addr.add; split
        · exact h4
        · rfl
      · rw [h5 q, add_none]
theorem fieldAddr_ok {t : TypeId} {fs : Array Field} {fd : Field} {p : Addr} {cx : Value} {f s : Nat} (hu : und P t = some (.struct fs)) (hf : fs[f]? = some fd) (hs : sz P fd.type = some s) (hpos : s ≠ 0) (hx : VR hm lb (.pointer (some p)) cx) :
    ∃ cv, (Instr.fieldAt t cx f).run P w = .ok cv w ∧ VR hm lb (.pointer (some ⟨p.block, p.off + fd.offset, p.spot⟩)) cv := by
  obtain ⟨c, hc, rfl⟩ := hx.sr rfl
  refine ⟨.pointer (some (c.add fd.offset)), ?_, .of_sr rfl ⟨_, (hc.add fd.offset).1, rfl⟩⟩
  simp [Instr.fieldAt, run_und hu, hf, Instr.sureAddr, fieldPlace, run_sizeOf hs, hpos]
theorem fieldAddrD_ok {t : TypeId} {fs : Array Field} {fd : Field} {cs : Array Value} {cx : Value} {f s : Nat} (hu : und P t = some (.struct fs)) (hf : fs[f]? = some fd) (hs : sz P fd.type = some s) (hpos : s ≠ 0) (hx : VR hm lb (.iface 0 (.tuple cs)) cx) :
    ∃ cv, (Instr.fieldAt t cx f).run P w = .ok cv w ∧ VR hm lb (.iface 0 (.tuple (cs.toList.drop fd.offset).toArray)) cv := by
  obtain ⟨B, o, rfl, hz⟩ := hx.sr rfl
  refine ⟨.pointer (some ⟨B, o + fd.offset, none⟩), ?_, .of_sr rfl ⟨B, o + fd.offset, rfl, fun j c hj => ?_⟩⟩
  · simp [Instr.fieldAt, run_und hu, hf, Instr.sureAddr, fieldPlace, run_sizeOf hs, hpos, add_none]
  · have : cs.toList[fd.offset + j]? = some c := by simpa [List.getElem?_drop] using hj
    rw [Nat.add_assoc]; exact hz _ c this

theorem indexAddrArr_ok {t e : TypeId} {len s : Nat} {p : Addr} {k : IntKind} {i : Int} {cx ci : Value} (hu : und P t = some (.array len e)) (hs : sz P e = some s) (h0 : 0 ≤ i ∧ i < len) (hx : VR hm lb (.pointer (some p)) cx) (hi : VR hm lb (.int k i) ci) :
    ∃ cv, (Instr.indexAt t cx ci).run P w = .ok cv w ∧ VR hm lb (.pointer (some ⟨p.block, p.off + i.toNat * s, p.spot⟩)) cv := by
  obtain rfl : ci = _ := hi.sr rfl
  obtain ⟨c, hc, rfl⟩ := hx.sr rfl
  refine ⟨.pointer (some (c.add (i.toNat * s))), ?_, .of_sr rfl ⟨_, (hc.add _).1, rfl⟩⟩
  simp [Instr.indexAt, asIntOf, run_und hu, Instr.sureAddr, h0, run_sizeOf hs]
theorem indexAddrArrD_ok {t e : TypeId} {len s : Nat} {cs : Array Value} {k : IntKind} {i : Int} {cx ci : Value} (hu : und P t = some (.array len e)) (hs : sz P e = some s) (h0 : 0 ≤ i ∧ i < len) (hx : VR hm lb (.iface 0 (.tuple cs)) cx) (hi : VR hm lb (.int k i) ci) :
    ∃ cv, (Instr.indexAt t cx ci).run P w = .ok cv w ∧ VR hm lb (.iface 0 (.tuple (cs.toList.drop (i.toNat * s)).toArray)) cv := by
  obtain rfl : ci = _ := hi.sr rfl
  obtain ⟨B, o, rfl, hz⟩ := hx.sr rfl
  refine ⟨.pointer (some ⟨B, o + i.toNat * s, none⟩), ?_, .of_sr rfl ⟨B, o + i.toNat * s, rfl, fun j c hj => ?_⟩⟩
  · simp [Instr.indexAt, asIntOf, run_und hu, Instr.sureAddr, h0, run_sizeOf hs, add_none]
  · have : cs.toList[i.toNat * s + j]? = some c := by simpa [List.getElem?_drop] using hj
    rw [Nat.add_assoc]; exact hz _ c this

/-- The element of a frozen slice. -/
theorem indexAddrD_ok {t e : TypeId} {s : Nat} {cs : Array Value} {k : IntKind} {i : Int} {cx ci : Value} (hu : und P t = some (.slice e)) (hs : sz P e = some (s + 1)) (h0 : 0 ≤ i) (h1 : i.toNat * (s + 1) + (s + 1) ≤ cs.size)
    (hx : VR hm lb (.iface (s + 1) (.tuple cs)) cx) (hi : VR hm lb (.int k i) ci) :
    ∃ cv, (Instr.indexAt t cx ci).run P w = .ok cv w ∧ VR hm lb (.iface 0 (.tuple ((cs.toList.drop (i.toNat * (s + 1))).take (s + 1)).toArray)) cv := by
  obtain rfl : ci = _ := hi.sr rfl
  obtain ⟨a0, n, cap, rfl, hn, hcap, hz⟩ := hx.sr rfl
  have hne : cs.toList ≠ [] := by
    intro q
    have : cs.size = 0 := by rw [← Array.length_toList, q]; rfl
    omega
  rcases hz with hz | ⟨B, o, rfl, hz⟩
  · exact absurd hz hne
  · have hlt : i.toNat < n := by
      have h2 : (i.toNat + 1) * (s + 1) ≤ n * (s + 1) := by rw [Nat.add_mul, hn]; simpa using h1
      exact Nat.lt_of_succ_le (Nat.le_of_mul_le_mul_right h2 (by omega))
    refine ⟨.pointer (some ⟨B, o + i.toNat * (s + 1), none⟩), ?_, .of_sr rfl ⟨B, o + i.toNat * (s + 1), rfl, fun j c hj => ?_⟩⟩
    · have hb : 0 ≤ i ∧ i < (n : Int) := ⟨h0, by omega⟩
      simp [Instr.indexAt, asIntOf, run_und hu, hb, run_sizeOf hs, add_none]
    · have hj2 : j < s + 1 := by have := lookup_lt hj; simp at this; omega
      have : cs.toList[i.toNat * (s + 1) + j]? = some c := by
        simp only [List.toList_toArray] at hj
        rw [List.getElem?_take_of_lt hj2, List.getElem?_drop] at hj; exact hj
      rw [Nat.add_assoc]; exact hz _ c this

/-- The element of a named slice whose block stays. -/
theorem indexAddrF_ok {t e : TypeId} {s : Nat} {n off len cap : Nat} {k : IntKind} {i : Int} {cx ci : Value} (hu : und P t = some (.slice e)) (hs : sz P e = some s) (h0 : 0 ≤ i) (h1 : i.toNat < len)
    (hx : VR hm lb (.slice (some ⟨n, off, none⟩) len cap) cx) (hi : VR hm lb (.int k i) ci) :
    ∃ cv, (Instr.indexAt t cx ci).run P w = .ok cv w ∧ VR hm lb (.pointer (some ⟨n, off + i.toNat * s, none⟩)) cv := by
  obtain rfl : ci = _ := hi.sr rfl
  obtain ⟨j, o, h2, h3, rfl, h4, h5, h6⟩ := hx.sr rfl
  have ho := h5 (by omega)
  simp only at ho
  subst ho
  refine ⟨.pointer (some ⟨j.blk, o + i.toNat * s, none⟩), ?_, .of_sr rfl ⟨_, ⟨j, h2, h3, rfl⟩, rfl⟩⟩
  have hb : 0 ≤ i ∧ i < (len : Int) := ⟨h0, by omega⟩
  simp [Instr.indexAt, asIntOf, run_und hu, hb, run_sizeOf hs, add_none]

/-- The element of a slice that may grow. -/
theorem indexAddrG_ok (r : Rel hm lb w0 U st w a) {t e : TypeId} {s : Nat} {n len cap : Nat} {b : Blk} {k : IntKind} {i : Int} {cx ci : Value} (hu : und P t = some (.slice e)) (hs : sz P e = some s) (h0 : 0 ≤ i) (h1 : i.toNat < len)
    (hb : st.heap.get n = some b) (hg : b.gro = true) (hez : b.esz = s) (hl : len * s = b.cells.length)
    (hx : VR hm lb (.slice (some ⟨n, 0, some 1⟩) len cap) cx) (hi : VR hm lb (.int k i) ci) :
    ∃ cv, (Instr.indexAt t cx ci).run P w = .ok cv w ∧ VR hm lb (.pointer (some ⟨n, i.toNat * s, some (b.cells.length + 1)⟩)) cv := by
  obtain rfl : ci = _ := hi.sr rfl
  obtain ⟨j, p, cap', h2, h3, rfl, h4, h5⟩ := hx.sr rfl
  obtain ⟨i', g1, g2, g3, g4, gp, g5⟩ := r.blk n b hb
  simp only at h2
  rw [h2] at g1; cases g1
  have hjl : j.len = len * j.esz := by rw [(g4 hg).1, g2, hez, hl]
  obtain ⟨k1, k2, k3⟩ := h5 hjl
  obtain rfl := k2 (by omega)
  refine ⟨.pointer (some ⟨j.blk, 0 + i.toNat * s, none⟩), ?_, .of_sr rfl ⟨_, ⟨j, h2, h3, by have := (g4 hg).1; omega, rfl, fun _ => by simp⟩, rfl⟩⟩
  have hb : 0 ≤ i ∧ i < (len : Int) := ⟨h0, by omega⟩
  simp [Instr.indexAt, asIntOf, run_und hu, hb, run_sizeOf hs, add_none]

def anilCheck : Value → Option Value
  | .pointer (some a) => some (.pointer (some a))
  | .func (.func f) first c => some (.func (.func f) first c)
  | _ => none

/-! ## Values made of parts -/
def SR1 (hm : GM) (lb : LM) (x y : Nat × Value) : Prop := x.1 = y.1 ∧ VR hm lb x.2 y.2 ∧ (∀ vs, x.2 ≠ .tuple vs)

theorem cells_of {v : Value} (h : ∀ vs, v ≠ .tuple vs) : cellsOf v = some v.cells.toList := by
  cases v <;> first | rfl | exact absurd rfl (h _)

theorem foldl_set_rel {R : Value → Value → Prop} (off : Nat) : ∀ (l l' : List Value) (j : Nat) (cs cs' : Array Value), L2 R l l' → L2 R cs.toList cs'.toList →
    L2 R ((l.zipIdx j).foldl (fun cs (c, j) => cs.setIfInBounds (off + j) c) cs).toList ((l'.zipIdx j).foldl (fun cs (c, j) => cs.setIfInBounds (off + j) c) cs').toList
  | [], l', j, cs, cs', h, k => by rw [h.nil_inv]; exact k
  | x :: l, l', j, cs, cs', h, k => by
    obtain ⟨y, t, rfl, h1, h2⟩ := h.cons_inv
    simp only [List.zipIdx_cons, List.foldl_cons]
    refine foldl_set_rel off l t (j + 1) _ _ h2 ?_
    refine ⟨by have := k.1; simpa using this, fun i u v hu hv => ?_⟩
    simp only [Array.getElem?_toList, Array.getElem?_setIfInBounds] at hu hv
    have hlen : cs.size = cs'.size := by have := k.1; simpa using this
    by_cases q : off + j = i
    · simp only [q, if_true] at hu hv
      split at hu
      · rw [if_pos (by omega)] at hv
        cases hu; cases hv; exact h1
      · cases hu
    · simp only [q, if_false] at hu hv
      exact k.2 i u v (by simpa using hu) (by simpa using hv)

theorem fill_rel (place : Nat → Option (Nat × Nat)) : ∀ (ps ps' : List (Nat × Value)) (cs cs' r : Array Value), L2 (SR1 hm lb) ps ps' → L2 (SR hm lb) cs.toList cs'.toList →
    Instr.fill place cs ps = some r → ∃ r', Instr.fill place cs' ps' = some r' ∧ L2 (SR hm lb) r.toList r'.toList
  | [], ps', cs, cs', r, h, k, e => by
    rw [h.nil_inv]
    simp only [Instr.fill] at e ⊢
    cases e
    exact ⟨cs', rfl, k⟩
  | (i, v) :: ps, ps', cs, cs', r, h, k, e => by
    obtain ⟨⟨i', v'⟩, t, rfl, h1, h2⟩ := h.cons_inv
    obtain ⟨e1, e2, e3⟩ := h1
    simp only at e1 e2 e3
    subst e1
    have hc := cells_rel e2 (cells_of e3)
    have hsz : v.cells.size = v'.cells.size := by have := hc.1; simpa using this
    have hlen : cs.size = cs'.size := by have := k.1; simpa using this
    simp only [Instr.fill] at e ⊢
    cases hp : place i with
    | none => simp [hp] at e
    | some q =>
      obtain ⟨off, size⟩ := q
      simp only [hp] at e ⊢
      rw [← hsz, ← hlen]
      split at e
      · cases e
      · rename_i hcond
        rw [if_neg hcond]
        refine fill_rel place ps t _ _ r h2 ?_ e
        have := foldl_set_rel (R := SR hm lb) off v.cells.toList v'.cells.toList 0 cs cs' hc k
        have e1 : ∀ (u : Array Value) (cs : Array Value), Array.foldl (fun (cs : Array Value) (x : Value × Nat) => match x with | (c, j) => cs.setIfInBounds (off + j) c) cs u.zipIdx =
            (u.toList.zipIdx 0).foldl (fun cs (c, j) => cs.setIfInBounds (off + j) c) cs := by
          intro u cs
          rw [← Array.foldl_toList, Array.toList_zipIdx]
        rw [e1, e1]
        exact this

def abuild (P : Program) (t : TypeId) (ps : List (Nat × Value)) : Option Value :=
  match zr P t with
  | some z => if z.cells.toList.all plain1 ∧ ps.all (fun p => !(p.2 matches .tuple _)) then (P.built t ps).map .agg else none
  | none => none

theorem abuild_ok {t : TypeId} {ps : List (Nat × Value)} {ps' : Array (Nat × Value)} {v : Value} (h : abuild P t ps = some v)
    (hp : L2 (fun x y => x.1 = y.1 ∧ VR hm lb x.2 y.2) ps ps'.toList) : ∃ cv, (∀ w, (Instr.build t ps').run P w = .ok cv w) ∧ VR hm lb v cv := by
  unfold abuild at h
  cases hz : zr P t with
  | none => simp [hz] at h
  | some z =>
    simp only [hz] at h
    split at h
    · rename_i hc
      obtain ⟨hc1, hc2⟩ := hc
      cases hb : P.built t ps with
      | none => simp [hb] at h
      | some cells =>
        simp [hb] at h
        subst h
        have hps : L2 (SR1 hm lb) ps ps'.toList := ⟨hp.1, fun i x y hx hy => by
          obtain ⟨h1, h2⟩ := hp.2 i x y hx hy
          refine ⟨h1, h2, fun vs e => ?_⟩
          have := List.all_eq_true.1 hc2 x (List.mem_of_getElem? hx)
          rw [e] at this; simp at this⟩
        have key : ∃ cells', P.built t ps'.toList = some cells' ∧ L2 (SR hm lb) cells.toList cells'.toList := by
          unfold Program.built at hb ⊢
          unfold zr at hz
          cases hit : P.info? t with
          | none => simp [hit] at hz
          | some it =>
            simp [hit] at hz
            have hzz : L2 (SR hm lb) z.cells.toList z.cells.toList := L2.of_plain hc1
            cases hu : P.underlying t with
            | none => simp [hit, hu] at hb
            | some d =>
              cases d <;> try (simp [hit, hu] at hb; done)
              case array n e =>
                simp only [hit, hu, hz] at hb ⊢
                cases hie : P.info? e with
                | none => simp [hie] at hb
                | some ie =>
                  simp only [hie] at hb ⊢
                  exact fill_rel _ ps ps'.toList _ _ _ hps hzz hb
              case struct fields =>
                simp only [hit, hu, hz] at hb ⊢
                split at hb
                · rename_i z' places hz' hpl
                  cases hz'
                  exact fill_rel _ ps ps'.toList _ _ _ hps hzz hb
                · cases hb
        obtain ⟨cells', h1, h2⟩ := key
        exact ⟨.agg cells', fun w => run_build w t ps' cells' h1, cells', rfl, h2⟩
    · cases h

/-! ## New slices -/
def zcells (zs : List Value) (n : Nat) : List Value := (List.range n).map fun i => zs.getD (i % zs.length) default
theorem zcells_eq (zs : Array Value) (n : Nat) : (Array.range n).map (zs[· % zs.size]!) = (zcells zs.toList n).toArray := by
  apply Array.toList_inj.1
  simp only [zcells, Array.toList_map, Array.toList_range, Array.length_toList]
  refine List.map_congr_left fun i _ => ?_
  rw [Array.getElem!_eq_getD, List.getD_eq_getElem?_getD, Array.getD_eq_getD_getElem?, Array.getElem?_toList]

/-- One of a row of cells that are plain. -/
theorem zcells_plain {zs : List Value} {n : Nat} (h : zs.all plain1 = true) (hz : n = 0 ∨ 0 < zs.length) : (zcells zs n).all plain1 = true := by
  rw [List.all_eq_true]
  intro v hv
  simp only [zcells, List.mem_map, List.mem_range] at hv
  obtain ⟨i, hi, rfl⟩ := hv
  have hl : i % zs.length < zs.length := Nat.mod_lt _ (by omega)
  rw [List.getD_eq_getElem?_getD, List.getElem?_eq_getElem hl]
  exact List.all_eq_true.1 h _ (List.getElem_mem hl)

end

end Go.Fhl
