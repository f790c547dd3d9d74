/-
  The abstract heap logic, part five: arithmetic, parts of values, places of fields and elements.
-/
import Derived.Test.YtmafhfnalekgnaaAhlD
namespace Go.Ahl
set_option linter.unusedVariables false

/-! ## What neither reads nor writes memory -/
def pureRun {α : Type} (P : Program) : Sem α → Option α
  | .pure a => some a
  | .program k => pureRun P (k P)
  | .mark _ k => pureRun P k
  | _ => none
theorem pureRun_ok {α : Type} {P : Program} {s : Sem α} {x : α} (h : pureRun P s = some x) (w : World) : s.run P w = .ok x w := by
  induction s with
  | pure y => cases h; rfl
  | program k ih => exact ih P h
  | mark m k ih => exact ih h
  | _ => simp [pureRun] at h
theorem pureRun_bind {α β : Type} {P : Program} (s : Sem α) (f : α → Sem β) : pureRun P (s >>= f) = (pureRun P s).bind fun x => pureRun P (f x) := by
  show pureRun P (s.bind f) = _
  induction s with
  | pure y => rfl
  | program k ih => exact ih P
  | mark m k ih => exact ih
  | _ => rfl
theorem pureRun_pure {α : Type} {P : Program} (x : α) : pureRun P (pure x) = some x := rfl
theorem pureRun_ite {α : Type} {P : Program} (c : Prop) [Decidable c] (x y : Sem α) : pureRun P (if c then x else y) = if c then pureRun P x else pureRun P y := by split <;> rfl

def nilEq (P : Program) (op : BinOp) (t : TypeId) (x y : Value) : Option Value :=
  match und P t, op, x, y with
  | some (.slice _), .eql, .slice (some _) _ _, .slice none _ _ => some (.bool false)
  | some (.slice _), .neq, .slice (some _) _ _, .slice none _ _ => some (.bool true)
  | some (.pointer _), .eql, .pointer (some _), .pointer none => some (.bool false)
  | some (.pointer _), .neq, .pointer (some _), .pointer none => some (.bool true)
  | _, _, _, _ => none

def abin (P : Program) (op : BinOp) (t : TypeId) (xo yo : Operand) (x y : Value) : Option Value :=
  if plain x && plain y then pureRun P (do eqGuard op t xo yo x y; binOp op t x y) else nilEq P op t x y

section
variable {hm : HM} {lb : LM} {w0 : World} {U : Env} {st : AS} {w : World} {a : Act} {P : Program}

theorem equalIn_slice (d : Nat) {t e : TypeId} {c : Addr} {l k l' k' : Nat} (hu : und P t = some (.slice e)) : (Op.equalIn (d + 1) t (.slice (some c) l k) (.slice none l' k')).run P w = .ok false w := by
  simp [Op.equalIn, run_und hu]
theorem equalIn_ptr (d : Nat) {t e : TypeId} {c : Addr} (hu : und P t = some (.pointer e)) : (Op.equalIn (d + 1) t (.pointer (some c)) (.pointer none)).run P w = .ok false w := by
  simp [Op.equalIn, run_und hu]
theorem equal_eq (t : TypeId) (x y : Value) : Op.equal t x y = Op.equalIn (9999 + 1) t x y := rfl

theorem nilEq_ok {op : BinOp} {t : TypeId} {xo yo : Operand} {x y v cx cy : Value} (h : nilEq P op t x y = some v) (hx : VR hm lb x cx) (hy : VR hm lb y cy) :
    (do eqGuard op t xo yo cx cy; binOp op t cx cy : Sem Value).run P w = .ok v w ∧ plain v = true := by
  unfold nilEq at h
  split at h
  · rename_i e c _ _ _ _ hu
    cases h
    obtain ⟨i, o, cap', _, rfl, _⟩ := hx.sr rfl
    obtain rfl : cy = _ := (hy.sr rfl)
    refine ⟨?_, rfl⟩
    simp only [eqGuard, binOp, equal_eq, Sem.run_bind, equalIn_slice 9999 hu]
    rfl
  · rename_i hu
    cases h
    obtain ⟨i, o, cap', _, rfl, _⟩ := hx.sr rfl
    obtain rfl : cy = _ := (hy.sr rfl)
    refine ⟨?_, rfl⟩
    simp only [eqGuard, binOp, equal_eq, Sem.run_bind, equalIn_slice 9999 hu]
    rfl
  · rename_i hu
    cases h
    obtain ⟨c, _, rfl⟩ := hx.sr rfl
    obtain rfl : cy = _ := (hy.sr rfl)
    refine ⟨?_, rfl⟩
    simp only [eqGuard, binOp, equal_eq, Sem.run_bind, equalIn_ptr 9999 hu]
    rfl
  · rename_i hu
    cases h
    obtain ⟨c, _, rfl⟩ := hx.sr rfl
    obtain rfl : cy = _ := (hy.sr rfl)
    refine ⟨?_, rfl⟩
    simp only [eqGuard, binOp, equal_eq, Sem.run_bind, equalIn_ptr 9999 hu]
    rfl
  · cases h

/-- What is made of plain values by a pure operation is taken where it is plain. -/
def keep (v : Option Value) : Option Value := v.bind fun v => if plain v then some v else none
theorem keep_ok {o : Option Value} {v : Value} (h : keep o = some v) : o = some v ∧ plain v = true := by
  cases o with
  | none => simp [keep] at h
  | some x =>
    simp only [keep, Option.bind_some] at h
    split at h
    · cases h; exact ⟨rfl, ‹_›⟩
    · cases h

theorem abin_ok {op : BinOp} {t : TypeId} {xo yo : Operand} {x y v cx cy : Value} (h : keep (abin P op t xo yo x y) = some v) (hx : VR hm lb x cx) (hy : VR hm lb y cy) :
    (∀ w, (do eqGuard op t xo yo cx cy; binOp op t cx cy : Sem Value).run P w = .ok v w) ∧ VR hm lb v v := by
  obtain ⟨h, hp⟩ := keep_ok h
  unfold abin at h
  split at h
  · rename_i hc
    simp only [Bool.and_eq_true] at hc
    obtain rfl := hx.plain hc.1
    obtain rfl := hy.plain hc.2
    exact ⟨fun w => pureRun_ok h w, .of_plain hp⟩
  · exact ⟨fun w => (nilEq_ok h hx hy).1, .of_plain hp⟩

def aun (P : Program) (op : UnOp) (x : Value) : Option Value := if plain x then keep (pureRun P (Op.unary op x)) else none
theorem aun_ok {op : UnOp} {x v cx : Value} (h : aun P op x = some v) (hx : VR hm lb x cx) : (∀ w, (Op.unary op cx).run P w = .ok v w) ∧ VR hm lb v v := by
  unfold aun at h
  split at h
  · rename_i hc
    obtain ⟨h, hp⟩ := keep_ok h
    obtain rfl := hx.plain hc
    exact ⟨fun w => pureRun_ok h w, .of_plain hp⟩
  · cases h

/-! ## Parts -/
def apart (P : Program) (t : TypeId) (cs : Array Value) (off : Nat) : Option Value :=
  match und P t with
  | some d => if agg? d then (match sz P t with | some s => if off + s ≤ cs.size then some (.agg (cs.extract off (off + s))) else none | none => none) else cs[off]?
  | none => none
theorem apart_ok {t : TypeId} {cs cs' : Array Value} {off : Nat} {v : Value} (h : apart P t cs off = some v) (hc : L2 (SR hm lb) cs.toList cs'.toList) :
    ∃ cv, (∀ w, (part t cs' off).run P w = .ok cv w) ∧ VR hm lb v cv := by
  unfold apart at h
  have hlen : cs.size = cs'.size := by have := hc.1; simpa using this
  cases hu : und P t with
  | none => simp [hu] at h
  | some d =>
    simp only [hu] at h
    by_cases hg : agg? d = true
    · simp only [hg, if_true] at h
      cases hs : sz P t with
      | none => simp [hs] at h
      | some s =>
        simp only [hs] at h
        split at h
        · rename_i hle
          cases h
          refine ⟨.agg (cs'.extract off (off + s)), fun w => ?_, _, rfl, ?_⟩
          · simp [part, run_isAgg hu, hg, run_sizeOf hs]
          · have := slice_rel (R := SR hm lb) (cs := cs.toList) (C := cs') (base := 0) (fun k v hk => by simpa using hc.get hk) off s (by simpa using hle) (by simp [hlen])
            have e : (cs.extract off (off + s)).toList = (cs.toList.drop off).take s := by
              rw [Array.toList_extract, List.extract_eq_take_drop, Nat.add_sub_cancel_left]
            rw [e]
            simpa using this
        · cases h
    · simp only [hg] at h
      have h' : cs.toList[off]? = some v := by simpa using h
      obtain ⟨cv, h1, h2⟩ := hc.get h'
      have h1' : cs'[off]? = some cv := by simpa using h1
      refine ⟨cv, fun w => ?_, ?_⟩
      · simp [part, run_isAgg hu, hg, h1']
      · by_cases ho : one v = true
        · exact .of_sr ho h2
        · cases v <;> first | (simp [one] at ho; done) | exact h2.elim

def afield (P : Program) (t : TypeId) (x : Value) (f : Nat) : Option Value :=
  match und P t, x with
  | some (.struct fs), .agg cs => match fs[f]? with | some fd => apart P fd.type cs fd.offset | none => none
  | _, _ => none
theorem afield_ok {t : TypeId} {x cx v : Value} {f : Nat} (h : afield P t x f = some v) (hx : VR hm lb x cx) :
    ∃ cv, (∀ w, (Instr.field t cx f).run P w = .ok cv w) ∧ VR hm lb v cv := by
  unfold afield at h
  split at h
  · rename_i fs cs hu
    cases hf : fs[f]? with
    | none => simp [hf] at h
    | some fd =>
      simp only [hf] at h
      obtain ⟨cs', rfl, hc⟩ := hx
      obtain ⟨cv, h1, h2⟩ := apart_ok h hc
      refine ⟨cv, fun w => ?_, h2⟩
      simp [Instr.field, run_und hu, hf, asAgg, h1]
  · cases h

def aindexv (P : Program) (t : TypeId) (x i : Value) : Option Value :=
  match und P t, x, i with
  | some (.array len e), .agg cs, .int k i => match sz P e with | some s => if 0 ≤ i ∧ i < len then apart P e cs (i.toNat * s) else none | none => none
  | some .string, .string s, .int k i => if 0 ≤ i then (s[i.toNat]?).map fun b => .int .u8 b.toNat else none
  | _, _, _ => none
theorem aindexv_ok {t : TypeId} {x cx i ci v : Value} (h : aindexv P t x i = some v) (hx : VR hm lb x cx) (hi : VR hm lb i ci) :
    ∃ cv, (∀ w, (Instr.index t cx ci).run P w = .ok cv w) ∧ VR hm lb v cv := by
  unfold aindexv at h
  split at h
  · rename_i len e cs k i hu
    obtain rfl : ci = _ := hi.sr rfl
    cases hs : sz P e with
    | none => simp [hs] at h
    | some s =>
      simp only [hs] at h
      split at h
      · rename_i hb
        obtain ⟨cs', rfl, hc⟩ := hx
        obtain ⟨cv, h1, h2⟩ := apart_ok h hc
        refine ⟨cv, fun w => ?_, h2⟩
        simp [Instr.index, asIntOf, run_und hu, hb, run_sizeOf hs, h1]
      · cases h
  · rename_i s k i hu
    obtain rfl : ci = _ := hi.sr rfl
    obtain rfl : cx = _ := hx.sr rfl
    split at h
    · rename_i hb
      cases hg : s[i.toNat]? with
      | none => simp [hg] at h
      | some b =>
        simp [hg] at h
        subst h
        refine ⟨_, fun w => ?_, .of_sr rfl rfl⟩
        simp [Instr.index, asIntOf, run_und hu, hb, hg]
    · cases h
  · cases h

def aextract (x : Value) (i : Nat) : Option Value :=
  match x with
  | .tuple vs => (vs[i]?).bind fun v => match v with | .tuple _ => none | v => some v
  | _ => none
theorem VR.of_vr1 {v cv : Value} (h : ∀ vs, v ≠ .tuple vs) (e : VR1 hm lb v cv) : VR hm lb v cv := by
  unfold VR
  split
  · exact absurd rfl (h _)
  · exact e
theorem aextract_ok {x cx v : Value} {i : Nat} (h : aextract x i = some v) (hx : VR hm lb x cx) :
    ∃ cv, (∀ w, (Instr.extract cx i).run P w = .ok cv w) ∧ VR hm lb v cv := by
  unfold aextract at h
  split at h
  · rename_i vs
    cases hv : vs[i]? with
    | none => simp [hv] at h
    | some u =>
      simp only [hv, Option.bind_some] at h
      rcases hx with rfl | ⟨rfl, _⟩ | ⟨vs', rfl, hc⟩
      · simp at hv
      · have hi : i = 0 := by have := alookup_lt hv; simpa using this
        subst hi
        simp at hv
        subst hv
        simp at h
      · obtain ⟨cv, h1, h2⟩ := hc.get (i := i) (a := u) (by simpa using hv)
        split at h
        · cases h
        · rename_i hnt
          cases h
          refine ⟨cv, fun w => ?_, VR.of_vr1 hnt h2⟩
          have h1' : vs'[i]? = some cv := by simpa using h1
          simp [Instr.extract, h1']
  · cases h

/-! ## Places of fields and elements -/
def afieldAddr (P : Program) (t : TypeId) (x : Value) (f : Nat) : Option Value :=
  match und P t, x with
  | some (.struct fs), .pointer (some p) =>
    match fs[f]? with
    | some fd => match sz P fd.type with | some s => if s = 0 then none else some (.pointer (some ⟨p.block, p.off + fd.offset, p.spot⟩)) | none => none
    | none => none
  | _, _ => none
theorem amap_add {x c : Addr} (h : amap hm lb x = some c) (k : Nat) : amap hm lb ⟨x.block, x.off + k, x.spot⟩ = some (c.add k) ∧ c.spot = none := by
  unfold amap at *
  cases hs : x.spot with
  | none =>
    simp only [hs] at h ⊢
    cases hi : hm x.block with
    | none => simp [hi] at h
    | some i => simp [hi] at h; subst h; simp [add_none, Nat.add_assoc]
  | some s =>
    simp only [hs] at h ⊢
    cases hi : lb[x.block]? with
    | none => simp [hi] at h
    | some B => simp [hi] at h; subst h; simp [add_none]
theorem afieldAddr_ok {t : TypeId} {x cx v : Value} {f : Nat} (h : afieldAddr P t x f = some v) (hx : VR hm lb x cx) :
    ∃ cv, (∀ w, (Instr.fieldAt t cx f).run P w = .ok cv w) ∧ VR hm lb v cv := by
  unfold afieldAddr at h
  split at h
  · rename_i fs p hu
    cases hf : fs[f]? with
    | none => simp [hf] at h
    | some fd =>
      simp only [hf] at h
      cases hs : sz P fd.type with
      | none => simp [hs] at h
      | some s =>
        simp only [hs] at h
        split at h
        · cases h
        · rename_i hz
          cases h
          obtain ⟨c, hc, rfl⟩ := hx.sr rfl
          refine ⟨.pointer (some (c.add fd.offset)), fun w => ?_, .of_sr rfl ⟨_, (amap_add hc fd.offset).1, rfl⟩⟩
          simp [Instr.fieldAt, run_und hu, hf, Instr.sureAddr, fieldPlace, run_sizeOf hs, hz]
  · cases h

def aindexAddr (P : Program) (t : TypeId) (x i : Value) : Option Value :=
  match und P t, x, i with
  | some (.array len e), .pointer (some p), .int k i =>
    match sz P e with | some s => if 0 ≤ i ∧ i < len then some (.pointer (some ⟨p.block, p.off + i.toNat * s, p.spot⟩)) else none | none => none
  | some (.slice e), .slice (some p) len cap, .int k i =>
    match sz P e with | some s => if 0 ≤ i ∧ i < len then some (.pointer (some ⟨p.block, p.off + i.toNat * s, none⟩)) else none | none => none
  | _, _, _ => none
theorem aindexAddr_ok {t : TypeId} {x cx i ci v : Value} (h : aindexAddr P t x i = some v) (hx : VR hm lb x cx) (hi : VR hm lb i ci) :
    ∃ cv, (∀ w, (Instr.indexAt t cx ci).run P w = .ok cv w) ∧ VR hm lb v cv := by
  unfold aindexAddr at h
  split at h
  · rename_i len e p k i hu
    obtain rfl : ci = _ := hi.sr rfl
    cases hs : sz P e with
    | none => simp [hs] at h
    | some s =>
      simp only [hs] at h
      split at h
      · rename_i hb
        cases h
        obtain ⟨c, hc, rfl⟩ := hx.sr rfl
        refine ⟨.pointer (some (c.add (i.toNat * s))), fun w => ?_, .of_sr rfl ⟨_, (amap_add hc _).1, rfl⟩⟩
        simp [Instr.indexAt, asIntOf, run_und hu, Instr.sureAddr, hb, run_sizeOf hs]
      · cases h
  · rename_i e p len cap k i hu
    obtain rfl : ci = _ := hi.sr rfl
    cases hs : sz P e with
    | none => simp [hs] at h
    | some s =>
      simp only [hs] at h
      split at h
      · rename_i hb
        cases h
        obtain ⟨j, o, cap', h1, rfl, h3, h4, h5, h6, h7⟩ := hx.sr rfl
        refine ⟨.pointer (some ⟨j.blk, o + i.toNat * s, none⟩), fun w => ?_, .of_sr rfl ⟨_, ?_, rfl⟩⟩
        · simp [Instr.indexAt, asIntOf, run_und hu, hb, run_sizeOf hs, add_none]
        · have := h4 (by omega)
          subst this
          simp [amap, h1, Nat.add_assoc]
      · cases h
  · cases h

def anilCheck : Value → Option Value
  | .pointer (some a) => some (.pointer (some a))
  | .func (.func f) first c => some (.func (.func f) first c)
  | _ => none
end

end Go.Ahl
