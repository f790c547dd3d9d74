/-
  The abstract heap logic, part eight: append, copy, clear, bytes and strings.
-/
import Derived.Test.YtmafhfnalekgnaaAhlG
namespace Go.Ahl
set_option linter.unusedVariables false

theorem growBy_le (newLen : Nat) : ∀ (r c : Nat), c < newLen → Builtin.growBy newLen r c ≤ 2 * newLen + 192
  | 0, c, h => by simp [Builtin.growBy]; omega
  | r + 1, c, h => by
    unfold Builtin.growBy
    rw [if_neg (by omega)]
    by_cases q : c + (c + 768) / 4 < newLen
    · exact growBy_le newLen r _ q
    · cases r with
      | zero => simp [Builtin.growBy]; omega
      | succ r => unfold Builtin.growBy; rw [if_pos (by omega)]; omega
theorem nextslicecap_le {need c : Nat} (h : c < need) : Builtin.nextslicecap need c ≤ 2 * need + 192 := by
  unfold Builtin.nextslicecap
  split
  · omega
  · split
    · omega
    · exact growBy_le need 4 c h

section
variable {hm : HM} {lb : LM} {w0 : World} {U : Env} {st : AS} {w : World} {a : Act} {P : Program}

/-- The cells that are appended, and how many elements they are. -/
def srcCells (P : Program) (st : AS) (e : TypeId) (s : Nat) (xT : TypeId) (x : Value) : Option (List Value × Nat) :=
  match und P xT, x with
  | some (.int _), .int _ n =>
    match zr P e, bt P e with
    | some z, some b => if 0 ≤ n ∧ n ≤ 1099511627776 ∧ n * b ≤ 281474976710656 ∧ z.cells.toList.all plain1 ∧ z.cells.size = s then some (zcells z.cells.toList (n.toNat * s), n.toNat) else none
    | _, _ => none
  | some (.slice _), .slice none n _ => if n = 0 then some ([], 0) else none
  | some (.slice _), .slice (some p) n _ =>
    match st.heap.get p.block with
    | some b => if b.esz = s ∧ p.off + n * s ≤ b.cells.length then some ((b.cells.drop p.off).take (n * s), n) else none
    | none => none
  | some .string, .string str => if s = 1 then some (str.data.toList.map fun b => .int .u8 b.toNat, str.size) else none
  | _, _ => none

/-- The rest of append, behind the questions. -/
def appCore (e : TypeId) (size : Nat) (zeros : Bool) (base : Option Addr) (sLen sCap n : Nat) (x : Value) : Sem Value := do
  let appended : Sem (Array Value) :=
    if !zeros then Builtin.firstCells size n x
    else if n * size = 0 then pure #[]
    else do pure (Builtin.zeroCells (← zeroValue e).cells n)
  let need := sLen + n
  if need ≤ sCap then
    let new ← appended
    if let some a := base then storeCells (a.add (sLen * size)) new.toList
    pure (.slice base need sCap)
  else
    if (need : Int) > IntKind.i64.max ∧ (zeros ∨ (← typeInfo e).bytes = 0) then runtimePanic (.error "growslice: len out of range")
    if Builtin.nextslicecap need sCap * (← typeInfo e).bytes > 2 ^ 48 then (if zeros then runtimePanic (.error "growslice: len out of range") else do
      if !(← Builtin.mayShare size sLen n base x) then mark .noRoom
      unsupported (.resourceLimit "append: a slice or a string whose bytes no memory bears"))
    let newCap ← choose (.appendCap need sCap e)
    askRoom (newCap * (← typeInfo e).bytes)
    let old ← Builtin.firstCells size sLen (.slice base sLen sCap)
    let new ← appended
    let rest := Builtin.zeroCells (← zeroValue e).cells (newCap - need)
    pure (.slice (some (← newRow e (old ++ new ++ rest))) need newCap)

set_option linter.unusedSimpArgs false in
theorem app_pre {sT xT T e : TypeId} {s n : Nat} {d : TypeDesc} {cx : Value} (hu : und P xT = some d) (hd : ∀ k, d ≠ .int k) (hl : (Builtin.lenOf cx).run P w = .ok n w)
   (hs : sz P e = some s) (hsT : und P sT = some (.slice e)) (base : Option Addr) (sLen sCap : Nat) : (Builtin.append_ #[sT, xT] T #[.slice base sLen sCap, cx]).run P w = (appCore e s false base sLen sCap n cx).run P w := by
  unfold Builtin.append_
  have e1 : (#[sT, xT] : Array TypeId)[0]? = some sT := rfl
  have e2 : (#[sT, xT] : Array TypeId)[1]? = some xT := rfl
  have e3 : (#[Value.slice base sLen sCap, cx] : Array Value)[0]? = some (Value.slice base sLen sCap) := rfl
  have e4 : (#[Value.slice base sLen sCap, cx] : Array Value)[1]? = some cx := rfl
  simp only [e1, e2, e3, e4, Sem.run_bind, run_und hsT, run_und hu, run_sizeOf hs, Result.andThen_ok, hl, Sem.run_pure]
  cases d <;> first | exact absurd rfl (hd _) | skip
  all_goals
    unfold appCore
    simp only [Bool.false_eq_true, if_false, false_or, Bool.not_false, if_true, Sem.run_bind, hl, Result.andThen_ok]
    rfl

theorem extract_toList {C : Array Value} {base n : Nat} : (C.extract base (base + n)).toList = (C.toList.drop base).take n := by
  rw [Array.toList_extract, List.extract_eq_take_drop, Nat.add_sub_cancel_left]

/-- What is appended, in the world. -/
theorem srcCells_ok (r : Rel hm lb w0 U st w a) {sT e xT T : TypeId} {s n : Nat} {x cx : Value} {new : List Value} (h : srcCells P st e s xT x = some (new, n)) (hx : VR hm lb x cx)
    (hs : sz P e = some s) (hsT : und P sT = some (.slice e)) :
    ∃ zeros cnew, (∀ base sLen sCap, (Builtin.append_ #[sT, xT] T #[.slice base sLen sCap, cx]).run P w = (appCore e s zeros base sLen sCap n cx).run P w) ∧
      (∀ k, (if !zeros then Builtin.firstCells s n cx else if n * s = 0 then pure #[] else do pure (Builtin.zeroCells (← zeroValue e).cells n) : Sem (Array Value)).run P { w with drawn := k } = .ok cnew { w with drawn := k }) ∧
      L2 (SR hm []) new cnew.toList ∧ new.length = n * s := by
  unfold srcCells at h
  split at h
  · rename_i kk k n0 hu
    obtain rfl : cx = _ := hx.sr rfl
    split at h
    · rename_i z b hz hb
      split at h
      · rename_i hc
        obtain ⟨c1, c2, c3, c4, c5⟩ := hc
        cases h
        have hzc : (zcells z.cells.toList (n0.toNat * s)).all plain1 = true := by
          rcases Nat.eq_zero_or_pos s with q | q
          · exact zcells_plain c4 (.inl (by rw [q]; simp))
          · exact zcells_plain c4 (.inr (by simp; omega))
        have hw := wrap_i64 (n := n0) (by omega) (by omega)
        refine ⟨true, (zcells z.cells.toList (n0.toNat * s)).toArray, fun base sLen sCap => ?_, fun k => ?_, by simpa using L2.of_plain hzc, by simp [zcells]⟩
        · unfold bt at hb
          cases hi : P.info? e with
          | none => simp [hi] at hb
          | some ie =>
            simp [hi] at hb
            have h1 : ¬ n0 < 0 := by omega
            have h2 : ¬ n0 * (ie.bytes : Int) > 2 ^ 48 := by rw [hb]; omega
            have h3 : ¬ (281474976710656 : Int) < n0 * (ie.bytes : Int) := by omega
            simp [Builtin.append_, appCore, run_und hsT, run_und hu, run_sizeOf hs, asInt, asIntOf, hw, h1, h3, run_typeInfo hi]
            rfl
        · by_cases hz0 : n0.toNat * s = 0
          · simp [hz0, zcells]
          · have e1 : n0.toNat * z.cells.size = n0.toNat * s := by rw [c5]
            have e2 : (Array.range (n0.toNat * s)).map (fun i => z.cells[i % z.cells.size]!) = (zcells z.cells.toList (n0.toNat * s)).toArray := zcells_eq _ _
            simp only [hz0, if_false, Bool.not_true, Bool.false_eq_true, Sem.run_bind, run_zero hz, Result.andThen_ok, Builtin.zeroCells, e1, e2, Sem.run_pure]
      · cases h
    · cases h
  · rename_i e2 n0 c0 hu
    obtain rfl : cx = _ := hx.sr rfl
    split at h
    · rename_i hn
      cases h
      subst hn
      refine ⟨false, #[], fun base sLen sCap => ?_, fun k => ?_, .nil, by simp⟩
      · exact app_pre hu (fun k => by simp) (by simp [Builtin.lenOf]) hs hsT base sLen sCap
      · simp [Builtin.firstCells]
    · cases h
  · rename_i e2 p n0 c0 hu
    cases hb : st.heap.get p.block with
    | none => simp [hb] at h
    | some b =>
      simp only [hb] at h
      split at h
      · rename_i hc
        cases h
        obtain ⟨j, o, cap', h1, rfl, h3, h4, h5, h6, h7⟩ := hx.sr rfl
        obtain ⟨i0, C, e0, fz, g1, g2, g3, g4, g5, g6, g7⟩ := r.blk _ b hb
        rw [h1] at g1; cases g1
        refine ⟨false, C.extract o (o + n * s), fun base sLen sCap => ?_, fun k => ?_, ?_, by simp; omega⟩
        · exact app_pre hu (fun k => by simp) (by simp [Builtin.lenOf]) hs hsT base sLen sCap
        · simp only [Bool.not_false, if_true, Builtin.firstCells]
          refine run_loadCells' P _ j.blk o C e0 fz (n * s) g2 ?_
          have : n * s ≤ cap' * s := Nat.mul_le_mul_right s h3
          have : j.esz = s := by omega
          rw [this] at h5; omega
        · rcases Nat.eq_zero_or_pos (n * s) with q | q
          · rw [q]
            refine ⟨by simp, fun i x y hx hy => by simp at hx⟩
          · have hn : 0 < n := Nat.pos_of_mul_pos_right q
            have := h4 (by omega)
            subst this
            exact slice_rel g6 p.off (n * s) hc.2 (by omega)
      · cases h
  · rename_i str hu
    obtain rfl : cx = _ := hx.sr rfl
    split at h
    · rename_i hs1
      cases h
      subst hs1
      refine ⟨false, str.data.map fun b => .int .u8 b.toNat, fun base sLen sCap => ?_, fun k => ?_, ?_, by rw [List.length_map, Array.length_toList, Nat.mul_one]; rfl⟩
      · exact app_pre hu (fun k => by simp) (by simp [Builtin.lenOf]) hs hsT base sLen sCap
      · have e1 : str.extract 0 str.size = str := by
          apply ByteArray.ext
          rw [ByteArray.data_extract]
          exact Array.extract_size
        simp [Builtin.firstCells, e1]
      · have : (str.data.map fun b => Value.int .u8 b.toNat).toList = str.data.toList.map fun b => .int .u8 b.toNat := by simp
        rw [this]
        refine L2.of_plain ?_
        rw [List.all_eq_true]
        intro v hv
        simp only [List.mem_map] at hv
        obtain ⟨b, _, rfl⟩ := hv
        rfl
    · cases h
  · cases h

/-- There is room: the cells are stored behind the last one. -/
theorem run_appCore_fit {e : TypeId} {s n sLen sCap : Nat} {zeros : Bool} {base : Option Addr} {cx : Value} {cnew : Array Value} (hfit : sLen + n ≤ sCap)
    (hn : (if !zeros then Builtin.firstCells s n cx else if n * s = 0 then pure #[] else do pure (Builtin.zeroCells (← zeroValue e).cells n) : Sem (Array Value)).run P w = .ok cnew w) :
    (appCore e s zeros base sLen sCap n cx).run P w = (match base with | some a => (do storeCells (a.add (sLen * s)) cnew.toList; pure (.slice base (sLen + n) sCap)) | none => pure (.slice base (sLen + n) sCap) : Sem Value).run P w := by
  unfold appCore
  simp only [hfit, if_true, Sem.run_bind, hn, Result.andThen_ok]
  cases base <;> rfl

/-- There is none: a new row. -/
theorem run_appCore_grow {e : TypeId} {s n sLen sCap bytes : Nat} {zeros : Bool} {base : Option Addr} {cx z : Value} {cnew old : Array Value} (hno : sCap < sLen + n)
    (hb : bt P e = some bytes) (hb1 : 1 ≤ bytes) (hroom : (2 * (sLen + n) + 192) * bytes ≤ 281474976710656) (hz : zr P e = some z)
    (hn : ∀ k, (if !zeros then Builtin.firstCells s n cx else if n * s = 0 then pure #[] else do pure (Builtin.zeroCells (← zeroValue e).cells n) : Sem (Array Value)).run P { w with drawn := k } = .ok cnew { w with drawn := k })
    (ho : ∀ k, (Builtin.firstCells s sLen (.slice base sLen sCap)).run P { w with drawn := k } = .ok old { w with drawn := k }) :
    ∃ newCap rest k, sLen + n ≤ newCap ∧ rest = Builtin.zeroCells z.cells (newCap - (sLen + n)) ∧
      (appCore e s zeros base sLen sCap n cx).run P w = .ok (.slice (some ⟨w.heap.size, 0, none⟩) (sLen + n) newCap) (World.alloc { w with drawn := k } (.cells (old ++ cnew ++ rest) e)) := by
  unfold bt at hb
  cases hi : P.info? e with
  | none => simp [hi] at hb
  | some ie =>
    simp [hi] at hb
    have h1 : ¬ sLen + n ≤ sCap := by omega
    have h2 : Builtin.nextslicecap (sLen + n) sCap * ie.bytes ≤ 2 ^ 48 := by
      have := nextslicecap_le hno
      have h3 := Nat.mul_le_mul_right ie.bytes this
      rw [hb] at h3 ⊢; omega
    have h2' : ¬ Builtin.nextslicecap (sLen + n) sCap * ie.bytes > 2 ^ 48 := by omega
    have h4 : 2 * (sLen + n) + 192 ≤ (2 * (sLen + n) + 192) * bytes := Nat.le_mul_of_pos_right _ (by omega)
    have h5 : ¬ (((sLen + n : Nat) : Int) > IntKind.i64.max) := by
      have : IntKind.i64.max = 9223372036854775807 := by decide
      rw [this]; omega
    refine ⟨(sLen + n) + w.tape w.drawn (.appendCap (sLen + n) sCap e) % (2 ^ 63 - (sLen + n)), _, w.drawn + 1, by omega, rfl, ?_⟩
    have h6 : ¬ ((((sLen + n : Nat) : Int) > IntKind.i64.max) ∧ (zeros = true ∨ ie.bytes = 0)) := fun q => h5 q.1
    have hch : (choose (.appendCap (sLen + n) sCap e)).run P w = .ok ((sLen + n) + w.tape w.drawn (.appendCap (sLen + n) sCap e) % (2 ^ 63 - (sLen + n))) { w with drawn := w.drawn + 1 } := by
      simp [choose, Sem.run, Question.forced, Question.cut]
    unfold appCore
    simp only [h1, if_false, Sem.run_bind, run_typeInfo hi, Result.andThen_ok, h6, h2', hch, run_askRoom, ho, hn, run_zero hz, Sem.run_pure, newRow, run_newObj, World.alloc_eq]
end

end Go.Ahl
