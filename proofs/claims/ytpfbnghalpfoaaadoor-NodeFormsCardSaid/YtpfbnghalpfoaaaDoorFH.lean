/-
  A logic over the model, part eight: append, bytes and strings.
-/
import Derived.Test.YtpfbnghalpfoaaaDoorFG
namespace Go.Fhl
set_option linter.unusedVariables false
set_option linter.unusedSimpArgs false

section
variable {hm : GM} {lb : LM} {w0 : World} {U : Env} {st : AS} {w : World} {a : Act} {P : Program}

/-- The rest of append, behind the questions. -/
def appCore (e : TypeId) (size : Nat) (zeros : Bool) (base : Option Addr) (sLen sCap n : Nat) (x : Value) : Sem Value := do
  let appended : Sem (Array Value) :=
    if !zeros then Builtin.firstCells size n x
    else if n * size = 0 then pure #[]
    else do pure (Builtin.zeroCells (← zeroValue e).cells n)
  let need := sLen + n
  if need ≤ sCap then
    let new ← appended
    if let some a := base then storeCells (a.add (sLen * size)) new.toList
    pure (.slice base need sCap)
  else
    if (need : Int) > IntKind.i64.max ∧ (zeros ∨ (← typeInfo e).bytes = 0) then runtimePanic (.error "growslice: len out of range")
    if Builtin.nextslicecap need sCap * (← typeInfo e).bytes > 2 ^ 48 then (if zeros then runtimePanic (.error "growslice: len out of range") else do
      if !(← Builtin.mayShare size sLen n base x) then mark .noRoom
      unsupported (.resourceLimit "append: a slice or a string whose bytes no memory bears"))
    let newCap ← choose (.appendCap need sCap e)
    askRoom (newCap * (← typeInfo e).bytes)
    let old ← Builtin.firstCells size sLen (.slice base sLen sCap)
    let new ← appended
    let rest := Builtin.zeroCells (← zeroValue e).cells (newCap - need)
    pure (.slice (some (← newRow e (old ++ new ++ rest))) need newCap)

set_option linter.unusedSimpArgs false in
theorem app_pre {sT xT T e : TypeId} {s n : Nat} {d : TypeDesc} {cx : Value} (hu : und P xT = some d) (hd : ∀ k, d ≠ .int k) (hl : (Builtin.lenOf cx).run P w = .ok n w)
   (hs : sz P e = some s) (hsT : und P sT = some (.slice e)) (base : Option Addr) (sLen sCap : Nat) : (Builtin.append_ #[sT, xT] T #[.slice base sLen sCap, cx]).run P w = (appCore e s false base sLen sCap n cx).run P w := by
  unfold Builtin.append_
  have e1 : (#[sT, xT] : Array TypeId)[0]? = some sT := rfl
  have e2 : (#[sT, xT] : Array TypeId)[1]? = some xT := rfl
  have e3 : (#[Value.slice base sLen sCap, cx] : Array Value)[0]? = some (Value.slice base sLen sCap) := rfl
  have e4 : (#[Value.slice base sLen sCap, cx] : Array Value)[1]? = some cx := rfl
  simp only [e1, e2, e3, e4, Sem.run_bind, run_und hsT, run_und hu, run_sizeOf hs, Result.andThen_ok, hl, Sem.run_pure]
  cases d <;> first | exact absurd rfl (hd _) | skip
  all_goals
    unfold appCore
    simp only [Bool.false_eq_true, if_false, false_or, Bool.not_false, if_true, Sem.run_bind, hl, Result.andThen_ok]
    rfl

theorem extract_toList {C : Array Value} {base n : Nat} : (C.extract base (base + n)).toList = (C.toList.drop base).take n := by
  rw [Array.toList_extract, List.extract_eq_take_drop, Nat.add_sub_cancel_left]

/-- There is room: the cells are stored behind the last one. -/
theorem run_appCore_fit {e : TypeId} {s n sLen sCap : Nat} {zeros : Bool} {base : Option Addr} {cx : Value} {cnew : Array Value} (hfit : sLen + n ≤ sCap)
    (hn : (if !zeros then Builtin.firstCells s n cx else if n * s = 0 then pure #[] else do pure (Builtin.zeroCells (← zeroValue e).cells n) : Sem (Array Value)).run P w = .ok cnew w) :
    (appCore e s zeros base sLen sCap n cx).run P w = (match base with | some a => (do storeCells (a.add (sLen * s)) cnew.toList; pure (.slice base (sLen + n) sCap)) | none => pure (.slice base (sLen + n) sCap) : Sem Value).run P w := by
  unfold appCore
  simp only [hfit, if_true, Sem.run_bind, hn, Result.andThen_ok]
  cases base <;> rfl

/-- There is none: a new row. -/
theorem run_appCore_grow {e : TypeId} {s n sLen sCap bytes : Nat} {zeros : Bool} {base : Option Addr} {cx z : Value} {cnew old : Array Value} (hno : sCap < sLen + n)
    (hb : bt P e = some bytes) (hb1 : 1 ≤ bytes) (hroom : (2 * (sLen + n) + 192) * bytes ≤ 281474976710656) (hz : zr P e = some z)
    (hn : ∀ k, (if !zeros then Builtin.firstCells s n cx else if n * s = 0 then pure #[] else do pure (Builtin.zeroCells (← zeroValue e).cells n) : Sem (Array Value)).run P { w with drawn := k } = .ok cnew { w with drawn := k })
    (ho : ∀ k, (Builtin.firstCells s sLen (.slice base sLen sCap)).run P { w with drawn := k } = .ok old { w with drawn := k }) :
    ∃ newCap rest k, sLen + n ≤ newCap ∧ rest = Builtin.zeroCells z.cells (newCap - (sLen + n)) ∧
      (appCore e s zeros base sLen sCap n cx).run P w = .ok (.slice (some ⟨w.heap.size, 0, none⟩) (sLen + n) newCap) (World.alloc { w with drawn := k } (.cells (old ++ cnew ++ rest) e)) := by
  unfold bt at hb
  cases hi : P.info? e with
  | none => simp [hi] at hb
  | some ie =>
    simp [hi] at hb
    have h1 : ¬ sLen + n ≤ sCap := by omega
    have h2 : Builtin.nextslicecap (sLen + n) sCap * ie.bytes ≤ 2 ^ 48 := by
      have := nextslicecap_le hno
      have h3 := Nat.mul_le_mul_right ie.bytes this
      rw [hb] at h3 ⊢; omega
    have h2' : ¬ Builtin.nextslicecap (sLen + n) sCap * ie.bytes > 2 ^ 48 := by omega
    have h4 : 2 * (sLen + n) + 192 ≤ (2 * (sLen + n) + 192) * bytes := Nat.le_mul_of_pos_right _ (by omega)
    have h5 : ¬ (((sLen + n : Nat) : Int) > IntKind.i64.max) := by
      have : IntKind.i64.max = 9223372036854775807 := by decide
      rw [this]; omega
    refine ⟨(sLen + n) + w.tape w.drawn (.appendCap (sLen + n) sCap e) % (2 ^ 63 - (sLen + n)), _, w.drawn + 1, by omega, rfl, ?_⟩
    have h6 : ¬ ((((sLen + n : Nat) : Int) > IntKind.i64.max) ∧ (zeros = true ∨ ie.bytes = 0)) := fun q => h5 q.1
    have hch : (choose (.appendCap (sLen + n) sCap e)).run P w = .ok ((sLen + n) + w.tape w.drawn (.appendCap (sLen + n) sCap e) % (2 ^ 63 - (sLen + n))) { w with drawn := w.drawn + 1 } := by
      simp [choose, Sem.run, Question.forced, Question.cut]
    unfold appCore
    simp only [h1, if_false, Sem.run_bind, run_typeInfo hi, Result.andThen_ok, h6, h2', hch, run_askRoom, ho, hn, run_zero hz, Sem.run_pure, newRow, run_newObj, World.alloc_eq]

/-- What is appended: these cells, n elements. -/
def SrcOk (hm : GM) (P : Program) (w : World) (sT xT e : TypeId) (s : Nat) (cx : Value) (new : List Value) (n : Nat) : Prop :=
  ∃ zeros cnew, (∀ T base sLen sCap, (Builtin.append_ #[sT, xT] T #[.slice base sLen sCap, cx]).run P w = (appCore e s zeros base sLen sCap n cx).run P w) ∧
      (∀ k, (if !zeros then Builtin.firstCells s n cx else if n * s = 0 then pure #[] else do pure (Builtin.zeroCells (← zeroValue e).cells n) : Sem (Array Value)).run P { w with drawn := k } = .ok cnew { w with drawn := k }) ∧
      L2 (SR hm []) new cnew.toList ∧ new.length = n * s ∧ new.all pure1 = true

theorem src_nil {sT xT e e2 : TypeId} {s c : Nat} {cx : Value} (hsT : und P sT = some (.slice e)) (hs : sz P e = some s) (hu : und P xT = some (.slice e2)) (hx : VR hm lb (.slice none 0 c) cx) : SrcOk hm P w sT xT e s cx [] 0 := by
  obtain rfl : cx = _ := hx.sr rfl
  refine ⟨false, #[], fun T base sLen sCap => ?_, fun k => ?_, .nil, by simp, rfl⟩
  · exact app_pre hu (fun k => by simp) (by simp [Builtin.lenOf]) hs hsT base sLen sCap
  · simp [Builtin.firstCells]

theorem src_deep (r : Rel hm lb w0 U st w a) {sT xT e e2 : TypeId} {s n : Nat} {cs : Array Value} {cx : Value} (hsT : und P sT = some (.slice e)) (hs : sz P e = some (s + 1)) (hu : und P xT = some (.slice e2)) (hn : n * (s + 1) = cs.size)
    (hx : VR hm lb (.iface (s + 1) (.tuple cs)) cx) : SrcOk hm P w sT xT e (s + 1) cx cs.toList n := by
  have hdr : DeepR hm.fz (s + 1) cs.toList cx := hx.sr rfl
  have hp := r.toHRel.deep_pure hdr
  obtain ⟨a0, n', cap, rfl, h1, h2, h3⟩ := hx.sr rfl
  have : n' = n := by
    have h4 : n' * (s + 1) = n * (s + 1) := by rw [h1, hn]; simp
    exact Nat.eq_of_mul_eq_mul_right (by omega) h4
  subst this
  rcases h3 with h3 | ⟨B, o, rfl, hz⟩
  · have hn0 : n' = 0 := by
      have : cs.size = 0 := by rw [← Array.length_toList, h3]; rfl
      have h5 : n' * (s + 1) = 0 := by omega
      rcases Nat.mul_eq_zero.1 h5 with q | q <;> omega
    subst hn0
    refine ⟨false, #[], fun T base sLen sCap => ?_, fun k => ?_, by rw [h3]; exact .nil, by rw [h3]; simp, hp⟩
    · exact app_pre hu (fun k => by simp) (by simp [Builtin.lenOf]) hs hsT base sLen sCap
    · cases a0 with
      | none => simp [Builtin.firstCells]
      | some a0 => simp [Builtin.firstCells, loadCells, loadCellsFrom]
  · by_cases hne : cs.toList = []
    · have hn0 : n' = 0 := by
        have : cs.size = 0 := by rw [← Array.length_toList, hne]; rfl
        have h5 : n' * (s + 1) = 0 := by omega
        rcases Nat.mul_eq_zero.1 h5 with q | q <;> omega
      subst hn0
      refine ⟨false, #[], fun T base sLen sCap => ?_, fun k => ?_, by rw [hne]; exact .nil, by rw [hne]; simp, hp⟩
      · exact app_pre hu (fun k => by simp) (by simp [Builtin.lenOf]) hs hsT base sLen sCap
      · simp [Builtin.firstCells, loadCells, loadCellsFrom]
    · obtain ⟨C, e0, fz, g1, g2, g3⟩ := r.toHRel.deep hz hne
      refine ⟨false, C.extract o (o + n' * (s + 1)), fun T base sLen sCap => ?_, fun k => ?_, ?_, by simpa using h1.symm, hp⟩
      · exact app_pre hu (fun k => by simp) (by simp [Builtin.lenOf]) hs hsT base sLen sCap
      · simp only [Bool.not_false, if_true, Builtin.firstCells]
        exact run_loadCells' P _ B o C e0 fz (n' * (s + 1)) g1 (by rw [h1]; exact g2)
      · have hrel := slice_rel (R := SR hm []) (cs := cs.toList) (C := C) (base := o) (fun k v hk => by obtain ⟨_, v', q1, q2⟩ := g3 k v hk; exact ⟨v', q1, q2⟩) 0 cs.toList.length (by simp) g2
        rw [List.drop_zero, List.take_length, Nat.add_zero, ← h1] at hrel
        exact hrel

theorem src_fix (r : Rel hm lb w0 U st w a) {sT xT e e2 : TypeId} {s m off n cap : Nat} {b : Blk} {cx : Value} (hsT : und P sT = some (.slice e)) (hs : sz P e = some s) (hu : und P xT = some (.slice e2)) (hb : st.heap.get m = some b) (hg : b.gro = false) (hez : b.esz = s)
    (hl : off + n * s ≤ b.cells.length) (hx : VR hm lb (.slice (some ⟨m, off, none⟩) n cap) cx) : SrcOk hm P w sT xT e s cx ((b.cells.drop off).take (n * s)) n := by
  obtain ⟨i, o, h1, h2, rfl, h3, h4, h5⟩ := hx.sr rfl
  obtain ⟨i', g1, g2, g3, g4, gp, g5⟩ := r.blk m b hb
  simp only at h1 h4
  rw [h1] at g1; cases g1
  have hpu : ((b.cells.drop off).take (n * s)).all pure1 = true := by
    rw [List.all_eq_true] at gp ⊢
    exact fun v hv => gp v (List.mem_of_mem_drop (List.mem_of_mem_take hv))
  rcases g5 with ⟨g5, _⟩ | ⟨C, e0, fz, k1, k2, k3, k4, k5, k6, k7⟩
  · rw [hg] at g5; cases g5
  · refine ⟨false, C.extract o (o + n * s), fun T base sLen sCap => ?_, fun k => ?_, ?_, by simp; omega, hpu⟩
    · exact app_pre hu (fun k => by simp) (by simp [Builtin.lenOf]) hs hsT base sLen sCap
    · simp only [Bool.not_false, if_true, Builtin.firstCells]
      refine run_loadCells' P _ i.blk o C e0 fz (n * s) k1 ?_
      have : n * s ≤ cap * s := Nat.mul_le_mul_right s h3
      have : i.esz = s := by omega
      rw [this] at h5; omega
    · rcases Nat.eq_zero_or_pos (n * s) with q | q
      · rw [q]
        exact ⟨by simp, fun i x y hx hy => by simp at hx⟩
      · have hn : 0 < n := Nat.pos_of_mul_pos_right q
        have := h4 (by omega)
        subst this
        have := slice_rel (R := SR hm []) (cs := b.cells) (C := C) (base := 0) (fun k v hk => by simpa using k7 k v hk) o (n * s) hl (by omega)
        simpa using this

theorem src_gro (r : Rel hm lb w0 U st w a) {sT xT e e2 : TypeId} {s m n cap : Nat} {b : Blk} {cx : Value} (hsT : und P sT = some (.slice e)) (hs : sz P e = some s) (hu : und P xT = some (.slice e2)) (hb : st.heap.get m = some b) (hg : b.gro = true) (hez : b.esz = s)
    (hl : n * s = b.cells.length) (hx : VR hm lb (.slice (some ⟨m, 0, some 1⟩) n cap) cx) : SrcOk hm P w sT xT e s cx b.cells n := by
  obtain ⟨i, p, cap', h1, h2, rfl, h3, h4⟩ := hx.sr rfl
  obtain ⟨i', g1, g2, g3, g4, gp, g5⟩ := r.blk m b hb
  simp only at h1
  rw [h1] at g1; cases g1
  have hes : i.esz = s := by omega
  obtain ⟨q1, q2, q3⟩ := h4 (by rw [(g4 hg).1, hes, hl])
  rcases g5 with ⟨_, g6, g5⟩ | ⟨C, e0, fz, k1, k2, k3, k4, k5, k6, k7⟩
  · have hn0 : n = 0 := by
      have h5 : n * s = 0 := by rw [hl, g5]; rfl
      have := (g4 hg).2
      rcases Nat.mul_eq_zero.1 h5 with q | q <;> omega
    subst hn0
    refine ⟨false, #[], fun T base sLen sCap => ?_, fun k => ?_, by rw [g5]; exact .nil, by rw [g5]; simp, gp⟩
    · exact app_pre hu (fun k => by simp) (by simp [Builtin.lenOf]) hs hsT base sLen sCap
    · cases p with
      | none => simp [Builtin.firstCells]
      | some p => simp [Builtin.firstCells, loadCells, loadCellsFrom]
  · refine ⟨false, C.extract 0 (0 + n * s), fun T base sLen sCap => ?_, fun k => ?_, ?_, by omega, gp⟩
    · exact app_pre hu (fun k => by simp) (by simp [Builtin.lenOf]) hs hsT base sLen sCap
    · simp only [Bool.not_false, if_true]
      by_cases hn0 : n = 0
      · subst hn0
        cases p with
        | none => simp [Builtin.firstCells]
        | some p => simp [Builtin.firstCells, loadCells, loadCellsFrom]
      · obtain rfl := q2 (by omega)
        simp only [Builtin.firstCells]
        exact run_loadCells' P _ i.blk 0 C e0 fz (n * s) k1 (by omega)
    · have := slice_rel (R := SR hm []) (cs := b.cells) (C := C) (base := 0) (fun k v hk => by simpa using k7 k v hk) 0 (n * s) (by omega) (by omega)
      rw [hl] at this ⊢
      simpa using this

theorem src_str {sT xT e : TypeId} {str : ByteArray} {cx : Value} (hsT : und P sT = some (.slice e)) (hs : sz P e = some 1) (hu : und P xT = some .string) (hx : VR hm lb (.string str) cx) :
    SrcOk hm P w sT xT e 1 cx (str.data.toList.map fun b => .int .u8 b.toNat) str.size := by
  obtain rfl : cx = _ := hx.sr rfl
  have hpl : (str.data.toList.map fun b => Value.int .u8 b.toNat).all plain1 = true := by
    rw [List.all_eq_true]
    intro v hv
    simp only [List.mem_map] at hv
    obtain ⟨b, _, rfl⟩ := hv
    rfl
  refine ⟨false, str.data.map fun b => .int .u8 b.toNat, fun T base sLen sCap => ?_, fun k => ?_, ?_, by rw [List.length_map, Array.length_toList, Nat.mul_one]; rfl, plain_pure hpl⟩
  · exact app_pre hu (fun k => by simp) (by simp [Builtin.lenOf]) hs hsT base sLen sCap
  · have e1 : str.extract 0 str.size = str := by
      apply ByteArray.ext
      rw [ByteArray.data_extract]
      exact Array.extract_size
    simp [Builtin.firstCells, e1]
  · have : (str.data.map fun b => Value.int .u8 b.toNat).toList = str.data.toList.map fun b => .int .u8 b.toNat := by simp
    rw [this]
    exact L2.of_plain hpl

theorem zeroCells_size {z : Array Value} {n : Nat} : (Builtin.zeroCells z n).size = n * z.size := by simp [Builtin.zeroCells]
def room (need b : Nat) : Prop := (2 * need + 192) * b ≤ 281474976710656

/-- Appended to nothing. -/
theorem app_none (r : Rel hm lb w0 U st w a) {sT xT T e : TypeId} {s b n : Nat} {z : Value} {base : Option Addr} {cx : Value} {new : List Value} (hb : bt P e = some b) (hb1 : 1 ≤ b) (hz : zr P e = some z) (hzs : z.cells.size = s) (hs1 : 1 ≤ s)
    (hsrc : SrcOk hm P w sT xT e s cx new n) (hroom : room n b) :
    ∃ hm' w' cv, (Builtin.append_ #[sT, xT] T #[.slice base 0 0, cx]).run P w = .ok cv w' ∧ hm.le hm' ∧ Rel hm' lb w0 U (st.setHeap (st.heap.alloc ⟨s, new, true⟩)) w' a ∧ VR hm' lb (.slice (some ⟨st.heap.next, 0, some 1⟩) n n) cv := by
  obtain ⟨zeros, cnew, hpre, hnew, hrel, hnl, hpu⟩ := hsrc
  by_cases hn0 : n = 0
  · subst hn0
    have hnil : new = [] := by
      have : new.length = 0 := by omega
      exact List.eq_nil_of_length_eq_zero this
    subst hnil
    have h := r.newGro s hs1
    refine ⟨_, w, .slice base 0 0, ?_, h.1, h.2, .of_sr rfl ⟨_, base, 0, GM.put_same, rfl, rfl, by simp, fun _ => ⟨Nat.le_refl _, fun q => absurd rfl q, by simp⟩⟩⟩
    have hcn : cnew.toList = [] := by have := hrel.1; simp at this; exact List.eq_nil_of_length_eq_zero (by simpa using this.symm)
    rw [hpre, run_appCore_fit (cnew := cnew) (by omega) (hnew w.drawn)]
    cases base with
    | none => simp
    | some a0 => simp [hcn, storeCells]
  · have hpos : 0 < n := by omega
    obtain ⟨newCap, rest, k, g1, g2, g3⟩ := run_appCore_grow (P := P) (w := w) (e := e) (s := s) (n := n) (sLen := 0) (sCap := 0) (bytes := b) (zeros := zeros) (base := base) (cx := cx) (z := z) (cnew := cnew) (old := #[])
      (by omega) hb hb1 (by simpa [room] using hroom) hz hnew (fun k => by cases base <;> simp [Builtin.firstCells, loadCells, loadCellsFrom])
    rw [Nat.zero_add] at g1 g2 g3
    have e5 : (#[] : Array Value) ++ cnew = cnew := by simp
    rw [e5] at g3
    have hcl := hrel.1
    simp at hcl
    have hC : (cnew ++ rest).size = newCap * s := by
      simp [g2, zeroCells_size, hzs]
      have : newCap * s = n * s + (newCap - n) * s := by rw [← Nat.add_mul]; congr 1; omega
      rw [this]; omega
    have hns : n * s ≤ newCap * s := Nat.mul_le_mul_right s g1
    have h := (r.drawn k).newBlk (cnew ++ rest) e (0, 0) (Free.zero _) ⟨s, new, true⟩ (by rw [hC]; simp; omega) (fun _ => hs1) hpu (fun j v hj => by
      obtain ⟨v', h1, h2⟩ := hrel.get hj
      refine ⟨v', ?_, h2⟩
      have hlt : j < cnew.size := by have := lookup_lt h1; simpa using this
      rw [Array.getElem?_append_left hlt, ← Array.getElem?_toList]; exact h1)
    refine ⟨_, _, _, by rw [hpre, g3], h.1, h.2, .of_sr rfl ⟨_, some ⟨w.heap.size, 0, none⟩, newCap, GM.put_same, rfl, rfl, by simp; omega, fun _ => ⟨g1, fun _ => rfl, ?_⟩⟩⟩
    simp only; omega

/-- Appended to a slice that grows. -/
theorem app_gro (r : Rel hm lb w0 U st w a) {sT xT T e : TypeId} {s b n m len cap : Nat} {blk : Blk} {z : Value} {csv cx : Value} {new : List Value} (hb : bt P e = some b) (hb1 : 1 ≤ b) (hz : zr P e = some z) (hzs : z.cells.size = s)
    (hblk : st.heap.get m = some blk) (hg : blk.gro = true) (hez : blk.esz = s) (hl : len * s = blk.cells.length) (hx : VR hm lb (.slice (some ⟨m, 0, some 1⟩) len cap) csv)
    (hsrc : SrcOk hm P w sT xT e s cx new n) (hroom : room (len + n) b) :
    ∃ hm' w' cv, (Builtin.append_ #[sT, xT] T #[csv, cx]).run P w = .ok cv w' ∧ hm.le hm' ∧ Rel hm' lb w0 U (st.setHeap (st.heap.set m ⟨s, blk.cells ++ new, true⟩)) w' a ∧ VR hm' lb (.slice (some ⟨m, 0, some 1⟩) (len + n) (len + n)) cv := by
  obtain ⟨zeros, cnew, hpre, hnew, hrel, hnl, hpu⟩ := hsrc
  obtain ⟨i, p, cap', h1, h2, rfl, h3, h4⟩ := hx.sr rfl
  obtain ⟨i', g1, g2, g3, g4, gp, g5⟩ := r.blk m blk hblk
  simp only at h1
  rw [h1] at g1; cases g1
  have hes : i.esz = s := by omega
  have hs1 : 1 ≤ s := by have := (g4 hg).2; omega
  obtain ⟨q1, q2, q3⟩ := h4 (by rw [(g4 hg).1, hes, hl])
  have hil := (g4 hg).1
  have hcl := hrel.1
  simp at hcl
  have hall : (blk.cells ++ new).all pure1 = true := by rw [List.all_append, gp, hpu]; rfl
  by_cases hn0 : n = 0
  · subst hn0
    have hnil : new = [] := by
      have : new.length = 0 := by omega
      exact List.eq_nil_of_length_eq_zero this
    subst hnil
    have hsame : ∀ j, (st.heap.set m ⟨s, blk.cells ++ [], true⟩).get j = st.heap.get j := by
      intro j
      rw [set_get]
      split
      · rename_i e; subst e; rw [hblk, List.append_nil, ← hez, ← hg]
      · rfl
    have r2 : Rel hm lb w0 U (st.setHeap (st.heap.set m ⟨s, blk.cells ++ [], true⟩)) w a :=
      { os := r.os, tape := r.tape, output := r.output, size := r.size, prot := r.prot, protz := r.protz, fresh := r.fresh, frz := r.frz
        blk := fun j c hj => r.blk j c (by rw [← hsame j]; exact hj)
        inj := fun j c j' c' x y k1 k2 => r.inj j c j' c' x y (by rw [← hsame j]; exact k1) (by rw [← hsame j']; exact k2)
        defers := r.defers, tsize := r.tsize, base_le := r.base_le, tmps := r.tmps, llen := r.llen, loc := r.loc, linj := r.linj
        lheap := fun k B j c y k1 k2 => r.lheap k B j c y k1 (by rw [← hsame j]; exact k2) }
    refine ⟨hm, w, .slice p len cap', ?_, GM.le_refl _, r2, .of_sr rfl ⟨i, p, cap', h1, h2, rfl, h3, fun _ => ⟨q1, q2, q3⟩⟩⟩
    have hcn : cnew.toList = [] := by have h9 := hrel.1; exact List.eq_nil_of_length_eq_zero (by rw [← h9]; rfl)
    rw [hpre, run_appCore_fit (cnew := cnew) (by omega) (hnew w.drawn)]
    cases p with
    | none => simp
    | some a0 => simp [hcn, storeCells]
  · have hnpos : 0 < n := by omega
    have hms : (len + n) * s = len * s + n * s := Nat.add_mul _ _ _
    have hnspos : 0 < n * s := Nat.mul_pos hnpos (by omega)
    rcases Nat.lt_or_ge cap' (len + n) with hq | hq
    · -- a new place
      have hold : ∃ old : Array Value, (∀ k, (Builtin.firstCells s len (.slice p len cap')).run P { w with drawn := k } = .ok old { w with drawn := k }) ∧ L2 (SR hm []) blk.cells old.toList := by
        rcases g5 with ⟨_, g6, g5⟩ | ⟨C, e0, fz, k1, k2, k3, k4, k5, k6, k7⟩
        · have hl0 : len = 0 := by
            have h5 : len * s = 0 := by rw [hl, g5]; rfl
            rcases Nat.mul_eq_zero.1 h5 with q | q <;> omega
          subst hl0
          refine ⟨#[], fun k => ?_, by rw [g5]; exact .nil⟩
          cases p <;> simp [Builtin.firstCells, loadCells, loadCellsFrom]
        · by_cases hl0 : len = 0
          · subst hl0
            refine ⟨#[], fun k => ?_, ?_⟩
            · cases p <;> simp [Builtin.firstCells, loadCells, loadCellsFrom]
            · have : blk.cells = [] := List.eq_nil_of_length_eq_zero (by omega)
              rw [this]; exact .nil
          · obtain rfl := q2 (by omega)
            refine ⟨C.extract 0 (0 + len * s), fun k => ?_, ?_⟩
            · simp only [Builtin.firstCells]
              exact run_loadCells' P _ i.blk 0 C e0 fz (len * s) k1 (by omega)
            · have := slice_rel (R := SR hm []) (cs := blk.cells) (C := C) (base := 0) (fun k v hk => by simpa using k7 k v hk) 0 (len * s) (by omega) (by omega)
              rw [hl] at this ⊢
              simpa using this
      obtain ⟨old, hold1, hold2⟩ := hold
      obtain ⟨newCap, rest, k, c1, c2, c3⟩ := run_appCore_grow (P := P) (w := w) (e := e) (s := s) (n := n) (sLen := len) (sCap := cap') (bytes := b) (zeros := zeros) (base := p) (cx := cx) (z := z) (cnew := cnew) (old := old)
        hq hb hb1 (by simpa [room] using hroom) hz hnew hold1
      have hol := hold2.1
      simp at hol
      have hC : (old ++ cnew ++ rest).size = newCap * s := by
        simp [c2, zeroCells_size, hzs]
        have : newCap * s = (len + n) * s + (newCap - (len + n)) * s := by rw [← Nat.add_mul]; congr 1; omega
        rw [this]; omega
      have hns : (len + n) * s ≤ newCap * s := Nat.mul_le_mul_right s c1
      have hrel2 := hold2.append hrel
      have h := (r.drawn k).reBlk (i' := ⟨w.heap.size, newCap * s, s, true, (blk.cells ++ new).length⟩) (b' := ⟨s, blk.cells ++ new, true⟩) (w' := World.alloc { w with drawn := k } (.cells (old ++ cnew ++ rest) e)) hblk h1
        (.inr ⟨h2, rfl, hes.symm, by simp; omega⟩) rfl rfl (fun _ => ⟨rfl, hs1⟩) hall rfl rfl rfl (by simp) (fun B _ hB => alloc_get_lt (w := { w with drawn := k }) hB) (.inr ⟨Nat.le_refl _, by simp⟩)
        ⟨_, e, (0, 0), alloc_get_new { w with drawn := k } _, hC, by simp; omega, Free.zero _, fun j v hj => by
          obtain ⟨v', x1, x2⟩ := hrel2.get hj
          refine ⟨v', ?_, x2⟩
          have hlt : j < (old ++ cnew).size := by have := lookup_lt x1; simpa using this
          rw [Array.getElem?_append_left hlt, ← Array.getElem?_toList, Array.toList_append]; exact x1⟩
      refine ⟨_, _, _, by rw [hpre, c3], h.1, h.2, .of_sr rfl ⟨_, some ⟨w.heap.size, 0, none⟩, newCap, GM.put_same, rfl, rfl, by simp; omega, fun _ => ⟨c1, fun _ => rfl, Nat.le_refl _⟩⟩⟩
    · -- in its place
      obtain rfl := q2 (by omega)
      have hcs : (len + n) * s ≤ cap' * s := Nat.mul_le_mul_right s hq
      rw [hes] at q3
      rcases g5 with ⟨_, g6, g5⟩ | ⟨C, e0, fz, k1, k2, k3, k4, k5, k6, k7⟩
      · omega
      · have hrun := run_storeCells P i.blk (len * s) e0 fz cnew.toList 0 w C k1 (by simp; omega) (fun k z1 z2 => k4 k (by simp at z2; omega)) (all_one hrel)
        have hsz : i.size ≠ 0 := by omega
        have h := r.reBlk (i' := ⟨i.blk, i.size, s, true, (blk.cells ++ new).length⟩) (b' := ⟨s, blk.cells ++ new, true⟩) (w' := bset w i.blk (.cells ((spl C.toList (len * s) cnew.toList).toArray) e0 fz)) hblk h1
          (.inr ⟨h2, rfl, hes.symm, by simp; omega⟩) rfl rfl (fun _ => ⟨rfl, hs1⟩) hall rfl rfl rfl (by rw [bset_size]; exact Nat.le_refl _) (fun B hB _ => bset_other (fun q => hB q.symm)) (.inl ⟨rfl, rfl, hsz⟩)
          ⟨_, e0, fz, bset_same k1, (arr_spl_size C _ cnew.toList (by simp; omega)).trans k2, by simp; omega, k4, fun k v hk => by
            rw [arr_spl_get C (len * s) cnew.toList (by simp; omega)]
            by_cases u : k < blk.cells.length
            · rw [List.getElem?_append_left u] at hk
              rw [if_pos (by omega)]
              exact k7 k v hk
            · rw [List.getElem?_append_right (by omega)] at hk
              have hlt := lookup_lt hk
              rw [if_neg (by omega), if_pos (by simp; omega)]
              obtain ⟨v', x1, x2⟩ := hrel.get hk
              exact ⟨v', by rw [show k - len * s = k - blk.cells.length from by omega]; exact x1, x2⟩⟩
        refine ⟨_, _, .slice (some ⟨i.blk, 0, none⟩) (len + n) cap', ?_, h.1, h.2, .of_sr rfl ⟨_, _, cap', GM.put_same, rfl, rfl, by simp; omega, fun _ => ⟨hq, fun _ => rfl, q3⟩⟩⟩
        rw [hpre, run_appCore_fit (cnew := cnew) (by omega) (hnew w.drawn)]
        simp only [add_none, Nat.zero_add, Sem.run_bind]
        have : (⟨i.blk, len * s, none⟩ : Addr) = ⟨i.blk, len * s, none⟩ := rfl
        simp only [Nat.add_zero] at hrun
        simp only [hrun, Result.andThen_ok, Sem.run_pure]

/-- Appended to a slice whose block stays, and has no room: a new one. -/
theorem app_full (r : Rel hm lb w0 U st w a) {sT xT T e : TypeId} {s b n m off len cap : Nat} {blk : Blk} {z : Value} {csv cx : Value} {new : List Value} (hb : bt P e = some b) (hb1 : 1 ≤ b) (hz : zr P e = some z) (hzs : z.cells.size = s) (hs1 : 1 ≤ s)
    (hblk : st.heap.get m = some blk) (hg : blk.gro = false) (hez : blk.esz = s) (hl : off + len * s ≤ blk.cells.length) (hx : VR hm lb (.slice (some ⟨m, off, none⟩) len cap) csv) (hno : cap < len + n)
    (hsrc : SrcOk hm P w sT xT e s cx new n) (hroom : room (len + n) b) :
    ∃ hm' w' cv, (Builtin.append_ #[sT, xT] T #[csv, cx]).run P w = .ok cv w' ∧ hm.le hm' ∧ Rel hm' lb w0 U (st.setHeap (st.heap.alloc ⟨s, (blk.cells.drop off).take (len * s) ++ new, true⟩)) w' a ∧ VR hm' lb (.slice (some ⟨st.heap.next, 0, some 1⟩) (len + n) (len + n)) cv := by
  obtain ⟨zeros, cnew, hpre, hnew, hrel, hnl, hpu⟩ := hsrc
  obtain ⟨i, o, h1, h2, rfl, h3, h4, h5⟩ := hx.sr rfl
  obtain ⟨i', g1, g2, g3, g4, gp, g5⟩ := r.blk m blk hblk
  simp only at h1 h4
  rw [h1] at g1; cases g1
  have hes : i.esz = s := by omega
  have hcl := hrel.1
  simp at hcl
  have hopu : ((blk.cells.drop off).take (len * s)).all pure1 = true := by
    rw [List.all_eq_true] at gp ⊢
    exact fun v hv => gp v (List.mem_of_mem_drop (List.mem_of_mem_take hv))
  rcases g5 with ⟨g5, _⟩ | ⟨C, e0, fz, k1, k2, k3, k4, k5, k6, k7⟩
  · rw [hg] at g5; cases g5
  · have hlc : len * s ≤ cap * s := Nat.mul_le_mul_right s h3
    rw [hes] at h5
    obtain ⟨newCap, rest, k, c1, c2, c3⟩ := run_appCore_grow (P := P) (w := w) (e := e) (s := s) (n := n) (sLen := len) (sCap := cap) (bytes := b) (zeros := zeros) (base := some ⟨i.blk, o, none⟩) (cx := cx) (z := z) (cnew := cnew) (old := C.extract o (o + len * s))
      hno hb hb1 (by simpa [room] using hroom) hz hnew (fun k => by
        simp only [Builtin.firstCells]
        exact run_loadCells' P _ i.blk o C e0 fz (len * s) k1 (by omega))
    have hold : L2 (SR hm []) ((blk.cells.drop off).take (len * s)) (C.extract o (o + len * s)).toList := by
      rcases Nat.eq_zero_or_pos (len * s) with q | q
      · rw [q]
        exact ⟨by simp, fun i x y hx hy => by simp at hx⟩
      · have hn : 0 < len := Nat.pos_of_mul_pos_right q
        have := h4 (by omega)
        subst this
        have := slice_rel (R := SR hm []) (cs := blk.cells) (C := C) (base := 0) (fun k v hk => by simpa using k7 k v hk) o (len * s) hl (by omega)
        simpa using this
    have hC : (C.extract o (o + len * s) ++ cnew ++ rest).size = newCap * s := by
      simp [c2, zeroCells_size, hzs]
      have : newCap * s = (len + n) * s + (newCap - (len + n)) * s := by rw [← Nat.add_mul]; congr 1; omega
      rw [this, Nat.add_mul]; omega
    have hns : (len + n) * s ≤ newCap * s := Nat.mul_le_mul_right s c1
    have hms : (len + n) * s = len * s + n * s := Nat.add_mul _ _ _
    have hrel2 := hold.append hrel
    have hll : ((blk.cells.drop off).take (len * s) ++ new).length = (len + n) * s := by simp; omega
    have h := (r.drawn k).newBlk (C.extract o (o + len * s) ++ cnew ++ rest) e (0, 0) (Free.zero _) ⟨s, (blk.cells.drop off).take (len * s) ++ new, true⟩ (by rw [hC, hll]; exact hns) (fun _ => hs1) (by rw [List.all_append, hopu, hpu]; rfl) (fun j v hj => by
      obtain ⟨v', x1, x2⟩ := hrel2.get hj
      refine ⟨v', ?_, x2⟩
      have hlt : j < (C.extract o (o + len * s) ++ cnew).size := by have := lookup_lt x1; rw [← Array.toList_append, Array.length_toList] at this; exact this
      rw [Array.getElem?_append_left hlt, ← Array.getElem?_toList, Array.toList_append]; exact x1)
    refine ⟨_, _, _, by rw [hpre, c3], h.1, h.2, .of_sr rfl ⟨_, some ⟨w.heap.size, 0, none⟩, newCap, GM.put_same, rfl, rfl, by rw [hll]; exact Nat.le_refl _, fun _ => ⟨c1, fun _ => rfl, by rw [hC]; exact Nat.le_refl _⟩⟩⟩

/-- Appended where there is room. -/
theorem app_room (r : Rel hm lb w0 U st w a) {sT xT T e : TypeId} {s n m off len cap : Nat} {blk : Blk} {csv cx : Value} {new : List Value}
    (hblk : st.heap.get m = some blk) (hg : blk.gro = false) (hez : blk.esz = s) (hfit : len + n ≤ cap) (hl : off + (len + n) * s ≤ blk.cells.length) (hx : VR hm lb (.slice (some ⟨m, off, none⟩) len cap) csv) (hn : 0 < n) (hs1 : 1 ≤ s)
    (hsrc : SrcOk hm P w sT xT e s cx new n) :
    ∃ hm' w' cv, (Builtin.append_ #[sT, xT] T #[csv, cx]).run P w = .ok cv w' ∧ hm.le hm' ∧ Rel hm' lb w0 U (st.setHeap (st.heap.set m { blk with cells := spl blk.cells (off + len * s) new })) w' a ∧ VR hm' lb (.slice (some ⟨m, off, none⟩) (len + n) cap) cv := by
  obtain ⟨zeros, cnew, hpre, hnew, hrel, hnl, hpu⟩ := hsrc
  obtain ⟨i, o, h1, h2, rfl, h3, h4, h5⟩ := hx.sr rfl
  simp only at h1 h4
  have ho := h4 (by omega)
  subst ho
  have hms : (len + n) * s = len * s + n * s := Nat.add_mul _ _ _
  have hne : new ≠ [] := by
    intro e
    have : 0 < n * s := Nat.mul_pos hn (by omega)
    rw [e] at hnl; simp at hnl; omega
  obtain ⟨hm', w', g1, g2, g3⟩ := write_blk (P := P) r (off := o + len * s) (c := ⟨i.blk, o + len * s, none⟩) (s := none) (vs' := cnew.toList) hblk (by omega) hpu (.inl ⟨rfl, hg⟩) ⟨i, h1, h2, rfl⟩ (hrel.mono fun a b _ q => q.mono (GM.le_refl _) (LM.nil_le _)) hne
  refine ⟨hm', w', .slice (some ⟨i.blk, o, none⟩) (len + n) cap, ?_, g2, g3, ?_⟩
  · rw [hpre, run_appCore_fit (cnew := cnew) (by omega) (hnew w.drawn)]
    simp only [add_none, Sem.run_bind, g1, Result.andThen_ok, Sem.run_pure]
  · obtain ⟨i', k1, k2⟩ := g2.map _ _ h1
    rcases k2 with rfl | ⟨k2, _⟩
    · exact .of_sr rfl ⟨i', o, k1, h2, rfl, hfit, fun _ => rfl, h5⟩
    · rw [h2] at k2; cases k2
end

/-! ## Bytes and strings -/
def u8s : List Value → Option (List Int)
  | [] => some []
  | .int .u8 n :: r => (u8s r).map (n :: ·)
  | _ => none
theorem u8s_eq : ∀ {l : List Value} {ns : List Int}, u8s l = some ns → l = ns.map (Value.int .u8)
  | [], ns, h => by cases h; rfl
  | v :: l, ns, h => by
    unfold u8s at h
    split at h
    · rename_i h'; cases h'
    · rename_i n r h'
      cases h'
      cases hr : u8s l with
      | none => simp [hr] at h
      | some ms => simp [hr] at h; subst h; rw [u8s_eq hr]; rfl
    · cases h
theorem u8s_map (ns : List Int) : u8s (ns.map (Value.int .u8)) = some ns := by
  induction ns with
  | nil => rfl
  | cons n ns ih => simp [u8s, ih]

def strOf (ns : List Int) : ByteArray := ⟨(ns.map fun n => UInt8.ofNat n.toNat).toArray⟩


def bcells (s : ByteArray) : List Value := s.data.toList.map fun b => .int .u8 b.toNat
theorem bcells_plain (s : ByteArray) : (bcells s).all plain1 = true := by
  rw [List.all_eq_true]
  intro v hv
  simp only [bcells, List.mem_map] at hv
  obtain ⟨b, _, rfl⟩ := hv
  rfl

section
variable {hm : GM} {lb : LM} {w0 : World} {U : Env} {st : AS} {w : World} {a : Act} {P : Program}

theorem strBytes_run (e : TypeId) (s : ByteArray) : ∃ newCap C, s.size ≤ newCap ∧ C.size = newCap ∧ (∀ (k : Nat) (v : Value), (bcells s)[k]? = some v → C[k]? = some v) ∧
    (Conv.stringToBytes e s).run P w = .ok (.slice (some ⟨w.heap.size, 0, none⟩) s.size newCap) (World.alloc { w with drawn := w.drawn + 1 } (.cells C e (C.size, C.size + 1))) := by
  have hch : ∃ newCap, s.size ≤ newCap ∧ (choose (.appendCap s.size 0 e)).run P w = .ok newCap { w with drawn := w.drawn + 1 } := by
    refine ⟨s.size + w.tape w.drawn (.appendCap s.size 0 e) % (2 ^ 63 - s.size), by omega, ?_⟩
    simp [choose, Sem.run, Question.forced, Question.cut]
  obtain ⟨newCap, h1, h2⟩ := hch
  have hsz : (s.data.map fun b => Value.int .u8 b.toNat).size = s.size := by rw [Array.size_map]; rfl
  generalize hC : (s.data.map fun b => Value.int .u8 b.toNat) ++ Array.replicate (newCap - s.size) (.int .u8 0) = C
  have hCs : C.size = newCap := by rw [← hC, Array.size_append, hsz, Array.size_replicate]; omega
  have hfr : ((World.alloc { w with drawn := w.drawn + 1 } (.cells C e)).freeze ⟨w.heap.size, C.size, none⟩ 1) = World.alloc { w with drawn := w.drawn + 1 } (.cells C e (C.size, C.size + 1)) := by
    unfold World.freeze World.alloc
    simp only [Nat.succ_ne_zero, if_false]
    congr 1
    refine Array.ext_getElem? fun k => ?_
    rw [Array.getElem?_modify]
    by_cases q : w.heap.size = k
    · subst q; simp
    · rw [if_neg q, Array.getElem?_push, Array.getElem?_push]
      have : ¬ k = w.heap.size := fun z => q z.symm
      simp [this]
  refine ⟨newCap, C, h1, hCs, ?_, ?_⟩
  · intro k v hk
    have hlt := lookup_lt hk
    simp [bcells] at hlt
    rw [← hC, Array.getElem?_append_left (by simpa using hlt)]
    simp only [bcells, List.getElem?_map, Array.getElem?_toList] at hk
    simpa using hk
  · have hshape : (World.alloc { w with drawn := w.drawn + 1 } (.cells C e)).shape? w.heap.size = some (e, C.size) := by
      have := alloc_get_new { w with drawn := w.drawn + 1 } (.cells C e)
      unfold World.shape?
      have h3 : (World.alloc { w with drawn := w.drawn + 1 } (.cells C e)).heap[w.heap.size]? = some (.cells C e (0, 0)) := this
      rw [h3]
    simp only [Conv.stringToBytes, Sem.run_bind, h2, Result.andThen_ok, newRow, run_newObj, Sem.run_pure, hC, markStringish, World.alloc_eq, run_shape, hshape, run_freeze, hfr]

theorem strBytes_ok (r : Rel hm lb w0 U st w a) {src dst e : TypeId} {d : TypeDesc} {s : ByteArray} {cx : Value} (hs : und P src = some d) (hd : und P dst = some (.slice e)) (he : und P e = some (.int .u8)) (hx : VR hm lb (.string s) cx) :
    ∃ hm' w' cv, (convert src dst cx).run P w = .ok cv w' ∧ hm.le hm' ∧ Rel hm' lb w0 U (st.setHeap (st.heap.alloc ⟨1, bcells s, true⟩)) w' a ∧ VR hm' lb (.slice (some ⟨st.heap.next, 0, some 1⟩) s.size s.size) cv := by
  obtain rfl : cx = _ := hx.sr rfl
  obtain ⟨newCap, C, h1, h2, h3, h4⟩ := strBytes_run (P := P) (w := w) e s
  have hbl : (bcells s).length = s.size := by simp [bcells]
  have h := (r.drawn (w.drawn + 1)).newBlk C e (C.size, C.size + 1) (fun k k1 k2 => by omega) ⟨1, bcells s, true⟩ (by simp only [hbl]; omega) (fun _ => Nat.le_refl _) (plain_pure (bcells_plain s)) (fun k v hk =>
    ⟨v, h3 k v hk, SR.of_plain (List.all_eq_true.1 (bcells_plain s) v (List.mem_of_getElem? hk))⟩)
  refine ⟨_, _, .slice (some ⟨w.heap.size, 0, none⟩) s.size newCap, ?_, h.1, h.2, .of_sr rfl ⟨_, _, newCap, GM.put_same, rfl, rfl, by simp [hbl], fun _ => ⟨h1, fun _ => rfl, by simp [h2]⟩⟩⟩
  simp only [convert, Sem.run_bind, run_und hs, run_und hd, Result.andThen_ok, run_und he]
  exact h4

theorem strBytesD_ok (r : Rel hm lb w0 U st w a) {src dst e : TypeId} {d : TypeDesc} {s : ByteArray} {cx : Value} (hs : und P src = some d) (hd : und P dst = some (.slice e)) (he : und P e = some (.int .u8)) (hx : VR hm lb (.string s) cx) :
    ∃ hm' w' cv, (convert src dst cx).run P w = .ok cv w' ∧ hm.le hm' ∧ Rel hm' lb w0 U st w' a ∧ VR hm' lb (.iface 1 (.tuple (bcells s).toArray)) cv := by
  obtain rfl : cx = _ := hx.sr rfl
  obtain ⟨newCap, C, h1, h2, h3, h4⟩ := strBytes_run (P := P) (w := w) e s
  have hbl : (bcells s).length = s.size := by simp [bcells]
  obtain ⟨hm', g1, g2, g3⟩ := (r.drawn (w.drawn + 1)).newDeep C e (C.size, C.size + 1) (bcells s) (plain_pure (bcells_plain s)) (fun k v hk =>
    ⟨v, h3 k v hk, SR.of_plain (List.all_eq_true.1 (bcells_plain s) v (List.mem_of_getElem? hk))⟩)
  refine ⟨hm', _, .slice (some ⟨w.heap.size, 0, none⟩) s.size newCap, ?_, g1, g2, .of_sr rfl ⟨_, s.size, newCap, rfl, by simpa using hbl.symm, h1, .inr ⟨_, 0, rfl, fun j c hj => by rw [Nat.zero_add]; exact g3 j c (by simpa using hj)⟩⟩⟩
  simp only [convert, Sem.run_bind, run_und hs, run_und hd, Result.andThen_ok, run_und he]
  exact h4

theorem bytesStr_run {src dst e : TypeId} {p : Option Addr} {l c : Nat} {ns : List Int} (hs : und P src = some (.slice e)) (hd : und P dst = some .string) (he : und P e = some (.int .u8))
    (hload : (p = none ∧ ns = []) ∨ ∃ A, p = some A ∧ (loadCells A l).run P w = .ok (ns.map (Value.int .u8)).toArray w) : (convert src dst (.slice p l c)).run P w = .ok (.string (strOf ns)) w := by
  rw [run_convert_bytes_string w src dst e p l c hs he hd]
  rcases hload with ⟨rfl, rfl⟩ | ⟨A, rfl, hload⟩
  · simp [Conv.bytesToString]; rfl
  · rw [run_bytesToString w _ l c ns hload, foldl_push_bytes]
    have : ByteArray.empty.data = #[] := rfl
    rw [this, Array.empty_append]
    rfl

theorem plainInts (ns : List Int) : (ns.map (Value.int .u8)).all plain1 = true := by
  rw [List.all_eq_true]; intro v hv; simp only [List.mem_map] at hv; obtain ⟨_, _, rfl⟩ := hv; rfl

/-- A frozen slice's bytes as a string. -/
theorem bytesStrD_ok (r : Rel hm lb w0 U st w a) {src dst e : TypeId} {ns : List Int} {cs : Array Value} {cx : Value} (hs : und P src = some (.slice e)) (hd : und P dst = some .string) (he : und P e = some (.int .u8)) (hcs : cs.toList = ns.map (Value.int .u8))
    (hx : VR hm lb (.iface 1 (.tuple cs)) cx) : (convert src dst cx).run P w = .ok (.string (strOf ns)) w := by
  obtain ⟨a0, n, cap, rfl, h1, h2, h3⟩ := hx.sr rfl
  refine bytesStr_run hs hd he ?_
  have hload0 : ns = [] → n = 0 := fun q => by rw [hcs, q] at h1; simpa using h1
  by_cases hne : cs.toList = []
  · have hns : ns = [] := by rw [hcs] at hne; simpa using hne
    have := hload0 hns
    subst this
    cases a0 with
    | none => exact .inl ⟨rfl, hns⟩
    | some A => exact .inr ⟨A, rfl, by rw [hns]; simp [loadCells, loadCellsFrom]⟩
  · rcases h3 with h3 | ⟨B, o, rfl, hz⟩
    · exact absurd h3 hne
    · obtain ⟨C, e0, fz, g1, g2, g3⟩ := r.toHRel.deep hz hne
      refine .inr ⟨_, rfl, ?_⟩
      have hn : n = cs.toList.length := by simpa using h1
      rw [run_loadCells' P w B o C e0 fz n g1 (by omega)]
      have hrel := slice_rel (R := SR hm []) (cs := cs.toList) (C := C) (base := o) (fun k v hk => by obtain ⟨_, v', q1, q2⟩ := g3 k v hk; exact ⟨v', q1, q2⟩) 0 cs.toList.length (by simp) g2
      simp only [List.drop_zero, List.take_length, Nat.add_zero] at hrel
      rw [hcs] at hrel
      have := hrel.plain (plainInts ns)
      rw [hn, hcs]
      congr 1
      apply Array.toList_inj.1; rw [this]

/-- Those of a named block. -/
theorem bytesStrF_ok (r : Rel hm lb w0 U st w a) {src dst e : TypeId} {ns : List Int} {m off n cap : Nat} {b : Blk} {cx : Value} (hs : und P src = some (.slice e)) (hd : und P dst = some .string) (he : und P e = some (.int .u8))
    (hb : st.heap.get m = some b) (hg : b.gro = false) (hez : b.esz = 1) (hl : off + n ≤ b.cells.length) (hcs : (b.cells.drop off).take n = ns.map (Value.int .u8))
    (hx : VR hm lb (.slice (some ⟨m, off, none⟩) n cap) cx) : (convert src dst cx).run P w = .ok (.string (strOf ns)) w := by
  obtain ⟨i, o, h1, h2, rfl, h3, h4, h5⟩ := hx.sr rfl
  obtain ⟨i', g1, g2, g3, g4, gp, g5⟩ := r.blk m b hb
  simp only at h1 h4
  rw [h1] at g1; cases g1
  refine bytesStr_run hs hd he (.inr ⟨_, rfl, ?_⟩)
  rcases g5 with ⟨g5, _⟩ | ⟨C, e0, fz, k1, k2, k3, k4, k5, k6, k7⟩
  · rw [hg] at g5; cases g5
  · have hes : i.esz = 1 := by omega
    rw [hes] at h5
    rw [run_loadCells' P w i.blk o C e0 fz n k1 (by omega)]
    have hrel : L2 (SR hm []) ((b.cells.drop off).take n) (C.extract o (o + n)).toList := by
      rcases Nat.eq_zero_or_pos n with q | q
      · subst q
        exact ⟨by simp, fun i x y hx hy => by simp at hx⟩
      · have := h4 (by omega)
        subst this
        have := slice_rel (R := SR hm []) (cs := b.cells) (C := C) (base := 0) (fun k v hk => by simpa using k7 k v hk) o n hl (by omega)
        simpa using this
    rw [hcs] at hrel
    congr 1
    apply Array.toList_inj.1; rw [hrel.plain (plainInts ns)]
theorem bytesStrG_ok (r : Rel hm lb w0 U st w a) {src dst e : TypeId} {ns : List Int} {m n cap : Nat} {b : Blk} {cx : Value} (hs : und P src = some (.slice e)) (hd : und P dst = some .string) (he : und P e = some (.int .u8))
    (hb : st.heap.get m = some b) (hg : b.gro = true) (hez : b.esz = 1) (hl : n = b.cells.length) (hcs : b.cells = ns.map (Value.int .u8))
    (hx : VR hm lb (.slice (some ⟨m, 0, some 1⟩) n cap) cx) : (convert src dst cx).run P w = .ok (.string (strOf ns)) w := by
  obtain ⟨i, p, cap', h1, h2, rfl, h3, h4⟩ := hx.sr rfl
  obtain ⟨i', g1, g2, g3, g4, gp, g5⟩ := r.blk m b hb
  simp only at h1
  rw [h1] at g1; cases g1
  have hes : i.esz = 1 := by omega
  obtain ⟨q1, q2, q3⟩ := h4 (by rw [(g4 hg).1, hes]; omega)
  refine bytesStr_run hs hd he ?_
  by_cases hn0 : n = 0
  · have hns : ns = [] := by
      have : b.cells = [] := List.eq_nil_of_length_eq_zero (by omega)
      rw [hcs] at this; simpa using this
    subst hn0
    cases p with
    | none => exact .inl ⟨rfl, hns⟩
    | some A => exact .inr ⟨A, rfl, by rw [hns]; simp [loadCells, loadCellsFrom]⟩
  · obtain rfl := q2 (by omega)
    refine .inr ⟨_, rfl, ?_⟩
    rcases g5 with ⟨_, _, g5⟩ | ⟨C, e0, fz, k1, k2, k3, k4, k5, k6, k7⟩
    · rw [g5] at hl; simp at hl; omega
    · rw [run_loadCells' P w i.blk 0 C e0 fz n k1 (by omega)]
      have := slice_rel (R := SR hm []) (cs := b.cells) (C := C) (base := 0) (fun k v hk => by simpa using k7 k v hk) 0 n (by omega) (by omega)
      simp only [List.drop_zero, Nat.add_zero] at this
      rw [hl, List.take_length, hcs] at this
      congr 1
      apply Array.toList_inj.1; rw [hl, hcs, this.plain (plainInts ns)]

theorem convInt_ok {src dst : TypeId} {d : TypeDesc} {k k0 : IntKind} {n : Int} {cx : Value} (hs : und P src = some d) (hd : und P dst = some (.int k)) (hx : VR hm lb (.int k0 n) cx) : (convert src dst cx).run P w = .ok (.int k (k.wrap n)) w := by
  obtain rfl : cx = _ := hx.sr rfl
  simp only [convert, Sem.run_bind, run_und hs, run_und hd, Result.andThen_ok, Conv.intToInt, Sem.run_pure]
theorem convStr_ok {src dst : TypeId} {d : TypeDesc} {s : ByteArray} {cx : Value} (hs : und P src = some d) (hd : und P dst = some .string) (hx : VR hm lb (.string s) cx) : (convert src dst cx).run P w = .ok (.string s) w := by
  obtain rfl : cx = _ := hx.sr rfl
  simp only [convert, Sem.run_bind, run_und hs, run_und hd, Result.andThen_ok, Sem.run_pure]
end

end Go.Fhl
