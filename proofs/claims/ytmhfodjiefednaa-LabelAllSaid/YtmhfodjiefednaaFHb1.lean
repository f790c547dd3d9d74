/-
  A logic over the model, in one text.
-/
import Derived.Test.YtmhfodjiefednaaFHe1
import Derived.OrdersHeld
/-
  A logic over the model, part eight: append, bytes and strings.
-/
namespace Go.Fhl
set_option linter.unusedVariables false
set_option linter.unusedSimpArgs false

section
variable {hm : GM} {lb : LM} {w0 : World} {U : Env} {st : AS} {w : World} {a : Act} {P : Program}

/-- The rest of append, behind the questions. -/
def appCore (e : TypeId) (size : Nat) (zeros : Bool) (base : Option Addr) (sLen sCap n : Nat) (x : Value) : Sem Value := do
  let appended : Sem (Array Value) :=
    if !zeros then Builtin.firstCells size n x
    else if n * size = 0 then pure #[]
    else do pure (Builtin.zeroCells (← zeroValue e).cells n)
  let need := sLen + n
  if need ≤ sCap then
    let new ← appended
    if let some a := base then storeCells (a.add (sLen * size)) new.toList
    pure (.slice base need sCap)
  else
    if (need : Int) > IntKind.i64.max ∧ (zeros ∨ (← typeInfo e).bytes = 0) then runtimePanic (.error "growslice: len out of range")
    if Builtin.nextslicecap need sCap * (← typeInfo e).bytes > 2 ^ 48 then (if zeros then runtimePanic (.error "growslice: len out of range") else do
      if !(← Builtin.mayShare size sLen n base x) then mark .noRoom
      unsupported (.resourceLimit "append: a slice or a string whose bytes no memory bears"))
    let newCap ← choose (.appendCap need sCap e)
    askRoom (newCap * (← typeInfo e).bytes)
    let old ← Builtin.firstCells size sLen (.slice base sLen sCap)
    let new ← appended
    let rest := Builtin.zeroCells (← zeroValue e).cells (newCap - need)
    pure (.slice (some (← newRow e (old ++ new ++ rest))) need newCap)

set_option linter.unusedSimpArgs false in
theorem app_pre {sT xT T e : TypeId} {s n : Nat} {d : TypeDesc} {cx : Value} (hu : und P xT = some d) (hd : ∀ k, d ≠ .int k) (hl : (Builtin.lenOf cx).run P w = .ok n w)
   (hs : sz P e = some s) (hsT : und P sT = some (.slice e)) (base : Option Addr) (sLen sCap : Nat) : (Builtin.append_ #[sT, xT] T #[.slice base sLen sCap, cx]).run P w = (appCore e s false base sLen sCap n cx).run P w := by
  unfold Builtin.append_
  have e1 : (#[sT, xT] : Array TypeId)[0]? = some sT := rfl
  have e2 : (#[sT, xT] : Array TypeId)[1]? = some xT := rfl
  have e3 : (#[Value.slice base sLen sCap, cx] : Array Value)[0]? = some (Value.slice base sLen sCap) := rfl
  have e4 : (#[Value.slice base sLen sCap, cx] : Array Value)[1]? = some cx := rfl
  simp only [e1, e2, e3, e4, Sem.run_bind, run_und hsT, run_und hu, run_sizeOf hs, Result.andThen_ok, hl, Sem.run_pure]
  cases d <;> first | exact absurd rfl (hd _) | skip
  all_goals
    unfold appCore
    simp only [Bool.false_eq_true, if_false, false_or, Bool.not_false, if_true, Sem.run_bind, hl, Result.andThen_ok]
    rfl

/-- There is room: the cells are stored behind the last one. -/
theorem run_appCore_fit {e : TypeId} {s n sLen sCap : Nat} {zeros : Bool} {base : Option Addr} {cx : Value} {cnew : Array Value} (hfit : sLen + n ≤ sCap)
    (hn : (if !zeros then Builtin.firstCells s n cx else if n * s = 0 then pure #[] else do pure (Builtin.zeroCells (← zeroValue e).cells n) : Sem (Array Value)).run P w = .ok cnew w) :
    (appCore e s zeros base sLen sCap n cx).run P w = (match base with | some a => (do storeCells (a.add (sLen * s)) cnew.toList; pure (.slice base (sLen + n) sCap)) | none => pure (.slice base (sLen + n) sCap) : Sem Value).run P w := by
  unfold appCore
  simp only [hfit, if_true, Sem.run_bind, hn, Result.andThen_ok]
  cases base <;> rfl

/-- There is none: a new row. -/
theorem run_appCore_grow {e : TypeId} {s n sLen sCap bytes : Nat} {zeros : Bool} {base : Option Addr} {cx z : Value} {cnew old : Array Value} (hno : sCap < sLen + n)
    (hb : bt P e = some bytes) (hb1 : 1 ≤ bytes) (hroom : (2 * (sLen + n) + 192) * bytes ≤ 281474976710656) (hz : zr P e = some z)
    (hn : ∀ k, (if !zeros then Builtin.firstCells s n cx else if n * s = 0 then pure #[] else do pure (Builtin.zeroCells (← zeroValue e).cells n) : Sem (Array Value)).run P { w with drawn := k } = .ok cnew { w with drawn := k })
    (ho : ∀ k, (Builtin.firstCells s sLen (.slice base sLen sCap)).run P { w with drawn := k } = .ok old { w with drawn := k }) :
    ∃ newCap rest k, sLen + n ≤ newCap ∧ rest = Builtin.zeroCells z.cells (newCap - (sLen + n)) ∧
      (appCore e s zeros base sLen sCap n cx).run P w = .ok (.slice (some ⟨w.heap.size, 0, none⟩) (sLen + n) newCap) (World.alloc { w with drawn := k } (.cells (old ++ cnew ++ rest) e)) := by
  unfold bt at hb
  cases hi : P.info? e with
  | none => simp [hi] at hb
  | some ie =>
    simp [hi] at hb
    have h1 : ¬ sLen + n ≤ sCap := by omega
    have h2 : Builtin.nextslicecap (sLen + n) sCap * ie.bytes ≤ 2 ^ 48 := by
      have := nextslicecap_le hno
      have h3 := Nat.mul_le_mul_right ie.bytes this
      rw [hb] at h3 ⊢; omega
    have h2' : ¬ Builtin.nextslicecap (sLen + n) sCap * ie.bytes > 2 ^ 48 := by omega
    have h4 : 2 * (sLen + n) + 192 ≤ (2 * (sLen + n) + 192) * bytes := Nat.le_mul_of_pos_right _ (by omega)
    have h5 : ¬ (((sLen + n : Nat) : Int) > IntKind.i64.max) := by
      have : IntKind.i64.max = 9223372036854775807 := by decide
      rw [this]; omega
    refine ⟨(sLen + n) + w.tape w.drawn (.appendCap (sLen + n) sCap e) % (2 ^ 63 - (sLen + n)), _, w.drawn + 1, by omega, rfl, ?_⟩
    have h6 : ¬ ((((sLen + n : Nat) : Int) > IntKind.i64.max) ∧ (zeros = true ∨ ie.bytes = 0)) := fun q => h5 q.1
    have hch : (choose (.appendCap (sLen + n) sCap e)).run P w = .ok ((sLen + n) + w.tape w.drawn (.appendCap (sLen + n) sCap e) % (2 ^ 63 - (sLen + n))) { w with drawn := w.drawn + 1 } := by
      simp [choose, Sem.run, Question.forced, Question.cut]
    unfold appCore
    simp only [h1, if_false, Sem.run_bind, run_typeInfo hi, Result.andThen_ok, h6, h2', hch, run_askRoom, ho, hn, run_zero hz, Sem.run_pure, newRow, run_newObj, World.alloc_eq]

/-- What is appended: these cells, n elements. -/
def SrcOk (hm : GM) (P : Program) (w : World) (sT xT e : TypeId) (s : Nat) (cx : Value) (new : List Value) (n : Nat) : Prop :=
  ∃ zeros cnew, (∀ T base sLen sCap, (Builtin.append_ #[sT, xT] T #[.slice base sLen sCap, cx]).run P w = (appCore e s zeros base sLen sCap n cx).run P w) ∧
      (∀ k, (if !zeros then Builtin.firstCells s n cx else if n * s = 0 then pure #[] else do pure (Builtin.zeroCells (← zeroValue e).cells n) : Sem (Array Value)).run P { w with drawn := k } = .ok cnew { w with drawn := k }) ∧
      L2 (SR hm []) new cnew.toList ∧ new.length = n * s ∧ new.all pure1 = true

theorem src_deep (r : Rel hm lb w0 U st w a) {sT xT e e2 : TypeId} {s n : Nat} {cs : Array Value} {cx : Value} (hsT : und P sT = some (.slice e)) (hs : sz P e = some (s + 1)) (hu : und P xT = some (.slice e2)) (hn : n * (s + 1) = cs.size)
    (hx : VR hm lb (.iface (s + 1) (.tuple cs)) cx) : SrcOk hm P w sT xT e (s + 1) cx cs.toList n := by
  have hdr : DeepR hm.fz (s + 1) cs.toList cx := hx.sr rfl
  have hp := r.toHRel.deep_pure hdr
  obtain ⟨a0, n', cap, rfl, h1, h2, h3⟩ := hx.sr rfl
  have : n' = n := by
    have h4 : n' * (s + 1) = n * (s + 1) := by rw [h1, hn]; simp
    exact Nat.eq_of_mul_eq_mul_right (by omega) h4
  subst this
  rcases h3 with h3 | ⟨B, o, rfl, hz⟩
  · have hn0 : n' = 0 := by
      have : cs.size = 0 := by rw [← Array.length_toList, h3]; rfl
      have h5 : n' * (s + 1) = 0 := by omega
      rcases Nat.mul_eq_zero.1 h5 with q | q <;> omega
    subst hn0
    refine ⟨false, #[], fun T base sLen sCap => ?_, fun k => ?_, by rw [h3]; exact .nil, by rw [h3]; simp, hp⟩
    · exact app_pre hu (fun k => by simp) (by simp [Builtin.lenOf]) hs hsT base sLen sCap
    · cases a0 with
      | none => simp [Builtin.firstCells]
      | some a0 => simp [Builtin.firstCells, loadCells, loadCellsFrom]
  · by_cases hne : cs.toList = []
    · have hn0 : n' = 0 := by
        have : cs.size = 0 := by rw [← Array.length_toList, hne]; rfl
        have h5 : n' * (s + 1) = 0 := by omega
        rcases Nat.mul_eq_zero.1 h5 with q | q <;> omega
      subst hn0
      refine ⟨false, #[], fun T base sLen sCap => ?_, fun k => ?_, by rw [hne]; exact .nil, by rw [hne]; simp, hp⟩
      · exact app_pre hu (fun k => by simp) (by simp [Builtin.lenOf]) hs hsT base sLen sCap
      · simp [Builtin.firstCells, loadCells, loadCellsFrom]
    · obtain ⟨C, e0, fz, g1, g2, g3⟩ := r.toHRel.deep hz hne
      refine ⟨false, C.extract o (o + n' * (s + 1)), fun T base sLen sCap => ?_, fun k => ?_, ?_, by simpa using h1.symm, hp⟩
      · exact app_pre hu (fun k => by simp) (by simp [Builtin.lenOf]) hs hsT base sLen sCap
      · simp only [Bool.not_false, if_true, Builtin.firstCells]
        exact run_loadCells' P _ B o C e0 fz (n' * (s + 1)) g1 (by rw [h1]; exact g2)
      · have hrel := slice_rel (R := SR hm []) (cs := cs.toList) (C := C) (base := o) (fun k v hk => by obtain ⟨_, v', q1, q2⟩ := g3 k v hk; exact ⟨v', q1, q2⟩) 0 cs.toList.length (by simp) g2
        rw [List.drop_zero, List.take_length, Nat.add_zero, ← h1] at hrel
        exact hrel

theorem zeroCells_size {z : Array Value} {n : Nat} : (Builtin.zeroCells z n).size = n * z.size := by simp [Builtin.zeroCells]
def room (need b : Nat) : Prop := (2 * need + 192) * b ≤ 281474976710656

/-- Appended to a slice that grows. -/
theorem app_gro (r : Rel hm lb w0 U st w a) {sT xT T e : TypeId} {s b n m len cap : Nat} {blk : Blk} {z : Value} {csv cx : Value} {new : List Value} (hb : bt P e = some b) (hb1 : 1 ≤ b) (hz : zr P e = some z) (hzs : z.cells.size = s)
    (hblk : st.heap.get m = some blk) (hg : blk.gro = true) (hez : blk.esz = s) (hl : len * s = blk.cells.length) (hx : VR hm lb (.slice (some ⟨m, 0, some 1⟩) len cap) csv)
    (hsrc : SrcOk hm P w sT xT e s cx new n) (hroom : room (len + n) b) :
    ∃ hm' w' cv, (Builtin.append_ #[sT, xT] T #[csv, cx]).run P w = .ok cv w' ∧ hm.le hm' ∧ Rel hm' lb w0 U (st.setHeap (st.heap.set m ⟨s, blk.cells ++ new, true⟩)) w' a ∧ VR hm' lb (.slice (some ⟨m, 0, some 1⟩) (len + n) (len + n)) cv := by
  obtain ⟨zeros, cnew, hpre, hnew, hrel, hnl, hpu⟩ := hsrc
  obtain ⟨i, p, cap', h1, h2, rfl, h3, h4⟩ := hx.sr rfl
  obtain ⟨i', g1, g2, g3, g4, gp, g5⟩ := r.blk m blk hblk
  simp only at h1
  rw [h1] at g1; cases g1
  have hes : i.esz = s := by omega
  have hs1 : 1 ≤ s := by have := (g4 hg).2; omega
  obtain ⟨q1, q2, q3⟩ := h4 (by rw [(g4 hg).1, hes, hl])
  have hil := (g4 hg).1
  have hcl := hrel.1
  simp at hcl
  have hall : (blk.cells ++ new).all pure1 = true := by rw [List.all_append, gp, hpu]; rfl
  by_cases hn0 : n = 0
  · subst hn0
    have hnil : new = [] := by
      have : new.length = 0 := by omega
      exact List.eq_nil_of_length_eq_zero this
    subst hnil
    have hsame : ∀ j, (st.heap.set m ⟨s, blk.cells ++ [], true⟩).get j = st.heap.get j := by
      intro j
      rw [set_get]
      split
      · rename_i e; subst e; rw [hblk, List.append_nil, ← hez, ← hg]
      · rfl
    have r2 : Rel hm lb w0 U (st.setHeap (st.heap.set m ⟨s, blk.cells ++ [], true⟩)) w a :=
      { os := r.os, tape := r.tape, output := r.output, size := r.size, prot := r.prot, protz := r.protz, fresh := r.fresh, frz := r.frz
        blk := fun j c hj => r.blk j c (by rw [← hsame j]; exact hj)
        inj := fun j c j' c' x y k1 k2 => r.inj j c j' c' x y (by rw [← hsame j]; exact k1) (by rw [← hsame j']; exact k2)
        defers := r.defers, tsize := r.tsize, base_le := r.base_le, tmps := r.tmps, llen := r.llen, loc := r.loc, linj := r.linj
        lheap := fun k B j c y k1 k2 => r.lheap k B j c y k1 (by rw [← hsame j]; exact k2) }
    refine ⟨hm, w, .slice p len cap', ?_, GM.le_refl _, r2, .of_sr rfl ⟨i, p, cap', h1, h2, rfl, h3, fun _ => ⟨q1, q2, q3⟩⟩⟩
    have hcn : cnew.toList = [] := by have h9 := hrel.1; exact List.eq_nil_of_length_eq_zero (by rw [← h9]; rfl)
    rw [hpre, run_appCore_fit (cnew := cnew) (by omega) (hnew w.drawn)]
    cases p with
    | none => simp
    | some a0 => simp [hcn, storeCells]
  · have hnpos : 0 < n := by omega
    have hms : (len + n) * s = len * s + n * s := Nat.add_mul _ _ _
    have hnspos : 0 < n * s := Nat.mul_pos hnpos (by omega)
    rcases Nat.lt_or_ge cap' (len + n) with hq | hq
    · -- a new place
      have hold : ∃ old : Array Value, (∀ k, (Builtin.firstCells s len (.slice p len cap')).run P { w with drawn := k } = .ok old { w with drawn := k }) ∧ L2 (SR hm []) blk.cells old.toList := by
        rcases g5 with ⟨_, g6, g5⟩ | ⟨C, e0, fz, k1, k2, k3, k4, k5, k6, k7⟩
        · have hl0 : len = 0 := by
            have h5 : len * s = 0 := by rw [hl, g5]; rfl
            rcases Nat.mul_eq_zero.1 h5 with q | q <;> omega
          subst hl0
          refine ⟨#[], fun k => ?_, by rw [g5]; exact .nil⟩
          cases p <;> simp [Builtin.firstCells, loadCells, loadCellsFrom]
        · by_cases hl0 : len = 0
          · subst hl0
            refine ⟨#[], fun k => ?_, ?_⟩
            · cases p <;> simp [Builtin.firstCells, loadCells, loadCellsFrom]
            · have : blk.cells = [] := List.eq_nil_of_length_eq_zero (by omega)
              rw [this]; exact .nil
          · obtain rfl := q2 (by omega)
            refine ⟨C.extract 0 (0 + len * s), fun k => ?_, ?_⟩
            · simp only [Builtin.firstCells]
              exact run_loadCells' P _ i.blk 0 C e0 fz (len * s) k1 (by omega)
            · have := slice_rel (R := SR hm []) (cs := blk.cells) (C := C) (base := 0) (fun k v hk => by simpa using k7 k v hk) 0 (len * s) (by omega) (by omega)
              rw [hl] at this ⊢
              simpa using this
      obtain ⟨old, hold1, hold2⟩ := hold
      obtain ⟨newCap, rest, k, c1, c2, c3⟩ := run_appCore_grow (P := P) (w := w) (e := e) (s := s) (n := n) (sLen := len) (sCap := cap') (bytes := b) (zeros := zeros) (base := p) (cx := cx) (z := z) (cnew := cnew) (old := old)
        hq hb hb1 (by simpa [room] using hroom) hz hnew hold1
      have hol := hold2.1
      simp at hol
      have hC : (old ++ cnew ++ rest).size = newCap * s := by
        simp [c2, zeroCells_size, hzs]
        have : newCap * s = (len + n) * s + (newCap - (len + n)) * s := by rw [← Nat.add_mul]; congr 1; omega
        rw [this]; omega
      have hns : (len + n) * s ≤ newCap * s := Nat.mul_le_mul_right s c1
      have hrel2 := hold2.append hrel
      have h := (r.drawn k).reBlk (i' := ⟨w.heap.size, newCap * s, s, true, (blk.cells ++ new).length⟩) (b' := ⟨s, blk.cells ++ new, true⟩) (w' := World.alloc { w with drawn := k } (.cells (old ++ cnew ++ rest) e)) hblk h1
        (.inr ⟨h2, rfl, hes.symm, by simp; omega⟩) rfl rfl (fun _ => ⟨rfl, hs1⟩) hall rfl rfl rfl (by simp) (fun B _ hB => alloc_get_lt (w := { w with drawn := k }) hB) (.inr ⟨Nat.le_refl _, by simp⟩)
        ⟨_, e, (0, 0), alloc_get_new { w with drawn := k } _, hC, by simp; omega, Free.zero _, fun j v hj => by
          obtain ⟨v', x1, x2⟩ := hrel2.get hj
          refine ⟨v', ?_, x2⟩
          have hlt : j < (old ++ cnew).size := by have := lookup_lt x1; simpa using this
          rw [Array.getElem?_append_left hlt, ← Array.getElem?_toList, Array.toList_append]; exact x1⟩
      refine ⟨_, _, _, by rw [hpre, c3], h.1, h.2, .of_sr rfl ⟨_, some ⟨w.heap.size, 0, none⟩, newCap, GM.put_same, rfl, rfl, by simp; omega, fun _ => ⟨c1, fun _ => rfl, Nat.le_refl _⟩⟩⟩
    · -- in its place
      obtain rfl := q2 (by omega)
      have hcs : (len + n) * s ≤ cap' * s := Nat.mul_le_mul_right s hq
      rw [hes] at q3
      rcases g5 with ⟨_, g6, g5⟩ | ⟨C, e0, fz, k1, k2, k3, k4, k5, k6, k7⟩
      · omega
      · have hrun := run_storeCells P i.blk (len * s) e0 fz cnew.toList 0 w C k1 (by simp; omega) (fun k z1 z2 => k4 k (by simp at z2; omega)) (all_one hrel)
        have hsz : i.size ≠ 0 := by omega
        have h := r.reBlk (i' := ⟨i.blk, i.size, s, true, (blk.cells ++ new).length⟩) (b' := ⟨s, blk.cells ++ new, true⟩) (w' := bset w i.blk (.cells ((spl C.toList (len * s) cnew.toList).toArray) e0 fz)) hblk h1
          (.inr ⟨h2, rfl, hes.symm, by simp; omega⟩) rfl rfl (fun _ => ⟨rfl, hs1⟩) hall rfl rfl rfl (by rw [bset_size]; exact Nat.le_refl _) (fun B hB _ => bset_other (fun q => hB q.symm)) (.inl ⟨rfl, rfl, hsz⟩)
          ⟨_, e0, fz, bset_same k1, (arr_spl_size C _ cnew.toList (by simp; omega)).trans k2, by simp; omega, k4, fun k v hk => by
            rw [arr_spl_get C (len * s) cnew.toList (by simp; omega)]
            by_cases u : k < blk.cells.length
            · rw [List.getElem?_append_left u] at hk
              rw [if_pos (by omega)]
              exact k7 k v hk
            · rw [List.getElem?_append_right (by omega)] at hk
              have hlt := lookup_lt hk
              rw [if_neg (by omega), if_pos (by simp; omega)]
              obtain ⟨v', x1, x2⟩ := hrel.get hk
              exact ⟨v', by rw [show k - len * s = k - blk.cells.length from by omega]; exact x1, x2⟩⟩
        refine ⟨_, _, .slice (some ⟨i.blk, 0, none⟩) (len + n) cap', ?_, h.1, h.2, .of_sr rfl ⟨_, _, cap', GM.put_same, rfl, rfl, by simp; omega, fun _ => ⟨hq, fun _ => rfl, q3⟩⟩⟩
        rw [hpre, run_appCore_fit (cnew := cnew) (by omega) (hnew w.drawn)]
        simp only [add_none, Nat.zero_add, Sem.run_bind]
        have : (⟨i.blk, len * s, none⟩ : Addr) = ⟨i.blk, len * s, none⟩ := rfl
        simp only [Nat.add_zero] at hrun
        simp only [hrun, Result.andThen_ok, Sem.run_pure]

end

/-! ## Bytes and strings -/
def u8s : List Value → Option (List Int)
  | [] => some []
  | .int .u8 n :: r => (u8s r).map (n :: ·)
  | _ => none
def strOf (ns : List Int) : ByteArray := ⟨(ns.map fun n => UInt8.ofNat n.toNat).toArray⟩


def bcells (s : ByteArray) : List Value := s.data.toList.map fun b => .int .u8 b.toNat
theorem bcells_plain (s : ByteArray) : (bcells s).all plain1 = true := by
  rw [List.all_eq_true]
  intro v hv
  simp only [bcells, List.mem_map] at hv
  obtain ⟨b, _, rfl⟩ := hv
  rfl

section
variable {hm : GM} {lb : LM} {w0 : World} {U : Env} {st : AS} {w : World} {a : Act} {P : Program}

theorem strBytes_run (e : TypeId) (s : ByteArray) : ∃ newCap C, s.size ≤ newCap ∧ C.size = newCap ∧ (∀ (k : Nat) (v : Value), (bcells s)[k]? = some v → C[k]? = some v) ∧
    (Conv.stringToBytes e s).run P w = .ok (.slice (some ⟨w.heap.size, 0, none⟩) s.size newCap) (World.alloc { w with drawn := w.drawn + 1 } (.cells C e (C.size, C.size + 1))) := by
  have hch : ∃ newCap, s.size ≤ newCap ∧ (choose (.appendCap s.size 0 e)).run P w = .ok newCap { w with drawn := w.drawn + 1 } := by
    refine ⟨s.size + w.tape w.drawn (.appendCap s.size 0 e) % (2 ^ 63 - s.size), by omega, ?_⟩
    simp [choose, Sem.run, Question.forced, Question.cut]
  obtain ⟨newCap, h1, h2⟩ := hch
  have hsz : (s.data.map fun b => Value.int .u8 b.toNat).size = s.size := by rw [Array.size_map]; rfl
  generalize hC : (s.data.map fun b => Value.int .u8 b.toNat) ++ Array.replicate (newCap - s.size) (.int .u8 0) = C
  have hCs : C.size = newCap := by rw [← hC, Array.size_append, hsz, Array.size_replicate]; omega
  have hfr : ((World.alloc { w with drawn := w.drawn + 1 } (.cells C e)).freeze ⟨w.heap.size, C.size, none⟩ 1) = World.alloc { w with drawn := w.drawn + 1 } (.cells C e (C.size, C.size + 1)) := by
    unfold World.freeze World.alloc
    simp only [Nat.succ_ne_zero, if_false]
    congr 1
    refine Array.ext_getElem? fun k => ?_
    rw [Array.getElem?_modify]
    by_cases q : w.heap.size = k
    · subst q; simp
    · rw [if_neg q, Array.getElem?_push, Array.getElem?_push]
      have : ¬ k = w.heap.size := fun z => q z.symm
      simp [this]
  refine ⟨newCap, C, h1, hCs, ?_, ?_⟩
  · intro k v hk
    have hlt := lookup_lt hk
    simp [bcells] at hlt
    rw [← hC, Array.getElem?_append_left (by simpa using hlt)]
    simp only [bcells, List.getElem?_map, Array.getElem?_toList] at hk
    simpa using hk
  · have hshape : (World.alloc { w with drawn := w.drawn + 1 } (.cells C e)).shape? w.heap.size = some (e, C.size) := by
      have := alloc_get_new { w with drawn := w.drawn + 1 } (.cells C e)
      unfold World.shape?
      have h3 : (World.alloc { w with drawn := w.drawn + 1 } (.cells C e)).heap[w.heap.size]? = some (.cells C e (0, 0)) := this
      rw [h3]
    simp only [Conv.stringToBytes, Sem.run_bind, h2, Result.andThen_ok, newRow, run_newObj, Sem.run_pure, hC, markStringish, World.alloc_eq, run_shape, hshape, run_freeze, hfr]

theorem strBytes_ok (r : Rel hm lb w0 U st w a) {src dst e : TypeId} {d : TypeDesc} {s : ByteArray} {cx : Value} (hs : und P src = some d) (hd : und P dst = some (.slice e)) (he : und P e = some (.int .u8)) (hx : VR hm lb (.string s) cx) :
    ∃ hm' w' cv, (convert src dst cx).run P w = .ok cv w' ∧ hm.le hm' ∧ Rel hm' lb w0 U (st.setHeap (st.heap.alloc ⟨1, bcells s, true⟩)) w' a ∧ VR hm' lb (.slice (some ⟨st.heap.next, 0, some 1⟩) s.size s.size) cv := by
  obtain rfl : cx = _ := hx.sr rfl
  obtain ⟨newCap, C, h1, h2, h3, h4⟩ := strBytes_run (P := P) (w := w) e s
  have hbl : (bcells s).length = s.size := by simp [bcells]
  have h := (r.drawn (w.drawn + 1)).newBlk C e (C.size, C.size + 1) (fun k k1 k2 => by omega) ⟨1, bcells s, true⟩ (by simp only [hbl]; omega) (fun _ => Nat.le_refl _) (plain_pure (bcells_plain s)) (fun k v hk =>
    ⟨v, h3 k v hk, SR.of_plain (List.all_eq_true.1 (bcells_plain s) v (List.mem_of_getElem? hk))⟩)
  refine ⟨_, _, .slice (some ⟨w.heap.size, 0, none⟩) s.size newCap, ?_, h.1, h.2, .of_sr rfl ⟨_, _, newCap, GM.put_same, rfl, rfl, by simp [hbl], fun _ => ⟨h1, fun _ => rfl, by simp [h2]⟩⟩⟩
  simp only [convert, Sem.run_bind, run_und hs, run_und hd, Result.andThen_ok, run_und he]
  exact h4

theorem strBytesD_ok (r : Rel hm lb w0 U st w a) {src dst e : TypeId} {d : TypeDesc} {s : ByteArray} {cx : Value} (hs : und P src = some d) (hd : und P dst = some (.slice e)) (he : und P e = some (.int .u8)) (hx : VR hm lb (.string s) cx) :
    ∃ hm' w' cv, (convert src dst cx).run P w = .ok cv w' ∧ hm.le hm' ∧ Rel hm' lb w0 U st w' a ∧ VR hm' lb (.iface 1 (.tuple (bcells s).toArray)) cv := by
  obtain rfl : cx = _ := hx.sr rfl
  obtain ⟨newCap, C, h1, h2, h3, h4⟩ := strBytes_run (P := P) (w := w) e s
  have hbl : (bcells s).length = s.size := by simp [bcells]
  obtain ⟨hm', g1, g2, g3⟩ := (r.drawn (w.drawn + 1)).newDeep C e (C.size, C.size + 1) (bcells s) (plain_pure (bcells_plain s)) (fun k v hk =>
    ⟨v, h3 k v hk, SR.of_plain (List.all_eq_true.1 (bcells_plain s) v (List.mem_of_getElem? hk))⟩)
  refine ⟨hm', _, .slice (some ⟨w.heap.size, 0, none⟩) s.size newCap, ?_, g1, g2, .of_sr rfl ⟨_, s.size, newCap, rfl, by simpa using hbl.symm, h1, .inr ⟨_, 0, rfl, fun j c hj => by rw [Nat.zero_add]; exact g3 j c (by simpa using hj)⟩⟩⟩
  simp only [convert, Sem.run_bind, run_und hs, run_und hd, Result.andThen_ok, run_und he]
  exact h4

theorem bytesStr_run {src dst e : TypeId} {p : Option Addr} {l c : Nat} {ns : List Int} (hs : und P src = some (.slice e)) (hd : und P dst = some .string) (he : und P e = some (.int .u8))
    (hload : (p = none ∧ ns = []) ∨ ∃ A, p = some A ∧ (loadCells A l).run P w = .ok (ns.map (Value.int .u8)).toArray w) : (convert src dst (.slice p l c)).run P w = .ok (.string (strOf ns)) w := by
  rw [run_convert_bytes_string w src dst e p l c hs he hd]
  rcases hload with ⟨rfl, rfl⟩ | ⟨A, rfl, hload⟩
  · simp [Conv.bytesToString]; rfl
  · rw [run_bytesToString w _ l c ns hload, foldl_push_bytes]
    have : ByteArray.empty.data = #[] := rfl
    rw [this, Array.empty_append]
    rfl

theorem plainInts (ns : List Int) : (ns.map (Value.int .u8)).all plain1 = true := by
  rw [List.all_eq_true]; intro v hv; simp only [List.mem_map] at hv; obtain ⟨_, _, rfl⟩ := hv; rfl

/-- A frozen slice's bytes as a string. -/
theorem bytesStrD_ok (r : Rel hm lb w0 U st w a) {src dst e : TypeId} {ns : List Int} {cs : Array Value} {cx : Value} (hs : und P src = some (.slice e)) (hd : und P dst = some .string) (he : und P e = some (.int .u8)) (hcs : cs.toList = ns.map (Value.int .u8))
    (hx : VR hm lb (.iface 1 (.tuple cs)) cx) : (convert src dst cx).run P w = .ok (.string (strOf ns)) w := by
  obtain ⟨a0, n, cap, rfl, h1, h2, h3⟩ := hx.sr rfl
  refine bytesStr_run hs hd he ?_
  have hload0 : ns = [] → n = 0 := fun q => by rw [hcs, q] at h1; simpa using h1
  by_cases hne : cs.toList = []
  · have hns : ns = [] := by rw [hcs] at hne; simpa using hne
    have := hload0 hns
    subst this
    cases a0 with
    | none => exact .inl ⟨rfl, hns⟩
    | some A => exact .inr ⟨A, rfl, by rw [hns]; simp [loadCells, loadCellsFrom]⟩
  · rcases h3 with h3 | ⟨B, o, rfl, hz⟩
    · exact absurd h3 hne
    · obtain ⟨C, e0, fz, g1, g2, g3⟩ := r.toHRel.deep hz hne
      refine .inr ⟨_, rfl, ?_⟩
      have hn : n = cs.toList.length := by simpa using h1
      rw [run_loadCells' P w B o C e0 fz n g1 (by omega)]
      have hrel := slice_rel (R := SR hm []) (cs := cs.toList) (C := C) (base := o) (fun k v hk => by obtain ⟨_, v', q1, q2⟩ := g3 k v hk; exact ⟨v', q1, q2⟩) 0 cs.toList.length (by simp) g2
      simp only [List.drop_zero, List.take_length, Nat.add_zero] at hrel
      rw [hcs] at hrel
      have := hrel.plain (plainInts ns)
      rw [hn, hcs]
      congr 1
      apply Array.toList_inj.1; rw [this]

theorem bytesStrG_ok (r : Rel hm lb w0 U st w a) {src dst e : TypeId} {ns : List Int} {m n cap : Nat} {b : Blk} {cx : Value} (hs : und P src = some (.slice e)) (hd : und P dst = some .string) (he : und P e = some (.int .u8))
    (hb : st.heap.get m = some b) (hg : b.gro = true) (hez : b.esz = 1) (hl : n = b.cells.length) (hcs : b.cells = ns.map (Value.int .u8))
    (hx : VR hm lb (.slice (some ⟨m, 0, some 1⟩) n cap) cx) : (convert src dst cx).run P w = .ok (.string (strOf ns)) w := by
  obtain ⟨i, p, cap', h1, h2, rfl, h3, h4⟩ := hx.sr rfl
  obtain ⟨i', g1, g2, g3, g4, gp, g5⟩ := r.blk m b hb
  simp only at h1
  rw [h1] at g1; cases g1
  have hes : i.esz = 1 := by omega
  obtain ⟨q1, q2, q3⟩ := h4 (by rw [(g4 hg).1, hes]; omega)
  refine bytesStr_run hs hd he ?_
  by_cases hn0 : n = 0
  · have hns : ns = [] := by
      have : b.cells = [] := List.eq_nil_of_length_eq_zero (by omega)
      rw [hcs] at this; simpa using this
    subst hn0
    cases p with
    | none => exact .inl ⟨rfl, hns⟩
    | some A => exact .inr ⟨A, rfl, by rw [hns]; simp [loadCells, loadCellsFrom]⟩
  · obtain rfl := q2 (by omega)
    refine .inr ⟨_, rfl, ?_⟩
    rcases g5 with ⟨_, _, g5⟩ | ⟨C, e0, fz, k1, k2, k3, k4, k5, k6, k7⟩
    · rw [g5] at hl; simp at hl; omega
    · rw [run_loadCells' P w i.blk 0 C e0 fz n k1 (by omega)]
      have := slice_rel (R := SR hm []) (cs := b.cells) (C := C) (base := 0) (fun k v hk => by simpa using k7 k v hk) 0 n (by omega) (by omega)
      simp only [List.drop_zero, Nat.add_zero] at this
      rw [hl, List.take_length, hcs] at this
      congr 1
      apply Array.toList_inj.1; rw [hl, hcs, this.plain (plainInts ns)]

theorem convInt_ok {src dst : TypeId} {d : TypeDesc} {k k0 : IntKind} {n : Int} {cx : Value} (hs : und P src = some d) (hd : und P dst = some (.int k)) (hx : VR hm lb (.int k0 n) cx) : (convert src dst cx).run P w = .ok (.int k (k.wrap n)) w := by
  obtain rfl : cx = _ := hx.sr rfl
  simp only [convert, Sem.run_bind, run_und hs, run_und hd, Result.andThen_ok, Conv.intToInt, Sem.run_pure]
end

end Go.Fhl

/-
  A logic over the model, part nine: contracts, statements, functions.
-/
namespace Go.Fhl
set_option linter.unusedVariables false
set_option linter.unusedSimpArgs false

/-! ## Contracts -/
/-- Called with these arguments over this heap the function returns, and what it returns, and the heap then, are as R says; nothing else is written. -/
def AFn (P : Program) (f : FuncId) (args : List Value) (H : AH) (R : Value → AH → Prop) : Prop :=
  ∀ (hm : GM) (w0 : World) (U : Env) (w : World) (cargs : Array Value), HRel hm w0 U H w → L2 (VR hm []) args cargs.toList →
    Calls P f cargs w fun e w' => ∃ hm' v cv H', e = .returned cv ∧ hm.leb H.next hm' ∧ H.next ≤ H'.next ∧ HRel hm' w0 U H' w' ∧ VR hm' [] v cv ∧ R v H'
theorem AFn.mono {P : Program} {f : FuncId} {args : List Value} {H : AH} {R R' : Value → AH → Prop} (h : AFn P f args H R) (k : ∀ v H', R v H' → R' v H') : AFn P f args H R' :=
  fun hm w0 U w cargs hr ha => (h hm w0 U w cargs hr ha).mono fun e w' ⟨hm', v, cv, H', h1, h2, h3, h4, h5, h6⟩ => ⟨hm', v, cv, H', h1, h2, h3, h4, h5, k v H' h6⟩

/-- A function of values alone. -/
def FFn (P : Program) (f : FuncId) (args : List Value) (r : Value) : Prop := AFn P f args AH.empty fun v _ => v = r

/-- The end of a piece of code, as the abstract state has it. -/
def Post (w0 : World) (U : Env) (hm : GM) (b : Nat) (Q : Exit → AS → Prop) : Exit → Act → World → Prop :=
  fun e a w => ∃ hm' lb' st', hm.leb b hm' ∧ st'.base = b ∧ Rel hm' lb' w0 U st' w a ∧ Q e st'
theorem Post.mono {w0 : World} {U : Env} {hm hm' : GM} {b : Nat} {Q : Exit → AS → Prop} (h : hm.leb b hm') {e : Exit} {a : Act} {w : World} (p : Post w0 U hm' b Q e a w) : Post w0 U hm b Q e a w := by
  obtain ⟨h1, lb, st, h2, h3, h4⟩ := p
  exact ⟨h1, lb, st, GM.leb_trans h h2, h3, h4⟩

def AWp (P : Program) (c : Code) (Q : Exit → AS → Prop) (st : AS) : Prop :=
  ∀ hm lb w0 U w a, Rel hm lb w0 U st w a → c.wp P (Post w0 U hm st.base Q) a w

theorem wpOp_mono2 {P : Program} {ops : Array Oper} {Q Q' : Exit → Act → World → Prop} {i : Nat} {K K' : Act → World → Prop} {a : Act} {w : World} (hq : ∀ e a w, Q e a w → Q' e a w) (hk : ∀ a w, K a w → K' a w) (h : wpOp P ops Q i K a w) : wpOp P ops Q' i K' a w := by
  have h8 := wpOp_mono hk h
  unfold wpOp at h8 ⊢
  cases ho : ops[i]? with
  | none => simp only [ho] at h8 ⊢; exact h8
  | some o =>
    simp only [ho] at h8 ⊢
    split at h8
    · rename_i hwn
      rw [if_pos hwn]
      refine h8.imp (fun q => ?_) (fun ⟨q1, a0, w1, q2⟩ => ⟨q1, a0, w1, hq _ _ _ q2⟩)
      unfold Oper.wp at q ⊢
      revert q
      generalize (execOp a.eval o).run P w = res
      intro q
      cases res with
      | ok n w' =>
        cases n <;> simp only [Oper.upon] at q ⊢ <;> first
          | exact q
          | exact Calls.mono q (fun e w'' he => by cases e <;> first | exact he | exact hq _ _ _ he | (obtain ⟨a0, w1, q2⟩ := he; exact ⟨a0, w1, hq _ _ _ q2⟩))
      | halt x w' => cases x <;> simp only [Oper.upon] at q ⊢ <;> first | exact q | exact hq _ _ _ q
    · rename_i hwn
      rw [if_neg hwn]
      exact h8
theorem wpOps_mono {P : Program} {ops : Array Oper} {Q Q' : Exit → Act → World → Prop} (hq : ∀ e a w, Q e a w → Q' e a w) : ∀ (l : List Nat) (a : Act) (w : World), wpOps P ops Q l a w → wpOps P ops Q' l a w
  | [], a, w, h => hq _ _ _ h
  | i :: rest, a, w, h => by
    rw [wpOps_cons] at h ⊢
    exact wpOp_mono2 hq (fun a w q => wpOps_mono hq rest a w q) h

/-! ## Statements -/
section
variable {P : Program} {Q : Exit → AS → Prop} {st : AS}
theorem awp_mono {c : Code} {Q' : Exit → AS → Prop} (h : AWp P c Q st) (k : ∀ e s, Q e s → Q' e s) : AWp P c Q' st :=
  fun hm lb w0 U w a r => wp_mono (h hm lb w0 U w a r) fun e a w ⟨hm', lb', st', h1, h2, h3, h4⟩ => ⟨hm', lb', st', h1, h2, h3, k e st' h4⟩
theorem awp_skip (h : Q .normal st) : AWp P .skip Q st := fun hm lb w0 U w a r => wp_skip ⟨hm, lb, st, GM.leb_refl _ _, rfl, r, h⟩
theorem awp_exit {id : Nat} (h : Q (.exit id) st) : AWp P (.exit id) Q st := fun hm lb w0 U w a r => wp_exit ⟨hm, lb, st, GM.leb_refl _ _, rfl, r, h⟩
theorem awp_ret (h : Q .ret st) : AWp P .ret Q st := fun hm lb w0 U w a r => wp_ret ⟨hm, lb, st, GM.leb_refl _ _, rfl, r, h⟩

def Then (K : AS → Prop) (Q : Exit → AS → Prop) : Exit → AS → Prop
  | .normal, s => K s
  | e, s => Q e s
theorem aws {x y : Code} (h : AWp P x (Then (AWp P y Q) Q) st) : AWp P (.seq x y) Q st := by
  intro hm lb w0 U w a r
  refine wp_seq (wp_mono (h hm lb w0 U w a r) fun e a' w' q => ?_)
  obtain ⟨hm', lb', st', h1, h2, h3, h4⟩ := q
  cases e with
  | normal => exact wp_mono (h4 hm' lb' w0 U w' a' h3) fun e a w q => Post.mono h1 (h2 ▸ q)
  | _ => exact ⟨hm', lb', st', h1, h2, h3, h4⟩
theorem awp_cond {c : Operand} {x y : Code} {b : Bool} (hc : ev st.tmps c = .bool b) (h : AWp P (if b then x else y) Q st) : AWp P (.cond c x y) Q st := by
  intro hm lb w0 U w a r
  have := r.ev c
  rw [hc] at this
  exact wp_cond (this.sr rfl) (h hm lb w0 U w a r)
theorem awp_condT {c : Operand} {x y : Code} (hc : ev st.tmps c = .bool true) (h : AWp P x Q st) : AWp P (.cond c x y) Q st := awp_cond hc h
theorem awp_condF {c : Operand} {x y : Code} (hc : ev st.tmps c = .bool false) (h : AWp P y Q st) : AWp P (.cond c x y) Q st := awp_cond hc h
def InBlock (id : Nat) (Q : Exit → AS → Prop) : Exit → AS → Prop
  | .exit id', s => if id' = id then Q .normal s else Q (.exit id') s
  | e, s => Q e s
theorem awp_block {id : Nat} {c : Code} (h : AWp P c (InBlock id Q) st) : AWp P (.block id c) Q st := by
  intro hm lb w0 U w a r
  refine wp_block (wp_mono (h hm lb w0 U w a r) fun e a' w' q => ?_)
  obtain ⟨hm', lb', st', h1, h2, h3, h4⟩ := q
  cases e with
  | exit id' =>
    simp only [Exit.inBlock]
    by_cases e : id' = id
    · simp only [e, if_true]
      simp only [InBlock, e, if_true] at h4
      exact ⟨hm', lb', st', h1, h2, h3, h4⟩
    · simp only [e, if_false]
      simp only [InBlock, e, if_false] at h4
      exact ⟨hm', lb', st', h1, h2, h3, h4⟩
  | _ => exact ⟨hm', lb', st', h1, h2, h3, h4⟩

/-- A loop: what holds at every round's head, by the rounds that are left at most. -/
theorem awp_loop {c : Code} (I : Nat → AS → Prop) (n : Nat) (h0 : I n st) (round : ∀ n s, I n s → s.base = st.base → AWp P c (Then (fun s' => ∃ m, m < n ∧ I m s') Q) s) : AWp P (.loop c) Q st := by
  have key : ∀ n s, I n s → s.base = st.base → ∀ hm lb w0 U w a, Rel hm lb w0 U s w a → ∀ b k cs, ∃ e a' w', Post w0 U hm st.base Q e a' w' ∧ Arrives P (lone (b.at a (.code c :: .inLoop c :: k)) cs w) b k cs e a' w' := by
    intro n
    induction n using Nat.strongRecOn with
    | _ n ih =>
      intro s hI hbase hm lb w0 U w a r b k cs
      obtain ⟨e, a₁, w₁, hq, harr⟩ := round n s hI hbase hm lb w0 U w a r b (.inLoop c :: k) cs
      obtain ⟨hm', lb', s', h1, h2, h3, h4⟩ := hq
      rw [hbase] at h1 h2
      cases e with
      | normal =>
        obtain ⟨m, hlt, hI₁⟩ := h4
        obtain ⟨e₂, a₂, w₂, hq₂, harr₂⟩ := ih m hlt s' hI₁ h2 hm' lb' w0 U w₁ a₁ h3 b k cs
        exact ⟨e₂, a₂, w₂, Post.mono h1 hq₂, .of_steps (Steps.trans harr (.one step_inLoop)) harr₂⟩
      | exit id => exact ⟨_, a₁, w₁, ⟨hm', lb', s', h1, h2, h3, h4⟩, .pass (x := .inLoop c) rfl (fun _ _ => .inl (by simp)) harr⟩
      | goto l => exact ⟨_, a₁, w₁, ⟨hm', lb', s', h1, h2, h3, h4⟩, .pass (x := .inLoop c) rfl (fun _ _ => .inl (by simp)) harr⟩
      | ret => exact ⟨_, a₁, w₁, ⟨hm', lb', s', h1, h2, h3, h4⟩, .pass (x := .inLoop c) rfl (fun _ _ => .inl (by simp)) harr⟩
      | panic ch => exact ⟨_, a₁, w₁, ⟨hm', lb', s', h1, h2, h3, h4⟩, .pass (x := .inLoop c) rfl (fun _ _ => .inl (by simp)) harr⟩
      | outgrown => exact ⟨_, a₁, w₁, ⟨hm', lb', s', h1, h2, h3, h4⟩, .pass (x := .inLoop c) rfl (fun _ _ => .inl (by simp)) harr⟩
  intro hm lb w0 U w a r b k cs
  obtain ⟨e, a', w', hq, harr⟩ := key n st h0 rfl hm lb w0 U w a r b k cs
  exact ⟨e, a', w', hq, .of_steps (.one step_loop) harr⟩

theorem awp_seqJ {x y : Code} (J : AS → Prop) (hx : AWp P x (Then J Q) st) (hy : ∀ s, J s → AWp P y Q s) : AWp P (.seq x y) Q st :=
  aws (awp_mono hx fun e s q => by cases e <;> first | exact hy s q | exact q)
/-- The end of a piece of code, and what is read still. -/
theorem awp_kn {c : Code} {st' s0 : AS} (ts : List Nat) (k m : Nat) (h : AWp P c (fun e s => e = .normal ∧ s = s0) st) (ho : okKeep s0 ts k m = true) (he : s0.keep ts k m = st') (q : Q .normal st') : AWp P c Q st := by
  intro hm lb w0 U w a r
  refine wp_mono (h hm lb w0 U w a r) fun e a' w' p => ?_
  obtain ⟨hm', lb', s, h1, h2, h3, rfl, rfl⟩ := p
  obtain ⟨k1, k2⟩ := h3.keep ho
  rw [h2] at k1
  subst he
  exact ⟨_, _, s.keep ts k m, GM.leb_trans h1 k1, h2, k2, q⟩
/-- What is not read any more is forgotten. -/
theorem awp_keep {c : Code} (ts : List Nat) (k m : Nat) (ho : okKeep st ts k m = true) (h : AWp P c Q (st.keep ts k m)) : AWp P c Q st := by
  intro hm lb w0 U w a r
  obtain ⟨h1, h2⟩ := r.keep ho
  exact wp_mono (h _ _ w0 U w a h2) fun e a w q => Post.mono h1 q
end

/-! ## Operations, one behind the other -/
def isSkip : Value → Bool
  | .tuple vs => match vs.toList with | [.tuple us] => us.size == 0 | _ => false
  | _ => false
theorem isSkip_eq {v : Value} (h : isSkip v = true) : v = skipV := by
  unfold isSkip at h
  split at h
  · rename_i vs
    split at h
    · rename_i us hv
      have h1 : us = #[] := Array.eq_empty_of_size_eq_zero (by simpa using h)
      have h2 : vs = #[.tuple us] := by apply Array.toList_inj.1; rw [hv]
      rw [h2, h1]; rfl
    · cases h
  · cases h

def gval (want : Bool) : Option Value → Option Bool
  | some (.bool b) => some (b == want)
  | some v => cond (isSkip v) (some false) none
  | none => none
def awanted (ops : Array Oper) (T : List (Nat × Value)) (o : Oper) : Option Bool :=
  match o.guard with
  | none => some true
  | some (j, want) => match (ops[j]?).bind (·.dst) with | some d => gval want (lk T d) | none => none

theorem awanted_ok {hm : GM} {lb : LM} {w0 : World} {U : Env} {st : AS} {w : World} {a : Act} (r : Rel hm lb w0 U st w a) {ops : Array Oper} {o : Oper} {b : Bool} (h : awanted ops st.tmps o = some b) :
    Region.wanted o (yielded ops a.tmps) = b := by
  unfold awanted at h
  unfold Region.wanted
  split at h
  · rename_i hg; rw [hg]; exact Option.some.inj h
  · rename_i j want hg
    rw [hg]
    simp only
    split at h
    · rename_i d hd
      cases hl : lk st.tmps d with
      | none => rw [hl] at h; cases h
      | some v =>
        rw [hl] at h
        obtain ⟨cv, h1, h2⟩ := r.tmps d v hl
        unfold yielded
        rw [hd, Option.bind_some, h1]
        unfold gval at h
        split at h
        · rename_i c hc
          cases hc
          have hcv : cv = .bool c := h2.sr rfl
          subst hcv
          have := Option.some.inj h
          rw [← this]
          cases c <;> cases want <;> rfl
        · rename_i v' hv hc
          cases hc
          cases hs : isSkip v with
          | false => rw [hs] at h; cases h
          | true =>
            rw [hs] at h
            have := isSkip_eq hs
            rw [this] at h2
            have hcv : cv = .tuple #[] := by
              rcases h2 with h2 | ⟨_, h2⟩ | ⟨vs', h3, h4⟩
              · cases h2
              · exact h2
              · obtain ⟨x, h5, h6⟩ := h4.get (i := 0) (a := Value.tuple #[]) rfl
                exact h6.elim
            subst hcv
            have := Option.some.inj h
            rw [← this]
            cases want <;> rfl
        · cases h
    · cases h

/-- One operation, whatever its guard. -/
def AExec (P : Program) (o : Oper) (st : AS) (v : Value) (L : List (List Value)) (H : AH) : Prop :=
  ∀ hm lb w0 U w a (Q : Exit → Act → World → Prop), Rel hm lb w0 U st w a →
    o.wp P a w (fun a' w' => ∃ hm' lb' cv, hm.le hm' ∧ LM.le lb lb' ∧ a' = a.put o.dst cv ∧ VR hm' lb' v cv ∧ Rel hm' lb' w0 U ⟨st.n, st.base, st.tmps, L, H⟩ w' a) Q

/-- One operation of a region. -/
def AStep (P : Program) (ops : Array Oper) (i : Nat) (o : Oper) (st : AS) (v : Value) (L : List (List Value)) (H : AH) : Prop :=
  ops[i]? = some o → ∀ hm lb w0 U w a (Q : Exit → Act → World → Prop), Rel hm lb w0 U st w a →
    wpOp P ops Q i (fun a' w' => ∃ hm' lb' cv, hm.le hm' ∧ LM.le lb lb' ∧ a' = a.put o.dst cv ∧ VR hm' lb' v cv ∧ Rel hm' lb' w0 U ⟨st.n, st.base, st.tmps, L, H⟩ w' a) a w

theorem asd {P : Program} {ops : Array Oper} {i : Nat} {o : Oper} {st : AS} {v : Value} {L : List (List Value)} {H : AH} (hg : awanted ops st.tmps o = some true) (h : AExec P o st v L H) : AStep P ops i o st v L H := by
  intro ho hm lb w0 U w a Q r
  have hw := awanted_ok r hg
  simp only [wpOp, ho, hw, if_true]
  exact .inl (h hm lb w0 U w a _ r)
theorem astep_skip {P : Program} {ops : Array Oper} {i : Nat} {o : Oper} {st : AS} (hg : awanted ops st.tmps o = some false) : AStep P ops i o st skipV st.locs st.heap := by
  intro ho hm lb w0 U w a Q r
  have hw := awanted_ok r hg
  simp only [wpOp, ho, hw, Bool.false_eq_true, if_false]
  exact ⟨hm, lb, undef, GM.le_refl _, LM.le_refl _, rfl, .inr (.inl ⟨rfl, rfl⟩), r⟩

/-- One that is done just if a guard holds: its slot is what is done then, or nothing. -/
theorem astep_guard {P : Program} {ops : Array Oper} {i : Nat} {o : Oper} {st : AS} {v : Value} (g : Bool) (hg : awanted ops st.tmps o = some g) (h : g = true → AExec P o st v st.locs st.heap) : AStep P ops i o st (cond g v skipV) st.locs st.heap := by
  cases g with
  | true => exact asd hg (h rfl)
  | false => exact astep_skip hg
theorem cdo {g : Bool} (h : g = true) {v w : Value} : cond g v w = v := by rw [h]; rfl
theorem gv_nest {g x want : Bool} : gval want (some (cond g (.bool x) skipV)) = some (g && (x == want)) := by cases g <;> rfl
theorem pkOrN {g c a : Bool} {w : Value} (h : g = true) : cond c (.bool true) (cond (g && (c == false)) (.bool a) w) = Value.bool (c || a) := by rw [h]; cases c <;> rfl
theorem pkAnd {c a : Bool} {w : Value} : cond c (cond (c == true) (.bool a) w) (.bool false) = Value.bool (c && a) := by cases c <;> rfl
theorem pkOr {c a : Bool} {w : Value} : cond c (.bool true) (cond (c == false) (.bool a) w) = Value.bool (c || a) := by cases c <;> rfl

/-- Operations along the text: those that are left. -/
def ARun (P : Program) (ops : Array Oper) (i : Nat) (l : List Oper) (Q : Exit → AS → Prop) (st : AS) : Prop :=
  (∀ (k : Nat) (o : Oper), l[k]? = some o → ops[i + k]? = some o) → ∀ hm lb w0 U w a, Rel hm lb w0 U st w a → wpOps P ops (Post w0 U hm st.base Q) (List.range' i l.length) a w

theorem lk_push {T : List (Nat × Value)} {d : Nat} {v : Value} {t : Nat} {u : Value} (h : lk ((d, v) :: T) t = some u) : (t = d ∧ u = v) ∨ (t ≠ d ∧ lk T t = some u) := by
  by_cases e : d = t
  · subst e; rw [lk_cons_self] at h; cases h; exact .inl ⟨rfl, rfl⟩
  · rw [lk_cons_ne e] at h; exact .inr ⟨fun q => e q.symm, h⟩

theorem Rel.push {hm : GM} {lb : LM} {w0 : World} {U : Env} {n b : Nat} {T : List (Nat × Value)} {L : List (List Value)} {H : AH} {w : World} {a : Act} (r : Rel hm lb w0 U ⟨n, b, T, L, H⟩ w a) {d : Nat} {v cv : Value} (hd : Nat.blt d n = true) (h : VR hm lb v cv) :
    Rel hm lb w0 U ⟨n, b, (d, v) :: T, L, H⟩ w (a.put (some d) cv) := by
  have r1 := r.put (some d) h
  have := r1.fewer ((d, v) :: T) (fun t u hu => by
    show lk (putL n T (some d) v) t = some u
    simp only [putL, hd, cond_true]
    rw [lk_ups]
    rcases lk_push hu with ⟨rfl, rfl⟩ | ⟨h1, h2⟩
    · simp
    · simp [h1, h2])
  exact this
section
variable {P : Program} {ops : Array Oper} {Q : Exit → AS → Prop} {i n b d : Nat} {o : Oper} {l : List Oper} {T : List (Nat × Value)} {L L' : List (List Value)} {H H' : AH} {v : Value}
theorem arun_nil {st : AS} (h : Q .normal st) : ARun P ops i [] Q st := fun _ hm lb w0 U w a r => ⟨hm, lb, st, GM.leb_refl _ _, rfl, r, h⟩
theorem arun_step (hd : o.dst = some d) (hn : Nat.blt d n = true) (h : AStep P ops i o ⟨n, b, T, L, H⟩ v L' H') (k : ARun P ops (i + 1) l Q ⟨n, b, (d, v) :: T, L', H'⟩) : ARun P ops i (o :: l) Q ⟨n, b, T, L, H⟩ := by
  intro hl hm lb w0 U w a r
  have ho : ops[i]? = some o := hl 0 o rfl
  rw [List.length_cons, List.range'_succ, wpOps_cons]
  refine wpOp_mono (fun a' w' q => ?_) (h ho hm lb w0 U w a _ r)
  obtain ⟨hm', lb', cv, h1, h2, rfl, h4, h5⟩ := q
  rw [hd]
  have r2 := Rel.push h5 hn h4
  have hk := k (fun x o' e => by rw [Nat.add_assoc, Nat.add_comm 1 x]; exact hl (x + 1) o' (by simpa using e)) hm' lb' w0 U w' _ r2
  exact wpOps_mono (fun e a w q => Post.mono (h1.leb b) q) _ _ _ hk
theorem arun_step0 (hd : o.dst = none) (h : AStep P ops i o ⟨n, b, T, L, H⟩ v L' H') (k : ARun P ops (i + 1) l Q ⟨n, b, T, L', H'⟩) : ARun P ops i (o :: l) Q ⟨n, b, T, L, H⟩ := by
  intro hl hm lb w0 U w a r
  have ho : ops[i]? = some o := hl 0 o rfl
  rw [List.length_cons, List.range'_succ, wpOps_cons]
  refine wpOp_mono (fun a' w' q => ?_) (h ho hm lb w0 U w a _ r)
  obtain ⟨hm', lb', cv, h1, h2, rfl, h4, h5⟩ := q
  rw [hd]
  have hk := k (fun x o' e => by rw [Nat.add_assoc, Nat.add_comm 1 x]; exact hl (x + 1) o' (by simpa using e)) hm' lb' w0 U w' _ h5
  exact wpOps_mono (fun e a w q => Post.mono (h1.leb b) q) _ _ _ hk
/-- The everyday step. -/
theorem ado (hd : o.dst = some d) (hn : Nat.blt d n = true) (hg : awanted ops T o = some true) (h : AExec P o ⟨n, b, T, L, H⟩ v L' H') (k : ARun P ops (i + 1) l Q ⟨n, b, (d, v) :: T, L', H'⟩) : ARun P ops i (o :: l) Q ⟨n, b, T, L, H⟩ :=
  arun_step hd hn (asd hg h) k
theorem arun_do0 (hd : o.dst = none) (hg : awanted ops T o = some true) (h : AExec P o ⟨n, b, T, L, H⟩ v L' H') (k : ARun P ops (i + 1) l Q ⟨n, b, T, L', H'⟩) : ARun P ops i (o :: l) Q ⟨n, b, T, L, H⟩ :=
  arun_step0 hd (asd hg h) k
theorem arun_skip (hd : o.dst = some d) (hn : Nat.blt d n = true) (hg : awanted ops T o = some false) (k : ARun P ops (i + 1) l Q ⟨n, b, (d, skipV) :: T, L, H⟩) : ARun P ops i (o :: l) Q ⟨n, b, T, L, H⟩ :=
  arun_step hd hn (astep_skip hg) k
theorem agu (g : Bool) (hd : o.dst = some d) (hn : Nat.blt d n = true) (hg : awanted ops T o = some g) (h : g = true → AExec P o ⟨n, b, T, L, H⟩ v L H) (k : ARun P ops (i + 1) l Q ⟨n, b, (d, cond g v skipV) :: T, L, H⟩) : ARun P ops i (o :: l) Q ⟨n, b, T, L, H⟩ :=
  arun_step hd hn (astep_guard g hg h) k
theorem arun_fewer {T' : List (Nat × Value)} (hT : ∀ t v, lk T' t = some v → lk T t = some v) (h : ARun P ops i l Q ⟨n, b, T', L, H⟩) : ARun P ops i l Q ⟨n, b, T, L, H⟩ :=
  fun hl hm lb w0 U w a r => h hl hm lb w0 U w a (r.fewer T' hT)
theorem arun_keep {st : AS} (ts : List Nat) (k m : Nat) (ho : okKeep st ts k m = true) (h : ARun P ops i l Q (st.keep ts k m)) : ARun P ops i l Q st := by
  intro hl hm lb w0 U w a r
  obtain ⟨h1, h2⟩ := r.keep ho
  exact wpOps_mono (fun e a w q => Post.mono h1 q) _ _ _ (h hl _ _ w0 U w a h2)
theorem ake {st st' : AS} (ts : List Nat) (k m : Nat) (ho : okKeep st ts k m = true) (he : st.keep ts k m = st') (h : Q .normal st') : ARun P ops i [] Q st := by
  subst he
  exact arun_keep ts k m ho (arun_nil h)
theorem awr {id : Nat} {st : AS} (h : ARun P ops 0 ops.toList Q st) : AWp P (.region id ops false) Q st := by
  intro hm lb w0 U w a r
  refine wp_region ?_
  have := h (fun k o e => by simpa using e) hm lb w0 U w a r
  rw [← List.range_eq_range'] at this
  simpa using this
end

/-! ## What is frozen -/
/-- A slot's value before, and behind, the freezing of a block. -/
def Fz (n : Nat) (b : Blk) (v v' : Value) : Prop :=
  v' = v ∨ ∃ off len cap s e, v = .slice (some ⟨n, off, s⟩) len cap ∧ b.esz = e + 1 ∧ v' = .iface (e + 1) (.tuple ((b.cells.drop off).take (len * (e + 1))).toArray) ∧ off + len * (e + 1) ≤ b.cells.length ∧
    ((s = none ∧ b.gro = false) ∨ (s = some 1 ∧ b.gro = true ∧ off = 0 ∧ len * (e + 1) = b.cells.length))

theorem Fz.sr {hm : GM} {lb : LM} {w0 : World} {U : Env} {st : AS} {w : World} {a : Act} (r : Rel hm lb w0 U st w a) {n : Nat} {b : Blk} {i : Info} (hb : st.heap.get n = some b) (hi : hm.map n = some i) {v v' cv : Value} (h : Fz n b v v')
    {hm' : GM} (hle : hm.le hm') (hnew : ∀ j c, b.cells[j]? = some c → hm'.fz i.blk j = some c) (e : SR hm lb v cv) : SR hm' lb v' cv := by
  rcases h with rfl | ⟨off, len, cap, s, e0, rfl, hez, rfl, hl, hs⟩
  · exact e.mono hle (LM.le_refl _)
  · obtain ⟨i', g1, g2, g3, g4, gp, g5⟩ := r.blk n b hb
    rw [hi] at g1; cases g1
    have hcell : ∀ o, (0 < len → o = off) → (∀ (j : Nat) (c : Value), ((b.cells.drop off).take (len * (e0 + 1)))[j]? = some c → hm'.fz i.blk (o + j) = some c) := by
      intro o ho j c hj
      have hj2 : j < len * (e0 + 1) := by have := lookup_lt hj; simp at this; omega
      have hpos : 0 < len := by
        rcases Nat.eq_zero_or_pos len with q | q
        · subst q; simp at hj2
        · exact q
      rw [ho hpos]
      refine hnew _ c ?_
      rw [List.getElem?_take_of_lt hj2, List.getElem?_drop] at hj; exact hj
    have hlen : len * (e0 + 1) = ((b.cells.drop off).take (len * (e0 + 1))).length := by simp; omega
    rcases hs with ⟨rfl, hg⟩ | ⟨rfl, hg, rfl, hll⟩
    · obtain ⟨i2, o, h1, h2, rfl, h3, h4, h5⟩ := e
      simp only at h1 h4
      rw [hi] at h1; cases h1
      refine ⟨_, len, cap, rfl, by simpa using hlen, h3, .inr ⟨i.blk, o, rfl, ?_⟩⟩
      intro j c hj
      exact hcell o (fun q => h4 (by omega)) j c (by simpa using hj)
    · obtain ⟨i2, p, cap', h1, h2, rfl, h3, h4⟩ := e
      simp only at h1
      rw [hi] at h1; cases h1
      obtain ⟨k1, k2, k3⟩ := h4 (by rw [(g4 hg).1, g2, hez, hll])
      refine ⟨_, len, cap', rfl, by simpa using hlen, k1, ?_⟩
      by_cases hl0 : len = 0
      · exact .inl (by simp [hl0])
      · exact .inr ⟨i.blk, 0, k2 (by omega), fun j c hj => hcell 0 (fun _ => rfl) j c (by simpa using hj)⟩

theorem Fz.one {n : Nat} {b : Blk} {v v' : Value} (h : Fz n b v v') : v' = v ∨ (one v = true ∧ one v' = true) := by
  rcases h with h | ⟨_, _, _, _, _, rfl, _, rfl, _⟩
  · exact .inl h
  · exact .inr ⟨rfl, rfl⟩

/-- The slots, and the boxes, before and behind. -/
def FzT (n : Nat) (b : Blk) (T T' : List (Nat × Value)) : Prop := ∀ t v', lk T' t = some v' → ∃ v, lk T t = some v ∧ Fz n b v v'
theorem FzT.nil {n : Nat} {b : Blk} {T : List (Nat × Value)} : FzT n b T [] := fun t v h => by simp [lk] at h
theorem FzT.keep {n : Nat} {b : Blk} {T T' : List (Nat × Value)} {t : Nat} {v : Value} (h : lk T t = some v) (k : FzT n b T T') : FzT n b T ((t, v) :: T') := by
  intro u v' hu
  rcases lk_push hu with ⟨rfl, rfl⟩ | ⟨h1, h2⟩
  · exact ⟨_, h, .inl rfl⟩
  · exact k u v' h2
theorem FzT.conv {n : Nat} {b : Blk} {T T' : List (Nat × Value)} {t off len cap : Nat} {s : Option Nat} {e : Nat} {cs : List Value} (h : lk T t = some (.slice (some ⟨n, off, s⟩) len cap)) (he : b.esz = e + 1) (hl : off + len * (e + 1) ≤ b.cells.length) (hcs : (b.cells.drop off).take (len * (e + 1)) = cs)
    (hs : (s = none ∧ b.gro = false) ∨ (s = some 1 ∧ b.gro = true ∧ off = 0 ∧ len * (e + 1) = b.cells.length)) (k : FzT n b T T') : FzT n b T ((t, .iface (e + 1) (.tuple cs.toArray)) :: T') := by
  intro u v' hu
  rcases lk_push hu with ⟨rfl, rfl⟩ | ⟨h1, h2⟩
  · exact ⟨_, h, .inr ⟨off, len, cap, s, e, rfl, he, by rw [hcs], hl, hs⟩⟩
  · exact k u v' h2
theorem FzL.refl {n : Nat} {b : Blk} (L : List (List Value)) : L2 (L2 (Fz n b)) L L :=
  ⟨rfl, fun i x y hx hy => by rw [hx] at hy; cases hy; exact ⟨rfl, fun j u v hu hv => by rw [hu] at hv; cases hv; exact .inl rfl⟩⟩

theorem Rel.freezeAll {hm : GM} {lb : LM} {w0 : World} {U : Env} {n0 b0 : Nat} {T T' : List (Nat × Value)} {L L' : List (List Value)} {H : AH} {w : World} {a : Act} (r : Rel hm lb w0 U ⟨n0, b0, T, L, H⟩ w a) {n : Nat} {b : Blk} (hb : H.get n = some b)
    (hT : FzT n b T T') (hL : L2 (L2 (Fz n b)) L L') : ∃ hm', hm.le hm' ∧ Rel hm' lb w0 U ⟨n0, b0, T', L', H.kill n⟩ w a := by
  obtain ⟨i, g1, _⟩ := r.blk n b hb
  obtain ⟨h1, h2, h3⟩ := r.freeze hb g1
  refine ⟨_, h1, ?_⟩
  have hsr : ∀ lb v v' cv, Rel hm lb w0 U ⟨n0, b0, T, L, H⟩ w a → Fz n b v v' → SR hm lb v cv → SR (hm.freeze i.blk b.cells) lb v' cv := fun lb v v' cv r f e => f.sr r hb g1 h1 h3 e
  exact { toHRel := h2.toHRel, defers := h2.defers, tsize := h2.tsize, base_le := h2.base_le
          tmps := fun t v' ht => by
            obtain ⟨v, k1, k2⟩ := hT t v' ht
            obtain ⟨cv, k3, k4⟩ := r.tmps t v k1
            refine ⟨cv, k3, ?_⟩
            rcases k2.one with rfl | ⟨o1, o2⟩
            · exact k4.mono h1 (LM.le_refl _)
            · exact .of_sr o2 (hsr lb v v' cv r k2 (k4.sr o1))
          llen := by have := hL.1; simp only; rw [r.llen]; exact this
          loc := fun k cs' hk => by
            simp only at hk
            have hlt : k < L.length := by rw [hL.1]; exact lookup_lt hk
            have hLk : L[k]? = some L[k] := List.getElem?_eq_getElem hlt
            have hrel := hL.2 k _ _ hLk hk
            obtain ⟨B, C, e, fz, k1, k2, k3, k4, k5, k6, k7⟩ := h2.loc k L[k] hLk
            obtain ⟨B', C', e', fz', q1, q2, q3, q4, q5, q6, q7⟩ := r.loc k L[k] hLk
            rw [k1] at q1; cases q1
            rw [k2] at q2; cases q2
            refine ⟨B, C, e, fz, k1, k2, by rw [k3]; exact hrel.1, k4, k5, k6, fun j v' hj => ?_⟩
            have hjl : j < L[k].length := by rw [hrel.1]; exact lookup_lt hj
            have hjv : L[k][j]? = some L[k][j] := List.getElem?_eq_getElem hjl
            obtain ⟨cv, q8, q9⟩ := q7 j _ hjv
            exact ⟨cv, q8, hsr lb _ v' cv r (hrel.2 j _ _ hjv hj) q9⟩
          linj := h2.linj, lheap := h2.lheap }

section
variable {P : Program} {ops : Array Oper} {Q : Exit → AS → Prop} {i n b : Nat} {l : List Oper} {T T' : List (Nat × Value)} {L L' : List (List Value)} {H : AH}
theorem arun_freeze (m : Nat) {bk : Blk} (hb : H.get m = some bk) (hT : FzT m bk T T') (hL : L2 (L2 (Fz m bk)) L L') (h : ARun P ops i l Q ⟨n, b, T', L', H.kill m⟩) : ARun P ops i l Q ⟨n, b, T, L, H⟩ := by
  intro hl hm lb w0 U w a r
  obtain ⟨hm', h1, h2⟩ := r.freezeAll hb hT hL
  exact wpOps_mono (fun e a w q => Post.mono (h1.leb b) q) _ _ _ (h hl _ _ w0 U w a h2)
theorem awp_freeze {c : Code} (m : Nat) {bk : Blk} (hb : H.get m = some bk) (hT : FzT m bk T T') (hL : L2 (L2 (Fz m bk)) L L') (h : AWp P c Q ⟨n, b, T', L', H.kill m⟩) : AWp P c Q ⟨n, b, T, L, H⟩ := by
  intro hm lb w0 U w a r
  obtain ⟨hm', h1, h2⟩ := r.freezeAll hb hT hL
  exact wp_mono (h _ _ w0 U w a h2) fun e a w q => Post.mono (h1.leb b) q
/-- A nil slice as one that may grow. -/
theorem Rel.nilGro {hm : GM} {lb : LM} {w0 : World} {U : Env} {w : World} {a : Act} {t s : Nat} (r : Rel hm lb w0 U ⟨n, b, T, L, H⟩ w a) (ht : lk T t = some (.slice none 0 0)) (hs : 1 ≤ s) :
    ∃ hm', hm.le hm' ∧ Rel hm' lb w0 U ⟨n, b, (t, .slice (some ⟨H.next, 0, some 1⟩) 0 0) :: T, L, H.alloc ⟨s, [], true⟩⟩ w a := by
  obtain ⟨h1, h2⟩ := r.newGro s hs
  refine ⟨_, h1, { toHRel := h2.toHRel, defers := h2.defers, tsize := h2.tsize, base_le := h2.base_le, tmps := ?_, llen := h2.llen, loc := h2.loc, linj := h2.linj, lheap := h2.lheap }⟩
  intro u v hu
  rcases lk_push hu with ⟨rfl, rfl⟩ | ⟨k1, k2⟩
  · obtain ⟨cv, k3, k4⟩ := r.tmps _ _ ht
    obtain rfl : cv = _ := k4.sr rfl
    exact ⟨_, k3, .of_sr rfl ⟨_, none, 0, GM.put_same, rfl, rfl, by simp, fun _ => ⟨Nat.le_refl _, fun q => absurd rfl q, by simp⟩⟩⟩
  · exact h2.tmps u v k2
theorem awp_nilGro {c : Code} (t s : Nat) (ht : lk T t = some (.slice none 0 0)) (hs : 1 ≤ s) (h : AWp P c Q ⟨n, b, (t, .slice (some ⟨H.next, 0, some 1⟩) 0 0) :: T, L, H.alloc ⟨s, [], true⟩⟩) : AWp P c Q ⟨n, b, T, L, H⟩ := by
  intro hm lb w0 U w a r
  obtain ⟨hm', h1, h2⟩ := r.nilGro ht hs
  exact wp_mono (h _ _ w0 U w a h2) fun e a w q => Post.mono (h1.leb b) q
end

end Go.Fhl

/-
  A logic over the model, part ten: each operation as a step; calls; functions.
-/
namespace Go.Fhl
set_option linter.unusedVariables false
set_option linter.unusedSimpArgs false

theorem AExec.of_value {P : Program} {o : Oper} {st : AS} {v : Value} {L : List (List Value)} {H : AH}
    (h : ∀ hm lb w0 U w a, Rel hm lb w0 U st w a → ∃ hm' lb' w' cv, (execOp a.eval o).run P w = .ok (.value cv) w' ∧ hm.le hm' ∧ LM.le lb lb' ∧ Rel hm' lb' w0 U ⟨st.n, st.base, st.tmps, L, H⟩ w' a ∧ VR hm' lb' v cv) : AExec P o st v L H := by
  intro hm lb w0 U w a Q r
  obtain ⟨hm', lb', w', cv, h1, h2, h3, h4, h5⟩ := h hm lb w0 U w a r
  unfold Oper.wp
  rw [h1]
  exact ⟨hm', lb', cv, h2, h3, rfl, h5, h4⟩
theorem AExec.of_skip {P : Program} {o : Oper} {st : AS} {L : List (List Value)} {H : AH}
    (h : ∀ hm lb w0 U w a, Rel hm lb w0 U st w a → ∃ hm' lb' w', (execOp a.eval o).run P w = .ok .skip w' ∧ hm.le hm' ∧ LM.le lb lb' ∧ Rel hm' lb' w0 U ⟨st.n, st.base, st.tmps, L, H⟩ w' a) : AExec P o st undef L H := by
  intro hm lb w0 U w a Q r
  obtain ⟨hm', lb', w', h1, h2, h3, h4⟩ := h hm lb w0 U w a r
  unfold Oper.wp
  rw [h1]
  exact ⟨hm', lb', undef, h2, h3, rfl, VR.undef _, h4⟩
theorem AExec.of_read {P : Program} {o : Oper} {st : AS} {v : Value}
    (h : ∀ hm lb w0 U w a, Rel hm lb w0 U st w a → ∃ cv, (execOp a.eval o).run P w = .ok (.value cv) w ∧ VR hm lb v cv) : AExec P o st v st.locs st.heap :=
  .of_value fun hm lb w0 U w a r => by
    obtain ⟨cv, h1, h2⟩ := h hm lb w0 U w a r
    exact ⟨hm, lb, w, cv, h1, GM.le_refl _, LM.le_refl _, r, h2⟩

/-- An operand stands for a value: its own, or for nil an empty row. -/
def EV (T : List (Nat × Value)) (x : Operand) (v : Value) : Prop := ∀ (hm : GM) (lb : LM) (cv : Value), VR hm lb (ev T x) cv → VR hm lb v cv
theorem eV {T : List (Nat × Value)} {x : Operand} {v : Value} (h : ev T x = v) : EV T x v := fun hm lb cv e => h ▸ e
theorem eN {T : List (Nat × Value)} {x : Operand} {s : Nat} (h : ev T x = .slice none 0 0) : EV T x (.iface (s + 1) (.tuple #[])) := fun hm lb cv e => by
  rw [h] at e
  obtain rfl : cv = _ := e.sr rfl
  exact .of_sr rfl ⟨none, 0, 0, rfl, by simp, Nat.le_refl _, .inl rfl⟩
/-- A row of operands. -/
def EVs (T : List (Nat × Value)) : List Operand → List Value → Prop
  | [], [] => True
  | x :: l, v :: r => EV T x v ∧ EVs T l r
  | _, _ => False
theorem evs_nil {T : List (Nat × Value)} : EVs T [] [] := trivial
theorem evs {T : List (Nat × Value)} {x : Operand} {v : Value} {l : List Operand} {r : List Value} (h : ev T x = v) (k : EVs T l r) : EVs T (x :: l) (v :: r) := ⟨eV h, k⟩
def EVp (T : List (Nat × Value)) : List (Nat × Operand) → List (Nat × Value) → Prop
  | [], [] => True
  | x :: l, v :: r => x.1 = v.1 ∧ EV T x.2 v.2 ∧ EVp T l r
  | _, _ => False
theorem evp_nil {T : List (Nat × Value)} : EVp T [] [] := trivial
theorem evp {T : List (Nat × Value)} {k : Nat} {x : Operand} {v : Value} {l : List (Nat × Operand)} {r : List (Nat × Value)} (h : ev T x = v) (q : EVp T l r) : EVp T ((k, x) :: l) ((k, v) :: r) := ⟨rfl, eV h, q⟩
theorem Rel.EV {hm : GM} {lb : LM} {w0 : World} {U : Env} {st : AS} {w : World} {a : Act} (r : Rel hm lb w0 U st w a) {x : Operand} {v : Value} (h : Fhl.EV st.tmps x v) : VR hm lb v (a.eval x) := h hm lb _ (r.ev x)
theorem Rel.EVs {hm : GM} {lb : LM} {w0 : World} {U : Env} {st : AS} {w : World} {a : Act} (r : Rel hm lb w0 U st w a) : ∀ {l : List Operand} {vs : List Value}, Fhl.EVs st.tmps l vs → L2 (VR hm lb) vs (l.map a.eval)
  | [], [], h => .nil
  | [], _ :: _, h => h.elim
  | _ :: _, [], h => h.elim
  | x :: l, v :: vs, h => .cons (r.EV h.1) (Rel.EVs r h.2)
theorem Rel.EVp {hm : GM} {lb : LM} {w0 : World} {U : Env} {st : AS} {w : World} {a : Act} (r : Rel hm lb w0 U st w a) : ∀ {l : List (Nat × Operand)} {vs : List (Nat × Value)}, Fhl.EVp st.tmps l vs → L2 (fun (x y : Nat × Value) => x.1 = y.1 ∧ VR hm lb x.2 y.2) vs (l.map fun p => (p.1, a.eval p.2))
  | [], [], h => .nil
  | [], _ :: _, h => h.elim
  | _ :: _, [], h => h.elim
  | x :: l, v :: vs, h => .cons ⟨h.1.symm, r.EV h.2.1⟩ (Rel.EVp r h.2.2)

section
variable {P : Program} {n0 b0 : Nat} {Tm : List (Nat × Value)} {Lo : List (List Value)} {He : AH} {v vx vy : Value} {x y c : Operand} {d : Option Tmp} {ty : TypeId} {pos : String} {af : Array Edge} {g : Option (Nat × Bool)}

theorem emv (hx : EV Tm x v) : AExec P ⟨d, .move x, ty, pos, af, g⟩ ⟨n0, b0, Tm, Lo, He⟩ v Lo He :=
  .of_read fun hm lb w0 U w a r => ⟨_, by simp only [execOp]; rfl, r.EV hx⟩
theorem eas (hx : EV Tm x v) : AExec P ⟨d, .assign x, ty, pos, af, g⟩ ⟨n0, b0, Tm, Lo, He⟩ v Lo He :=
  .of_read fun hm lb w0 U w a r => ⟨_, by simp only [execOp]; rfl, r.EV hx⟩
theorem ex_pick {t : Bool} (hc : ev Tm c = .bool t) (hv : cond t (ev Tm x) (ev Tm y) = v) : AExec P ⟨d, .pick c x y, ty, pos, af, g⟩ ⟨n0, b0, Tm, Lo, He⟩ v Lo He :=
  .of_read fun hm lb w0 U w a r => by
    have hcc : a.eval c = .bool t := (r.evEq hc).sr rfl
    refine ⟨(if t then a.eval x else a.eval y), by simp [execOp, hcc, asBool], ?_⟩
    rw [← hv]
    cases t
    · exact r.ev y
    · exact r.ev x
theorem ex_bin {op : BinOp} {t u : TypeId} (hx : ev Tm x = vx) (hy : ev Tm y = vy) (h : keep (abin P op t x y vx vy) = some v) : AExec P ⟨d, .binOp op t x y u, ty, pos, af, g⟩ ⟨n0, b0, Tm, Lo, He⟩ v Lo He :=
  .of_read fun hm lb w0 U w a r => by
    obtain ⟨g1, g2⟩ := abin_ok (P := P) (w := w) h (r.evEq hx) (r.evEq hy)
    refine ⟨v, ?_, g2⟩
    simp only [execOp]
    rw [Sem.run_bind, g1]
    simp
theorem ex_un {op : UnOp} {t : TypeId} (hx : ev Tm x = vx) (h : aun P op vx = some v) : AExec P ⟨d, .unOp op t x, ty, pos, af, g⟩ ⟨n0, b0, Tm, Lo, He⟩ v Lo He :=
  .of_read fun hm lb w0 U w a r => by
    obtain ⟨g1, g2⟩ := aun_ok (P := P) (w := w) h (r.evEq hx)
    exact ⟨v, by simp [execOp, g1], g2⟩
theorem ex_convInt {src dst : TypeId} {ds : TypeDesc} {k k0 : IntKind} {n : Int} (hs : und P src = some ds) (hd : und P dst = some (.int k)) (hx : ev Tm x = .int k0 n) : AExec P ⟨d, .convert src dst x, ty, pos, af, g⟩ ⟨n0, b0, Tm, Lo, He⟩ (.int k (k.wrap n)) Lo He :=
  .of_read fun hm lb w0 U w a r => ⟨_, by simp [execOp, convInt_ok (w := w) hs hd (r.evEq hx)], .of_sr rfl rfl⟩
theorem ex_bytesStrD {src dst e : TypeId} {ns : List Int} {cs : Array Value} (hs : und P src = some (.slice e)) (hd : und P dst = some .string) (he : und P e = some (.int .u8)) (hx : ev Tm x = .iface 1 (.tuple cs)) (hcs : cs.toList = ns.map (Value.int .u8)) :
    AExec P ⟨d, .convert src dst x, ty, pos, af, g⟩ ⟨n0, b0, Tm, Lo, He⟩ (.string (strOf ns)) Lo He :=
  .of_read fun hm lb w0 U w a r => ⟨_, by simp [execOp, bytesStrD_ok r hs hd he hcs (r.evEq hx)], .of_sr rfl rfl⟩
theorem ex_bytesStrG {src dst e : TypeId} {ns : List Int} {m n cap : Nat} {b : Blk} (hs : und P src = some (.slice e)) (hd : und P dst = some .string) (he : und P e = some (.int .u8)) (hx : ev Tm x = .slice (some ⟨m, 0, some 1⟩) n cap)
    (hb : He.get m = some b) (hg : b.gro = true) (hez : b.esz = 1) (hl : n = b.cells.length) (hcs : b.cells = ns.map (Value.int .u8)) : AExec P ⟨d, .convert src dst x, ty, pos, af, g⟩ ⟨n0, b0, Tm, Lo, He⟩ (.string (strOf ns)) Lo He :=
  .of_read fun hm lb w0 U w a r => ⟨_, by simp [execOp, bytesStrG_ok r hs hd he hb hg hez hl hcs (r.evEq hx)], .of_sr rfl rfl⟩
theorem ex_strBytes {src dst e : TypeId} {ds : TypeDesc} {s : ByteArray} (hs : und P src = some ds) (hd : und P dst = some (.slice e)) (he : und P e = some (.int .u8)) (hx : ev Tm x = .string s) :
    AExec P ⟨d, .convert src dst x, ty, pos, af, g⟩ ⟨n0, b0, Tm, Lo, He⟩ (.slice (some ⟨He.next, 0, some 1⟩) s.size s.size) Lo (He.alloc ⟨1, bcells s, true⟩) :=
  .of_value fun hm lb w0 U w a r => by
    obtain ⟨hm', w', cv, h1, h2, h3, h4⟩ := strBytes_ok r hs hd he (r.evEq hx)
    exact ⟨hm', lb, w', cv, by simp [execOp, h1], h2, LM.le_refl _, h3, h4⟩
theorem ex_strBytesD {src dst e : TypeId} {ds : TypeDesc} {s : ByteArray} (hs : und P src = some ds) (hd : und P dst = some (.slice e)) (he : und P e = some (.int .u8)) (hx : ev Tm x = .string s) :
    AExec P ⟨d, .convert src dst x, ty, pos, af, g⟩ ⟨n0, b0, Tm, Lo, He⟩ (.iface 1 (.tuple (bcells s).toArray)) Lo He :=
  .of_value fun hm lb w0 U w a r => by
    obtain ⟨hm', w', cv, h1, h2, h3, h4⟩ := strBytesD_ok r hs hd he (r.evEq hx)
    exact ⟨hm', lb, w', cv, by simp [execOp, h1], h2, LM.le_refl _, h3, h4⟩

/-! ## Lengths -/
theorem ex_lenS {t : TypeId} {s : ByteArray} {n : Nat} (hu : und P t = some .string) (hx : ev Tm x = .string s) (hn : s.size = n) : AExec P ⟨d, .call ⟨.builtin .len, #[x], #[t]⟩, ty, pos, af, g⟩ ⟨n0, b0, Tm, Lo, He⟩ (.int .i64 n) Lo He :=
  .of_read fun hm lb w0 U w a r => ⟨_, by subst hn; simp [execOp, resolve, invoke, builtin, lenS_ok (w := w) (T := ty) (ts := #[t]) hu (r.evEq hx) rfl], .of_sr rfl rfl⟩
theorem ex_lenN {t e : TypeId} {p : Option Addr} {n cp : Nat} (hu : und P t = some (.slice e)) (hx : ev Tm x = .slice p n cp) : AExec P ⟨d, .call ⟨.builtin .len, #[x], #[t]⟩, ty, pos, af, g⟩ ⟨n0, b0, Tm, Lo, He⟩ (.int .i64 n) Lo He :=
  .of_read fun hm lb w0 U w a r => ⟨_, by simp [execOp, resolve, invoke, builtin, lenN_ok (w := w) (T := ty) (ts := #[t]) hu (r.evEq hx) rfl], .of_sr rfl rfl⟩
theorem ex_lenD {t e : TypeId} {s n : Nat} {cs : Array Value} (hu : und P t = some (.slice e)) (hx : ev Tm x = .iface (s + 1) (.tuple cs)) (hn : n * (s + 1) = cs.size) : AExec P ⟨d, .call ⟨.builtin .len, #[x], #[t]⟩, ty, pos, af, g⟩ ⟨n0, b0, Tm, Lo, He⟩ (.int .i64 n) Lo He :=
  .of_read fun hm lb w0 U w a r => ⟨_, by simp [execOp, resolve, invoke, builtin, lenD_ok (w := w) (T := ty) (ts := #[t]) hu hn (r.evEq hx) rfl], .of_sr rfl rfl⟩
theorem ex_min {t1 t2 : TypeId} {k : IntKind} {m n : Int} (hx : ev Tm x = .int k m) (hy : ev Tm y = .int k n) : AExec P ⟨d, .call ⟨.builtin .min, #[x, y], #[t1, t2]⟩, ty, pos, af, g⟩ ⟨n0, b0, Tm, Lo, He⟩ (.int k (min m n)) Lo He :=
  .of_read fun hm lb w0 U w a r => by
    have h1 : a.eval x = .int k m := (r.evEq hx).sr rfl
    have h2 : a.eval y = .int k n := (r.evEq hy).sr rfl
    refine ⟨.int k (min m n), ?_, .of_sr rfl rfl⟩
    have : pureRun P (Builtin.min_ #[t1, t2] ty #[.int k m, .int k n]) = some (.int k (if n < m then n else m)) := by simp [Builtin.min_, Builtin.min2]; rfl
    have e : (if n < m then n else m) = min m n := by
      by_cases q : n < m
      · rw [if_pos q]; omega
      · rw [if_neg q]; omega
    rw [e] at this
    simp [execOp, resolve, invoke, builtin, h1, h2, pureRun_ok this w]
theorem ex_max {t1 t2 : TypeId} {k : IntKind} {m n : Int} (hx : ev Tm x = .int k m) (hy : ev Tm y = .int k n) : AExec P ⟨d, .call ⟨.builtin .max, #[x, y], #[t1, t2]⟩, ty, pos, af, g⟩ ⟨n0, b0, Tm, Lo, He⟩ (.int k (max m n)) Lo He :=
  .of_read fun hm lb w0 U w a r => by
    have h1 : a.eval x = .int k m := (r.evEq hx).sr rfl
    have h2 : a.eval y = .int k n := (r.evEq hy).sr rfl
    refine ⟨.int k (max m n), ?_, .of_sr rfl rfl⟩
    have : pureRun P (Builtin.max_ #[t1, t2] ty #[.int k m, .int k n]) = some (.int k (if n > m then n else m)) := by simp [Builtin.max_, Builtin.max2]; rfl
    have e : (if n > m then n else m) = max m n := by
      by_cases q : n > m
      · rw [if_pos q]; omega
      · rw [if_neg q]; omega
    rw [e] at this
    simp [execOp, resolve, invoke, builtin, h1, h2, pureRun_ok this w]

/-! ## Loads and stores -/
theorem part1 {T : TypeId} {ds : TypeDesc} {cs : List Value} {off : Nat} (hd : und P T = some ds) (hg : agg? ds = false) (h : cs[off]? = some v) : Part P T cs off v := ⟨ds, hd, .inl ⟨hg, h⟩⟩
theorem partA {T : TypeId} {ds : TypeDesc} {cs vs : List Value} {off s : Nat} (hd : und P T = some ds) (hg : agg? ds = true) (hs : sz P T = some s) (hpos : 0 < s) (hle : off + s ≤ cs.length) (h : (cs.drop off).take s = vs) : Part P T cs off (.agg vs.toArray) :=
  ⟨ds, hd, .inr ⟨hg, s, hs, hpos, hle, by rw [h]⟩⟩
theorem ex_loadAt {T : TypeId} {p : Addr} {cs : List Value} (hx : ev Tm x = .pointer (some p)) (hc : CellsAt ⟨n0, b0, Tm, Lo, He⟩ p cs) (hp : Part P T cs p.off v) : AExec P ⟨d, .load T x, ty, pos, af, g⟩ ⟨n0, b0, Tm, Lo, He⟩ v Lo He :=
  .of_read fun hm lb w0 U w a r => by
    obtain ⟨cv, h1, h2⟩ := load_at (P := P) r hc hp (r.evEq hx)
    exact ⟨cv, by simp [execOp, h1], h2⟩
theorem ex_loadL {T : TypeId} {k off : Nat} {cs : List Value} (hx : ev Tm x = .pointer (some ⟨k, off, some 0⟩)) (hc : Lo[k]? = some cs) (hp : Part P T cs off v) : AExec P ⟨d, .load T x, ty, pos, af, g⟩ ⟨n0, b0, Tm, Lo, He⟩ v Lo He :=
  ex_loadAt hx hc hp
theorem ex_loadF {T : TypeId} {m off : Nat} {b : Blk} (hx : ev Tm x = .pointer (some ⟨m, off, none⟩)) (hb : He.get m = some b) (hg : b.gro = false) (hp : Part P T b.cells off v) : AExec P ⟨d, .load T x, ty, pos, af, g⟩ ⟨n0, b0, Tm, Lo, He⟩ v Lo He :=
  ex_loadAt (cs := b.cells) hx ⟨b, hb, hg, rfl⟩ hp
theorem ex_loadG {T : TypeId} {m off k : Nat} {b : Blk} (hx : ev Tm x = .pointer (some ⟨m, off, some (k + 1)⟩)) (hb : He.get m = some b) (hg : b.gro = true) (hk : b.cells.length = k) (hp : Part P T b.cells off v) : AExec P ⟨d, .load T x, ty, pos, af, g⟩ ⟨n0, b0, Tm, Lo, He⟩ v Lo He :=
  ex_loadAt (cs := b.cells) hx ⟨b, hb, hg, rfl, hk⟩ hp
theorem ex_loadD {T : TypeId} {cs : Array Value} (hx : ev Tm x = .iface 0 (.tuple cs)) (hp : Part P T cs.toList 0 v) : AExec P ⟨d, .load T x, ty, pos, af, g⟩ ⟨n0, b0, Tm, Lo, He⟩ v Lo He :=
  .of_read fun hm lb w0 U w a r => by
    obtain ⟨cv, h1, h2⟩ := load_deep (P := P) r hp (r.evEq hx)
    exact ⟨cv, by simp [execOp, h1], h2⟩
theorem cells_size {hm : GM} {lb : LM} {v cv : Value} {vs : List Value} (h : VR hm lb v cv) (hc : cellsOf v = some vs) : cv.cells.size = vs.length := by
  have := (cells_rel h hc).1; simp at this; exact this.symm

theorem ex_storeL {T : TypeId} {k off : Nat} {cs vs : List Value} {L' : List (List Value)} (hx : ev Tm x = .pointer (some ⟨k, off, some 0⟩)) (hy : EV Tm y vy) (hvs : cellsOf vy = some vs) (hs : sz P T = some vs.length) (hk : Lo[k]? = some cs) (hl : off + vs.length ≤ cs.length)
    (hL : Lo.set k (spl cs off vs) = L') : AExec P ⟨d, .store T x y, ty, pos, af, g⟩ ⟨n0, b0, Tm, Lo, He⟩ undef L' He :=
  .of_skip fun hm lb w0 U w a r => by
    subst hL
    obtain ⟨c, hc, hcx⟩ := (r.evEq hx).sr rfl
    have hv := cells_rel (r.EV hy) hvs
    obtain ⟨w', h1, h2⟩ := write_loc (P := P) r hk hl hc hv
    exact ⟨hm, lb, w', by simp [execOp, hcx, store_run hs (cells_size (r.EV hy) hvs) h1], GM.le_refl _, LM.le_refl _, h2⟩
theorem ex_storeF {T : TypeId} {m off : Nat} {b : Blk} {vs : List Value} {H' : AH} (hx : ev Tm x = .pointer (some ⟨m, off, none⟩)) (hy : EV Tm y vy) (hvs : cellsOf vy = some vs) (hs : sz P T = some vs.length) (hb : He.get m = some b) (hg : b.gro = false) (hl : off + vs.length ≤ b.cells.length)
    (hp : vs.all pure1 = true) (hne : vs ≠ []) (hH : He.set m { b with cells := spl b.cells off vs } = H') : AExec P ⟨d, .store T x y, ty, pos, af, g⟩ ⟨n0, b0, Tm, Lo, He⟩ undef Lo H' :=
  .of_skip fun hm lb w0 U w a r => by
    subst hH
    obtain ⟨c, hc, hcx⟩ := (r.evEq hx).sr rfl
    have hv := cells_rel (r.EV hy) hvs
    obtain ⟨hm', w', h1, h2, h3⟩ := write_blk (P := P) r hb hl hp (.inl ⟨rfl, hg⟩) hc hv hne
    exact ⟨hm', lb, w', by simp [execOp, hcx, store_run hs (cells_size (r.EV hy) hvs) h1], h2, LM.le_refl _, h3⟩
theorem ex_storeG {T : TypeId} {m off k : Nat} {b : Blk} {vs : List Value} {H' : AH} (hx : ev Tm x = .pointer (some ⟨m, off, some (k + 1)⟩)) (hy : EV Tm y vy) (hvs : cellsOf vy = some vs) (hs : sz P T = some vs.length) (hb : He.get m = some b) (hg : b.gro = true) (hk : b.cells.length = k) (hl : off + vs.length ≤ b.cells.length)
    (hp : vs.all pure1 = true) (hne : vs ≠ []) (hH : He.set m { b with cells := spl b.cells off vs } = H') : AExec P ⟨d, .store T x y, ty, pos, af, g⟩ ⟨n0, b0, Tm, Lo, He⟩ undef Lo H' :=
  .of_skip fun hm lb w0 U w a r => by
    subst hH
    obtain ⟨c, hc, hcx⟩ := (r.evEq hx).sr rfl
    have hv := cells_rel (r.EV hy) hvs
    obtain ⟨hm', w', h1, h2, h3⟩ := write_blk (P := P) r hb hl hp (.inr ⟨hg, by rw [hk]⟩) hc hv hne
    exact ⟨hm', lb, w', by simp [execOp, hcx, store_run hs (cells_size (r.EV hy) hvs) h1], h2, LM.le_refl _, h3⟩

/-! ## Places, parts -/
theorem efa {t : TypeId} {fs : Array Field} {fd : Field} {p : Addr} {f s : Nat} (hu : und P t = some (.struct fs)) (hf : fs[f]? = some fd) (hs : sz P fd.type = some s) (hpos : s ≠ 0) (hx : ev Tm x = .pointer (some p)) (hv : Value.pointer (some ⟨p.block, p.off + fd.offset, p.spot⟩) = v) :
    AExec P ⟨d, .fieldAddr t x f, ty, pos, af, g⟩ ⟨n0, b0, Tm, Lo, He⟩ v Lo He :=
  .of_read fun hm lb w0 U w a r => by
    obtain ⟨cv, h1, h2⟩ := fieldAddr_ok (P := P) (w := w) hu hf hs hpos (r.evEq hx)
    exact ⟨cv, by simp [execOp, h1], hv ▸ h2⟩
theorem ex_fieldAddrD {t : TypeId} {fs : Array Field} {fd : Field} {cs : Array Value} {vs : List Value} {f s : Nat} (hu : und P t = some (.struct fs)) (hf : fs[f]? = some fd) (hs : sz P fd.type = some s) (hpos : s ≠ 0) (hx : ev Tm x = .iface 0 (.tuple cs)) (hv : cs.toList.drop fd.offset = vs) :
    AExec P ⟨d, .fieldAddr t x f, ty, pos, af, g⟩ ⟨n0, b0, Tm, Lo, He⟩ (.iface 0 (.tuple vs.toArray)) Lo He :=
  .of_read fun hm lb w0 U w a r => by
    obtain ⟨cv, h1, h2⟩ := fieldAddrD_ok (P := P) (w := w) hu hf hs hpos (r.evEq hx)
    exact ⟨cv, by simp [execOp, h1], by rw [← hv]; exact h2⟩
theorem ex_indexAddrA {t e : TypeId} {len s : Nat} {p : Addr} {k : IntKind} {i : Int} (hu : und P t = some (.array len e)) (hs : sz P e = some s) (hx : ev Tm x = .pointer (some p)) (hy : ev Tm y = .int k i) (h0 : 0 ≤ i ∧ i < len) (hv : Value.pointer (some ⟨p.block, p.off + i.toNat * s, p.spot⟩) = v) :
    AExec P ⟨d, .indexAddr t x y, ty, pos, af, g⟩ ⟨n0, b0, Tm, Lo, He⟩ v Lo He :=
  .of_read fun hm lb w0 U w a r => by
    obtain ⟨cv, h1, h2⟩ := indexAddrArr_ok (P := P) (w := w) hu hs h0 (r.evEq hx) (r.evEq hy)
    exact ⟨cv, by simp [execOp, h1], hv ▸ h2⟩
theorem ex_indexAddrAD {t e : TypeId} {len s : Nat} {cs : Array Value} {vs : List Value} {k : IntKind} {i : Int} (hu : und P t = some (.array len e)) (hs : sz P e = some s) (hx : ev Tm x = .iface 0 (.tuple cs)) (hy : ev Tm y = .int k i) (h0 : 0 ≤ i ∧ i < len) (hv : cs.toList.drop (i.toNat * s) = vs) :
    AExec P ⟨d, .indexAddr t x y, ty, pos, af, g⟩ ⟨n0, b0, Tm, Lo, He⟩ (.iface 0 (.tuple vs.toArray)) Lo He :=
  .of_read fun hm lb w0 U w a r => by
    obtain ⟨cv, h1, h2⟩ := indexAddrArrD_ok (P := P) (w := w) hu hs h0 (r.evEq hx) (r.evEq hy)
    exact ⟨cv, by simp [execOp, h1], by rw [← hv]; exact h2⟩
theorem ex_indexAddrD {t e : TypeId} {s : Nat} {cs : Array Value} {vs : List Value} {k : IntKind} {i : Int} (hu : und P t = some (.slice e)) (hs : sz P e = some (s + 1)) (hx : ev Tm x = .iface (s + 1) (.tuple cs)) (hy : ev Tm y = .int k i) (h0 : 0 ≤ i) (h1 : i.toNat * (s + 1) + (s + 1) ≤ cs.size)
    (hv : (cs.toList.drop (i.toNat * (s + 1))).take (s + 1) = vs) : AExec P ⟨d, .indexAddr t x y, ty, pos, af, g⟩ ⟨n0, b0, Tm, Lo, He⟩ (.iface 0 (.tuple vs.toArray)) Lo He :=
  .of_read fun hm lb w0 U w a r => by
    obtain ⟨cv, h1, h2⟩ := indexAddrD_ok (P := P) (w := w) hu hs h0 h1 (r.evEq hx) (r.evEq hy)
    exact ⟨cv, by simp [execOp, h1], by rw [← hv]; exact h2⟩
theorem ex_indexAddrF {t e : TypeId} {s m off len cp : Nat} {k : IntKind} {i : Int} {o' : Nat} (hu : und P t = some (.slice e)) (hs : sz P e = some s) (hx : ev Tm x = .slice (some ⟨m, off, none⟩) len cp) (hy : ev Tm y = .int k i) (h0 : 0 ≤ i) (h1 : i.toNat < len) (ho : off + i.toNat * s = o') :
    AExec P ⟨d, .indexAddr t x y, ty, pos, af, g⟩ ⟨n0, b0, Tm, Lo, He⟩ (.pointer (some ⟨m, o', none⟩)) Lo He :=
  .of_read fun hm lb w0 U w a r => by
    obtain ⟨cv, h1, h2⟩ := indexAddrF_ok (P := P) (w := w) hu hs h0 h1 (r.evEq hx) (r.evEq hy)
    exact ⟨cv, by simp [execOp, h1], ho ▸ h2⟩
theorem ex_indexAddrG {t e : TypeId} {s m len cp : Nat} {b : Blk} {k : IntKind} {i : Int} {o' k' : Nat} (hu : und P t = some (.slice e)) (hs : sz P e = some s) (hx : ev Tm x = .slice (some ⟨m, 0, some 1⟩) len cp) (hy : ev Tm y = .int k i) (h0 : 0 ≤ i) (h1 : i.toNat < len)
    (hb : He.get m = some b) (hg : b.gro = true) (hez : b.esz = s) (hl : len * s = b.cells.length) (ho : i.toNat * s = o') (hk : b.cells.length = k') : AExec P ⟨d, .indexAddr t x y, ty, pos, af, g⟩ ⟨n0, b0, Tm, Lo, He⟩ (.pointer (some ⟨m, o', some (k' + 1)⟩)) Lo He :=
  .of_read fun hm lb w0 U w a r => by
    obtain ⟨cv, h1, h2⟩ := indexAddrG_ok (P := P) r hu hs h0 h1 hb hg hez hl (r.evEq hx) (r.evEq hy)
    exact ⟨cv, by simp [execOp, h1], by rw [← ho, ← hk]; exact h2⟩
theorem ex_field {t : TypeId} {f : Nat} (hx : ev Tm x = vx) (h : afield P t vx f = some v) : AExec P ⟨d, .field t x f, ty, pos, af, g⟩ ⟨n0, b0, Tm, Lo, He⟩ v Lo He :=
  .of_read fun hm lb w0 U w a r => by
    obtain ⟨cv, g1, g2⟩ := afield_ok (P := P) h (r.evEq hx)
    exact ⟨cv, by simp [execOp, g1], g2⟩
theorem ex_index {t : TypeId} (hx : ev Tm x = vx) (hy : ev Tm y = vy) (h : aindexv P t vx vy = some v) : AExec P ⟨d, .index t x y, ty, pos, af, g⟩ ⟨n0, b0, Tm, Lo, He⟩ v Lo He :=
  .of_read fun hm lb w0 U w a r => by
    obtain ⟨cv, g1, g2⟩ := aindexv_ok (P := P) h (r.evEq hx) (r.evEq hy)
    exact ⟨cv, by simp [execOp, g1], g2⟩
theorem ex_indexS {t : TypeId} {s : ByteArray} {k : IntKind} {i : Int} {b : UInt8} (hu : und P t = some .string) (hx : ev Tm x = .string s) (hy : ev Tm y = .int k i) (h0 : 0 ≤ i) (h : s[i.toNat]? = some b) : AExec P ⟨d, .index t x y, ty, pos, af, g⟩ ⟨n0, b0, Tm, Lo, He⟩ (.int .u8 b.toNat) Lo He :=
  ex_index hx hy (by simp [aindexv, hu, h0, h])
theorem ex_extract {i : Nat} (hx : ev Tm x = vx) (h : aextract vx i = some v) : AExec P ⟨d, .extract x i, ty, pos, af, g⟩ ⟨n0, b0, Tm, Lo, He⟩ v Lo He :=
  .of_read fun hm lb w0 U w a r => by
    obtain ⟨cv, g1, g2⟩ := aextract_ok (P := P) h (r.evEq hx)
    exact ⟨cv, by simp [execOp, g1], g2⟩
theorem ex_build {t : TypeId} {ps : Array (Nat × Operand)} {qs : List (Nat × Value)} (hq : EVp Tm ps.toList qs) (h : abuild P t qs = some v) : AExec P ⟨d, .build t ps, ty, pos, af, g⟩ ⟨n0, b0, Tm, Lo, He⟩ v Lo He :=
  .of_read fun hm lb w0 U w a r => by
    obtain ⟨cv, g1, g2⟩ := abuild_ok (P := P) (hm := hm) (lb := lb) (ps' := ps.map fun p => (p.1, a.eval p.2)) h
      (by rw [Array.toList_map]; exact r.EVp hq)
    exact ⟨cv, by simp [execOp, g1], g2⟩

/-! ## New boxes and blocks -/
theorem ex_alloc {T : TypeId} {z : Value} {zs : List Value} {k : Nat} {L' : List (List Value)} (hz : zr P T = some z) (hzs : z.cells.toList = zs) (hp : zs.all plain1 = true) (hk : Lo.length = k) (hL : Lo ++ [zs] = L') : AExec P ⟨d, .alloc T, ty, pos, af, g⟩ ⟨n0, b0, Tm, Lo, He⟩ (.pointer (some ⟨k, 0, some 0⟩)) L' He :=
  .of_value fun hm lb w0 U w a r => by
    subst hzs; subst hk; subst hL
    obtain ⟨lb', w', g1, g2, g3, g4⟩ := newBox_loc (P := P) r (T := T) (C := z.cells) (L2.of_plain hp)
    refine ⟨hm, lb', w', _, ?_, GM.le_refl _, g2, g3, g4⟩
    simp [execOp, Instr.alloc, newVar, run_zero hz, g1]
theorem ex_box {T : TypeId} {cs : List Value} {k : Nat} {L' : List (List Value)} (hx : EV Tm x vx) (hcs : cellsOf vx = some cs) (hk : Lo.length = k) (hL : Lo ++ [cs] = L') : AExec P ⟨d, .box T x, ty, pos, af, g⟩ ⟨n0, b0, Tm, Lo, He⟩ (.pointer (some ⟨k, 0, some 0⟩)) L' He :=
  .of_value fun hm lb w0 U w a r => by
    subst hk; subst hL
    obtain ⟨lb', w', g1, g2, g3, g4⟩ := newBox_loc (P := P) r (T := T) (C := (a.eval x).cells) (cells_rel (r.EV hx) hcs)
    refine ⟨hm, lb', w', _, ?_, GM.le_refl _, g2, g3, g4⟩
    simp [execOp, Instr.box, newVar, g1]
theorem ex_allocH {T : TypeId} {z : Value} {zs : List Value} {k : Nat} {H' : AH} (hz : zr P T = some z) (hzs : z.cells.toList = zs) (hp : zs.all plain1 = true) (hk : He.next = k) (hH : He.alloc ⟨1, zs, false⟩ = H') : AExec P ⟨d, .alloc T, ty, pos, af, g⟩ ⟨n0, b0, Tm, Lo, He⟩ (.pointer (some ⟨k, 0, none⟩)) Lo H' :=
  .of_value fun hm lb w0 U w a r => by
    subst hzs; subst hk; subst hH
    obtain ⟨hm', w', g1, g2, g3, g4⟩ := newBox_heap (P := P) r (T := T) (C := z.cells) (plain_pure hp) (L2.of_plain hp)
    refine ⟨hm', lb, w', _, ?_, g2, LM.le_refl _, g3, g4⟩
    simp [execOp, Instr.alloc, newVar, run_zero hz, g1]
def noTup (ps : List (Nat × Value)) : Bool := ps.all (fun p => !(p.2 matches .tuple _))
theorem ex_buildSliceD {t e : TypeId} {s len : Nat} {ps : Array (Nat × Operand)} {qs : List (Nat × Value)} {cells : List Value} (hu : und P t = some (.slice e)) (hs : sz P e = some (s + 1)) (hlen : len * (s + 1) ≤ 16777216) (hq : EVp Tm ps.toList qs) (hnt : noTup qs = true)
    (hb : bsCells P e (s + 1) len qs = some cells) (hpu : cells.all pure1 = true) (hl : cells.length = len * (s + 1)) :
    AExec P ⟨d, .buildSlice t len ps, ty, pos, af, g⟩ ⟨n0, b0, Tm, Lo, He⟩ (.iface (s + 1) (.tuple cells.toArray)) Lo He :=
  .of_value fun hm lb w0 U w a r => by
    obtain ⟨hm', w', cv, g1, g2, g3, g4⟩ := buildSliceD_ok r hu hs hlen hnt hb hpu hl (ps' := ps.map fun p => (p.1, a.eval p.2)) (by rw [Array.toList_map]; exact r.EVp hq)
    exact ⟨hm', lb, w', cv, by simp [execOp, g1], g2, LM.le_refl _, g3, g4⟩
theorem ex_make {t e : TypeId} {s b k : Nat} {z : Value} {kl kc : IntKind} {l m : Int} {zs : List Value} {H' : AH} (hu : und P t = some (.slice e)) (hs : sz P e = some s) (hb : bt P e = some b) (hz : zr P e = some z) (hzp : z.cells.toList.all plain1 = true) (hzs : z.cells.size = s) (hpos : 0 < s)
    (hx : ev Tm x = .int kl l) (hy : ev Tm y = .int kc m) (hc : 0 ≤ l ∧ l ≤ m ∧ m ≤ 9223372036854775807 ∧ (b : Int) * m ≤ 281474976710656) (hk : He.next = k) (hcs : zcells z.cells.toList (m.toNat * s) = zs) (hH : He.alloc ⟨s, zs, false⟩ = H') :
    AExec P ⟨d, .makeSlice t x y, ty, pos, af, g⟩ ⟨n0, b0, Tm, Lo, He⟩ (.slice (some ⟨k, 0, none⟩) l.toNat m.toNat) Lo H' :=
  .of_value fun hm lb w0 U w a r => by
    subst hk; subst hcs; subst hH
    obtain ⟨hm', w', cv, g1, g2, g3, g4⟩ := makeSlice_ok r hu hs hb hz hzp hzs hpos hc (r.evEq hx) (r.evEq hy)
    exact ⟨hm', lb, w', cv, by simp [execOp, g1], g2, LM.le_refl _, g3, g4⟩
theorem prOk_vr {hm : GM} {lb : LM} {x v : Value} (h : (match x with | .slice _ _ _ | .func _ _ _ | .agg _ | .tuple _ => false | .iface _ (.tuple _) => true | .iface _ _ => false | _ => true) = true) (e : VR hm lb x v) : PR hm lb x v := by
  have ho : one x = true := by cases x <;> first | rfl | (simp at h; done)
  have hs := e.sr ho
  cases x <;> first | (simp at h; done) | exact hs | skip
  case pointer p => cases p <;> exact hs
  case iface t y => cases y <;> first | (simp at h; done) | exact hs
def prOk : Value → Bool
  | .slice _ _ _ | .func _ _ _ | .agg _ | .tuple _ => false
  | .iface _ (.tuple _) => true
  | .iface _ _ => false
  | _ => true
theorem ex_makeFunc {fn : Fn} {cp : Array Operand} {vs : List Value} (hvs : cp.toList.map (ev Tm) = vs) (hp : vs.all prOk = true) : AExec P ⟨d, .makeFunc fn #[] cp, ty, pos, af, g⟩ ⟨n0, b0, Tm, Lo, He⟩ (.func fn #[] vs.toArray) Lo He :=
  .of_read fun hm lb w0 U w a r => by
    subst hvs
    refine ⟨.func fn #[] (cp.map a.eval), by simp [execOp, Instr.makeFunc], .of_sr rfl ⟨_, rfl, rfl, ?_⟩⟩
    rw [Array.toList_map]
    refine L2.map cp.toList fun x hx => prOk_vr ?_ (r.ev x)
    have := List.all_eq_true.1 hp _ (List.mem_map_of_mem hx)
    unfold prOk at this
    exact this

/-! ## Slices of slices, append -/
theorem ex_sliceS {t : TypeId} {s : ByteArray} {lo hi : Option Operand} {l h : Nat} (hu : und P t = some .string) (hx : ev Tm x = .string s) (hl : Bnd (lo.map (ev Tm)) 0 l) (hh : Bnd (hi.map (ev Tm)) s.size h) (h1 : l ≤ h) (h2 : h ≤ s.size) (hv : Value.string (s.extract l h) = v) :
    AExec P ⟨d, .slice t x lo hi none, ty, pos, af, g⟩ ⟨n0, b0, Tm, Lo, He⟩ v Lo He :=
  .of_read fun hm lb w0 U w a r => by
    subst hv
    exact ⟨_, by simp [execOp, sliceS_ok (w := w) hu hl hh h1 h2 (r.evEq hx) (optR_map r lo) (optR_map r hi) (cmx := none) trivial], .of_sr rfl rfl⟩
theorem ex_sliceD {t e : TypeId} {s n : Nat} {cs : Array Value} {vs : List Value} {lo hi : Option Operand} {l h : Nat} (hu : und P t = some (.slice e)) (hs : sz P e = some (s + 1)) (hx : ev Tm x = .iface (s + 1) (.tuple cs)) (hn : n * (s + 1) = cs.size) (hl : Bnd (lo.map (ev Tm)) 0 l) (hh : Bnd (hi.map (ev Tm)) n h) (h1 : l ≤ h) (h2 : h ≤ n)
    (hv : (cs.toList.drop (l * (s + 1))).take ((h - l) * (s + 1)) = vs) : AExec P ⟨d, .slice t x lo hi none, ty, pos, af, g⟩ ⟨n0, b0, Tm, Lo, He⟩ (.iface (s + 1) (.tuple vs.toArray)) Lo He :=
  .of_read fun hm lb w0 U w a r => by
    obtain ⟨cv, g1, g2⟩ := sliceD_ok (P := P) (w := w) hu hs hn hl hh h1 h2 (r.evEq hx) (optR_map r lo) (optR_map r hi) (cmx := none) trivial
    exact ⟨cv, by simp [execOp, g1], by rw [← hv]; exact g2⟩

/-- What is appended, for all worlds that the state stands for. -/
def Src (P : Program) (st : AS) (sT xT e : TypeId) (s : Nat) (y : Operand) (new : List Value) (n : Nat) : Prop :=
  ∀ hm lb w0 U w a, Rel hm lb w0 U st w a → SrcOk hm P w sT xT e s (a.eval y) new n
theorem srcD {sT xT e e2 : TypeId} {s n : Nat} {cs : Array Value} {vs : List Value} (hsT : und P sT = some (.slice e)) (hs : sz P e = some (s + 1)) (hu : und P xT = some (.slice e2)) (hy : ev Tm y = .iface (s + 1) (.tuple cs)) (hcs : cs.toList = vs) (hn : n * (s + 1) = vs.length) : Src P ⟨n0, b0, Tm, Lo, He⟩ sT xT e (s + 1) y vs n :=
  fun hm lb w0 U w a r => hcs ▸ src_deep r hsT hs hu (by rw [hn, ← hcs]; simp) (r.evEq hy)
/-- Of a type of elements: how long, how many bytes, what is nothing. -/
structure ElemOk (P : Program) (e : TypeId) (s b : Nat) : Prop where
  bt : bt P e = some b
  b1 : 1 ≤ b
  s1 : 1 ≤ s
  zr : ∃ z, zr P e = some z ∧ z.cells.size = s

theorem ex_appG {sT xT e : TypeId} {s b n m len cp len' : Nat} {blk : Blk} {new : List Value} {H' : AH} (he : ElemOk P e s b) (hx : ev Tm x = .slice (some ⟨m, 0, some 1⟩) len cp) (hblk : He.get m = some blk) (hg : blk.gro = true) (hez : blk.esz = s) (hl : len * s = blk.cells.length)
    (hsrc : Src P ⟨n0, b0, Tm, Lo, He⟩ sT xT e s y new n) (hroom : room (len + n) b) (hlen : len + n = len') (hH : He.set m ⟨s, blk.cells ++ new, true⟩ = H') :
    AExec P ⟨d, .call ⟨.builtin .append, #[x, y], #[sT, xT]⟩, ty, pos, af, g⟩ ⟨n0, b0, Tm, Lo, He⟩ (.slice (some ⟨m, 0, some 1⟩) len' len') Lo H' :=
  .of_value fun hm lb w0 U w a r => by
    subst hlen; subst hH
    obtain ⟨z, hz, hzs⟩ := he.zr
    obtain ⟨hm', w', cv, g1, g2, g3, g4⟩ := app_gro (T := ty) r he.bt he.b1 hz hzs hblk hg hez hl (r.evEq hx) (hsrc hm lb w0 U w a r) hroom
    exact ⟨hm', lb, w', cv, by simp [execOp, resolve, invoke, builtin, g1], g2, LM.le_refl _, g3, g4⟩
end

/-! ## Calls -/
/-- May the function be entered? -/
def enterable (P : Program) (f : FuncId) : Bool :=
  match P.funcs[f]? with
  | some fn => fn.name != "runtime.NumGoroutine" && fn.body.isSome
  | none => false

theorem run_callFunc {P : Program} {w : World} {f : FuncId} {args : Array Value} (h : enterable P f = true) : (callFunc f args).run P w = .ok (.enter f args) w := by
  unfold enterable at h
  cases hf : P.funcs[f]? with
  | none => simp [hf] at h
  | some fn =>
    simp only [hf, Bool.and_eq_true] at h
    have h1 : (fn.name == "runtime.NumGoroutine") = false := by
      have := h.1
      simpa using this
    have h2 : fn.body.isNone = false := by
      have := h.2
      cases hb : fn.body <;> simp_all
    simp only [callFunc, Sem.run_bind, run_program, Result.andThen_ok, hf, h1, h2, Bool.false_eq_true, if_false, Sem.run_pure]


section
variable {P : Program} {n0 b0 : Nat} {Tm : List (Nat × Value)} {Lo : List (List Value)} {He : AH} {f : Operand} {args : Array Operand} {ts : Array TypeId} {d : Option Tmp} {ty : TypeId} {pos : String} {af : Array Edge} {gd : Option (Nat × Bool)}

theorem PR.vr {hm : GM} {lb : LM} {x v : Value} (h : PR hm lb x v) : VR hm lb x v := by
  cases x <;> first | exact h.elim | exact h | skip
  case pointer p => cases p <;> exact h
  case iface t y => cases y <;> exact h

/-- What a callee is handed: the arguments, and what the closure holds. -/
def CArgs (T : List (Nat × Value)) (args : Array Operand) (cap : Array Value) (vs : List Value) : Prop := ∃ us, EVs T args.toList us ∧ us ++ cap.toList = vs
theorem cargs {T : List (Nat × Value)} {args : Array Operand} {vs : List Value} (h : EVs T args.toList vs) : CArgs T args #[] vs := ⟨vs, h, by simp⟩
theorem cargsC {T : List (Nat × Value)} {args : Array Operand} {cap : Array Value} {us vs : List Value} (h : EVs T args.toList us) (hv : us ++ cap.toList = vs) : CArgs T args cap vs := ⟨us, h, hv⟩
theorem call_run {hm : GM} {lb : LM} {w0 : World} {U : Env} {w : World} {a : Act} (r : Rel hm lb w0 U ⟨n0, b0, Tm, Lo, He⟩ w a) {g : FuncId} {cap : Array Value} {vs : List Value} (hf : ev Tm f = .func (.func g) #[] cap) (hg : enterable P g = true) (ha : CArgs Tm args cap vs) :
    ∃ cargs : Array Value, (execOp a.eval ⟨d, .call ⟨.value f, args, ts⟩, ty, pos, af, gd⟩).run P w = .ok (.enter g cargs) w ∧ L2 (VR hm lb) vs cargs.toList := by
  obtain ⟨cap', h1, h2, h3⟩ := (r.evEq hf).sr rfl
  refine ⟨args.map a.eval ++ cap', ?_, ?_⟩
  · simp only [execOp, resolve, h1, Deferred.ofValue, Sem.run_bind, Sem.run_pure, Result.andThen_ok, invoke]
    rw [Array.empty_append]
    exact run_callFunc hg
  · obtain ⟨us, hu, rfl⟩ := ha
    rw [Array.toList_append, Array.toList_map]
    exact (r.EVs hu).append (h3.mono fun x y _ q => q.vr)

/-- A call of a function of values alone. -/
theorem ex_call0 {g : FuncId} {cap : Array Value} {vs : List Value} {v : Value} (hf : ev Tm f = .func (.func g) #[] cap) (hg : enterable P g = true) (ha : CArgs Tm args cap vs) (hp : vs.all pureV = true) (hc : FFn P g vs v) (hv : pureV v = true) :
    AExec P ⟨d, .call ⟨.value f, args, ts⟩, ty, pos, af, gd⟩ ⟨n0, b0, Tm, Lo, He⟩ v Lo He := by
  intro hm lb w0 U w a Q r
  obtain ⟨cargs, hrun, hargs⟩ := call_run (d := d) (ts := ts) (ty := ty) (pos := pos) (af := af) (gd := gd) r hf hg ha
  have hargs' : L2 (VR hm.bare []) vs cargs.toList := hargs.mono fun x y hx q => VR.pure (hm := hm) (List.all_eq_true.1 hp x hx) (fun _ _ _ z => z) q
  unfold Oper.wp
  rw [hrun]
  refine (hc hm.bare w (hideU hm w) w cargs r.hide hargs').mono fun e w' q => ?_
  obtain ⟨hm', v', cv, H', rfl, q2, q3, q4, q5, rfl⟩ := q
  obtain ⟨h1, h2⟩ := r.unhide q2.fz q4
  exact ⟨_, lb, cv, h1, LM.le_refl _, rfl, VR.pure (hm := hm') hv (fun _ _ _ z => z) q5, h2⟩

/-- An argument as the callee names it. -/
def RnR (n : Nat) (x x' : Value) : Prop := (pureV x = true ∧ x' = x) ∨ ∃ off, x = .pointer (some ⟨n, off, none⟩) ∧ x' = .pointer (some ⟨0, off, none⟩)
theorem VR.noLoc {hm : GM} {lb : LM} {m : Nat} {v cv : Value} (h : okv m 0 v = true) (e : VR hm lb v cv) (lb' : LM) : VR hm lb' v cv := by
  have h1 := VR.cut h e
  rw [List.take_zero] at h1
  have hle : (hm.cut m).le hm := ⟨(fun n i hi => by
    simp only [GM.cut] at hi
    split at hi
    · exact ⟨i, hi, .inl rfl⟩
    · cases hi), fun _ _ _ q => q⟩
  exact h1.mono hle (LM.nil_le _)

end

/-! ## Functions -/
def argsT : Nat → List Value → List (Nat × Value)
  | _, [] => []
  | k, v :: l => (k, v) :: argsT (k + 1) l
theorem lk_argsT {l : List Value} : ∀ {k t : Nat} {v : Value}, lk (argsT k l) t = some v → k ≤ t ∧ l[t - k]? = some v := by
  induction l with
  | nil => intro k t v h; simp [argsT, lk] at h
  | cons x l ih =>
    intro k t v h
    by_cases e : k = t
    · subst e
      rw [show argsT k (x :: l) = (k, x) :: argsT (k + 1) l from rfl, lk_cons_self] at h
      cases h; simp
    · rw [show argsT k (x :: l) = (k, x) :: argsT (k + 1) l from rfl, lk_cons_ne e] at h
      obtain ⟨h1, h2⟩ := ih h
      refine ⟨by omega, ?_⟩
      rw [show t - k = (t - (k + 1)) + 1 from by omega]; simpa using h2

/-- What a function returns, out of its slots and boxes. -/
def RVal (P : Program) (st : AS) : ResultVar → Value → Prop
  | .tmp t, v => t < st.n ∧ EV st.tmps (.tmp t) v
  | .cell t T, v => t < st.n ∧ ∃ p cs, ev st.tmps (.tmp t) = .pointer (some p) ∧ CellsAt st p cs ∧ Part P T cs p.off v
theorem rtmp {P : Program} {n b t : Nat} {T : List (Nat × Value)} {L : List (List Value)} {H : AH} {v : Value} (h : Nat.blt t n = true) (hv : EV T (.tmp t) v) : RVal P ⟨n, b, T, L, H⟩ (.tmp t) v := ⟨blt_lt h, hv⟩
theorem rcellL {P : Program} {n b t k off : Nat} {T : List (Nat × Value)} {L : List (List Value)} {H : AH} {ty : TypeId} {v : Value} {cs : List Value} (h : Nat.blt t n = true) (hv : ev T (.tmp t) = .pointer (some ⟨k, off, some 0⟩)) (hc : L[k]? = some cs) (hp : Part P ty cs off v) : RVal P ⟨n, b, T, L, H⟩ (.cell t ty) v := ⟨blt_lt h, _, cs, hv, hc, hp⟩

def notTuple : Value → Bool | .tuple _ => false | _ => true
def ARes (P : Program) (rs : List ResultVar) (st : AS) (v : Value) : Prop :=
  (∃ x, rs = [x] ∧ RVal P st x v) ∨ (∃ vs, rs.length ≠ 1 ∧ L2 (RVal P st) rs vs ∧ vs.all notTuple = true ∧ v = .tuple vs.toArray)
theorem ares1 {P : Program} {st : AS} {x : ResultVar} {v : Value} (h : RVal P st x v) : ARes P [x] st v := .inl ⟨x, rfl, h⟩
theorem aresN {P : Program} {st : AS} {rs : List ResultVar} {vs : List Value} (hn : Nat.beq rs.length 1 = false) (h : L2 (RVal P st) rs vs) (hv : vs.all notTuple = true) : ARes P rs st (.tuple vs.toArray) :=
  .inr ⟨vs, (fun e => by rw [e] at hn; cases hn), h, hv, rfl⟩

section
variable {hm : GM} {lb : LM} {w0 : World} {U : Env} {st : AS} {w : World} {a : Act} {P : Program}
def res1 (tmps : Array Value) : ResultVar → Sem Value
  | .tmp t => pure (tmps.getD t undef)
  | .cell a t => do loadVar t (← asAddr (tmps.getD a undef))
theorem rval_ok (r : Rel hm lb w0 U st w a) {x : ResultVar} {v : Value} (h : RVal P st x v) : ∃ cv, (res1 a.tmps x).run P w = .ok cv w ∧ VR hm lb v cv := by
  cases x with
  | tmp t =>
    obtain ⟨h1, h2⟩ := h
    exact ⟨a.tmps.getD t undef, by simp [res1], r.EV h2⟩
  | cell t T =>
    obtain ⟨h1, p, cs, h2, h3, h4⟩ := h
    obtain ⟨cv, g1, g2⟩ := load_at (P := P) r h3 h4 (r.evEq h2)
    obtain ⟨c, _, hc⟩ := (r.evEq h2).sr rfl
    refine ⟨cv, ?_, g2⟩
    have hc' : a.tmps.getD t undef = .pointer (some c) := hc
    rw [hc] at g1
    simp only [Instr.loadAt, Instr.sureAddr, Sem.run_bind, Sem.run_pure, Result.andThen_ok] at g1
    simp only [res1, hc', asAddr, Sem.run_bind, Sem.run_pure, Result.andThen_ok, g1]
theorem aresL_ok (r : Rel hm lb w0 U st w a) : ∀ {l : List ResultVar} {vs : List Value}, L2 (RVal P st) l vs → ∃ cvs, (l.mapM (res1 a.tmps)).run P w = .ok cvs w ∧ L2 (VR hm lb) vs cvs
  | [], vs, h => by rw [h.nil_inv]; exact ⟨[], by simp, .nil⟩
  | x :: l, vs, h => by
    obtain ⟨v, vs', rfl, h1, h2⟩ := h.cons_inv
    obtain ⟨cv, h3, h4⟩ := rval_ok r h1
    obtain ⟨cvs, h5, h6⟩ := aresL_ok r h2
    exact ⟨cv :: cvs, by simp [List.mapM_cons, h3, h5], .cons h4 h6⟩
theorem VR.vr1 {v cv : Value} (h : notTuple v = true) (e : VR hm lb v cv) : VR1 hm lb v cv := by
  unfold VR at e
  split at e
  · simp [notTuple] at h
  · exact e
theorem results_eq (fn : Func) (tmps : Array Value) : results fn tmps = (do let vs ← fn.results.mapM (res1 tmps); pure (if h : vs.size = 1 then vs[0] else .tuple vs)) := by
  unfold results
  congr 1
theorem ares_ok (r : Rel hm lb w0 U st w a) {fn : Func} {v : Value} (h : ARes P fn.results.toList st v) : ∃ cv, (results fn a.tmps).run P w = .ok cv w ∧ VR hm lb v cv := by
  rw [results_eq]
  have hmap : ∀ cvs, (fn.results.toList.mapM (res1 a.tmps)).run P w = .ok cvs w → (fn.results.mapM (res1 a.tmps)).run P w = .ok cvs.toArray w := by
    intro cvs hc
    have e := Array.toList_mapM (xs := fn.results) (f := res1 a.tmps)
    rw [← e, Sem.run_map] at hc
    cases hx : (fn.results.mapM (res1 a.tmps)).run P w with
    | ok arr w' =>
      rw [hx] at hc
      simp only [Result.andThen_ok] at hc
      injection hc with h1 h2
      rw [← h1, h2]
    | halt x w' => rw [hx] at hc; simp at hc
  rcases h with ⟨x, hx, hr⟩ | ⟨vs, hn, hvs, hnt, rfl⟩
  · obtain ⟨cv, h1, h2⟩ := rval_ok r hr
    refine ⟨cv, ?_, h2⟩
    have h3 : (fn.results.toList.mapM (res1 a.tmps)).run P w = .ok [cv] w := by rw [hx]; simp [List.mapM_cons, h1]
    rw [Sem.run_bind, hmap _ h3]
    simp
  · obtain ⟨cvs, h1, h2⟩ := aresL_ok (P := P) r hvs
    have hlen : cvs.length ≠ 1 := by
      have e1 := h2.1; have e2 := hvs.1; omega
    refine ⟨.tuple cvs.toArray, ?_, ?_⟩
    · rw [Sem.run_bind, hmap _ h1]
      simp [hlen]
    · refine .inr (.inr ⟨_, rfl, ?_⟩)
      exact ⟨h2.1, fun i x y hx hy => (h2.2 i x y hx hy).vr1 (List.all_eq_true.1 hnt x (List.mem_of_getElem? hx))⟩
end

/-- The end of a function's body. -/
def Fin (P : Program) (fn : Func) (R : Value → AH → Prop) : Exit → AS → Prop
  | .normal, s | .ret, s => ∃ v, ARes P fn.results.toList s v ∧ okv s.heap.next 0 v = true ∧ R v s.heap
  | _, _ => False

theorem AFn.of_body {P : Program} {f : FuncId} {fn : Func} {c : Code} {args : List Value} {H : AH} {R : Value → AH → Prop} (hf : P.funcs[f]? = some fn) (hb : fn.body = some c) (hn : args.length ≤ fn.ntmps)
    (h : AWp P c (Fin P fn R) ⟨fn.ntmps, H.next, argsT 0 args, [], H⟩) : AFn P f args H R := by
  intro hm w0 U w cargs hr ha
  have hlen : args.length = cargs.size := by have := ha.1; simpa using this
  refine calls_of_wp hf hb ?_
  have r : Rel hm [] w0 U ⟨fn.ntmps, H.next, argsT 0 args, [], H⟩ w { tmps := cargs ++ Array.replicate (fn.ntmps - cargs.size) undef, defers := [] } :=
    { toHRel := hr
      defers := rfl
      tsize := by simp; omega
      base_le := Nat.le_refl _
      tmps := fun t v ht => by
        obtain ⟨_, h1⟩ := lk_argsT ht
        rw [Nat.sub_zero] at h1
        obtain ⟨b, h2, h3⟩ := ha.get h1
        refine ⟨b, ?_, h3⟩
        have := lookup_lt h1
        rw [Array.getElem?_append_left (by omega)]; simpa using h2
      llen := rfl
      loc := fun k cs hk => by simp at hk
      linj := fun k k' B h1 => by simp at h1
      lheap := fun k B n b i h1 => by simp at h1 }
  refine wp_mono (h hm [] w0 U w _ r) fun e a' w' q => ?_
  obtain ⟨hm', lb', st', h1, hbase, h2, h3⟩ := q
  have hnx : H.next ≤ st'.heap.next := by have := h2.base_le; rw [hbase] at this; exact this
  cases e with
  | normal =>
    obtain ⟨v, h4, h5, h6⟩ := h3
    obtain ⟨cv, h7, h8⟩ := ares_ok (P := P) h2 h4
    exact ⟨h2.defers, cv, h7, hm', v, cv, st'.heap, rfl, h1, hnx, h2.toHRel, h8.noLoc h5 [], h6⟩
  | ret =>
    obtain ⟨v, h4, h5, h6⟩ := h3
    obtain ⟨cv, h7, h8⟩ := ares_ok (P := P) h2 h4
    exact ⟨h2.defers, cv, h7, hm', v, cv, st'.heap, rfl, h1, hnx, h2.toHRel, h8.noLoc h5 [], h6⟩
  | _ => exact h3.elim

theorem pure_okv1 {m k : Nat} {v : Value} (h : pure1 v = true) : okv1 m k v = true := by
  cases v <;> first | (simp [pure1] at h; done) | rfl | skip
  case pointer p => cases p <;> first | rfl | (simp [pure1] at h; done)
  case slice p l c => cases p <;> first | rfl | (simp [pure1] at h; done)
theorem pure_okv {m k : Nat} {v : Value} (h : pureV v = true) : okv m k v = true := by
  have hall : ∀ l : List Value, l.all pure1 = true → l.all (okv1 m k) = true := fun l hl => by
    rw [List.all_eq_true] at hl ⊢
    exact fun x hx => pure_okv1 (hl x hx)
  unfold pureV at h
  unfold okv
  split at h
  · exact hall _ h
  · rw [List.all_eq_true] at h ⊢
    intro x hx
    have := h x hx
    split at this
    · exact hall _ this
    · cases this
    · rename_i h1 h2
      split
      · exact absurd rfl (h1 _)
      · exact pure_okv1 this
  · rename_i h1 h2
    split
    · exact absurd rfl (h1 _)
    · exact absurd rfl (h2 _)
    · exact pure_okv1 h

/-- The end of a function of values: what it returns. -/
def FinV (P : Program) (rs : List ResultVar) (r : Value) : Exit → AS → Prop
  | .normal, s | .ret, s => ARes P rs s r
  | _, _ => False
theorem FFn.of_body {P : Program} {f : FuncId} {fn : Func} {c : Code} {args : List Value} {n : Nat} {rs : List ResultVar} {T : List (Nat × Value)} {r : Value} (hf : P.funcs[f]? = some fn) (hb : fn.body = some c) (hn : fn.ntmps = n) (hl : Nat.ble args.length n = true) (hrs : fn.results.toList = rs) (hT : argsT 0 args = T)
    (hp : pureV r = true) (h : AWp P c (FinV P rs r) ⟨n, 0, T, [], ⟨0, []⟩⟩) : FFn P f args r := by
  subst hn; subst hT; subst hrs
  refine AFn.of_body hf hb (by rw [Nat.ble_eq] at hl; exact hl) (awp_mono h fun e s q => ?_)
  cases e with
  | normal => exact ⟨r, q, pure_okv hp, rfl⟩
  | ret => exact ⟨r, q, pure_okv hp, rfl⟩
  | _ => exact q.elim

/-- The end of a function that is handed one block. -/
def Fin1 (P : Program) (rs : List ResultVar) (r : Value) (b : Blk) : Exit → AS → Prop
  | .normal, s | .ret, s => ARes P rs s r ∧ s.heap.get 0 = some b
  | _, _ => False
/-- A function that is handed a block, which it may write: as its number 0. -/
def F1n (P : Program) (f : FuncId) (args : List Value) (b : Blk) (r : Value) (b' : Blk) : Prop := AFn P f args ⟨1, [(0, b)]⟩ fun v H' => v = r ∧ H'.get 0 = some b'
theorem F1n.of_body {P : Program} {f : FuncId} {fn : Func} {c : Code} {args : List Value} {n : Nat} {rs : List ResultVar} {T : List (Nat × Value)} {r : Value} {b b' : Blk} (hf : P.funcs[f]? = some fn) (hb : fn.body = some c) (hn : fn.ntmps = n) (hl : Nat.ble args.length n = true) (hrs : fn.results.toList = rs) (hT : argsT 0 args = T)
    (hp : pureV r = true) (h : AWp P c (Fin1 P rs r b') ⟨n, 1, T, [], ⟨1, [(0, b)]⟩⟩) : F1n P f args b r b' := by
  subst hn; subst hT; subst hrs
  refine AFn.of_body hf hb (by rw [Nat.ble_eq] at hl; exact hl) (awp_mono h fun e s q => ?_)
  cases e with
  | normal => exact ⟨r, q.1, pure_okv hp, rfl, q.2⟩
  | ret => exact ⟨r, q.1, pure_okv hp, rfl, q.2⟩
  | _ => exact q.elim

end Go.Fhl

/-
  A logic over the model, part eleven: a region that draws its order.
-/
namespace Go.Fhl
set_option linter.unusedVariables false
set_option linter.unusedSimpArgs false

def dstOf (ops : Array Oper) (j : Nat) : Option Nat := (ops[j]?).bind (·.dst)

/-- The slots, when these operations are done. -/
def TD (ops : Array Oper) (T : List Value) (T0 : List (Nat × Value)) (d : Nat → Bool) : Nat → List (Nat × Value)
  | 0 => T0
  | i + 1 => match d i, dstOf ops i, T[i]? with
    | true, some t, some v => (t, v) :: TD ops T T0 d i
    | _, _, _ => TD ops T T0 d i

theorem TD_spec {ops : Array Oper} {T : List Value} {T0 : List (Nat × Value)} {d : Nat → Bool} : ∀ {m : Nat} (hT : m ≤ T.length) {t : Nat},
    (∃ j v, j < m ∧ d j = true ∧ dstOf ops j = some t ∧ T[j]? = some v ∧ (∀ j', j < j' → j' < m → d j' = true → dstOf ops j' ≠ some t) ∧ lk (TD ops T T0 d m) t = some v) ∨
    ((∀ j, j < m → d j = true → dstOf ops j ≠ some t) ∧ lk (TD ops T T0 d m) t = lk T0 t)
  | 0, hT, t => .inr ⟨fun j hj => by omega, rfl⟩
  | m + 1, hT, t => by
    have ih := TD_spec (ops := ops) (T := T) (T0 := T0) (d := d) (m := m) (by omega) (t := t)
    have hm : T[m]? = some T[m] := List.getElem?_eq_getElem (by omega)
    by_cases hd : d m = true
    · cases hdst : dstOf ops m with
      | none =>
        have e : TD ops T T0 d (m + 1) = TD ops T T0 d m := by simp only [TD, hd, hdst]
        rw [e]
        rcases ih with ⟨j, v, h1, h2, h3, h4, h5, h6⟩ | ⟨h1, h2⟩
        · exact .inl ⟨j, v, by omega, h2, h3, h4, fun j' q1 q2 q3 => by
            by_cases z : j' = m
            · subst z; rw [hdst]; simp
            · exact h5 j' q1 (by omega) q3, h6⟩
        · exact .inr ⟨fun j q1 q2 => by
            by_cases z : j = m
            · subst z; rw [hdst]; simp
            · exact h1 j (by omega) q2, h2⟩
      | some u =>
        have e : TD ops T T0 d (m + 1) = (u, T[m]) :: TD ops T T0 d m := by simp only [TD, hd, hdst, hm]
        rw [e]
        by_cases hu : u = t
        · subst hu
          exact .inl ⟨m, T[m], by omega, hd, hdst, hm, fun j' q1 q2 => by omega, lk_cons_self _ _ _⟩
        · rw [lk_cons_ne hu]
          rcases ih with ⟨j, v, h1, h2, h3, h4, h5, h6⟩ | ⟨h1, h2⟩
          · exact .inl ⟨j, v, by omega, h2, h3, h4, fun j' q1 q2 q3 => by
              by_cases z : j' = m
              · subst z; rw [hdst]; simp [hu]
              · exact h5 j' q1 (by omega) q3, h6⟩
          · exact .inr ⟨fun j q1 q2 => by
              by_cases z : j = m
              · subst z; rw [hdst]; simp [hu]
              · exact h1 j (by omega) q2, h2⟩
    · have e : TD ops T T0 d (m + 1) = TD ops T T0 d m := by
        have : d m = false := by simpa using hd
        simp only [TD, this]
      rw [e]
      rcases ih with ⟨j, v, h1, h2, h3, h4, h5, h6⟩ | ⟨h1, h2⟩
      · exact .inl ⟨j, v, by omega, h2, h3, h4, fun j' q1 q2 q3 => by
          by_cases z : j' = m
          · subst z; exact absurd q3 hd
          · exact h5 j' q1 (by omega) q3, h6⟩
      · exact .inr ⟨fun j q1 q2 => by
          by_cases z : j = m
          · subst z; exact absurd q2 hd
          · exact h1 j (by omega) q2, h2⟩

theorem TD_none {ops : Array Oper} {T : List Value} {T0 : List (Nat × Value)} {d : Nat → Bool} (hd : ∀ i, d i = false) : ∀ m, TD ops T T0 d m = T0
  | 0 => rfl
  | m + 1 => by simp only [TD, hd m]; exact TD_none hd m

/-- What an operation reads: slots as they stood, or as an operation has left them. -/
def mini (T0 : List (Nat × Value)) (T : List Value) : List (Nat × Option Nat) → Option (List (Nat × Value))
  | [] => some []
  | (t, none) :: r => match lk T0 t, mini T0 T r with | some v, some m => some ((t, v) :: m) | _, _ => none
  | (t, some j) :: r => match T[j]?, mini T0 T r with | some v, some m => some ((t, v) :: m) | _, _ => none

theorem lk_mini {T0 : List (Nat × Value)} {T : List Value} : ∀ {l : List (Nat × Option Nat)} {m : List (Nat × Value)} {t : Nat} {v : Value}, mini T0 T l = some m → lk m t = some v →
    ∃ s, (t, s) ∈ l ∧ (match s with | none => lk T0 t = some v | some j => T[j]? = some v)
  | [], m, t, v, h, hl => by cases h; simp [lk] at hl
  | (u, none) :: r, m, t, v, h, hl => by
    unfold mini at h
    split at h
    · rename_i x y hx hy
      cases h
      rcases lk_push hl with ⟨rfl, rfl⟩ | ⟨h1, h2⟩
      · exact ⟨none, by simp, hx⟩
      · obtain ⟨s, h3, h4⟩ := lk_mini hy h2
        exact ⟨s, by simp [h3], h4⟩
    · cases h
  | (u, some j) :: r, m, t, v, h, hl => by
    unfold mini at h
    split at h
    · rename_i x y hx hy
      cases h
      rcases lk_push hl with ⟨rfl, rfl⟩ | ⟨h1, h2⟩
      · exact ⟨some j, by simp, hx⟩
      · obtain ⟨s, h3, h4⟩ := lk_mini hy h2
        exact ⟨s, by simp [h3], h4⟩
    · cases h

structure DOp where
  src : List (Nat × Option Nat)
  before : List Nat
  ks : List Nat
  s : Bool

def inB (D : List DOp) (i j : Nat) : Bool := match D[i]? with | some x => x.before.contains j | none => false

/-- The checks on one operation. -/
def srcOk (ops : Array Oper) (D : List DOp) (i : Nat) : Nat × Option Nat → Bool
  | (t, none) => (List.range ops.size).all fun j => dstOf ops j != some t || j == i || inB D j i
  | (t, some j) => dstOf ops j == some t && inB D i j && (List.range ops.size).all fun j' => dstOf ops j' != some t || j' == j || j' == i || inB D j' i || (Nat.blt j' j)
def befOk (ops : Array Oper) (D : List DOp) (i j : Nat) : Bool :=
  match ops[i]? with | some o => o.after.toList.any fun e => Region.binds .any e && (e.on == j || inB D e.on j) | none => false
def kOk (D : List DOp) (S : List Nat) (i k : Nat) : Bool :=
  (match S[k]? with | some s => inB D i s | none => false) || (match k with | 0 => false | q + 1 => match S[q]? with | some s => inB D s i | none => false)
def opOk (n : Nat) (ops : Array Oper) (D : List DOp) (S : List Nat) (i : Nat) (x : DOp) : Bool :=
  x.src.all (srcOk ops D i) && (x.before.all (befOk ops D i) && ((match dstOf ops i with | some t => Nat.blt t n && (List.range i).all fun j => dstOf ops j != some t || inB D i j | none => true) &&
    (x.s == S.contains i && (if x.s then (List.range S.length).all fun k => S[k]? != some i || x.ks.contains k else (List.range (S.length + 1)).all fun k => x.ks.contains k || kOk D S i k))))
def opsOk (n : Nat) (ops : Array Oper) (D : List DOp) (S : List Nat) : Nat → List DOp → Bool
  | _, [] => true
  | i, x :: l => opOk n ops D S i x && opsOk n ops D S (i + 1) l
def sOk (D : List DOp) (N : Nat) : List Nat → Bool
  | s :: s' :: r => Nat.blt s N && (inB D s' s && sOk D N (s' :: r))
  | [s] => Nat.blt s N
  | [] => true
def planOk (ops : Array Oper) : List Nat → List Nat → Bool
  | _, [] => true
  | done, i :: r => (match ops[i]? with | some o => o.after.toList.all fun e => !Region.binds .any e || done.contains e.on | none => false) && planOk ops (i :: done) r
def drawOk (n : Nat) (ops : Array Oper) (D : List DOp) (S plan : List Nat) : Bool :=
  opsOk n ops D S 0 D && (sOk D ops.size S && (planOk ops [] plan && ((List.range ops.size).all (fun i => plan.contains i) && (D.length == ops.size))))

def DStep (P : Program) (ops : Array Oper) (n b : Nat) (T0 : List (Nat × Value)) (T : List Value) (LH : List (List (List Value) × AH)) (i : Nat) (o : Oper) (x : DOp) : Prop :=
  ∀ k ∈ x.ks, ∃ Tm L H L' H' v, mini T0 T x.src = some Tm ∧ LH[k]? = some (L, H) ∧ LH[if x.s then k + 1 else k]? = some (L', H') ∧ T[i]? = some v ∧ AStep P ops i o ⟨n, b, Tm, L, H⟩ v L' H'
def DSteps (P : Program) (ops : Array Oper) (n b : Nat) (T0 : List (Nat × Value)) (T : List Value) (LH : List (List (List Value) × AH)) : Nat → List Oper → List DOp → Prop
  | i, o :: l, x :: r => DStep P ops n b T0 T LH i o x ∧ DSteps P ops n b T0 T LH (i + 1) l r
  | _, _, _ => True

theorem opsOk_get {n : Nat} {ops : Array Oper} {D : List DOp} {S : List Nat} : ∀ {l : List DOp} {i k : Nat} {x : DOp}, opsOk n ops D S i l = true → l[k]? = some x → opOk n ops D S (i + k) x = true
  | [], i, k, x, h, hx => by simp at hx
  | y :: l, i, k, x, h, hx => by
    simp only [opsOk, Bool.and_eq_true] at h
    cases k with
    | zero => simp at hx; subst hx; exact h.1
    | succ k => have := opsOk_get h.2 (by simpa using hx); rw [show i + (k + 1) = i + 1 + k from by omega]; exact this
theorem dsteps_get {P : Program} {ops : Array Oper} {n b : Nat} {T0 : List (Nat × Value)} {T : List Value} {LH : List (List (List Value) × AH)} : ∀ {l : List Oper} {r : List DOp} {i k : Nat} {o : Oper} {x : DOp},
    DSteps P ops n b T0 T LH i l r → l[k]? = some o → r[k]? = some x → DStep P ops n b T0 T LH (i + k) o x
  | [], r, i, k, o, x, h, ho, hx => by simp at ho
  | y :: l, [], i, k, o, x, h, ho, hx => by simp at hx
  | y :: l, z :: r, i, k, o, x, h, ho, hx => by
    cases k with
    | zero => simp at ho hx; subst ho; subst hx; exact h.1
    | succ k => have := dsteps_get h.2 (by simpa using ho) (by simpa using hx); rw [show i + (k + 1) = i + 1 + k from by omega]; exact this

theorem planOk_spec {ops : Array Oper} : ∀ {l done : List Nat}, planOk ops done l = true → ∀ (d : Nat → Bool), (∀ j ∈ done, d j = true) → (∃ i ∈ l, d i = false) →
    ∃ i ∈ l, d i = false ∧ ∃ o, ops[i]? = some o ∧ ∀ e ∈ o.after, Region.binds .any e = true → d e.on = true
  | [], done, h, d, hd, ⟨i, hi, _⟩ => by simp at hi
  | i :: l, done, h, d, hd, hx => by
    simp only [planOk, Bool.and_eq_true] at h
    obtain ⟨h1, h2⟩ := h
    by_cases hi : d i = true
    · obtain ⟨j, hj, hj2⟩ := hx
      have hj' : j ∈ l := by
        rcases List.mem_cons.1 hj with rfl | q
        · rw [hi] at hj2; cases hj2
        · exact q
      obtain ⟨x, k1, k2⟩ := planOk_spec h2 d (fun y hy => by rcases List.mem_cons.1 hy with rfl | q; exact hi; exact hd y q) ⟨j, hj', hj2⟩
      exact ⟨x, by simp [k1], k2⟩
    · cases ho : ops[i]? with
      | none => simp [ho] at h1
      | some o =>
        simp only [ho, List.all_eq_true, Array.mem_toList_iff, Bool.or_eq_true, Bool.not_eq_true', List.contains_eq_mem, decide_eq_true_eq] at h1
        refine ⟨i, by simp, by simpa using hi, o, ho, fun e he hb => ?_⟩
        rcases h1 e he with q | q
        · rw [q] at hb; cases hb
        · exact hd _ q

theorem sOk_spec {D : List DOp} {N : Nat} : ∀ {S : List Nat}, sOk D N S = true → (∀ s ∈ S, s < N) ∧ ∀ (q s s' : Nat), S[q]? = some s → S[q + 1]? = some s' → inB D s' s = true
  | [], h => ⟨fun s hs => by simp at hs, fun q s s' h1 => by simp at h1⟩
  | [s], h => ⟨fun x hx => by simp at hx; subst hx; exact blt_lt h, fun q s s' h1 h2 => by simp at h2⟩
  | s :: s' :: r, h => by
    simp only [sOk, Bool.and_eq_true] at h
    obtain ⟨h1, h2, h3⟩ := h
    obtain ⟨g1, g2⟩ := sOk_spec h3
    refine ⟨fun x hx => ?_, fun q x y hx hy => ?_⟩
    · rcases List.mem_cons.1 hx with rfl | hx
      · exact blt_lt h1
      · exact g1 x hx
    · cases q with
      | zero => simp at hx hy; subst hx; subst hy; exact h2
      | succ q => exact g2 q x y (by simpa using hx) (by simpa using hy)

section
variable {P : Program} {ops : Array Oper} {n b : Nat} {T0 : List (Nat × Value)} {T : List Value} {LH : List (List (List Value) × AH)} {D : List DOp} {S plan : List Nat} {Q : Exit → AS → Prop}

theorem draw_any (hck : drawOk n ops D S plan = true) (hT : T.length = ops.size) (hst : DSteps P ops n b T0 T LH 0 ops.toList D) {L1 : List (List Value)} {H1 : AH} (hlast : LH[S.length]? = some (L1, H1))
    (k : Q .normal ⟨n, b, TD ops T T0 (fun _ => true) ops.size, L1, H1⟩) (w0 : World) (U : Env) :
    ∀ (fuel : Nat) (listed : Array Bool) (hm0 hm : GM) (lb : LM) (w : World) (a : Act) (kk : Nat) (L : List (List Value)) (H : AH), listed.size = ops.size →
      (List.range ops.size).countP (fun i => !(listed.getD i false)) = fuel →
      (∀ i, listed.getD i false = true → ∀ j, inB D i j = true → listed.getD j false = true) → kk ≤ S.length → (∀ q s, S[q]? = some s → (listed.getD s false = true ↔ q < kk)) → LH[kk]? = some (L, H) →
      hm0.leb b hm → Rel hm lb w0 U ⟨n, b, TD ops T T0 (fun i => listed.getD i false) ops.size, L, H⟩ w a →
      wpAny P .any ops (Post w0 U hm0 b Q) fuel listed a w := by
  have hck' := hck
  unfold drawOk at hck
  simp only [Bool.and_eq_true, List.all_eq_true, List.mem_range, beq_iff_eq] at hck
  obtain ⟨c1, c2, c3, c4, c5⟩ := hck
  obtain ⟨s1, s2⟩ := sOk_spec c2
  have hready : ∀ listed : Array Bool, listed.size = ops.size → (∃ i, i < ops.size ∧ listed.getD i false = false) → Region.ready .any ops listed ≠ [] := by
    intro listed hsz ⟨i, hi, hd⟩ he
    obtain ⟨j, k1, k2, o, k3, k4⟩ := planOk_spec c3 (fun i => listed.getD i false) (fun j hj => by simp at hj) ⟨i, by simpa using c4 i hi, hd⟩
    have : j ∈ Region.ready .any ops listed := mem_ready.2 ⟨by
      have hjl : j < listed.size := by rw [hsz]; exact (Array.getElem?_eq_some_iff.1 k3).1
      simp [hjl] at k2 ⊢; exact k2, o, k3, k4⟩
    rw [he] at this; cases this
  have hend : ∀ (listed : Array Bool) (hm0 hm : GM) (lb : LM) (w : World) (a : Act) (kk : Nat) (L : List (List Value)) (H : AH), listed.size = ops.size → (∀ i, i < ops.size → listed.getD i false = true) → kk ≤ S.length →
      (∀ q s, S[q]? = some s → (listed.getD s false = true ↔ q < kk)) → LH[kk]? = some (L, H) → hm0.leb b hm → Rel hm lb w0 U ⟨n, b, TD ops T T0 (fun i => listed.getD i false) ops.size, L, H⟩ w a →
      Post w0 U hm0 b Q .normal a w := by
    intro listed hm0 hm lb w a kk L H hsz hall hk hS hLH hle r
    have hkk : kk = S.length := by
      rcases Nat.lt_or_ge kk S.length with q | q
      · have h1 := hS kk S[kk] (List.getElem?_eq_getElem q)
        have := h1.1 (hall _ (s1 _ (List.getElem_mem q)))
        omega
      · omega
    subst hkk
    rw [hlast] at hLH; cases hLH
    refine ⟨hm, lb, _, hle, rfl, ?_, k⟩
    have : TD ops T T0 (fun i => listed.getD i false) ops.size = TD ops T T0 (fun _ => true) ops.size := by
      have : ∀ m, m ≤ ops.size → TD ops T T0 (fun i => listed.getD i false) m = TD ops T T0 (fun _ => true) m := by
        intro m
        induction m with
        | zero => intro _; rfl
        | succ m ih => intro hm'; simp only [TD, hall m (by omega), ih (by omega)]
      exact this _ (Nat.le_refl _)
    rw [this] at r
    exact r
  intro fuel
  induction fuel with
  | zero =>
    intro listed hm0 hm lb w a kk L H hsz hcnt hM hk hS hLH hle r
    have hall : ∀ i, i < ops.size → listed.getD i false = true := by
      intro i hi
      have := List.countP_eq_zero.1 hcnt i (by simpa using hi)
      simpa using this
    refine ⟨?_, hend listed hm0 hm lb w a kk L H hsz hall hk hS hLH hle r⟩
    rw [List.eq_nil_iff_forall_not_mem]
    intro i hi
    obtain ⟨h1, o, h2, _⟩ := mem_ready.1 hi
    have hlt := (Array.getElem?_eq_some_iff.1 h2).1
    have := hall i hlt
    have hl : i < listed.size := by omega
    simp [hl] at h1 this; rw [h1] at this; cases this
  | succ fuel ih =>
    intro listed hm0 hm lb w a kk L H hsz hcnt hM hk hS hLH hle r
    refine ⟨fun he => ?_, fun i hi => ?_⟩
    · refine absurd he (hready listed hsz ?_)
      have hpos : 0 < (List.range ops.size).countP (fun i => !(listed.getD i false)) := by omega
      obtain ⟨i, h1, h2⟩ := List.countP_pos_iff.1 hpos
      exact ⟨i, by simpa using h1, by simpa using h2⟩
    · obtain ⟨h1, o, h2, h3⟩ := mem_ready.1 hi
      have hlt := (Array.getElem?_eq_some_iff.1 h2).1
      have hil : listed.getD i false = false := by
        have hl : i < listed.size := by omega
        simp [hl] at h1 ⊢; exact h1
      have hDi : D[i]? = some D[i] := List.getElem?_eq_getElem (by omega)
      have hop := opsOk_get c1 hDi
      rw [Nat.zero_add] at hop
      have hol : ops.toList[i]? = some o := by simpa using h2
      have hds := dsteps_get hst hol hDi
      rw [Nat.zero_add] at hds
      unfold opOk at hop
      simp only [Bool.and_eq_true, List.all_eq_true, beq_iff_eq] at hop
      obtain ⟨o1, o2, o3, o4, o5⟩ := hop
      -- what comes before is done
      have hbef : ∀ j, inB D i j = true → listed.getD j false = true := by
        intro j hj
        unfold inB at hj
        rw [hDi] at hj
        have := o2 j (by simpa using hj)
        unfold befOk at this
        rw [h2] at this
        simp only [List.any_eq_true, Array.mem_toList_iff, Bool.and_eq_true, Bool.or_eq_true, beq_iff_eq] at this
        obtain ⟨e, e1, e2, e3⟩ := this
        have hd := h3 e e1 e2
        rcases e3 with rfl | e3
        · exact hd
        · exact hM _ hd _ e3
      have hnot : ∀ j, inB D j i = true → listed.getD j false = false := by
        intro j hj
        cases hd : listed.getD j false with
        | false => rfl
        | true => have := hM j hd i hj; rw [hil] at this; cases this
      -- which stage
      have hstage : kk ∈ D[i].ks ∧ (D[i].s = true → S[kk]? = some i) ∧ (D[i].s = false → i ∉ S) := by
        by_cases hs : D[i].s = true
        · have hiS : i ∈ S := by rw [hs] at o4; simpa using o4.symm
          obtain ⟨q, hq, hqe⟩ := List.getElem_of_mem hiS
          have hSq : S[q]? = some i := by rw [List.getElem?_eq_getElem hq, hqe]
          have hge : ¬ q < kk := fun z => by have := (hS q i hSq).2 z; rw [hil] at this; cases this
          have hqk : q = kk := by
            rcases Nat.lt_or_ge kk q with z | z
            · obtain ⟨p, rfl⟩ : ∃ p, q = p + 1 := ⟨q - 1, by omega⟩
              have hp : S[p]? = some S[p] := List.getElem?_eq_getElem (by omega)
              have := hbef _ (s2 p _ _ hp hSq)
              have := (hS p _ hp).1 this
              omega
            · omega
          subst hqk
          simp only [hs, if_true, List.all_eq_true, List.mem_range, Bool.or_eq_true, bne_iff_ne, ne_eq] at o5
          refine ⟨?_, (fun _ => hSq), (fun z => by rw [hs] at z; cases z)⟩
          rcases o5 q hq with z | z
          · exact absurd hSq z
          · simpa using z
        · have hs' : D[i].s = false := by simpa using hs
          simp only [hs', Bool.false_eq_true, if_false, List.all_eq_true, List.mem_range, Bool.or_eq_true] at o5
          refine ⟨?_, (fun z => by rw [hs'] at z; cases z), (fun _ => by rw [hs'] at o4; simpa using o4.symm)⟩
          rcases o5 kk (by omega) with z | z
          · simpa using z
          · exfalso
            unfold kOk at z
            simp only [Bool.or_eq_true] at z
            rcases z with z | z
            · cases hSk : S[kk]? with
              | none => simp [hSk] at z
              | some s =>
                simp only [hSk] at z
                have := (hS kk s hSk).1 (hbef s z)
                omega
            · cases hkk : kk with
              | zero => simp [hkk] at z
              | succ q =>
                simp only [hkk] at z
                cases hSk : S[q]? with
                | none => simp [hSk] at z
                | some s =>
                  simp only [hSk] at z
                  have := (hS q s hSk).2 (by omega)
                  rw [hnot s z] at this; cases this
      obtain ⟨g1, g2, g3⟩ := hstage
      obtain ⟨Tm, L2', H2, L', H', v, m1, m2, m3, m4, m5⟩ := hds kk g1
      rw [hLH] at m2; cases m2
      -- the slots that it reads
      have hmini : ∀ t u, lk Tm t = some u → lk (TD ops T T0 (fun i => listed.getD i false) ops.size) t = some u := by
        intro t u hu
        obtain ⟨s, q1, q2⟩ := lk_mini m1 hu
        have hso := o1 (t, s) q1
        have hTD := TD_spec (ops := ops) (T := T) (T0 := T0) (d := fun i => listed.getD i false) (m := ops.size) (by omega) (t := t)
        cases s with
        | none =>
          simp only [srcOk, List.all_eq_true, List.mem_range, Bool.or_eq_true, bne_iff_ne, ne_eq, beq_iff_eq] at hso
          rcases hTD with ⟨j, x, z1, z2, z3, z4, z5, z6⟩ | ⟨z1, z2⟩
          · rcases hso j z1 with (y | y) | y
            · exact absurd z3 y
            · subst y; rw [hil] at z2; cases z2
            · rw [hnot j y] at z2; cases z2
          · rw [z2]; exact q2
        | some j =>
          simp only [srcOk, Bool.and_eq_true, beq_iff_eq, List.all_eq_true, List.mem_range, Bool.or_eq_true, bne_iff_ne, ne_eq] at hso
          obtain ⟨⟨p1, p2⟩, p3⟩ := hso
          have hjd := hbef j p2
          have hjlt : j < ops.size := by
            unfold dstOf at p1
            cases hoj : ops[j]? with
            | none => simp [hoj] at p1
            | some oj => exact (Array.getElem?_eq_some_iff.1 hoj).1
          rcases hTD with ⟨j', x, z1, z2, z3, z4, z5, z6⟩ | ⟨z1, z2⟩
          · have hjj : j' = j := by
              rcases p3 j' z1 with (((y | y) | y) | y) | y
              · exact absurd z3 y
              · exact y
              · subst y; rw [hil] at z2; cases z2
              · rw [hnot j' y] at z2; cases z2
              · have := blt_lt y
                exact absurd p1 (z5 j this hjlt hjd)
            subst hjj
            rw [z6]
            have q2' : T[j']? = some u := q2
            rw [q2'] at z4; exact z4.symm
          · exact absurd p1 (z1 j hjlt hjd)
      have r1 := r.fewer Tm hmini
      refine wpOp_mono (fun a' w' q => ?_) (m5 h2 hm lb w0 U w a _ r1)
      obtain ⟨hm', lb', cv, k1, k2, rfl, k4, k5⟩ := q
      have r2 := r.withTmps k5 k1 k2
      have hsize : (listed.setIfInBounds i true).size = ops.size := by simp [hsz]
      have hget : ∀ j, (listed.setIfInBounds i true).getD j false = (j == i || listed.getD j false) := by
        intro j
        by_cases z : j = i
        · subst z
          have hl : j < listed.size := by omega
          simp [hl]
        · have : i ≠ j := fun e => z e.symm
          rw [getD_set_ne false this]
          simp [z]
      refine ih (listed.setIfInBounds i true) hm0 hm' lb' w' (a.put o.dst cv) (if D[i].s then kk + 1 else kk) L' H' hsize ?_ ?_ ?_ ?_ m3 (GM.leb_trans hle (k1.leb b)) ?_
      · -- the count
        have hcount : ∀ N, i < N → (List.range N).countP (fun j => !(listed.getD j false)) = (List.range N).countP (fun j => !((listed.setIfInBounds i true).getD j false)) + 1 := by
          intro N
          induction N with
          | zero => intro h; omega
          | succ N ihN =>
            intro hN
            rw [List.range_succ, List.countP_append, List.countP_append]
            by_cases z : i = N
            · subst z
              have e : (List.range i).countP (fun j => !(listed.getD j false)) = (List.range i).countP (fun j => !((listed.setIfInBounds i true).getD j false)) := by
                refine List.countP_congr fun j hj => ?_
                have : j ≠ i := by have := List.mem_range.1 hj; omega
                rw [hget j]; simp [this]
              rw [e]
              have e1 : List.countP (fun j => !(listed.getD j false)) [i] = 1 := by simp only [List.countP_cons, List.countP_nil, hil]; rfl
              have e2 : List.countP (fun j => !((listed.setIfInBounds i true).getD j false)) [i] = 0 := by simp only [List.countP_cons, List.countP_nil, hget i]; simp
              rw [e1, e2]
            · rw [ihN (by omega)]
              have : N ≠ i := fun e => z e.symm
              simp only [List.countP_cons, List.countP_nil, hget N]
              simp [this]; omega
        have := hcount ops.size hlt
        omega
      · intro j hj x hx
        rw [hget] at hj ⊢
        by_cases z : j = i
        · subst z; rw [hbef x hx]; simp
        · simp [z] at hj; rw [hM j (by simpa using hj) x hx]; simp
      · split
        · rename_i hs
          have := lookup_lt (g2 hs); omega
        · exact hk
      · intro q s hq
        rw [hget]
        by_cases hs : D[i].s = true
        · have hSk := g2 hs
          simp only [hs, if_true]
          by_cases z : s = i
          · subst z
            have hqk : ¬ q < kk := fun y => by have := (hS q s hq).2 y; rw [hil] at this; cases this
            have hqe : q = kk := by
              rcases Nat.lt_or_ge kk q with y | y
              · -- s = S[q] needs S[q-1], which is S[kk] or behind it
                obtain ⟨p, rfl⟩ : ∃ p, q = p + 1 := ⟨q - 1, by omega⟩
                have hpl : p < S.length := by have := lookup_lt hq; omega
                have hp : S[p]? = some S[p] := List.getElem?_eq_getElem hpl
                have := hbef _ (s2 p _ _ hp hq)
                have := (hS p _ hp).1 this
                omega
              · omega
            rw [hqe]; simp
          · have hne : q ≠ kk := fun e => by subst e; rw [hSk] at hq; cases hq; exact z rfl
            simp only [z, beq_iff_eq, Bool.or_eq_true, false_or]
            rw [hS q s hq]; omega
        · have hs' : D[i].s = false := by simpa using hs
          simp only [hs', Bool.false_eq_true, if_false]
          have z : s ≠ i := fun e => g3 hs' (e ▸ List.mem_of_getElem? hq)
          simp only [z, beq_iff_eq, Bool.or_eq_true, false_or]
          exact hS q s hq
      · -- the slots
        have hTi : T[i]? = some v := m4
        have hlook : ∀ t u, lk (TD ops T T0 (fun j => (listed.setIfInBounds i true).getD j false) ops.size) t = some u →
            (o.dst = some t ∧ u = v) ∨ (o.dst ≠ some t ∧ lk (TD ops T T0 (fun j => listed.getD j false) ops.size) t = some u) := by
          intro t u hu
          have hdi : dstOf ops i = o.dst := by unfold dstOf; rw [h2]; rfl
          have hA := TD_spec (ops := ops) (T := T) (T0 := T0) (d := fun j => (listed.setIfInBounds i true).getD j false) (m := ops.size) (by omega) (t := t)
          have hB := TD_spec (ops := ops) (T := T) (T0 := T0) (d := fun j => listed.getD j false) (m := ops.size) (by omega) (t := t)
          by_cases hdt : o.dst = some t
          · refine .inl ⟨hdt, ?_⟩
            rcases hA with ⟨j, x, z1, z2, z3, z4, z5, z6⟩ | ⟨z1, z2⟩
            · have hji : j = i := by
                by_cases y : j = i
                · exact y
                · exfalso
                  have hjd : listed.getD j false = true := by
                    have z2' := z2
                    simp only [hget] at z2'
                    simpa [y] using z2'
                  rcases Nat.lt_or_ge j i with c | c
                  · exact absurd (by rw [hdi]; exact hdt) (z5 i c hlt (by simp [hget]))
                  · have hgt : i < j := by omega
                    -- j is behind i
                    have hDj : D[j]? = some D[j] := List.getElem?_eq_getElem (by omega)
                    have hopj := opsOk_get c1 hDj
                    rw [Nat.zero_add] at hopj
                    unfold opOk at hopj
                    simp only [Bool.and_eq_true] at hopj
                    have h7 := hopj.2.2.1
                    rw [z3] at h7
                    simp only [Bool.and_eq_true, List.all_eq_true, List.mem_range, Bool.or_eq_true, bne_iff_ne, ne_eq] at h7
                    rcases h7.2 i hgt with y2 | y2
                    · exact y2 (by rw [hdi]; exact hdt)
                    · have := hM j hjd i y2; rw [hil] at this; cases this
              subst hji
              rw [hTi] at z4
              rw [z6] at hu; cases hu; exact (Option.some.inj z4).symm
            · exact absurd (by rw [hdi]; exact hdt) (z1 i hlt (by simp [hget]))
          · refine .inr ⟨hdt, ?_⟩
            rcases hA with ⟨j, x, z1, z2, z3, z4, z5, z6⟩ | ⟨z1, z2⟩
            · have hji : j ≠ i := fun e => by subst e; rw [hdi] at z3; exact hdt z3
              have hjd : listed.getD j false = true := by
                have z2' := z2
                simp only [hget] at z2'
                simpa [hji] using z2'
              rcases hB with ⟨j', x', y1, y2, y3, y4, y5, y6⟩ | ⟨y1, y2⟩
              · have hjj : j' = j := by
                  rcases Nat.lt_trichotomy j' j with c | c | c
                  · exact absurd z3 (y5 j c z1 hjd)
                  · exact c
                  · exact absurd y3 (z5 j' c y1 (by have : listed.getD j' false = true := y2; simp only [hget, this]; simp))
                subst hjj
                rw [z4] at y4; cases y4
                rw [y6, ← z6]; exact hu
              · exact absurd z3 (y1 j z1 hjd)
            · rcases hB with ⟨j', x', y1, y2, y3, y4, y5, y6⟩ | ⟨y1, y2⟩
              · exact absurd y3 (z1 j' y1 (by have : listed.getD j' false = true := y2; simp only [hget, this]; simp))
              · rw [y2, ← z2]; exact hu
        have hdlt : ∀ t, o.dst = some t → Nat.blt t n = true := by
          intro t ht
          have hdi : dstOf ops i = some t := by unfold dstOf; rw [h2]; exact ht
          have h7 := o3
          rw [hdi] at h7
          simp only [Bool.and_eq_true] at h7
          exact h7.1
        cases hd : o.dst with
        | none =>
          exact r2.fewer _ fun t u hu => by
            rcases hlook t u hu with ⟨q1, _⟩ | ⟨_, q2⟩
            · rw [hd] at q1; cases q1
            · exact q2
        | some t0 =>
          have r3 := Rel.push r2 (hdlt t0 hd) k4
          exact r3.fewer _ fun t u hu => by
            rcases hlook t u hu with ⟨q1, rfl⟩ | ⟨q1, q2⟩
            · rw [hd] at q1; cases q1; exact lk_cons_self _ _ _
            · have : t0 ≠ t := fun e => q1 (by rw [hd, e])
              show lk ((t0, v) :: _) t = some u
              rw [lk_cons_ne this]; exact q2

/-- A region that draws its order. -/
theorem awp_draw {id : Nat} {L0 : List (List Value)} {H0 : AH} {L1 : List (List Value)} {H1 : AH} (T : List Value) (LH : List (List (List Value) × AH)) (D : List DOp) (S plan : List Nat) (hm : P.follows .mixedOrders = true)
    (hck : drawOk n ops D S plan = true) (hT : Nat.beq T.length ops.size = true) (h0 : LH[0]? = some (L0, H0)) (hlast : LH[S.length]? = some (L1, H1)) (hst : DSteps P ops n b T0 T LH 0 ops.toList D)
    (k : Q .normal ⟨n, b, TD ops T T0 (fun _ => true) ops.size, L1, H1⟩) : AWp P (.region id ops true) Q ⟨n, b, T0, L0, H0⟩ := by
  intro hm' lb w0 U w a r
  have hT' := Nat.eq_of_beq_eq_true hT
  have hrep : ∀ i, (Array.replicate ops.size false).getD i false = false := by intro i; by_cases q : i < ops.size <;> simp [Array.getElem?_replicate, q]
  refine wp_region_any hm (draw_any hck hT' hst hlast k w0 U ops.size (Array.replicate ops.size false) hm' hm' lb _ a 0 L0 H0 (by simp) ?_ (fun i hi => by rw [hrep] at hi; cases hi) (Nat.zero_le _) (fun q s hq => ?_) h0 (GM.leb_refl _ _) ?_)
  · have : (List.range ops.size).countP (fun i => !((Array.replicate ops.size false).getD i false)) = (List.range ops.size).length := by
      rw [List.countP_eq_length]
      intro i _
      rw [hrep]; rfl
    rw [this]; simp
  · rw [hrep]; constructor
    · intro h; cases h
    · intro h; omega
  · rw [TD_none hrep ops.size]
    exact r.drawn (w.drawn + 1)
theorem dst1 {i k : Nat} {o : Oper} {x : DOp} {Tm : List (Nat × Value)} {L L' : List (List Value)} {H H' : AH} {v : Value} (hks : x.ks = [k]) (hm : mini T0 T x.src = some Tm) (h1 : LH[k]? = some (L, H)) (h2 : LH[cond x.s (k + 1) k]? = some (L', H')) (hv : T[i]? = some v)
    (h : AStep P ops i o ⟨n, b, Tm, L, H⟩ v L' H') : DStep P ops n b T0 T LH i o x := by
  intro k' hk'
  rw [hks] at hk'
  simp at hk'
  subst hk'
  refine ⟨Tm, L, H, L', H', v, hm, h1, ?_, hv, h⟩
  cases hs : x.s with
  | true => simp only [hs, cond_true] at h2; simpa using h2
  | false => simp only [hs, cond_false] at h2; simpa using h2
theorem dstepN {i : Nat} {o : Oper} {x : DOp} (h : ∀ k ∈ x.ks, ∃ Tm L H L' H' v, mini T0 T x.src = some Tm ∧ LH[k]? = some (L, H) ∧ LH[cond x.s (k + 1) k]? = some (L', H') ∧ T[i]? = some v ∧ AStep P ops i o ⟨n, b, Tm, L, H⟩ v L' H') : DStep P ops n b T0 T LH i o x := by
  intro k hk
  obtain ⟨Tm, L, H, L', H', v, h1, h2, h3, h4⟩ := h k hk
  refine ⟨Tm, L, H, L', H', v, h1, h2, ?_, h4⟩
  cases hs : x.s with
  | true => simp only [hs, cond_true] at h3; simpa using h3
  | false => simp only [hs, cond_false] at h3; simpa using h3
end

end Go.Fhl
