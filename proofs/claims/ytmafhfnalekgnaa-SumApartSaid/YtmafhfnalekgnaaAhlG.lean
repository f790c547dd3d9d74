/-
  The abstract heap logic, part seven: slices of slices, append, copy, clear, bytes and strings.
-/
import Derived.Test.YtmafhfnalekgnaaAhlF
namespace Go.Ahl
set_option linter.unusedVariables false

section
variable {hm : HM} {lb : LM} {w0 : World} {U : Env} {st : AS} {w : World} {a : Act} {P : Program}

/-! ## Bounds -/
def bnd (v : Option Value) (d : Nat) : Option Nat :=
  match v with
  | none => some d
  | some (.int _ i) => if 0 ≤ i then some i.toNat else none
  | _ => none
def optR (hm : HM) (lb : LM) : Option Value → Option Value → Prop
  | none, none => True
  | some x, some y => VR hm lb x y
  | _, _ => False

theorem optR_none {y : Option Value} (h : optR hm lb none y) : y = none := by cases y <;> first | rfl | exact h.elim
theorem optR_some {x : Value} {y : Option Value} (h : optR hm lb (some x) y) : ∃ v, y = some v ∧ VR hm lb x v := by
  cases y with
  | none => exact h.elim
  | some v => exact ⟨v, rfl, h⟩

theorem bnd_rel {v cv : Option Value} {d n : Nat} (h : bnd v d = some n) (hr : optR hm lb v cv) : cv = v ∧ ((v = none ∧ n = d) ∨ ∃ k i, v = some (.int k i) ∧ 0 ≤ i ∧ n = i.toNat) := by
  unfold bnd at h
  split at h
  · rw [optR_none hr]; exact ⟨rfl, .inl ⟨rfl, (Option.some.inj h).symm⟩⟩
  · rename_i k i
    obtain ⟨c, rfl, hc⟩ := optR_some hr
    obtain rfl : c = _ := hc.sr rfl
    split at h
    · exact ⟨rfl, .inr ⟨k, i, rfl, ‹_›, (Option.some.inj h).symm⟩⟩
    · cases h
  · cases h

theorem run_sliceBound {k : IntKind} {i : Int} {y : Nat} {code : BoundsCode} (h0 : 0 ≤ i) (h1 : i.toNat ≤ y) : (Instr.sliceBound (.int k i) y code).run P w = .ok i.toNat w := by
  have : 0 ≤ i ∧ i ≤ (y : Int) := ⟨h0, by omega⟩
  simp [Instr.sliceBound, asIntOf, this]

theorem run_bounds {isSlice : Bool} {len cap l h m : Nat} {lo hi mx : Option Value}
    (em : (mx = none ∧ m = cap) ∨ (hi.isSome = true ∧ ∃ k i, mx = some (.int k i) ∧ 0 ≤ i ∧ m = i.toNat ∧ m ≤ cap))
    (eh : (hi = none ∧ h = len) ∨ ∃ k i, hi = some (.int k i) ∧ 0 ≤ i ∧ h = i.toNat ∧ h ≤ m)
    (el : (lo = none ∧ l = 0) ∨ ∃ k i, lo = some (.int k i) ∧ 0 ≤ i ∧ l = i.toNat ∧ l ≤ h) :
    (Instr.sliceBounds isSlice len cap lo hi mx).run P w = .ok (l, h, m) w := by
  rcases em with ⟨rfl, rfl⟩ | ⟨hs, km, im, rfl, m0, rfl, m1⟩
  · rcases eh with ⟨rfl, rfl⟩ | ⟨kh, ih, rfl, h0, rfl, h1⟩ <;> rcases el with ⟨rfl, rfl⟩ | ⟨kl, il, rfl, l0, rfl, l1⟩ <;>
      simp [Instr.sliceBounds, run_sliceBound, *]
  · rcases eh with ⟨rfl, rfl⟩ | ⟨kh, ih, rfl, h0, rfl, h1⟩
    · simp at hs
    · rcases el with ⟨rfl, rfl⟩ | ⟨kl, il, rfl, l0, rfl, l1⟩ <;> simp [Instr.sliceBounds, run_sliceBound, *]

def aslice (P : Program) (st : AS) (t : TypeId) (x : Value) (lo hi mx : Option Value) : Option Value :=
  match und P t, x with
  | some .string, .string s =>
    match mx, bnd lo 0, bnd hi s.size with
    | none, some l, some h => if l ≤ h ∧ h ≤ s.size then some (.string (s.extract l h)) else none
    | _, _, _ => none
  | some (.slice e), .slice none len cap =>
    match sz P e, bnd lo 0, bnd hi len, bnd mx cap with
    | some s, some l, some h, some m => if l ≤ h ∧ h ≤ m ∧ m ≤ cap ∧ (mx.isSome → hi.isSome) then some (.slice none (h - l) (m - l)) else none
    | _, _, _, _ => none
  | some (.slice e), .slice (some p) len cap =>
    match sz P e, st.heap.get p.block, bnd lo 0, bnd hi len, bnd mx cap with
    | some s, some b, some l, some h, some m =>
      if b.esz = s ∧ l ≤ h ∧ h ≤ m ∧ m ≤ cap ∧ (mx.isSome → hi.isSome) then
        some (.slice (some ⟨p.block, p.off + l * s, if mx.isSome then none else p.spot⟩) (h - l) (m - l))
      else none
    | _, _, _, _, _ => none
  | _, _ => none

theorem aslice_ok (r : Rel hm lb w0 U st w a) {t : TypeId} {x cx v : Value} {lo hi mx clo chi cmx : Option Value} (h : aslice P st t x lo hi mx = some v) (hx : VR hm lb x cx)
    (hlo : optR hm lb lo clo) (hhi : optR hm lb hi chi) (hmx : optR hm lb mx cmx) : ∃ cv, (∀ w, (Instr.sliceAt t cx clo chi cmx).run P w = .ok cv w) ∧ VR hm lb v cv := by
  unfold aslice at h
  split at h
  · rename_i s hu
    obtain rfl : cx = _ := hx.sr rfl
    split at h
    · rename_i l hh el eh
      split at h
      · rename_i hc
        cases h
        obtain ⟨rfl, bl⟩ := bnd_rel el hlo
        obtain ⟨rfl, bh⟩ := bnd_rel eh hhi
        obtain rfl := optR_none hmx
        refine ⟨_, fun w => ?_, .of_sr rfl rfl⟩
        simp only [Instr.sliceAt, Sem.run_bind, run_und hu, Result.andThen_ok, Instr.slice]
        have := run_bounds (P := P) (w := w) (isSlice := false) (len := s.size) (cap := s.size) (l := l) (h := hh) (m := s.size) (lo := clo) (hi := chi) (mx := none) (.inl ⟨rfl, rfl⟩)
          (bh.imp (fun q => q) (fun ⟨k, i, q1, q2, q3⟩ => ⟨k, i, q1, q2, q3, hc.2⟩)) (bl.imp (fun q => q) (fun ⟨k, i, q1, q2, q3⟩ => ⟨k, i, q1, q2, q3, hc.1⟩))
        simp [this]
      · cases h
    · cases h
  · rename_i e len cap hu
    obtain rfl : cx = _ := hx.sr rfl
    split at h
    · rename_i s l hh m hs el eh em
      split at h
      · rename_i hc
        cases h
        obtain ⟨rfl, bl⟩ := bnd_rel el hlo
        obtain ⟨rfl, bh⟩ := bnd_rel eh hhi
        obtain ⟨rfl, bm⟩ := bnd_rel em hmx
        refine ⟨.slice none (hh - l) (m - l), fun w => ?_, .of_sr rfl rfl⟩
        simp only [Instr.sliceAt, Sem.run_bind, run_und hu, Result.andThen_ok, Instr.slice]
        have := run_bounds (P := P) (w := w) (isSlice := true) (len := len) (cap := cap) (l := l) (h := hh) (m := m) (lo := clo) (hi := chi) (mx := cmx)
          (bm.imp (fun q => q) (fun ⟨k, i, q1, q2, q3⟩ => ⟨hc.2.2.2 (by rw [q1]; rfl), k, i, q1, q2, q3, hc.2.2.1⟩))
          (bh.imp (fun q => q) (fun ⟨k, i, q1, q2, q3⟩ => ⟨k, i, q1, q2, q3, hc.2.1⟩)) (bl.imp (fun q => q) (fun ⟨k, i, q1, q2, q3⟩ => ⟨k, i, q1, q2, q3, hc.1⟩))
        simp [this, run_sizeOf hs]
      · cases h
    · cases h
  · rename_i e p len cap hu
    split at h
    · rename_i s b l hh m hs hb el eh em
      split at h
      · rename_i hc
        obtain ⟨c1, c2, c3, c4, c5⟩ := hc
        cases h
        obtain ⟨rfl, bl⟩ := bnd_rel el hlo
        obtain ⟨rfl, bh⟩ := bnd_rel eh hhi
        obtain ⟨rfl, bm⟩ := bnd_rel em hmx
        obtain ⟨j, o, cap', h1, rfl, h3, h4, h5, h6, h7⟩ := hx.sr rfl
        obtain ⟨i0, C, e0, fz, g1, g2, g3, g4, g5, g6, g7⟩ := r.blk _ b hb
        rw [h1] at g1; cases g1
        -- the cap at hand
        have hmm : ∃ m', (cmx = none ∧ m' = cap' ∨ (chi.isSome = true ∧ ∃ k i, cmx = some (.int k i) ∧ 0 ≤ i ∧ m' = i.toNat ∧ m' ≤ cap')) ∧ m ≤ m' ∧ m' ≤ cap' ∧ (cmx.isSome = true → m' = m) ∧ (p.spot = none → m' = m) := by
          rcases bm with ⟨q1, q2⟩ | ⟨k, i, q1, q2, q3⟩
          · exact ⟨cap', .inl ⟨q1, rfl⟩, by omega, Nat.le_refl _, fun q => by rw [q1] at q; simp at q, fun q => by rw [h7 q]; exact q2.symm⟩
          · exact ⟨m, .inr ⟨c5 (by rw [q1]; rfl), k, i, q1, q2, q3, by omega⟩, Nat.le_refl _, by omega, fun _ => rfl, fun _ => rfl⟩
        obtain ⟨m', hm1, hm2, hm3, hm4, hm5⟩ := hmm
        have hrun := fun w => run_bounds (P := P) (w := w) (isSlice := true) (len := len) (cap := cap') (l := l) (h := hh) (m := m') (lo := clo) (hi := chi) (mx := cmx) hm1
          (bh.imp (fun q => q) (fun ⟨k, i, q1, q2, q3⟩ => ⟨k, i, q1, q2, q3, by omega⟩)) (bl.imp (fun q => q) (fun ⟨k, i, q1, q2, q3⟩ => ⟨k, i, q1, q2, q3, c2⟩))
        have hesz : j.esz = s := by omega
        have hsz : o + cap' * s ≤ j.size := by rw [← hesz]; exact h5
        by_cases hml : m' = l
        · refine ⟨.slice (some ⟨j.blk, o, none⟩) (hh - l) (m' - l), fun w => ?_, .of_sr rfl ⟨j, o, m' - l, h1, rfl, by omega, fun q => by omega, ?_, by omega, fun q => ?_⟩⟩
          · simp only [Instr.sliceAt, Sem.run_bind, run_und hu, Result.andThen_ok, Instr.slice, hrun, run_sizeOf hs]
            simp [hml]
          · have : m' - l = 0 := by omega
            rw [this]; omega
          · by_cases hq : cmx.isSome = true
            · rw [hm4 hq]
            · simp [hq] at q; rw [hm5 q]
        · refine ⟨.slice (some ⟨j.blk, o + l * s, none⟩) (hh - l) (m' - l), fun w => ?_, .of_sr rfl ⟨j, o + l * s, m' - l, h1, rfl, by omega, fun q => ?_, ?_, by omega, fun q => ?_⟩⟩
          · simp only [Instr.sliceAt, Sem.run_bind, run_und hu, Result.andThen_ok, Instr.slice, hrun, run_sizeOf hs]
            simp [hml, add_none]
          · have := h4 (by omega)
            simp only; omega
          · rw [hesz]
            have : l * s + (m' - l) * s = m' * s := by rw [← Nat.add_mul]; congr 1; omega
            have h8 : m' * s ≤ cap' * s := Nat.mul_le_mul_right s hm3
            omega
          · by_cases hq : cmx.isSome = true
            · rw [hm4 hq]
            · simp [hq] at q; rw [hm5 q]
      · cases h
    · cases h
  · cases h
end

end Go.Ahl
