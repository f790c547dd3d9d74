/-
  A logic over the model, continued: what hangs on whether a row is nil; copies of texts into rows of bytes. Nothing of any program stands here.
-/
import Derived.Test.YtpfbnghalpfoaaaDoorFN
namespace Go.Fhl
set_option linter.unusedVariables false
set_option linter.unusedSimpArgs false
section
variable {P : Program} {ops : Array Oper} {Q : Exit → AS → Prop} {i n b d : Nat} {o : Oper} {l : List Oper} {T : List (Nat × Value)} {L : List (List Value)} {H : AH}
/-- A step whose value the state does not tell: one of a family. -/
theorem arun_stepE {β : Type} (F : β → Value) (hp : β → Prop) (hd : o.dst = some d) (hn : Nat.blt d n = true) (hg : awanted ops T o = some true)
    (h : ∀ hm lb w0 U w a, Rel hm lb w0 U ⟨n, b, T, L, H⟩ w a → ∃ x, hp x ∧ ∃ cv, (execOp a.eval o).run P w = .ok (.value cv) w ∧ VR hm lb (F x) cv)
    (k : ∀ x, hp x → ARun P ops (i + 1) l Q ⟨n, b, (d, F x) :: T, L, H⟩) : ARun P ops i (o :: l) Q ⟨n, b, T, L, H⟩ := by
  intro hl hm lb w0 U w a r
  have ho : ops[i]? = some o := hl 0 o rfl
  rw [List.length_cons, List.range'_succ, wpOps_cons]
  obtain ⟨x, hx, cv, h1, h2⟩ := h hm lb w0 U w a r
  have hw := awanted_ok r hg
  refine wpOp_mono (K := fun a' w' => a' = a.put o.dst cv ∧ w' = w) (fun a' w' q => ?_) ?_
  · obtain ⟨rfl, rfl⟩ := q
    rw [hd]
    exact k x hx (fun x o' e => by rw [Nat.add_assoc, Nat.add_comm 1 x]; exact hl (x + 1) o' (by simpa using e)) hm lb w0 U _ _ (Rel.push r hn h2)
  · simp only [wpOp, ho, hw, if_true]
    refine .inl ?_
    unfold Oper.wp
    rw [h1]
    exact ⟨rfl, rfl⟩
end
theorem equalIn_slNil {P : Program} {w : World} (k : Nat) {t e : TypeId} {a : Option Addr} {n c m q : Nat} (hu : und P t = some (.slice e)) : (Op.equalIn (k + 1) t (.slice a n c) (.slice none m q)).run P w = .ok a.isNone w := by
  cases a <;> simp [Op.equalIn, run_und hu]
theorem isNil_ok {α : Type} {c : α → List Value} {s : Nat} {xs : List α} {P : Program} {n b : Nat} {T : List (Nat × Value)} {L : List (List Value)} {H : AH} {t e u : TypeId} {x y : Operand} {d : Option Tmp} {ty : TypeId} {pos : String} {af : Array Edge} {g : Option (Nat × Bool)} (hc : CE c (s + 1)) (hu : und P t = some (.slice e)) (hx : ev T x = SL (s + 1) c xs) (hy : ev T y = .slice none 0 0) :
    ∀ hm lb w0 U w a, Rel hm lb w0 U ⟨n, b, T, L, H⟩ w a → ∃ v : Bool, (v = true → xs = []) ∧ ∃ cv, (execOp a.eval ⟨d, .binOp .eql t x y u, ty, pos, af, g⟩).run P w = .ok (.value cv) w ∧ VR hm lb (Bo v) cv := by
  intro hm lb w0 U w a r
  obtain ⟨a0, m, cap, h1, h2, h3, h4⟩ := (r.evEq hx).sr rfl
  have h5 : a.eval y = .slice none 0 0 := (r.evEq hy).sr rfl
  refine ⟨a0.isNone, fun q => ?_, .bool a0.isNone, ?_, .of_sr rfl rfl⟩
  · rcases h4 with h4 | ⟨B, o, rfl, _⟩
    · have := hc.flat xs
      rw [List.toList_toArray] at h4
      rw [h4] at this
      cases xs with
      | nil => rfl
      | cons x xs => simp at this
    · cases q
  · simp only [execOp]
    rw [h1, h5, Sem.run_bind]
    simp only [eqGuard, binOp, equal_eq, Sem.run_bind, equalIn_slNil 9999 hu]
    rfl
theorem clone_nil {α : Type} {b : Nat} {xs r : List α} (h1 : xs = []) (h : (appL b [] xs).bind (fun x => some x) = some r) : r = [] := by
  subst h1
  obtain ⟨x, hx, h⟩ := bindS h
  cases h
  exact (appL_some hx).2

/-! ## Copies of texts -/
def copyL (xs : List UInt8) (off : Nat) (u : Str) : List UInt8 := xs.take off ++ (u.take (min u.length (xs.length - off)) ++ xs.drop (off + min u.length (xs.length - off)))
theorem copyL_length (xs : List UInt8) (off : Nat) (u : Str) (h : off ≤ xs.length) : (copyL xs off u).length = xs.length := by
  unfold copyL; simp; omega
theorem copyL_spl (xs : List UInt8) (off : Nat) (u : Str) (h : off ≤ xs.length) : spl (xs.flatMap c8) off ((u.take (min u.length (xs.length - off))).flatMap c8) = (copyL xs off u).flatMap c8 := by
  have h1 := ce8.take xs off
  have h2 := ce8.drop xs (off + min u.length (xs.length - off))
  have h3 := ce8.flat (u.take (min u.length (xs.length - off)))
  simp only [Nat.mul_one] at h1 h2 h3
  unfold spl copyL
  rw [h3, h1, List.flatMap_append, List.flatMap_append, List.append_assoc, List.length_take, Nat.min_eq_left (Nat.min_le_left _ _), h2]
theorem copy_run {P : Program} {w w' : World} {t e : TypeId} {ts : Array TypeId} {ty : TypeId} {p : Option Addr} {len cap : Nat} {u : Str} (ht : ts[0]? = some t) (hu : und P t = some (.slice e)) (hs : sz P e = some 1)
    (hst : (match p with | some a => storeCells a ((u.take (min u.length len)).flatMap c8) | none => pure ()).run P w = .ok () w') :
    (Builtin.copy_ ts ty #[.slice p len cap, S u]).run P w = .ok (goInt ((min u.length len : Nat) : Int)) w' := by
  have hcells : ((sB u).extract 0 (min u.length len)).data.map (fun b => Value.int .u8 b.toNat) = ((u.take (min u.length len)).flatMap c8).toArray := by
    apply Array.toList_inj.1
    rw [← bcells_sB (u.take (min u.length len))]
    have e1 : (sB u).extract 0 (min u.length len) = sB (u.take (min u.length len)) := by
      have := sB_extract u 0 (min u.length len)
      simpa using this
    rw [e1]
    unfold bcells; simp
  have hmin : Nat.min (sB u).size len = min u.length len := by rw [sB_size]
  unfold Builtin.copy_
  simp only [ht]
  simp only [List.getElem?_toArray, List.getElem?_cons_zero, List.getElem?_cons_succ, Sem.run_bind, run_und hu, Result.andThen_ok, Builtin.lenOf, Sem.run_pure, hmin, run_sizeOf hs, Builtin.firstCells, hcells]
  cases p with
  | none => simp at hst; subst hst; simp
  | some a => simp only at hst; simp [hst]
theorem ups_same {α : Type} {l : List (Nat × α)} {n : Nat} {y : α} (h : lk l n = some y) : ups l n y = l := by
  induction l with
  | nil => cases h
  | cons p l ih =>
    obtain ⟨m, x⟩ := p
    by_cases q : m = n
    · subst q
      rw [lk_cons_self] at h; cases h
      simp [ups, beq_self]
    · rw [lk_cons_ne q] at h
      simp only [ups, beq_ne q, cond_false, ih h]
theorem storeCells_nil {P : Program} {w : World} (a : Addr) : (storeCells a []).run P w = .ok () w := rfl
section
variable {P : Program} {n0 b0 : Nat} {Tm : List (Nat × Value)} {Lo : List (List Value)} {He : AH} {x y : Operand} {d : Option Tmp} {ty : TypeId} {pos : String} {af : Array Edge} {g : Option (Nat × Bool)}
theorem goInt_vr {hm : GM} {lb : LM} {n : Nat} : VR hm lb (I (n : Int)) (goInt (n : Int)) := .of_sr rfl rfl
/-- A text copied into a row whose block stays. -/
theorem tx_copyF {t1 t2 e : TypeId} {m n : Nat} {xs : List UInt8} {u : Str} {H' : AH} (hu : und P t1 = some (.slice e)) (hs : sz P e = some 1) (hx : ev Tm x = FV m n) (hb : He.get m = some ⟨1, xs.flatMap c8, false⟩) (hn : n = xs.length) (hy : ev Tm y = S u) (hH : He.set m ⟨1, (copyL xs 0 u).flatMap c8, false⟩ = H') :
    AExec P ⟨d, .call ⟨.builtin .copy, #[x, y], #[t1, t2]⟩, ty, pos, af, g⟩ ⟨n0, b0, Tm, Lo, He⟩ (I ((min u.length xs.length : Nat) : Int)) Lo H' :=
  .of_value fun hm lb w0 U w a r => by
    subst hn; subst hH
    obtain ⟨i, o, k1, k2, k3, k4, k5, k6⟩ := (r.evEq hx).sr rfl
    have hy' : a.eval y = S u := (r.evEq hy).sr rfl
    have hspl := copyL_spl xs 0 u (Nat.zero_le _)
    simp only [Nat.sub_zero] at hspl
    by_cases q : min u.length xs.length = 0
    · refine ⟨hm, lb, w, _, ?_, GM.le_refl _, LM.le_refl _, ?_, goInt_vr⟩
      · have := copy_run (P := P) (w := w) (w' := w) (t := t1) (ts := #[t1, t2]) (ty := ty) (p := some ⟨i.blk, o, none⟩) (len := xs.length) (cap := xs.length) (u := u) rfl hu hs (by rw [q]; exact storeCells_nil _)
        simp [execOp, resolve, invoke, builtin, k3, hy', this]
      · have : copyL xs 0 u = xs := by unfold copyL; simp only [Nat.sub_zero]; rw [q]; simp
        rw [this]
        have : He.set m ⟨1, xs.flatMap c8, false⟩ = He := by unfold AH.set; rw [ups_same hb]
        rw [this]; exact r
    · have hlen := ce8.flat (u.take (min u.length xs.length))
      have hfl := ce8.flat xs
      have h1 : VR hm lb (NP m 0) (.pointer (some ⟨i.blk, o, none⟩)) := .of_sr rfl ⟨_, ⟨i, k1, k2, by rw [k5 (by omega)]⟩, rfl⟩
      obtain ⟨c, hc, hcx⟩ := h1.sr rfl
      cases hcx
      obtain ⟨hm', w', g1, g2, g3⟩ := write_blk (P := P) (vs := (u.take (min u.length xs.length)).flatMap c8) (vs' := (u.take (min u.length xs.length)).flatMap c8) r hb (by simp only; rw [hlen, List.length_take]; omega) (ce8.pures _) (.inl ⟨rfl, rfl⟩) hc
        (L2.of_plain (by rw [List.all_eq_true]; intro v hv; obtain ⟨z, _, hz⟩ := List.mem_flatMap.1 hv; simp [c8] at hz; subst hz; rfl)) (fun e => by rw [e] at hlen; simp at hlen; omega)
      refine ⟨hm', lb, w', _, ?_, g2, LM.le_refl _, ?_, goInt_vr⟩
      · have := copy_run (P := P) (w := w) (w' := w') (t := t1) (ts := #[t1, t2]) (ty := ty) (p := some ⟨i.blk, o, none⟩) (len := xs.length) (cap := xs.length) (u := u) rfl hu hs g1
        simp [execOp, resolve, invoke, builtin, k3, hy', this]
      · simp only [hspl] at g3; exact g3
/-- A part of a row that may grow, to be written. -/
abbrev SUB (n off len K : Nat) : Value := .slice (some ⟨n, off, some 2⟩) len K
theorem tx_copyS {t1 t2 e : TypeId} {m off n K : Nat} {xs : List UInt8} {u : Str} {H' : AH} (hu : und P t1 = some (.slice e)) (hs : sz P e = some 1) (hx : ev Tm x = SUB m off n K) (hb : He.get m = some ⟨1, xs.flatMap c8, true⟩) (hK : K = xs.length) (hn : off + n = xs.length) (hy : ev Tm y = S u) (hH : He.set m ⟨1, (copyL xs off u).flatMap c8, true⟩ = H') :
    AExec P ⟨d, .call ⟨.builtin .copy, #[x, y], #[t1, t2]⟩, ty, pos, af, g⟩ ⟨n0, b0, Tm, Lo, He⟩ (I ((min u.length n : Nat) : Int)) Lo H' :=
  .of_value fun hm lb w0 U w a r => by
    subst hK; subst hH
    obtain ⟨i, p, cap', k1, k2, k3, k4, k5⟩ := (r.evEq hx).sr rfl
    have hy' : a.eval y = S u := (r.evEq hy).sr rfl
    have hspl := copyL_spl xs off u (by omega)
    have hno : xs.length - off = n := by omega
    rw [hno] at hspl
    by_cases q : min u.length n = 0
    · refine ⟨hm, lb, w, _, ?_, GM.le_refl _, LM.le_refl _, ?_, goInt_vr⟩
      · have := copy_run (P := P) (w := w) (w' := w) (t := t1) (ts := #[t1, t2]) (ty := ty) (p := p) (len := n) (cap := cap') (u := u) rfl hu hs (by rw [q]; cases p <;> first | rfl | exact storeCells_nil _)
        simp [execOp, resolve, invoke, builtin, k3, hy', this]
      · have : copyL xs off u = xs := by unfold copyL; rw [hno, q]; simp
        rw [this]
        have : He.set m ⟨1, xs.flatMap c8, true⟩ = He := by unfold AH.set; rw [ups_same hb]
        rw [this]; exact r
    · have hlen := ce8.flat (u.take (min u.length n))
      have hfl := ce8.flat xs
      obtain ⟨i', q1, q2, q3, q4, _⟩ := r.blk m _ hb
      simp only at k1
      rw [k1] at q1; cases q1
      have hil : i.len = xs.length := by rw [(q4 rfl).1]; simp only; omega
      have hp := k5 hil (by omega)
      subst hp
      have hc : ARel hm lb ⟨m, off, some ((xs.flatMap c8).length + 1)⟩ ⟨i.blk, off, none⟩ := ⟨i, k1, k2, by omega, rfl, fun _ => rfl⟩
      obtain ⟨hm', w', g1, g2, g3⟩ := write_blk (P := P) (vs := (u.take (min u.length n)).flatMap c8) (vs' := (u.take (min u.length n)).flatMap c8) r hb (by simp only; rw [hlen, List.length_take]; omega) (ce8.pures _) (.inr ⟨rfl, rfl⟩) hc
        (L2.of_plain (by rw [List.all_eq_true]; intro v hv; obtain ⟨z, _, hz⟩ := List.mem_flatMap.1 hv; simp [c8] at hz; subst hz; rfl)) (fun e => by rw [e] at hlen; simp at hlen; omega)
      refine ⟨hm', lb, w', _, ?_, g2, LM.le_refl _, ?_, goInt_vr⟩
      · have := copy_run (P := P) (w := w) (w' := w') (t := t1) (ts := #[t1, t2]) (ty := ty) (p := some ⟨i.blk, off, none⟩) (len := n) (cap := cap') (u := u) rfl hu hs g1
        simp [execOp, resolve, invoke, builtin, k3, hy', this]
      · simp only [hspl] at g3; exact g3
theorem tx_subG {t e : TypeId} {lo : Option Operand} {l : Int} {m n : Nat} {xs : List UInt8} (hu : und P t = some (.slice e)) (hs : sz P e = some 1) (hx : ev Tm x = GV m n) (hb : He.get m = some ⟨1, xs.flatMap c8, true⟩) (hn : n = xs.length) (hl : Lo? Tm lo l) (h0 : 0 ≤ l ∧ l ≤ xs.length) :
    AExec P ⟨d, .slice t x lo none none, ty, pos, af, g⟩ ⟨n0, b0, Tm, Lo, He⟩ (SUB m l.toNat (xs.length - l.toNat) xs.length) Lo He :=
  .of_read fun hm lb w0 U w a r => by
    subst hn
    obtain ⟨i, p, cap', k1, k2, k3, k4, k5⟩ := (r.evEq hx).sr rfl
    simp only at k1
    obtain ⟨i', q1, q2, q3, q4, _⟩ := r.blk m _ hb
    rw [k1] at q1; cases q1
    have hfl := ce8.flat xs
    have hil : i.len = xs.length := by rw [(q4 rfl).1]; simp only; omega
    rw [q2] at k5
    simp only [Nat.mul_one] at k5
    obtain ⟨c1, c2, c3⟩ := k5 hil
    have bl := bnd_rel (hl.bnd h0.1) (optR_map r lo)
    have hrun := run_bounds (P := P) (w := w) (isSlice := true) (len := xs.length) (cap := cap') (l := l.toNat) (h := xs.length) (m := cap') (lo := lo.map a.eval) (hi := none) (mx := none) (.inl ⟨rfl, rfl⟩) (.inl ⟨rfl, rfl⟩)
      (bl.imp (fun q => q) (fun ⟨k, i, q1, q2, q3⟩ => ⟨k, i, q1, q2, q3, by omega⟩))
    refine ⟨.slice (if cap' - l.toNat = 0 then p else p.map (·.add (l.toNat * 1))) (xs.length - l.toNat) (cap' - l.toNat), ?_, .of_sr rfl ⟨i, _, _, k1, k2, rfl, by omega, fun _ hne => ?_⟩⟩
    · simp only [execOp, Option.map_none, Instr.sliceAt, Sem.run_bind, run_und hu, Result.andThen_ok, k3, Instr.slice, hrun, run_sizeOf hs]
      by_cases hml : cap' = l.toNat
      · simp [hml]
      · have : ¬ cap' - l.toNat = 0 := by omega
        cases p <;> simp [this, hml]
    · have : ¬ cap' - l.toNat = 0 := by omega
      rw [if_neg this, c2 (by omega)]
      simp [add_none]
def inS (n : Nat) (l : Int) : Option Unit := if 0 ≤ l ∧ l ≤ n then some () else none
theorem inS_ok {n : Nat} {l : Int} {z : Unit} (h : inS n l = some z) : 0 ≤ l ∧ l ≤ n := by
  unfold inS at h
  split at h
  · assumption
  · cases h
end
end Go.Fhl
