/-
  A logic over the model, part sixteen: what is frozen as it is read; new rows that nobody writes.
-/
import Derived.Test.YtpfbnghalpfoaaaDoorFW
namespace Go.Fhl
set_option linter.unusedVariables false
set_option linter.unusedSimpArgs false
section
variable {P : Program} {n0 b0 : Nat} {Tm Tm' : List (Nat × Value)} {Lo L' : List (List Value)} {He H' : AH} {v : Value} {x y : Operand} {d : Option Tmp} {ty : TypeId} {pos : String} {af : Array Edge} {g : Option (Nat × Bool)} {o : Oper}
/-- A block is frozen, and then something is done. -/
theorem ex_fz (m : Nat) {bk : Blk} (hb : He.get m = some bk) (hT : FzT m bk Tm Tm') (h : AExec P o ⟨n0, b0, Tm', Lo, He.kill m⟩ v L' H') : AExec P o ⟨n0, b0, Tm, Lo, He⟩ v L' H' := by
  intro hm lb w0 U w a Q r
  obtain ⟨hm1, h1, h2⟩ := r.freezeAll hb hT (FzL.refl _)
  refine Oper.wp_mono ?_ (h hm1 lb w0 U w a Q h2)
  rintro a' w' ⟨hm2, lb2, cv, k1, k2, k3, k4, k5⟩
  exact ⟨hm2, lb2, cv, GM.le_trans h1 k1, k2, k3, k4, r.withTmps k5 (GM.le_trans h1 k1) k2⟩

/-- A new row of noughts that is frozen at once. -/
theorem ex_makeD {t e : TypeId} {s b : Nat} {z : Value} {kl kc : IntKind} {l : Int} {zs : List Value} (hu : und P t = some (.slice e)) (hs : sz P e = some (s + 1)) (hb : bt P e = some b) (hz : zr P e = some z) (hzp : z.cells.toList.all plain1 = true) (hzs : z.cells.size = s + 1)
    (hx : ev Tm x = .int kl l) (hy : ev Tm y = .int kc l) (hc : 0 ≤ l ∧ l ≤ l ∧ l ≤ 9223372036854775807 ∧ (b : Int) * l ≤ 281474976710656) (hcs : zcells z.cells.toList (l.toNat * (s + 1)) = zs) :
    AExec P ⟨d, .makeSlice t x y, ty, pos, af, g⟩ ⟨n0, b0, Tm, Lo, He⟩ (.iface (s + 1) (.tuple zs.toArray)) Lo He :=
  .of_value fun hm lb w0 U w a r => by
    subst hcs
    have hzc := zcells_plain (n := l.toNat * (s + 1)) hzp (by right; simp; omega)
    have hlen : (zcells z.cells.toList (l.toNat * (s + 1))).length = l.toNat * (s + 1) := by simp [zcells]
    obtain ⟨hm', h3, h4, h5⟩ := r.newDeep (zcells z.cells.toList (l.toNat * (s + 1))).toArray e (0, 0) (zcells z.cells.toList (l.toNat * (s + 1))) (plain_pure hzc) (fun k v hk => by
      have := L2.of_plain (hm := hm) (lb := []) hzc
      obtain ⟨v', g1, g2⟩ := this.get hk
      exact ⟨v', by simpa using g1, g2⟩)
    have ex : a.eval x = .int kl l := (r.evEq hx).sr rfl
    have ey : a.eval y = .int kc l := (r.evEq hy).sr rfl
    refine ⟨hm', lb, _, .slice (some ⟨w.heap.size, 0, none⟩) l.toNat l.toNat, by simp [execOp, ex, ey, makeSlice_run hu hs hb hz hzs hc], h3, LM.le_refl _, h4, .of_sr rfl ⟨_, l.toNat, l.toNat, rfl, hlen.symm, Nat.le_refl _, .inr ⟨_, 0, rfl, fun j c hj => by rw [Nat.zero_add]; exact h5 j c hj⟩⟩⟩

theorem tx_makeD {α : Type} {c : α → List Value} {e : α} {ys : List α} {t el : TypeId} {s b : Nat} {z : Value} {kl kc : IntKind} {n : Int} (hc : CE c (s + 1)) (hu : und P t = some (.slice el)) (hs : sz P el = some (s + 1)) (hb : bt P el = some b) (hz : zr P el = some z) (hzc : z.cells.toList = c e) (hzp : (c e).all plain1 = true)
    (hx : ev Tm x = .int kl n) (hy : ev Tm y = .int kc n) (h : makeL b n e = some ys) : AExec P ⟨d, .makeSlice t x y, ty, pos, af, g⟩ ⟨n0, b0, Tm, Lo, He⟩ (SL (s + 1) c ys) Lo He := by
  obtain ⟨h1, rfl⟩ := makeL_some h
  exact ex_makeD hu hs hb hz (by rw [hzc]; exact hzp) (by rw [← Array.length_toList, hzc, hc.len]) hx hy h1 (by rw [hzc]; exact zcells_rep hc (Nat.succ_pos _) _)

/-- Appended to nothing: a new row that is frozen at once. -/
theorem app_noneD {hm : GM} {lb : LM} {w0 : World} {U : Env} {st : AS} {w : World} {a : Act} (r : Rel hm lb w0 U st w a) {sT xT T e : TypeId} {s b n : Nat} {z : Value} {base : Option Addr} {cx : Value} {new : List Value} (hb : bt P e = some b) (hb1 : 1 ≤ b) (hz : zr P e = some z) (hzs : z.cells.size = s + 1)
    (hsrc : SrcOk hm P w sT xT e (s + 1) cx new n) (hroom : room n b) :
    ∃ hm' w' cv, (Builtin.append_ #[sT, xT] T #[.slice base 0 0, cx]).run P w = .ok cv w' ∧ hm.le hm' ∧ Rel hm' lb w0 U st w' a ∧ VR hm' lb (.iface (s + 1) (.tuple new.toArray)) cv := by
  obtain ⟨zeros, cnew, hpre, hnew, hrel, hnl, hpu⟩ := hsrc
  by_cases hn0 : n = 0
  · subst hn0
    have hnil : new = [] := by
      have : new.length = 0 := by omega
      exact List.eq_nil_of_length_eq_zero this
    subst hnil
    refine ⟨_, w, .slice base 0 0, ?_, GM.le_refl _, r, .of_sr rfl ⟨base, 0, 0, rfl, by simp, Nat.le_refl _, .inl rfl⟩⟩
    have hcn : cnew.toList = [] := by have := hrel.1; simp at this; exact List.eq_nil_of_length_eq_zero (by simpa using this.symm)
    rw [hpre, run_appCore_fit (cnew := cnew) (by omega) (hnew w.drawn)]
    cases base with
    | none => simp
    | some a0 => simp [hcn, storeCells]
  · have hpos : 0 < n := by omega
    obtain ⟨newCap, rest, k, g1, g2, g3⟩ := run_appCore_grow (P := P) (w := w) (e := e) (s := s + 1) (n := n) (sLen := 0) (sCap := 0) (bytes := b) (zeros := zeros) (base := base) (cx := cx) (z := z) (cnew := cnew) (old := #[])
      (by omega) hb hb1 (by simpa [room] using hroom) hz hnew (fun k => by cases base <;> simp [Builtin.firstCells, loadCells, loadCellsFrom])
    rw [Nat.zero_add] at g1 g2 g3
    have e5 : (#[] : Array Value) ++ cnew = cnew := by simp
    rw [e5] at g3
    obtain ⟨hm', h3, h4, h5⟩ := (r.drawn k).newDeep (cnew ++ rest) e (0, 0) new hpu (fun j v hj => by
      obtain ⟨v', h1, h2⟩ := hrel.get hj
      refine ⟨v', ?_, h2⟩
      have hlt : j < cnew.size := by have := lookup_lt h1; simpa using this
      rw [Array.getElem?_append_left hlt, ← Array.getElem?_toList]; exact h1)
    refine ⟨hm', _, _, by rw [hpre, g3], h3, h4, .of_sr rfl ⟨_, n, newCap, rfl, by simp [hnl], g1, .inr ⟨_, 0, rfl, fun j c hj => by rw [Nat.zero_add]; exact h5 j c hj⟩⟩⟩
theorem ex_appNoneD {sT xT e : TypeId} {s b n : Nat} {new : List Value} (he : ElemOk P e (s + 1) b) (hx : ev Tm x = .slice none 0 0) (hsrc : Src P ⟨n0, b0, Tm, Lo, He⟩ sT xT e (s + 1) y new n) (hroom : room n b) :
    AExec P ⟨d, .call ⟨.builtin .append, #[x, y], #[sT, xT]⟩, ty, pos, af, g⟩ ⟨n0, b0, Tm, Lo, He⟩ (.iface (s + 1) (.tuple new.toArray)) Lo He :=
  .of_value fun hm lb w0 U w a r => by
    obtain ⟨z, hz, hzs⟩ := he.zr
    have hxx : a.eval x = .slice none 0 0 := (r.evEq hx).sr rfl
    obtain ⟨hm', w', cv, g1, g2, g3, g4⟩ := app_noneD (T := ty) (base := none) r he.bt he.b1 hz hzs (hsrc hm lb w0 U w a r) hroom
    exact ⟨hm', lb, w', cv, by simp [execOp, resolve, invoke, builtin, hxx, g1], g2, LM.le_refl _, g3, g4⟩
theorem tx_appND {α : Type} {c : α → List Value} {ys zs : List α} {sT xT el : TypeId} {s b : Nat} (he : ElemOk P el (s + 1) b) (hx : ev Tm x = .slice none 0 0) (hsrc : Src P ⟨n0, b0, Tm, Lo, He⟩ sT xT el (s + 1) y (ys.flatMap c) ys.length) (h : appL b [] ys = some zs) :
    AExec P ⟨d, .call ⟨.builtin .append, #[x, y], #[sT, xT]⟩, ty, pos, af, g⟩ ⟨n0, b0, Tm, Lo, He⟩ (SL (s + 1) c zs) Lo He := by
  obtain ⟨h1, rfl⟩ := appL_some h
  exact ex_appNoneD he hx hsrc (by simpa using h1)
/-- A new row that may grow. -/
theorem ex_buildSliceG {t e : TypeId} {s len k : Nat} {ps : Array (Nat × Operand)} {qs : List (Nat × Value)} {cells : List Value} (hu : und P t = some (.slice e)) (hs : sz P e = some s) (hlen : len * s ≤ 16777216) (hpos : 0 < s) (hq : EVp Tm ps.toList qs) (hnt : noTup qs = true)
    (hb : bsCells P e s len qs = some cells) (hpu : cells.all pure1 = true) (hl : cells.length = len * s) (hk : He.next = k) (hH : He.alloc ⟨s, cells, true⟩ = H') :
    AExec P ⟨d, .buildSlice t len ps, ty, pos, af, g⟩ ⟨n0, b0, Tm, Lo, He⟩ (GV k len) Lo H' :=
  .of_value fun hm lb w0 U w a r => by
    subst hk; subst hH
    obtain ⟨C, h1, h2⟩ := buildSlice_run r hu hs hlen hpos hnt hb (ps' := ps.map fun p => (p.1, a.eval p.2)) (by rw [Array.toList_map]; exact r.EVp hq)
    have hlen := h2.1
    simp at hlen
    have h := r.newBlk C e (0, 0) (Free.zero _) ⟨s, cells, true⟩ (by simp; omega) (fun _ => hpos) hpu (fun k v hk => by
      obtain ⟨v', h3, h4⟩ := h2.get hk
      exact ⟨v', by simpa using h3, h4.repl (List.all_eq_true.1 hpu v (List.mem_of_getElem? hk)) fun _ _ _ q => q⟩)
    refine ⟨_, lb, _, .slice (some ⟨w.heap.size, 0, none⟩) len len, by simp [execOp, h1], h.1, LM.le_refl _, h.2, .of_sr rfl ⟨_, some ⟨w.heap.size, 0, none⟩, len, GM.put_same, rfl, rfl, ?_, fun _ => ⟨Nat.le_refl _, fun _ => rfl, ?_⟩⟩⟩
    · simp only; omega
    · simp only; omega
theorem pkTF {c : Bool} : cond c (Value.bool true) (Value.bool false) = Value.bool c := by cases c <;> rfl
/-- The end of a piece of code, what is read still, and how long rows are. -/
theorem awp_knR {P : Program} {Q : Exit → AS → Prop} {c : Code} {st st' s0 : AS} (ts : List Nat) (k m : Nat) (T' : List (Nat × Value)) (h : AWp P c (fun e s => e = .normal ∧ s = s0) st) (ho : okKeep s0 ts k m = true) (he : s0.keep ts k m = st') (hT : ReT st'.tmps T') (q : Q .normal ⟨st'.n, st'.base, T', st'.locs, st'.heap⟩) : AWp P c Q st := by
  intro hm lb w0 U w a r
  refine wp_mono (h hm lb w0 U w a r) fun e a' w' p => ?_
  obtain ⟨hm', lb', s, h1, h2, h3, rfl, rfl⟩ := p
  obtain ⟨k1, k2⟩ := h3.keep ho
  rw [h2] at k1
  subst he
  exact ⟨_, _, { s.keep ts k m with tmps := T' }, GM.leb_trans h1 k1, h2, k2.fewer T' hT, q⟩
end
end Go.Fhl
