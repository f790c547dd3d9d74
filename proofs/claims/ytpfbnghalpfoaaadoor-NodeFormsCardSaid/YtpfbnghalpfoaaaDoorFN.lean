/-
  A logic over the model, continued: parts of elements, frozen boxes, closures, parts of rows, copies. Nothing of any program stands here.
-/
import Derived.Test.YtpfbnghalpfoaaaDoorFM
namespace Go.Fhl
set_option linter.unusedVariables false
set_option linter.unusedSimpArgs false
section
variable {α : Type} {c : α → List Value} {s : Nat} {xs ys : List α} {e e' : α}
/-! ## Parts of elements -/
theorem spl_elem (hc : CE c s) {k off : Nat} {vs : List Value} (hk : xs[k]? = some e) (hl : off + vs.length ≤ s) (hv : spl (c e) off vs = c e') : spl (xs.flatMap c) (k * s + off) vs = (xs.set k e').flatMap c := by
  have hlt := lookup_lt hk
  have hm : (k + 1) * s ≤ xs.length * s := Nat.mul_le_mul_right _ hlt
  rw [Nat.add_mul, Nat.one_mul] at hm
  have hfl := hc.flat xs
  have hone := hc.one hk
  have hel := hc.len e
  have hel' := hc.len e'
  rw [← hc.set hlt e']
  refine List.ext_getElem? fun i => ?_
  rw [spl_get (by omega), spl_get (by omega), hel']
  have hin : ∀ j, j < s → (c e')[j]? = if j < off then (xs.flatMap c)[k * s + j]? else if j < off + vs.length then vs[j - off]? else (xs.flatMap c)[k * s + j]? := fun j hj => by
    rw [← hv, spl_get (by omega)]
    have : (c e)[j]? = (xs.flatMap c)[k * s + j]? := by rw [← hone, List.getElem?_take_of_lt hj, List.getElem?_drop]
    rw [this]
  by_cases a : i < k * s
  · rw [if_pos (by omega), if_pos a]
  · rw [if_neg (c := i < k * s) a]
    by_cases b : i < k * s + s
    · rw [if_pos (c := i < k * s + s) b, hin _ (by omega)]
      have e1 : k * s + (i - k * s) = i := by omega
      rw [e1]
      by_cases d : i < k * s + off
      · rw [if_pos d, if_pos (c := i - k * s < off) (by omega)]
      · rw [if_neg d, if_neg (c := i - k * s < off) (by omega)]
        by_cases f : i < k * s + off + vs.length
        · rw [if_pos f, if_pos (c := i - k * s < off + vs.length) (by omega)]; congr 1; omega
        · rw [if_neg f, if_neg (c := i - k * s < off + vs.length) (by omega)]
    · rw [if_neg (c := i < k * s + s) b, if_neg (by omega), if_neg (by omega)]
variable {P : Program} {n0 b0 : Nat} {Tm : List (Nat × Value)} {Lo : List (List Value)} {He : AH} {v : Value} {x y : Operand} {d : Option Tmp} {ty : TypeId} {pos : String} {af : Array Edge} {g : Option (Nat × Bool)}
theorem tx_stFp {T : TypeId} {m off q : Nat} {i : Int} {vy : Value} {vs : List Value} {H' : AH} (hc : CE c (s + 1)) (hs : sz P T = some vs.length) (hx : ev Tm x = NP m q) (hq : q = i.toNat * (s + 1) + off) (hy : EV Tm y vy) (hvy : cellsOf vy = some vs) (hb : He.get m = some ⟨s + 1, xs.flatMap c, false⟩) (hg : getI xs i = some e)
    (hl : off + vs.length ≤ s + 1) (hv : spl (c e) off vs = c e') (hp : vs.all pure1 = true) (hne : vs ≠ []) (h : setI xs i e' = some ys) (hH : He.set m ⟨s + 1, ys.flatMap c, false⟩ = H') :
    AExec P ⟨d, .store T x y, ty, pos, af, g⟩ ⟨n0, b0, Tm, Lo, He⟩ undef Lo H' := by
  subst hq
  obtain ⟨h0, h1, rfl⟩ := setI_some h
  obtain ⟨_, g1⟩ := getI_some hg
  have hm : (i.toNat + 1) * (s + 1) ≤ xs.length * (s + 1) := Nat.mul_le_mul_right _ h1
  rw [Nat.add_mul, Nat.one_mul] at hm
  refine ex_storeF hx hy hvy hs hb rfl (by simp only [hc.flat]; omega) hp hne ?_
  rw [← hH]; simp only [spl_elem hc g1 hl hv]
theorem tx_stGp {T : TypeId} {m off q : Nat} {i : Int} {vy : Value} {vs : List Value} {H' : AH} (hc : CE c (s + 1)) (hs : sz P T = some vs.length) (hx : ev Tm x = GP m q (xs.flatMap c).length) (hq : q = i.toNat * (s + 1) + off) (hy : EV Tm y vy) (hvy : cellsOf vy = some vs) (hb : He.get m = some ⟨s + 1, xs.flatMap c, true⟩) (hg : getI xs i = some e)
    (hl : off + vs.length ≤ s + 1) (hv : spl (c e) off vs = c e') (hp : vs.all pure1 = true) (hne : vs ≠ []) (h : setI xs i e' = some ys) (hH : He.set m ⟨s + 1, ys.flatMap c, true⟩ = H') :
    AExec P ⟨d, .store T x y, ty, pos, af, g⟩ ⟨n0, b0, Tm, Lo, He⟩ undef Lo H' := by
  subst hq
  obtain ⟨h0, h1, rfl⟩ := setI_some h
  obtain ⟨_, g1⟩ := getI_some hg
  have hm : (i.toNat + 1) * (s + 1) ≤ xs.length * (s + 1) := Nat.mul_le_mul_right _ h1
  rw [Nat.add_mul, Nat.one_mul] at hm
  refine ex_storeG hx hy hvy hs hb rfl rfl (by simp only [hc.flat]; omega) hp hne ?_
  rw [← hH]; simp only [spl_elem hc g1 hl hv]

/-! ## A box that is never written again -/
theorem ex_boxD {T : TypeId} {vx : Value} {cs : List Value} (hx : EV Tm x vx) (hcs : cellsOf vx = some cs) (hp : cs.all pure1 = true) : AExec P ⟨d, .box T x, ty, pos, af, g⟩ ⟨n0, b0, Tm, Lo, He⟩ (DP cs) Lo He :=
  .of_value fun hm lb w0 U w a r => by
    have hr := cells_rel (r.EV hx) hcs
    obtain ⟨hm', h3, h4, h5⟩ := r.newDeep (a.eval x).cells T (0, 0) cs hp (fun k v hk => by
      obtain ⟨v', h3, h4⟩ := hr.get hk
      exact ⟨v', by simpa using h3, h4.repl (List.all_eq_true.1 hp v (List.mem_of_getElem? hk)) fun _ _ _ q => q⟩)
    refine ⟨hm', lb, _, .pointer (some ⟨w.heap.size, 0, none⟩), ?_, h3, LM.le_refl _, h4, .of_sr rfl ⟨_, 0, rfl, fun j c hj => by rw [Nat.zero_add]; exact h5 j c (by simpa using hj)⟩⟩
    simp [execOp, Instr.box, newVar, newRow]
end

/-! ## A named block that is a box: frozen -/
def FzP (n : Nat) (b : Blk) (v v' : Value) : Prop := v' = v ∨ ∃ off, v = NP n off ∧ v' = DP (b.cells.drop off)
def FzPT (n : Nat) (b : Blk) (T T' : List (Nat × Value)) : Prop := ∀ t v', lk T' t = some v' → ∃ v, lk T t = some v ∧ FzP n b v v'
theorem FzPT.nil {n : Nat} {b : Blk} {T : List (Nat × Value)} : FzPT n b T [] := fun t v h => by simp [lk] at h
theorem FzPT.keep {n : Nat} {b : Blk} {T T' : List (Nat × Value)} {t : Nat} {v : Value} (h : lk T t = some v) (k : FzPT n b T T') : FzPT n b T ((t, v) :: T') := by
  intro u v' hu
  rcases lk_push hu with ⟨rfl, rfl⟩ | ⟨h1, h2⟩
  · exact ⟨_, h, .inl rfl⟩
  · exact k u v' h2
theorem FzPT.conv {n : Nat} {b : Blk} {T T' : List (Nat × Value)} {t off : Nat} {cs : List Value} (h : lk T t = some (NP n off)) (hcs : b.cells.drop off = cs) (k : FzPT n b T T') : FzPT n b T ((t, DP cs) :: T') := by
  intro u v' hu
  rcases lk_push hu with ⟨rfl, rfl⟩ | ⟨h1, h2⟩
  · exact ⟨_, h, .inr ⟨off, rfl, by rw [hcs]⟩⟩
  · exact k u v' h2
theorem Rel.freezeP {hm : GM} {lb : LM} {w0 : World} {U : Env} {n0 b0 : Nat} {T T' : List (Nat × Value)} {L : List (List Value)} {H : AH} {w : World} {a : Act} (r : Rel hm lb w0 U ⟨n0, b0, T, L, H⟩ w a) {n : Nat} {b : Blk} (hb : H.get n = some b)
    (hT : FzPT n b T T') : ∃ hm', hm.le hm' ∧ Rel hm' lb w0 U ⟨n0, b0, T', L, H.kill n⟩ w a := by
  obtain ⟨i, g1, _⟩ := r.blk n b hb
  obtain ⟨h1, h2, h3⟩ := r.freeze hb g1
  refine ⟨_, h1, { toHRel := h2.toHRel, defers := h2.defers, tsize := h2.tsize, base_le := h2.base_le, tmps := ?_, llen := h2.llen, loc := h2.loc, linj := h2.linj, lheap := h2.lheap }⟩
  intro t v' ht
  obtain ⟨v, k1, k2⟩ := hT t v' ht
  obtain ⟨cv, k3, k4⟩ := r.tmps t v k1
  refine ⟨cv, k3, ?_⟩
  rcases k2 with rfl | ⟨off, rfl, rfl⟩
  · exact k4.mono h1 (LM.le_refl _)
  · obtain ⟨p, ⟨i', q1, q2, q3⟩, rfl⟩ := k4.sr rfl
    simp only at q1 q3
    rw [g1] at q1; cases q1
    exact .of_sr rfl ⟨_, off, by rw [q3], fun j c hj => h3 _ c (by simpa using hj)⟩
section
variable {P : Program} {ops : Array Oper} {Q : Exit → AS → Prop} {i n b : Nat} {l : List Oper} {T T' : List (Nat × Value)} {L : List (List Value)} {H : AH}
theorem arun_freezeP (m : Nat) {bk : Blk} (hb : H.get m = some bk) (hT : FzPT m bk T T') (h : ARun P ops i l Q ⟨n, b, T', L, H.kill m⟩) : ARun P ops i l Q ⟨n, b, T, L, H⟩ := by
  intro hl hm lb w0 U w a r
  obtain ⟨hm', h1, h2⟩ := r.freezeP hb hT
  exact wpOps_mono (fun e a w q => Post.mono (h1.leb b) q) _ _ _ (h hl _ _ w0 U w a h2)
theorem awp_freezeP {c : Code} (m : Nat) {bk : Blk} (hb : H.get m = some bk) (hT : FzPT m bk T T') (h : AWp P c Q ⟨n, b, T', L, H.kill m⟩) : AWp P c Q ⟨n, b, T, L, H⟩ := by
  intro hm lb w0 U w a r
  obtain ⟨hm', h1, h2⟩ := r.freezeP hb hT
  exact wp_mono (h _ _ w0 U w a h2) fun e a w q => Post.mono (h1.leb b) q
end

/-! ## Closures that are handed on -/
def pureA : Value → Bool
  | .func _ f cs => f.isEmpty && cs.toList.all pure1
  | v => pureV v
theorem PR.pureP {hm hm' : GM} {lb lb' : LM} {x v : Value} (h : pure1 x = true) (hf : ∀ B k v, hm.fz B k = some v → hm'.fz B k = some v) (e : PR hm lb x v) : PR hm' lb' x v := by
  cases x <;> first | (simp [pure1] at h; done) | exact e | skip
  case pointer a => cases a <;> first | exact e | (simp [pure1] at h; done)
  case iface t x => cases x <;> first | (simp [pure1] at h; done) | exact DeepR.mono hf e
theorem VR.pureA {hm hm' : GM} {lb lb' : LM} {x v : Value} (h : pureA x = true) (hf : ∀ B k v, hm.fz B k = some v → hm'.fz B k = some v) (e : VR hm lb x v) : VR hm' lb' x v := by
  by_cases q : ∃ f a cs, x = .func f a cs
  · obtain ⟨f, a, cs, rfl⟩ := q
    obtain ⟨c', h1, h2, h3⟩ := e.sr rfl
    simp only [Fhl.pureA, Bool.and_eq_true] at h
    exact .of_sr rfl ⟨c', h1, h2, h3.mono fun x y hx z => z.pureP (List.all_eq_true.1 h.2 x hx) hf⟩
  · have hp : pureV x = true := by
      cases x <;> first | exact h | exact absurd ⟨_, _, _, rfl⟩ q
    exact VR.pure hp hf e
/-- An argument as the callee names it: the caller's block n is its block 0. -/
def RnP (n : Nat) (x x' : Value) : Prop := (pure1 x = true ∧ x' = x) ∨ ∃ off, x = NP n off ∧ x' = NP 0 off
def RnM (n : Nat) (x x' : Value) : Prop :=
  (pureV x = true ∧ x' = x) ∨ (∃ off, x = NP n off ∧ x' = NP 0 off) ∨ (∃ len, x = GV n len ∧ x' = GV 0 len) ∨ (∃ len, x = FV n len ∧ x' = FV 0 len) ∨ ∃ g cs cs', x = .func g #[] cs ∧ x' = .func g #[] cs' ∧ L2 (RnP n) cs.toList cs'.toList
theorem RnM.vr {hm : GM} {lb : LM} {n : Nat} {i : Info} (hi : hm.map n = some i) {x x' v : Value} (h : RnM n x x') (e : VR hm lb x v) : VR (hm.only i) [] x' v := by
  have h0 : (hm.only i).map 0 = some i := by simp [GM.only]
  rcases h with ⟨h1, rfl⟩ | ⟨off, rfl, rfl⟩ | ⟨len, rfl, rfl⟩ | ⟨len, rfl, rfl⟩ | ⟨g, cs, cs', rfl, rfl, h2⟩
  · exact VR.pure (hm := hm) h1 (fun _ _ _ z => z) e
  · obtain ⟨c, ⟨i', k1, k2, k3⟩, rfl⟩ := e.sr rfl
    simp only at k1
    rw [hi] at k1; cases k1
    exact .of_sr rfl ⟨c, ⟨i, h0, k2, k3⟩, rfl⟩
  · obtain ⟨i', p, c, k1, k2⟩ := e.sr rfl
    simp only at k1
    rw [hi] at k1; cases k1
    exact .of_sr rfl ⟨i, p, c, h0, k2⟩
  · obtain ⟨i', o, k1, k2⟩ := e.sr rfl
    simp only at k1
    rw [hi] at k1; cases k1
    exact .of_sr rfl ⟨i, o, h0, k2⟩
  · obtain ⟨c', h3, h4, h5⟩ := e.sr rfl
    refine .of_sr rfl ⟨c', h3, h4, h2.1.symm.trans h5.1, fun k x' y hx' hy => ?_⟩
    have hk : k < cs.toList.length := by rw [h2.1]; exact lookup_lt hx'
    have hx := List.getElem?_eq_getElem hk
    have hv := h5.2 k _ _ hx hy
    rcases h2.2 k _ _ hx hx' with ⟨q1, rfl⟩ | ⟨off, q1, rfl⟩
    · exact PR.pureP (hm := hm) (lb := lb) q1 (fun _ _ _ z => z) hv
    · rw [q1] at hv
      obtain ⟨c, ⟨i', k1, k2, k3⟩, rfl⟩ := hv
      simp only at k1
      rw [hi] at k1; cases k1
      exact ⟨c, ⟨i, h0, k2, k3⟩, rfl⟩
section
variable {P : Program} {n0 b0 : Nat} {Tm : List (Nat × Value)} {Lo : List (List Value)} {He : AH} {f : Operand} {args : Array Operand} {ts : Array TypeId} {d : Option Tmp} {ty : TypeId} {pos : String} {af : Array Edge} {gd : Option (Nat × Bool)}
/-- A call of a function of values and closures alone. -/
theorem ex_callA {g : FuncId} {cap : Array Value} {vs : List Value} {v : Value} (hf : ev Tm f = .func (.func g) #[] cap) (hg : enterable P g = true) (ha : CArgs Tm args cap vs) (hp : vs.all pureA = true) (hc : FFn P g vs v) (hv : pureV v = true) :
    AExec P ⟨d, .call ⟨.value f, args, ts⟩, ty, pos, af, gd⟩ ⟨n0, b0, Tm, Lo, He⟩ v Lo He := by
  intro hm lb w0 U w a Q r
  obtain ⟨cargs, hrun, hargs⟩ := call_run (d := d) (ts := ts) (ty := ty) (pos := pos) (af := af) (gd := gd) r hf hg ha
  have hargs' : L2 (VR hm.bare []) vs cargs.toList := hargs.mono fun x y hx q => VR.pureA (hm := hm) (List.all_eq_true.1 hp x hx) (fun _ _ _ z => z) q
  unfold Oper.wp
  rw [hrun]
  refine (hc hm.bare w (hideU hm w) w cargs r.hide hargs').mono fun e w' q => ?_
  obtain ⟨hm', v', cv, H', rfl, q2, q3, q4, q5, rfl⟩ := q
  obtain ⟨h1, h2⟩ := r.unhide q2.fz q4
  exact ⟨_, lb, cv, h1, LM.le_refl _, rfl, VR.pure (hm := hm') hv (fun _ _ _ z => z) q5, h2⟩
/-- A call of a function that is handed one named block. -/
theorem ex_callM {g : FuncId} {cap : Array Value} {vs vs' : List Value} {v : Value} {n : Nat} {b b' : Blk} {H' : AH} (hf : ev Tm f = .func (.func g) #[] cap) (hg : enterable P g = true) (ha : CArgs Tm args cap vs) (hb : He.get n = some b) (hrn : L2 (RnM n) vs vs')
    (hc : AFn P g vs' ⟨1, [(0, b)]⟩ fun x H' => x = v ∧ H'.get 0 = some b') (hv : pureV v = true) (hH : He.set n b' = H') : AExec P ⟨d, .call ⟨.value f, args, ts⟩, ty, pos, af, gd⟩ ⟨n0, b0, Tm, Lo, He⟩ v Lo H' := by
  intro hm lb w0 U w a Q r
  subst hH
  obtain ⟨cargs, hrun, hargs⟩ := call_run (d := d) (ts := ts) (ty := ty) (pos := pos) (af := af) (gd := gd) r hf hg ha
  obtain ⟨i, g1, g2, g3, _⟩ := r.blk n b hb
  have hargs' : L2 (VR (hm.only i) []) vs' cargs.toList := by
    refine ⟨hrn.1.symm.trans hargs.1, fun k x' y hx' hy => ?_⟩
    have hk : k < vs.length := by rw [hrn.1]; exact lookup_lt hx'
    have hx := List.getElem?_eq_getElem hk
    exact (hrn.2 k _ _ hx hx').vr g1 (hargs.2 k _ _ hx hy)
  unfold Oper.wp
  rw [hrun]
  refine (hc (hm.only i) w (oneU hm w i) w cargs (r.enter1 hb g1) hargs').mono fun e w' q => ?_
  obtain ⟨hm', v', cv, H', rfl, q2, q3, q4, q5, rfl, q7⟩ := q
  obtain ⟨i', h0, h1, h2⟩ := r.back1 hb g1 q2 q4 q7
  exact ⟨_, lb, cv, h1, LM.le_refl _, rfl, VR.pure (hm := hm') hv (fun _ _ _ z => z) q5, h2⟩
theorem ex_makeFuncP {fn : Fn} {cp : Array Operand} {vs : List Value} (hvs : cp.toList.map (ev Tm) = vs) (hp : vs.all prOk = true) : AExec P ⟨d, .makeFunc fn #[] cp, ty, pos, af, gd⟩ ⟨n0, b0, Tm, Lo, He⟩ (.func fn #[] vs.toArray) Lo He := ex_makeFunc hvs hp
end
/-- A row that is as long as it was. -/
def withLen {α ρ : Type} (xs : List α) (o : Option (ρ × List α)) : Option (ρ × List α) := o.bind fun p => if p.2.length = xs.length then some p else none
theorem withLen_of {α ρ : Type} {xs : List α} {o : Option (ρ × List α)} {p : ρ × List α} (h : withLen xs o = some p) : o = some p := by
  unfold withLen at h
  cases o with
  | none => cases h
  | some q =>
    change (if q.2.length = xs.length then some q else none) = some p at h
    split at h
    · exact h
    · cases h
theorem withLen_len {α ρ : Type} {xs : List α} {o : Option (ρ × List α)} {p : ρ × List α} (h : withLen xs o = some p) : xs.length = p.2.length := by
  unfold withLen at h
  cases o with
  | none => cases h
  | some q =>
    change (if q.2.length = xs.length then some q else none) = some p at h
    split at h
    · rename_i e; cases h; exact e.symm
    · cases h
end Go.Fhl
