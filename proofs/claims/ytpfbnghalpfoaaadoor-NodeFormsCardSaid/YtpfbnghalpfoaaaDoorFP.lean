/-
  A logic over the model, continued: blocks lent to a callee that only reads; functions that hand out a new row. Nothing of any program stands here.
-/
import Derived.Test.YtpfbnghalpfoaaaDoorFO
namespace Go.Fhl
set_option linter.unusedVariables false
set_option linter.unusedSimpArgs false
/-- What a caller knows stays, when all that was there stays. -/
theorem HRel.ext {hm : GM} {w0 : World} {U : Env} {H : AH} {w w' : World} (r : HRel hm w0 U H w) (h1 : w'.os = w.os) (h2 : w'.tape = w.tape) (h3 : w'.output = w.output) (h4 : w.heap.size ≤ w'.heap.size) (h5 : ∀ B, B < w.heap.size → w'.heap[B]? = w.heap[B]?) : HRel hm w0 U H w' where
  os := h1.trans r.os
  tape := h2.trans r.tape
  output := h3.trans r.output
  size := Nat.le_trans r.size h4
  prot := fun B hB => ⟨(r.prot B hB).1, (h5 B (r.ult hB)).trans (r.prot B hB).2⟩
  protz := r.protz
  fresh := r.fresh
  frz := fun B k v hz => by
    obtain ⟨g1, C, e, fz, v', g2, g3, g4⟩ := r.frz B k v hz
    exact ⟨g1, C, e, fz, v', (h5 B (r.fz_lt hz)).trans g2, g3, g4⟩
  blk := fun n b hb => by
    obtain ⟨i, g1, g2, g3, g4, gp, g5⟩ := r.blk n b hb
    refine ⟨i, g1, g2, g3, g4, gp, g5.imp id ?_⟩
    rintro ⟨C, e, fz, k1, k2, k3, k4, k5, k6, k7⟩
    exact ⟨C, e, fz, (h5 _ (lt_of_get k1)).trans k1, k2, k3, k4, k5, k6, k7⟩
  inj := r.inj
theorem Rel.ext {hm : GM} {lb : LM} {w0 : World} {U : Env} {st : AS} {w w' : World} {a : Act} (r : Rel hm lb w0 U st w a) (h1 : w'.os = w.os) (h2 : w'.tape = w.tape) (h3 : w'.output = w.output) (h4 : w.heap.size ≤ w'.heap.size) (h5 : ∀ B, B < w.heap.size → w'.heap[B]? = w.heap[B]?) : Rel hm lb w0 U st w' a :=
  r.frame (GM.le_refl _) (r.toHRel.ext h1 h2 h3 h4 h5) (Nat.le_refl _) (fun k B hk => ⟨h5 B (r.loc_lt hk), r.loc_fz hk⟩) (fun k B m c j hk hc hj hs => r.lheap k B m c j hk hc hj hs)
/-- What is the same under any names: plain ones, and tuples of them. -/
def plainT : Value → Bool
  | .tuple vs => vs.toList.all plain1 && !vs.isEmpty
  | v => plain v
theorem VR.plainT {hm hm' : GM} {lb lb' : LM} {x v : Value} (h : Fhl.plainT x = true) (e : VR hm lb x v) : VR hm' lb' x v := by
  by_cases q : ∃ vs, x = .tuple vs
  · obtain ⟨vs, rfl⟩ := q
    simp only [Fhl.plainT, Bool.and_eq_true, Bool.not_eq_true', Array.isEmpty_eq_false_iff] at h
    rcases e with e | ⟨e, e2⟩ | ⟨vs', rfl, h2⟩
    · exact absurd e h.2
    · subst e; simp [plain1] at h
    · refine .inr (.inr ⟨vs', rfl, h2.mono fun x y hx z => ?_⟩)
      have hp := List.all_eq_true.1 h.1 x hx
      exact .of_sr (plain_one hp) (by rw [(z.sr (plain_one hp)).plain hp]; exact SR.of_plain hp)
  · have hp : Fhl.plain x = true := by
      cases x <;> first | exact h | exact absurd ⟨_, rfl⟩ q
    rw [e.plain hp]; exact .of_plain hp
/-- An argument as the callee sees it: what is lent is frozen there. -/
def FzA (n : Nat) (b : Blk) (x x' : Value) : Prop :=
  x' = x ∨ Fz n b x x' ∨ FzP n b x x' ∨ (∃ cs cs', x = .agg cs ∧ x' = .agg cs' ∧ L2 (Fz n b) cs.toList cs'.toList) ∨ ∃ g cs cs', x = .func g #[] cs ∧ x' = .func g #[] cs' ∧ L2 (FzP n b) cs.toList cs'.toList
theorem FzP.pr {hm hm' : GM} {lb : LM} {n : Nat} {b : Blk} {i : Info} (hi : hm.map n = some i) (hle : hm.le hm') (hnew : ∀ j c, b.cells[j]? = some c → hm'.fz i.blk j = some c) {v v' cv : Value} (h : FzP n b v v') (e : PR hm lb v cv) : PR hm' lb v' cv := by
  rcases h with rfl | ⟨off, rfl, rfl⟩
  · exact e.mono hle (LM.le_refl _)
  · obtain ⟨p, ⟨i', q1, q2, q3⟩, rfl⟩ := e
    simp only at q1 q3
    rw [hi] at q1; cases q1
    exact ⟨_, off, by rw [q3], fun j c hj => hnew _ c (by simpa using hj)⟩
theorem FzA.vr {hm : GM} {lb : LM} {w0 : World} {U : Env} {st : AS} {w : World} {a : Act} (r : Rel hm lb w0 U st w a) {n : Nat} {b : Blk} {i : Info} (hb : st.heap.get n = some b) (hi : hm.map n = some i) {hm' : GM} (hle : hm.le hm') (hnew : ∀ j c, b.cells[j]? = some c → hm'.fz i.blk j = some c)
    {x x' v : Value} (h : FzA n b x x') (e : VR hm lb x v) : VR hm' lb x' v := by
  have fzv : ∀ x x' v, Fz n b x x' → VR hm lb x v → VR hm' lb x' v := fun x x' v h e => by
    rcases h.one with rfl | ⟨o1, o2⟩
    · exact e.mono hle (LM.le_refl _)
    · exact .of_sr o2 (h.sr r hb hi hle hnew (e.sr o1))
  rcases h with rfl | h | h | ⟨cs, cs', rfl, rfl, h⟩ | ⟨g, cs, cs', rfl, rfl, h⟩
  · exact e.mono hle (LM.le_refl _)
  · exact fzv _ _ _ h e
  · rcases h with rfl | ⟨off, rfl, rfl⟩
    · exact e.mono hle (LM.le_refl _)
    · obtain ⟨p, ⟨i', q1, q2, q3⟩, rfl⟩ := e.sr rfl
      simp only at q1 q3
      rw [hi] at q1; cases q1
      exact .of_sr rfl ⟨_, off, by rw [q3], fun j c hj => hnew _ c (by simpa using hj)⟩
  · obtain ⟨ds, rfl, h2⟩ := e
    refine ⟨ds, rfl, h.1.symm.trans h2.1, fun k y z hy hz => ?_⟩
    have hk : k < cs.toList.length := by rw [h.1]; exact lookup_lt hy
    have hx := List.getElem?_eq_getElem hk
    exact (h.2 k _ _ hx hy).sr r hb hi hle hnew (h2.2 k _ _ hx hz)
  · obtain ⟨c', h3, h4, h5⟩ := e.sr rfl
    refine .of_sr rfl ⟨c', h3, h4, h.1.symm.trans h5.1, fun k y z hy hz => ?_⟩
    have hk : k < cs.toList.length := by rw [h.1]; exact lookup_lt hy
    have hx := List.getElem?_eq_getElem hk
    exact (h.2 k _ _ hx hy).pr hi hle hnew (h5.2 k _ _ hx hz)
theorem fzaG {α : Type} {c : α → List Value} {s : Nat} {xs : List α} {m k : Nat} (hc : CE c (s + 1)) (hn : k = xs.length) : Fz m ⟨s + 1, xs.flatMap c, true⟩ (GV m k) (SL (s + 1) c xs) := by
  subst hn
  have hl := hc.flat xs
  exact .inr ⟨0, xs.length, xs.length, some 1, s, rfl, rfl, by rw [List.drop_zero, List.take_of_length_le (by simp only; omega)]; rfl, by simp only; omega, .inr ⟨rfl, rfl, rfl, by simp only; omega⟩⟩
section
variable {P : Program} {n0 b0 : Nat} {Tm : List (Nat × Value)} {Lo : List (List Value)} {He : AH} {f : Operand} {args : Array Operand} {ts : Array TypeId} {d : Option Tmp} {ty : TypeId} {pos : String} {af : Array Edge} {gd : Option (Nat × Bool)}
/-- A call of a function that reads a block of ours, and answers what names nothing. -/
theorem ex_callB {g : FuncId} {cap : Array Value} {vs vs' : List Value} {v : Value} {n : Nat} {b : Blk} (hf : ev Tm f = .func (.func g) #[] cap) (hg : enterable P g = true) (ha : CArgs Tm args cap vs) (hb : He.get n = some b) (hz : L2 (FzA n b) vs vs') (hp : vs'.all pureA = true) (hc : FFn P g vs' v) (hv : plainT v = true) :
    AExec P ⟨d, .call ⟨.value f, args, ts⟩, ty, pos, af, gd⟩ ⟨n0, b0, Tm, Lo, He⟩ v Lo He := by
  intro hm lb w0 U w a Q r
  obtain ⟨cargs, hrun, hargs⟩ := call_run (d := d) (ts := ts) (ty := ty) (pos := pos) (af := af) (gd := gd) r hf hg ha
  obtain ⟨i, g1, _⟩ := r.blk n b hb
  obtain ⟨f1, f2, f3⟩ := r.freeze hb g1
  have hargs' : L2 (VR (hm.freeze i.blk b.cells).bare []) vs' cargs.toList := by
    refine ⟨hz.1.symm.trans hargs.1, fun k x' y hx' hy => ?_⟩
    have hk : k < vs.length := by rw [hz.1]; exact lookup_lt hx'
    have hx := List.getElem?_eq_getElem hk
    have := (hz.2 k _ _ hx hx').vr r hb g1 f1 f3 (hargs.2 k _ _ hx hy)
    exact VR.pureA (hm := hm.freeze i.blk b.cells) (lb := lb) (List.all_eq_true.1 hp _ (List.mem_of_getElem? hx')) (fun _ _ _ z => z) this
  unfold Oper.wp
  rw [hrun]
  refine (hc (hm.freeze i.blk b.cells).bare w (hideU (hm.freeze i.blk b.cells) w) w cargs f2.hide hargs').mono fun e w' q => ?_
  obtain ⟨hm', v', cv, H', rfl, q2, q3, q4, q5, rfl⟩ := q
  exact ⟨hm, lb, cv, GM.le_refl _, LM.le_refl _, rfl, VR.plainT hv q5, r.ext q4.os q4.tape q4.output q4.size (fun B hB => (q4.prot B hB).2)⟩
end
/-! ## Functions that hand out a new row -/
def FOw (P : Program) (f : FuncId) (args : List Value) (len : Nat) (b : Blk) : Prop := AFn P f args AH.empty fun v H' => v = GV 0 len ∧ H'.get 0 = some b
def FinO (P : Program) (rs : List ResultVar) (len : Nat) (b : Blk) : Exit → AS → Prop
  | .normal, s | .ret, s => ARes P rs s (GV 0 len) ∧ s.heap.get 0 = some b ∧ Nat.blt 0 s.heap.next = true
  | _, _ => False
theorem FOw.of_body {P : Program} {f : FuncId} {fn : Func} {c : Code} {args : List Value} {n : Nat} {rs : List ResultVar} {T : List (Nat × Value)} {len : Nat} {b : Blk} (hf : P.funcs[f]? = some fn) (hb : fn.body = some c) (hn : fn.ntmps = n) (hl : Nat.ble args.length n = true) (hrs : fn.results.toList = rs) (hT : argsT 0 args = T)
    (h : AWp P c (FinO P rs len b) ⟨n, 0, T, [], ⟨0, []⟩⟩) : FOw P f args len b := by
  subst hn; subst hT; subst hrs
  refine AFn.of_body hf hb (by rw [Nat.ble_eq] at hl; exact hl) (awp_mono h fun e s q => ?_)
  cases e with
  | normal => exact ⟨_, q.1, q.2.2, rfl, q.2.1⟩
  | ret => exact ⟨_, q.1, q.2.2, rfl, q.2.1⟩
  | _ => exact q.elim
section
variable {P : Program} {n0 b0 : Nat} {Tm : List (Nat × Value)} {Lo : List (List Value)} {He : AH} {f : Operand} {args : Array Operand} {ts : Array TypeId} {d : Option Tmp} {ty : TypeId} {pos : String} {af : Array Edge} {gd : Option (Nat × Bool)}
theorem ex_callOw {g : FuncId} {cap : Array Value} {vs : List Value} {k len : Nat} {b : Blk} {H' : AH} (hf : ev Tm f = .func (.func g) #[] cap) (hg : enterable P g = true) (ha : CArgs Tm args cap vs) (hp : vs.all pureA = true) (hc : FOw P g vs len b)
    (hk : He.next = k) (hH : He.alloc b = H') : AExec P ⟨d, .call ⟨.value f, args, ts⟩, ty, pos, af, gd⟩ ⟨n0, b0, Tm, Lo, He⟩ (GV k len) Lo H' := by
  intro hm lb w0 U w a Q r
  subst hk; subst hH
  obtain ⟨cargs, hrun, hargs⟩ := call_run (d := d) (ts := ts) (ty := ty) (pos := pos) (af := af) (gd := gd) r hf hg ha
  have hargs' : L2 (VR hm.bare []) vs cargs.toList := hargs.mono fun x y hx q => VR.pureA (hm := hm) (List.all_eq_true.1 hp x hx) (fun _ _ _ z => z) q
  unfold Oper.wp
  rw [hrun]
  refine (hc hm.bare w (hideU hm w) w cargs r.hide hargs').mono fun e w' q => ?_
  obtain ⟨hm', v', cv, H', rfl, q2, q3, q4, q5, rfl, q7⟩ := q
  obtain ⟨i, g1, h1, h2⟩ := r.unhideNew q2.fz q4 q7
  refine ⟨_, lb, cv, h1, LM.le_refl _, rfl, ?_, h2⟩
  obtain ⟨i', p, c, k1, k2⟩ := q5.sr rfl
  simp only at k1
  rw [g1] at k1; cases k1
  exact .of_sr rfl ⟨i, p, c, GM.put_same, k2⟩
end
end Go.Fhl
