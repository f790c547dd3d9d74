/-
  The abstract heap logic, part eleven: calls, statements, functions.
-/
import Derived.Test.YtmafhfnalekgnaaAhlJ
import Derived.OrdersHeld
namespace Go.Ahl
set_option linter.unusedVariables false

/-! ## Contracts -/
/-- Called with these arguments over this heap the function returns, and what it returns, and the heap then, are as R says; nothing else is written. -/
def AFn (P : Program) (f : FuncId) (args : List Value) (H : AH) (R : Value → AH → Prop) : Prop :=
  ∀ (hm : HM) (w0 : World) (U : Env) (w : World) (cargs : Array Value), HRel hm w0 U H w → L2 (VR hm []) args cargs.toList →
    Calls P f cargs w fun e w' => ∃ hm' v cv H', e = .returned cv ∧ hm.le hm' ∧ HRel hm' w0 U H' w' ∧ VR hm' [] v cv ∧ R v H'

theorem AFn.mono {P : Program} {f : FuncId} {args : List Value} {H : AH} {R R' : Value → AH → Prop} (h : AFn P f args H R) (k : ∀ v H', R v H' → R' v H') : AFn P f args H R' :=
  fun hm w0 U w cargs hr ha => (h hm w0 U w cargs hr ha).mono fun e w' ⟨hm', v, cv, H', h1, h2, h3, h4, h5⟩ => ⟨hm', v, cv, H', h1, h2, h3, h4, k v H' h5⟩

def hpV : Value → Bool
  | .agg cs => cs.toList.all hp1
  | .tuple vs => vs.size == 0
  | v => hp1 v

section
variable {hm : HM} {lb : LM} {w0 : World} {U : Env} {st : AS} {w : World} {a : Act} {P : Program}

theorem VR.hp {v cv : Value} (h : hpV v = true) (e : VR hm lb v cv) (lb' : LM) : VR hm lb' v cv := by
  by_cases ho : one v = true
  · refine .of_sr ho ((e.sr ho).hp ?_ lb')
    cases v <;> first | exact h | (simp [one] at ho; done)
  · cases v <;> first | (simp [one] at ho; done) | skip
    case agg cs => obtain ⟨cs', rfl, h2⟩ := e; exact ⟨cs', rfl, h2.hp h lb'⟩
    case tuple vs =>
      have : vs = #[] := Array.eq_empty_of_size_eq_zero (by simpa [hpV] using h)
      subst this
      exact .inl rfl

/-- What a callee may not write: all but the blocks that may be written. -/
def callEnv (st : AS) (hm : HM) (w : World) (U : Env) : Env :=
  ⟨fun B => B < w.heap.size ∧ ∀ n b i, st.heap.get n = some b → b.wr = true → hm n = some i → i.blk ≠ B, U.N⟩

theorem Rel.enter (r : Rel hm lb w0 U st w a) : HRel hm w (callEnv st hm w U) st.heap w where
  nsz := r.nsz
  os := rfl
  tape := rfl
  output := rfl
  size := Nat.le_refl _
  prot := fun B hB => ⟨hB.1, rfl⟩
  fresh := r.fresh
  blk := fun n b hb => by
    obtain ⟨i, C, e, fz, h1, h2, h3, h4, h5, h6, h7, h8⟩ := r.blk n b hb
    exact ⟨i, C, e, fz, h1, h2, h3, h4, h5, h6, fun hw => ⟨(h7 hw).1, (h7 hw).2.1, fun hu => hu.2 n b i hb hw h1 rfl⟩, h8⟩
  inj := r.inj

theorem Rel.back (r : Rel hm lb w0 U st w a) {hm' : HM} {H' : AH} {w' : World} (hle : hm.le hm') (h : HRel hm' w (callEnv st hm w U) H' w') :
    Rel hm' lb w0 U (st.setHeap (H')) w' a := by
  have hU : ∀ B, U B → callEnv st hm w U B := by
    intro B hB
    refine ⟨r.Ult B hB, fun n b i hb hw hi e => ?_⟩
    obtain ⟨i', C, e', fz, h1, h2, h3, h4, h5, h6, h7, h8⟩ := r.blk n b hb
    rw [hi] at h1; cases h1
    exact (h7 hw).2.2 (e ▸ hB)
  have hL : ∀ k B, lb[k]? = some B → callEnv st hm w U B := fun k B hk => ⟨r.loc_lt hk, fun n b i hb hw hi => r.lheap k B n b i hk hb hi⟩
  have hN : ∀ (k B : Nat), lb[k]? = some B → U.N ≤ B := by
    intro k B hk
    have hlt : k < st.locs.length := by rw [← r.llen]; exact lookup_lt hk
    obtain ⟨B', C, e, fz, h1, h2, h3, h4, h5, h6⟩ := r.loc k _ (List.getElem?_eq_getElem hlt)
    rw [hk] at h1; cases h1
    exact h5.2
  have r' : HRel hm' w0 U H' w' :=
    { nsz := h.nsz
      os := h.os.trans r.os
      tape := h.tape.trans r.tape
      output := h.output.trans r.output
      size := Nat.le_trans r.size h.size
      prot := fun B hB => ⟨(r.prot B hB).1, ((h.prot B (hU B hB)).2).trans (r.prot B hB).2⟩
      fresh := h.fresh
      blk := fun n b hb => by
        obtain ⟨i, C, e, fz, h1, h2, h3, h4, h5, h6, h7, h8⟩ := h.blk n b hb
        exact ⟨i, C, e, fz, h1, h2, h3, h4, h5, h6, fun hw => ⟨(h7 hw).1, (h7 hw).2.1, fun hu => (h7 hw).2.2 (hU _ hu)⟩, h8⟩
      inj := h.inj }
  refine r.frame hle r' (fun k B hk => (h.prot B (hL k B hk)).2) ?_
  intro k B n b i hk hb hi e
  obtain ⟨i', C, e', fz, h1, h2, h3, h4, h5, h6, h7, h8⟩ := h.blk n b hb
  rw [hi] at h1; cases h1
  cases hw : b.wr with
  | true => exact (h7 hw).2.2 (e ▸ hL k B hk)
  | false =>
    have q1 := h8 hw
    have q2 := hN k B hk
    have q3 : (callEnv st hm w U).N = U.N := rfl
    omega
end

/-! ## Operations, one behind the other -/
def isSkip : Value → Bool
  | .tuple vs => match vs.toList with | [.tuple us] => us.size == 0 | _ => false
  | _ => false

def awanted (ops : Array Oper) (st : AS) (o : Oper) : Option Bool :=
  match o.guard with
  | none => some true
  | some (j, want) =>
    match (ops[j]?).bind (·.dst) with
    | some d => if d < st.n then (match st.eval (.tmp d) with | .bool b => some (b == want) | v => if isSkip v then some false else none) else none
    | none => none

theorem isSkip_eq {v : Value} (h : isSkip v = true) : v = skipV := by
  unfold isSkip at h
  split at h
  · rename_i vs
    split at h
    · rename_i us hv
      have h1 : us = #[] := Array.eq_empty_of_size_eq_zero (by simpa using h)
      have h2 : vs = #[.tuple us] := by apply Array.toList_inj.1; rw [hv]
      rw [h2, h1]; rfl
    · cases h
  · cases h

theorem awanted_ok {hm : HM} {lb : LM} {w0 : World} {U : Env} {st : AS} {w : World} {a : Act} (r : Rel hm lb w0 U st w a) {ops : Array Oper} {o : Oper} {b : Bool} (h : awanted ops st o = some b) :
    Region.wanted o (yielded ops a.tmps) = b := by
  unfold awanted at h
  unfold Region.wanted
  split at h
  · rename_i hg; rw [hg]; exact Option.some.inj h
  · rename_i j want hg
    rw [hg]
    simp only
    split at h
    · rename_i d hd
      split at h
      · rename_i hn
        have he : st.eval (.tmp d) = st.tmps d := by simp [AS.eval, hn]
        rw [he] at h
        obtain ⟨cv, h1, h2⟩ := r.tmps d hn
        unfold yielded
        rw [hd, Option.bind_some, h1]
        split at h
        · rename_i c hc
          rw [hc] at h2
          have hcv : cv = .bool c := h2.sr rfl
          subst hcv
          have := Option.some.inj h
          rw [← this]
          cases c <;> cases want <;> rfl
        · rename_i v hv
          split at h
          · rename_i hs
            have := isSkip_eq hs
            rw [this] at h2
            have hcv : cv = .tuple #[] := by
              rcases h2 with h2 | ⟨_, h2⟩ | ⟨vs', h3, h4⟩
              · cases h2
              · exact h2
              · obtain ⟨x, h5, h6⟩ := h4.get (i := 0) (a := Value.tuple #[]) rfl
                exact h6.elim
            subst hcv
            have := Option.some.inj h
            rw [← this]
            cases want <;> rfl
          · cases h
      · cases h
    · cases h

/-- The end of a piece of code, as the abstract state has it. -/
def Post (w0 : World) (U : Env) (hm : HM) (Q : Exit → AS → Prop) : Exit → Act → World → Prop :=
  fun e a w => ∃ hm' lb' st', hm.le hm' ∧ Rel hm' lb' w0 U st' w a ∧ Q e st'

def AWp (P : Program) (c : Code) (Q : Exit → AS → Prop) (st : AS) : Prop :=
  ∀ hm lb w0 U w a, Rel hm lb w0 U st w a → c.wp P (Post w0 U hm Q) a w

theorem Post.mono {w0 : World} {U : Env} {hm hm' : HM} {Q : Exit → AS → Prop} (h : hm.le hm') {e : Exit} {a : Act} {w : World} (p : Post w0 U hm' Q e a w) : Post w0 U hm Q e a w := by
  obtain ⟨h1, lb, st, h2, h3, h4⟩ := p
  exact ⟨h1, lb, st, HM.le_trans h h2, h3, h4⟩

/-- One operation; 'g': it leaves all that was there. -/
def AOp (P : Program) (o : Oper) (g : Bool) (K : AS → Prop) (st : AS) : Prop :=
  ∀ hm lb w0 U w a (Q : Exit → Act → World → Prop), Rel hm lb w0 U st w a →
    o.wp P a w (fun a' w' => (g = true → Grows w w') ∧ ∃ hm' lb' st', hm.le hm' ∧ Rel hm' lb' w0 U st' w' a' ∧ K st') Q

theorem AOp.of_W {P : Program} {esc : List Nat} {o : Oper} {g : Bool} {K : AS → Prop} {st st' : AS} {v : Value} (h : aopW P esc o st = some (v, st')) (hg : g = true → grows o = true) (k : K (st'.put o.dst v)) : AOp P o g K st := by
  intro hm lb w0 U w a Q r
  obtain ⟨hm', lb', w', cv, n, h1, h2, h3, h4, h5, h6⟩ := aopW_ok h hm lb w0 U w a r
  unfold Oper.wp
  rw [h1]
  rcases h2 with rfl | ⟨rfl, rfl⟩
  · exact ⟨fun q => h6 (hg q), hm', lb', _, h3, h4.put o.dst h5, k⟩
  · exact ⟨fun q => h6 (hg q), hm', lb', _, h3, h4.put o.dst h5, k⟩

/-- May the function be entered? -/
def enterable (P : Program) (f : FuncId) : Bool :=
  match P.funcs[f]? with
  | some fn => fn.name != "runtime.NumGoroutine" && fn.body.isSome
  | none => false

theorem run_callFunc {P : Program} {w : World} {f : FuncId} {args : Array Value} (h : enterable P f = true) : (callFunc f args).run P w = .ok (.enter f args) w := by
  unfold enterable at h
  cases hf : P.funcs[f]? with
  | none => simp [hf] at h
  | some fn =>
    simp only [hf, Bool.and_eq_true] at h
    have h1 : (fn.name == "runtime.NumGoroutine") = false := by
      have := h.1
      simpa using this
    have h2 : fn.body.isNone = false := by
      have := h.2
      cases hb : fn.body <;> simp_all
    simp only [callFunc, Sem.run_bind, run_program, Result.andThen_ok, hf, h1, h2, Bool.false_eq_true, if_false, Sem.run_pure]

def callArgs (st : AS) (c : Call) : Option (FuncId × List Value) :=
  match c.callee with
  | .value f => match st.eval f with
    | .func (.func g) first cap => if first.size = 0 then some (g, (c.args.toList.map st.eval) ++ cap.toList) else none
    | _ => none
  | _ => none

theorem PR.vr {hm : HM} {lb : LM} {x v : Value} (h : PR hm lb x v) : VR hm lb x v := by
  have : prOk x = true := by cases x <;> first | rfl | exact h.elim
  have ho : one x = true := by cases x <;> first | rfl | (simp [prOk] at this; done)
  refine .of_sr ho ?_
  cases x <;> first | (simp [prOk] at this; done) | exact h | skip
  case pointer p => cases p <;> exact h

/-- The heap as one that is read alone. -/
def AH.ro (H : AH) : AH := ⟨H.next, fun n => (H.get n).map fun b => { b with wr := false }⟩
/-- What a call made, beside what was there. -/
def AH.beside (H H' : AH) : AH := ⟨H'.next, fun n => if n < H.next then H.get n else H'.get n⟩

theorem Rel.enterRo {hm : HM} {lb : LM} {w0 : World} {U : Env} {st : AS} {w : World} {a : Act} (r : Rel hm lb w0 U st w a) : HRel hm w ⟨fun B => B < w.heap.size, w.heap.size⟩ st.heap.ro w where
  nsz := Nat.le_refl _
  os := rfl
  tape := rfl
  output := rfl
  size := Nat.le_refl _
  prot := fun B hB => ⟨hB, rfl⟩
  fresh := r.fresh
  blk := fun n b hb => by
    simp only [AH.ro, Option.map_eq_some_iff] at hb
    obtain ⟨b0, hb0, rfl⟩ := hb
    obtain ⟨i, C, e, fz, h1, h2, h3, h4, h5, h6, h7, h8⟩ := r.blk n b0 hb0
    exact ⟨i, C, e, fz, h1, h2, h3, h4, h5, h6, fun hw => (by cases hw), fun _ => lt_of_get h2⟩
  inj := fun n b n' b' i i' h1 h2 => by
    simp only [AH.ro, Option.map_eq_some_iff] at h1
    obtain ⟨b0, hb0, rfl⟩ := h1
    cases h2

theorem Rel.backRo {hm : HM} {lb : LM} {w0 : World} {U : Env} {st : AS} {w : World} {a : Act} (r : Rel hm lb w0 U st w a) {hm' : HM} {H' : AH} {w' : World} (hle : hm.le hm')
    (h : HRel hm' w ⟨fun B => B < w.heap.size, w.heap.size⟩ H' w') (hx : Ext st.heap.ro H') (hnw : ∀ n b, st.heap.next ≤ n → H'.get n = some b → b.wr = true) :
    Grows w w' ∧ Rel hm' lb w0 U (st.setHeap (st.heap.beside H')) w' a := by
  have hkeep : ∀ B, B < w.heap.size → w'.heap[B]? = w.heap[B]? := fun B hB => (h.prot B hB).2
  have hgr : Grows w w' := fun B o e => by rw [hkeep B (lt_of_get e)]; exact e
  have hnew : ∀ n b i, st.heap.next ≤ n → H'.get n = some b → hm' n = some i → w.heap.size ≤ i.blk := by
    intro n b i hn hb hi
    obtain ⟨i', C, e, fz, h1, h2, h3, h4, h5, h6, h7, h8⟩ := h.blk n b hb
    rw [hi] at h1; cases h1
    have := (h7 (hnw n b hn hb)).2.2
    simp only [] at this
    exact Nat.le_of_not_lt this
  have hold : ∀ n b i, st.heap.get n = some b → hm' n = some i → hm n = some i ∧ i.blk < w.heap.size := by
    intro n b i hb hi
    obtain ⟨i', C, e, fz, h1, h2, h3⟩ := r.blk n b hb
    have := hle _ _ h1
    rw [hi] at this; cases this
    exact ⟨h1, lt_of_get h2⟩
  have r' : HRel hm' w0 U (st.heap.beside H') w' :=
    { nsz := Nat.le_trans r.nsz h.size
      os := h.os.trans r.os
      tape := h.tape.trans r.tape
      output := h.output.trans r.output
      size := Nat.le_trans r.size h.size
      prot := fun B hB => ⟨(r.prot B hB).1, (hkeep B (r.Ult B hB)).trans (r.prot B hB).2⟩
      fresh := fun n hn => h.fresh n hn
      blk := fun n b hb => by
        simp only [AH.beside] at hb
        by_cases q : n < st.heap.next
        · simp only [q, if_true] at hb
          obtain ⟨i, C, e, fz, h1, h2, h3, h4, h5, h6, h7⟩ := r.blk n b hb
          refine ⟨i, C, e, fz, hle _ _ h1, hgr _ _ h2, h3, h4, h5, fun k v hk => ?_, h7⟩
          obtain ⟨v', g1, g2⟩ := h6 k v hk
          exact ⟨v', g1, g2.mono hle fun _ _ x => x⟩
        · simp only [q, if_false] at hb
          obtain ⟨i, C, e, fz, h1, h2, h3, h4, h5, h6, h7, h8⟩ := h.blk n b hb
          have hw := hnw n b (by omega) hb
          refine ⟨i, C, e, fz, h1, h2, h3, h4, h5, h6, fun _ => ⟨(h7 hw).1, (h7 hw).2.1, fun hu => (h7 hw).2.2 (r.Ult _ hu)⟩, fun z => by rw [hw] at z; cases z⟩
      inj := fun n b n' b' i i' h1 h2 h3 h4 h5 h6 => by
        simp only [AH.beside] at h1 h3
        by_cases q : n < st.heap.next <;> by_cases q' : n' < st.heap.next
        · simp only [q, q', if_true] at h1 h3
          exact r.inj n b n' b' i i' h1 h2 h3 h4 (hold n b i h1 h5).1 (hold n' b' i' h3 h6).1
        · simp only [q, q', if_true, if_false] at h1 h3
          have g1 := (hold n b i h1 h5).2
          have g2 := hnew n' b' i' (by omega) h3 h6
          omega
        · simp only [q, q', if_true, if_false] at h1 h3
          have g1 := hnew n b i (by omega) h1 h5
          have g2 := (hold n' b' i' h3 h6).2
          omega
        · simp only [q, q', if_false] at h1 h3
          exact h.inj n b n' b' i i' h1 h2 h3 h4 h5 h6 }
  refine ⟨hgr, r.frame hle r' (fun k B hk => hkeep B (r.loc_lt hk)) ?_⟩
  intro k B n b i hk hb hi e
  simp only [AH.beside] at hb
  by_cases q : n < st.heap.next
  · simp only [q, if_true] at hb
    exact r.lheap k B n b i hk hb (hold n b i hb hi).1 e
  · simp only [q, if_false] at hb
    have := hnew n b i (by omega) hb hi
    have := r.loc_lt hk
    omega

theorem call_run {P : Program} {hm : HM} {lb : LM} {w0 : World} {U : Env} {st : AS} {w : World} {a : Act} (r : Rel hm lb w0 U st w a) {o : Oper} {c : Call} {g : FuncId} {args : List Value} (ho : o.op = .call c)
    (hc : callArgs st c = some (g, args)) (hg : enterable P g = true) (hh : args.all hpV = true) :
    ∃ cargs : Array Value, (execOp a.eval o).run P w = .ok (.enter g cargs) w ∧ L2 (VR hm []) args cargs.toList := by
  unfold callArgs at hc
  split at hc
  · rename_i f hcallee
    split at hc
    · rename_i g' first cap hev
      split at hc
      · rename_i hfirst
        cases hc
        have hfv := r.eval f
        rw [hev] at hfv
        obtain ⟨cap', h1, h2, h3⟩ := hfv.sr rfl
        have hfe : first = #[] := h2
        subst hfe
        refine ⟨c.args.map a.eval ++ cap', ?_, ?_⟩
        · simp only [execOp, ho, resolve, hcallee, h1, Deferred.ofValue, Sem.run_bind, Sem.run_pure, Result.andThen_ok, invoke]
          rw [Array.empty_append]
          exact run_callFunc hg
        · rw [Array.toList_append, Array.toList_map]
          have hl : L2 (VR hm lb) (c.args.toList.map st.eval ++ cap.toList) (c.args.toList.map a.eval ++ cap'.toList) :=
            (L2.map (R := VR hm lb) c.args.toList fun x _ => r.eval x).append (h3.mono fun x y q => q.vr)
          exact ⟨hl.1, fun i x y hx hy => (hl.2 i x y hx hy).hp (List.all_eq_true.1 hh x (List.mem_of_getElem? hx)) []⟩
      · cases hc
    · cases hc
  · cases hc

/-- A call of whatever kind. -/
theorem AOp.of_call {P : Program} {o : Oper} {c : Call} {K : AS → Prop} {st : AS} {g : FuncId} {args : List Value} {R : Value → AH → Prop} (ho : o.op = .call c)
    (hc : callArgs st c = some (g, args)) (hg : enterable P g = true) (hh : args.all hpV = true) (hf : AFn P g args st.heap R)
    (k : ∀ v H', R v H' → K (AS.put (st.setHeap (H')) o.dst v)) : AOp P o false K st := by
  intro hm lb w0 U w a Q r
  obtain ⟨cargs, hrun, hargs⟩ := call_run r ho hc hg hh
  unfold Oper.wp
  rw [hrun]
  refine (hf hm w (callEnv st hm w U) w cargs r.enter hargs).mono fun e w' q => ?_
  obtain ⟨hm', v, cv, H', rfl, q2, q3, q4, q5⟩ := q
  exact ⟨fun z => (by cases z), hm', lb, _, q2, (r.back q2 q3).put o.dst (q4.mono (HM.le_refl _) fun k B z => by simp at z), k v H' q5⟩

/-- What a call that only makes new memory says. -/
def MadeOnly (H : AH) (R : Value → AH → Prop) : Value → AH → Prop := fun v H' => Ext H H' ∧ (∀ n b, H.next ≤ n → H'.get n = some b → b.wr = true) ∧ R v H'

/-- A call that only makes new memory: it is held against the heap as one that is read alone. -/
theorem AOp.of_clean {P : Program} {o : Oper} {g0 : Bool} {c : Call} {K : AS → Prop} {st : AS} {g : FuncId} {args : List Value} {R : Value → AH → Prop} (ho : o.op = .call c)
    (hc : callArgs st c = some (g, args)) (hg : enterable P g = true) (hh : args.all hpV = true) (hf : AFn P g args st.heap.ro (MadeOnly st.heap.ro R))
    (k : ∀ v H', Ext st.heap.ro H' → R v H' → K (AS.put (st.setHeap (st.heap.beside H')) o.dst v)) : AOp P o g0 K st := by
  intro hm lb w0 U w a Q r
  obtain ⟨cargs, hrun, hargs⟩ := call_run r ho hc hg hh
  unfold Oper.wp
  rw [hrun]
  refine (hf hm w ⟨fun B => B < w.heap.size, w.heap.size⟩ w cargs r.enterRo hargs).mono fun e w' q => ?_
  obtain ⟨hm', v, cv, H', rfl, q2, q3, q4, q5, q6, q7⟩ := q
  obtain ⟨h1, h2⟩ := r.backRo q2 q3 q5 q6
  exact ⟨fun _ => h1, hm', lb, _, q2, h2.put o.dst (q4.mono (HM.le_refl _) fun k B z => by simp at z), k v H' q5 q7⟩

/-! ## A region, in an order that stands for all -/
def tks (P : Program) (o : Oper) : Bool :=
  match o.op with
  | .move _ | .assign _ | .pick _ _ _ | .build _ _ | .load _ _ | .nilCheck _ | .binOp _ _ _ _ _ | .unOp _ _ _ | .makeFunc _ _ _ | .slice _ _ _ _ _
  | .fieldAddr _ _ _ | .field _ _ _ | .indexAddr _ _ _ | .index _ _ _ | .extract _ _ => true
  | .convert _ dst _ => match und P dst with | some (.slice _) => false | _ => true
  | .call { callee := .builtin .len, .. } | .call { callee := .builtin .cap, .. } | .call { callee := .builtin .min, .. } | .call { callee := .builtin .max, .. } => true
  | _ => false

/-- 'cc': the calls that only make new memory. -/
def grw (P : Program) (ops : Array Oper) (cc : List Nat) (i : Nat) : Bool :=
  match ops[i]? with
  | some o => tks P o || grows o || cc.contains i
  | none => false

def Yl (P : Program) (ops : Array Oper) (o : Oper) (v : Value) (a : Act) (w : World) : Prop :=
  (Region.wanted o (yielded ops a.tmps) = true ∧ ∀ w', Grows w w' → (execOp a.eval o).run P w' = .ok (.value v) w') ∨ (Region.wanted o (yielded ops a.tmps) = false ∧ v = undef)

def wpPlan (P : Program) (ops : Array Oper) (G : Nat → Bool) (Q : Exit → Act → World → Prop) : List Nat → Act → World → Prop
  | [], a, w => Q .normal a w
  | i :: rest, a, w =>
    match ops[i]? with
    | none => False
    | some o =>
      if tks P o then ∃ v, Yl P ops o v a w ∧ wpPlan P ops G Q rest (a.put o.dst v) w
      else wpOp P ops Q i (fun a' w' => (G i = true → Grows w w') ∧ wpPlan P ops G Q rest a' w') a w

theorem Yl.wpOp {P : Program} {ops : Array Oper} {Q : Exit → Act → World → Prop} {i : Nat} {o : Oper} {v : Value} {a : Act} {w : World} (hi : ops[i]? = some o) (hy : Yl P ops o v a w) {K : Act → World → Prop}
    (h : K (a.put o.dst v) w) : Go.wpOp P ops Q i K a w := by
  unfold Go.wpOp
  simp only [hi]
  rcases hy with ⟨hw, hv⟩ | ⟨hw, rfl⟩
  · simp only [hw, if_true, Oper.wp, hv w (Grows.refl w), Oper.upon]; exact .inl h
  · simp only [hw, Bool.false_eq_true, if_false]; exact h

/-- In the text's own order it is the region that draws nothing. -/
theorem wpOps_of_plan {P : Program} {ops : Array Oper} {G : Nat → Bool} {Q : Exit → Act → World → Prop} : ∀ (l : List Nat) (a : Act) (w : World), wpPlan P ops G Q l a w → wpOps P ops Q l a w
  | [], a, w, h => h
  | i :: rest, a, w, h => by
    rw [wpOps_cons]
    unfold wpPlan at h
    split at h
    · exact h.elim
    · rename_i o ho
      split at h
      · obtain ⟨v, h1, h2⟩ := h
        exact h1.wpOp ho (wpOps_of_plan rest _ _ h2)
      · exact wpOp_mono (fun a w q => wpOps_of_plan rest a w q.2) h

def wpAnyG (P : Program) (ops : Array Oper) (G : Nat → Bool) (Q : Exit → Act → World → Prop) : Nat → Array Bool → Act → World → Prop
  | 0, listed, a, w => Region.ready .any ops listed = [] ∧ Q .normal a w
  | fuel + 1, listed, a, w =>
    (Region.ready .any ops listed = [] → Q .normal a w) ∧
    ∀ i ∈ Region.ready .any ops listed, wpOp P ops Q i (fun a' w' => (G i = true → Grows w w') ∧ wpAnyG P ops G Q fuel (listed.setIfInBounds i true) a' w') a w

theorem wpAny_of_G {P : Program} {ops : Array Oper} {G : Nat → Bool} {Q : Exit → Act → World → Prop} : ∀ (fuel : Nat) (listed : Array Bool) (a : Act) (w : World), wpAnyG P ops G Q fuel listed a w → wpAny P .any ops Q fuel listed a w
  | 0, _, _, _, h => h
  | fuel + 1, _, _, _, h => ⟨h.1, fun i hi => wpOp_mono (fun a' w' h' => wpAny_of_G fuel _ a' w' h'.2) (h.2 i hi)⟩

/-- An operation that reads alone may be taken first, if nothing that may come before it writes what was there. -/
theorem wpAnyG_first {P : Program} {ops : Array Oper} {G : Nat → Bool} {Q : Exit → Act → World → Prop} {i : Nat} {oi : Oper} {v : Value} (hi : ops[i]? = some oi)
    (hsel : ∀ (j : Nat) (o : Oper) cs b, ops[j]? = some o → o.op ≠ .select cs b) (hQ : ∀ c a w, Q (.panic c) (a.put oi.dst v) w → Q (.panic c) a w) (w1 : World) :
    ∀ (fuel : Nat) (listed : Array Bool) (a : Act) (w : World),
      (∀ j oj, ops[j]? = some oj → j ≠ i → listed.getD j true = false → (∀ e ∈ oj.after, Region.binds .any e = true → e.on ≠ i) → oi.apart ops oj = true ∧ G j = true) →
      i ∈ Region.ready .any ops listed → YieldsIf P ops (Grows w1) oi v a → Grows w1 w →
      wpAnyG P ops G Q fuel (listed.setIfInBounds i true) (a.put oi.dst v) w → wpAnyG P ops G Q (fuel + 1) listed a w := by
  intro fuel
  induction fuel with
  | zero =>
    intro listed a w _ hr hy hS H
    refine ⟨fun h => (by rw [h] at hr; cases hr), fun j hj => ?_⟩
    by_cases hji : j = i
    · subst hji; exact hy.wpOp hi hS ⟨fun _ => Grows.refl w, H⟩
    · have := ready_mono hj hji
      rw [H.1] at this
      cases this
  | succ fuel ih =>
    intro listed a w hfree hr hy hS H
    refine ⟨fun h => (by rw [h] at hr; cases hr), fun j hj => ?_⟩
    by_cases hji : j = i
    · subst hji; exact hy.wpOp hi hS ⟨fun _ => Grows.refl w, H⟩
    · have h1 := H.2 j (ready_mono hj hji)
      obtain ⟨hjun, oj, hoj, hall⟩ := mem_ready.1 hj
      have hnot : ∀ e ∈ oj.after, Region.binds .any e = true → e.on ≠ i := fun e he hb heq => by
        have h1 := hall e he hb
        have h0 := (mem_ready.1 hr).1
        rw [heq] at h1
        rcases Nat.lt_or_ge i listed.size with h' | h'
        · simp [h'] at h0 h1; rw [h0] at h1; cases h1
        · simp [Array.getElem?_eq_none h'] at h1
      have hfr := hfree j oj hoj hji hjun hnot
      have h2 := wpOp_putIf hoj hfr.1 (fun cs b => hsel i oi cs b hi) (fun cs b => hsel j oj cs b hoj) hQ hy h1
      have hfree' : ∀ k ok, ops[k]? = some ok → k ≠ i → (listed.setIfInBounds j true).getD k true = false →
          (∀ e ∈ ok.after, Region.binds .any e = true → e.on ≠ i) → oi.apart ops ok = true ∧ G k = true := fun k ok hk hki hun hno => by
        refine hfree k ok hk hki ?_ hno
        by_cases hjk : j = k
        · subst hjk; exact hjun
        · rw [getD_set_ne true hjk] at hun; exact hun
      refine wpOp_mono (fun a' w' h3 => ⟨h3.2.1, ih (listed.setIfInBounds j true) a' w' hfree' (ready_mono hr (Ne.symm hji)) h3.1 (hS.trans (h3.2.1 hfr.2)) ?_⟩) h2
      rw [Array.setIfInBounds_comm _ _ hji]
      exact h3.2.2

/-- May number 'i' be taken first? -/
def freeG (P : Program) (ops : Array Oper) (cc : List Nat) (listed : Array Bool) (i : Nat) : Bool :=
  match ops[i]? with
  | none => false
  | some oi => (List.range ops.size).all fun j => j == i || listed.getD j true || (match ops[j]? with
    | some oj => (oj.after.toList.any fun e => Region.binds .any e && e.on == i) || (oi.apart ops oj && grw P ops cc j)
    | none => true)

def planOk (P : Program) (ops : Array Oper) (cc : List Nat) : Array Bool → List Nat → Bool
  | listed, [] => (Region.ready .any ops listed).isEmpty
  | listed, i :: rest =>
    (match ops[i]? with
     | some o => if tks P o then (Region.ready .any ops listed).contains i && freeG P ops cc listed i else Region.ready .any ops listed == [i]
     | none => false) && planOk P ops cc (listed.setIfInBounds i true) rest

theorem any_of_plan {P : Program} {ops : Array Oper} {cc : List Nat} {Q : Exit → Act → World → Prop} (hsel : ∀ (j : Nat) (o : Oper) cs b, ops[j]? = some o → o.op ≠ .select cs b)
    (hQ : ∀ c a a' w, Q (.panic c) a w → Q (.panic c) a' w) : ∀ (l : List Nat) (listed : Array Bool) (a : Act) (w : World), planOk P ops cc listed l = true →
      wpPlan P ops (grw P ops cc) Q l a w → wpAnyG P ops (grw P ops cc) Q l.length listed a w
  | [], listed, a, w, hp, h => by
    simp only [planOk, List.isEmpty_iff] at hp
    exact ⟨hp, h⟩
  | i :: rest, listed, a, w, hp, h => by
    unfold planOk at hp
    unfold wpPlan at h
    simp only [Bool.and_eq_true] at hp
    obtain ⟨hp1, hp2⟩ := hp
    split at h
    · exact h.elim
    · rename_i o ho
      simp only [ho] at hp1
      by_cases ht : tks P o = true
      · simp only [ht, if_true, Bool.and_eq_true] at hp1 h
        obtain ⟨v, h1, h2⟩ := h
        obtain ⟨hr, hf⟩ := hp1
        refine wpAnyG_first ho hsel (fun c a w q => hQ c _ _ w q) w rest.length listed a w ?_ (by simpa using hr) h1 (Grows.refl w) (any_of_plan hsel hQ rest _ _ _ hp2 h2)
        intro j oj hoj hji hun hno
        unfold freeG at hf
        simp only [ho, List.all_eq_true, List.mem_range] at hf
        have := hf j ((Array.getElem?_eq_some_iff.1 hoj).1)
        simp only [hoj, hun, Bool.or_false, Bool.or_eq_true, beq_iff_eq, hji, false_or, Bool.and_eq_true, List.any_eq_true, Array.mem_toList_iff] at this
        rcases this with ⟨e, he, hb, heq⟩ | q
        · exact absurd heq (hno e he hb)
        · exact q
      · simp only [ht, Bool.false_eq_true, if_false] at hp1 h
        have hr : Region.ready .any ops listed = [i] := by simpa using hp1
        refine ⟨fun q => (by rw [hr] at q; cases q), fun j hj => ?_⟩
        rw [hr] at hj
        obtain rfl : j = i := by simpa using hj
        exact wpOp_mono (fun a' w' q => ⟨q.1, any_of_plan hsel hQ rest _ _ _ hp2 q.2⟩) h

/-- Along a list, as the abstract state has it. -/
def APlan (P : Program) (ops : Array Oper) (cc : List Nat) (l : List Nat) (Q : Exit → AS → Prop) (st : AS) : Prop :=
  ∀ hm lb w0 U w a, Rel hm lb w0 U st w a → wpPlan P ops (grw P ops cc) (Post w0 U hm Q) l a w

theorem wpPlan_mono {P : Program} {ops : Array Oper} {G : Nat → Bool} {Q Q' : Exit → Act → World → Prop} (hq : ∀ e a w, Q e a w → Q' e a w) : ∀ (l : List Nat) (a : Act) (w : World), wpPlan P ops G Q l a w → wpPlan P ops G Q' l a w
  | [], a, w, h => hq _ _ _ h
  | i :: rest, a, w, h => by
    unfold wpPlan at h ⊢
    split at h
    · exact h.elim
    · rename_i o ho
      split at h
      · rename_i ht
        rw [if_pos ht]
        obtain ⟨v, h1, h2⟩ := h
        exact ⟨v, h1, wpPlan_mono hq rest _ _ h2⟩
      · rename_i ht
        rw [if_neg ht]
        have h8 := wpOp_mono (fun a w q => And.intro q.1 (wpPlan_mono hq rest a w q.2)) h
        unfold wpOp at h8 ⊢
        simp only [ho] at h8 ⊢
        split at h8
        · rename_i hwn
          rw [if_pos hwn]
          refine h8.imp (fun q => ?_) (fun ⟨q1, a0, w1, q2⟩ => ⟨q1, a0, w1, hq _ _ _ q2⟩)
          unfold Oper.wp at q ⊢
          revert q
          generalize (execOp a.eval o).run P w = res
          intro q
          cases res with
          | ok n w' =>
            cases n <;> simp only [Oper.upon] at q ⊢ <;> first
              | exact q
              | exact Calls.mono q (fun e w'' he => by cases e <;> first | exact he | exact hq _ _ _ he | (obtain ⟨a0, w1, q2⟩ := he; exact ⟨a0, w1, hq _ _ _ q2⟩))
          | halt x w' => cases x <;> simp only [Oper.upon] at q ⊢ <;> first | exact q | exact hq _ _ _ q
        · rename_i hwn
          rw [if_neg hwn]
          exact h8

section
variable {P : Program} {ops : Array Oper} {cc : List Nat} {Q : Exit → AS → Prop} {st : AS}
theorem aplan_nil (h : Q .normal st) : APlan P ops cc [] Q st := by
  intro hm lb w0 U w a r
  exact ⟨hm, lb, st, HM.le_refl _, r, h⟩
theorem aplan_take {i : Nat} {l : List Nat} {o : Oper} {v : Value} (ho : ops[i]? = some o) (ht : tks P o = true) (hw : awanted ops st o = some true) (h : aopR P o st = some v)
    (k : APlan P ops cc l Q (st.put o.dst v)) : APlan P ops cc (i :: l) Q st := by
  intro hm lb w0 U w a r
  have hw' := awanted_ok r hw
  obtain ⟨cv, h1, h2⟩ := aopR_ok h hm lb w0 U w a r
  simp only [wpPlan, ho, ht, if_true]
  exact ⟨cv, .inl ⟨hw', h1⟩, k hm lb w0 U w _ (r.put o.dst h2)⟩
theorem aplan_skip {i : Nat} {l : List Nat} {o : Oper} (ho : ops[i]? = some o) (hw : awanted ops st o = some false) (k : APlan P ops cc l Q (st.put o.dst skipV)) : APlan P ops cc (i :: l) Q st := by
  intro hm lb w0 U w a r
  have hw' := awanted_ok r hw
  have r' := r.put o.dst (v := skipV) (cv := undef) (.inr (.inl ⟨rfl, rfl⟩))
  simp only [wpPlan, ho]
  split
  · exact ⟨undef, .inr ⟨hw', rfl⟩, k hm lb w0 U w _ r'⟩
  · simp only [wpOp, ho, hw', Bool.false_eq_true, if_false]
    exact ⟨fun _ => Grows.refl w, k hm lb w0 U w _ r'⟩
theorem aplan_op {i : Nat} {l : List Nat} {o : Oper} (ho : ops[i]? = some o) (ht : tks P o = false) (hw : awanted ops st o = some true) (h : AOp P o (grw P ops cc i) (APlan P ops cc l Q) st) : APlan P ops cc (i :: l) Q st := by
  intro hm lb w0 U w a r
  have hw' := awanted_ok r hw
  simp only [wpPlan, ho, ht, Bool.false_eq_true, if_false, wpOp, hw', if_true]
  refine .inl (Oper.wp_mono (fun a' w' q => ?_) (h hm lb w0 U w a _ r))
  obtain ⟨hg, hm', lb', st', h1, h2, h3⟩ := q
  exact ⟨hg, wpPlan_mono (fun e a w q => Post.mono h1 q) l a' w' (h3 hm' lb' w0 U w' a' h2)⟩
end

/-! ## Statements -/
section
variable {P : Program} {Q : Exit → AS → Prop} {st : AS}
theorem awp_mono {c : Code} {Q' : Exit → AS → Prop} (h : AWp P c Q st) (k : ∀ e s, Q e s → Q' e s) : AWp P c Q' st :=
  fun hm lb w0 U w a r => wp_mono (h hm lb w0 U w a r) fun e a w ⟨hm', lb', st', h1, h2, h3⟩ => ⟨hm', lb', st', h1, h2, k e st' h3⟩
theorem awp_skip (h : Q .normal st) : AWp P .skip Q st := fun hm lb w0 U w a r => wp_skip ⟨hm, lb, st, HM.le_refl _, r, h⟩
theorem awp_exit {id : Nat} (h : Q (.exit id) st) : AWp P (.exit id) Q st := fun hm lb w0 U w a r => wp_exit ⟨hm, lb, st, HM.le_refl _, r, h⟩
theorem awp_ret (h : Q .ret st) : AWp P .ret Q st := fun hm lb w0 U w a r => wp_ret ⟨hm, lb, st, HM.le_refl _, r, h⟩
theorem awp_region {id : Nat} {ops : Array Oper} (cc : List Nat) (h : APlan P ops cc (List.range ops.size) Q st) : AWp P (.region id ops false) Q st :=
  fun hm lb w0 U w a r => wp_region (wpOps_of_plan _ _ _ (h hm lb w0 U w a r))

/-- A region that draws its order: along a plan that stands for all orders. -/
theorem awp_draw {id : Nat} {ops : Array Oper} (cc l : List Nat) (hm : P.follows .mixedOrders = true) (hs : Region.noSelect ops = true) (hl : l.length = ops.size)
    (hp : planOk P ops cc (Array.replicate ops.size false) l = true) (hQ : ∀ c s s', Q (.panic c) s → Q (.panic c) s') (h : APlan P ops cc l (fun e s => Q e s ∧ ∀ c, e ≠ .panic c) st) :
    AWp P (.region id ops true) Q st := by
  intro hm' lb w0 U w a r
  refine wp_mono (Q := fun e a w => Post w0 U hm' Q e a w ∧ ∀ c, e ≠ .panic c) ?_ (fun e a w q => q.1)
  refine wp_region_any hm (wpAny_of_G (G := grw P ops cc) _ _ _ _ ?_)
  have hlen : ∀ k, k = ops.size → ∀ a w, wpAnyG P ops (grw P ops cc) (fun e a w => Post w0 U hm' Q e a w ∧ ∀ c, e ≠ .panic c) k (Array.replicate ops.size false) a w → wpAnyG P ops (grw P ops cc) (fun e a w => Post w0 U hm' Q e a w ∧ ∀ c, e ≠ .panic c) ops.size (Array.replicate ops.size false) a w := by
    intro k hk a w q; subst hk; exact q
  refine hlen l.length hl _ _ ?_
  refine any_of_plan (cc := cc) (Region.noSelect_spec hs) (fun c a a' w q => absurd rfl (q.2 c)) l _ _ _ hp ?_
  refine wpPlan_mono (fun e a w q => ?_) l _ _ (h hm' lb w0 U _ a (r.drawn (w.drawn + 1)))
  obtain ⟨h1, lb', st', h2, h3, h4, h5⟩ := q
  exact ⟨⟨h1, lb', st', h2, h3, h4⟩, h5⟩

def Then (K : AS → Prop) (Q : Exit → AS → Prop) : Exit → AS → Prop
  | .normal, s => K s
  | e, s => Q e s

theorem awp_seq {x y : Code} (h : AWp P x (Then (AWp P y Q) Q) st) : AWp P (.seq x y) Q st := by
  intro hm lb w0 U w a r
  refine wp_seq (wp_mono (h hm lb w0 U w a r) fun e a' w' q => ?_)
  obtain ⟨hm', lb', st', h1, h2, h3⟩ := q
  cases e with
  | normal => exact wp_mono (h3 hm' lb' w0 U w' a' h2) fun e a w q => Post.mono h1 q
  | _ => exact ⟨hm', lb', st', h1, h2, h3⟩
/-- The rest behind a variable. -/
theorem awp_seq_k {x y : Code} (h : ∀ K : AS → Prop, (∀ s, AWp P y Q s → K s) → AWp P x (Then K Q) st) : AWp P (.seq x y) Q st :=
  awp_seq (h _ fun _ h => h)
theorem awp_cond {c : Operand} {x y : Code} {b : Bool} (hc : st.eval c = .bool b) (h : AWp P (if b then x else y) Q st) : AWp P (.cond c x y) Q st := by
  intro hm lb w0 U w a r
  have := r.eval c
  rw [hc] at this
  exact wp_cond (this.sr rfl) (h hm lb w0 U w a r)
theorem awp_cond2 {c : Operand} {x y : Code} {b : Bool} (hc : st.eval c = .bool b) (ht : b = true → AWp P x Q st) (hf : b = false → AWp P y Q st) : AWp P (.cond c x y) Q st := by
  cases b with
  | true => exact awp_cond hc (ht rfl)
  | false => exact awp_cond hc (hf rfl)

def InBlock (id : Nat) (Q : Exit → AS → Prop) : Exit → AS → Prop
  | .exit id', s => if id' = id then Q .normal s else Q (.exit id') s
  | e, s => Q e s
theorem awp_block {id : Nat} {c : Code} (h : AWp P c (InBlock id Q) st) : AWp P (.block id c) Q st := by
  intro hm lb w0 U w a r
  refine wp_block (wp_mono (h hm lb w0 U w a r) fun e a' w' q => ?_)
  obtain ⟨hm', lb', st', h1, h2, h3⟩ := q
  cases e with
  | exit id' =>
    simp only [Exit.inBlock]
    by_cases e : id' = id
    · simp only [e, if_true]
      simp only [InBlock, e, if_true] at h3
      exact ⟨hm', lb', st', h1, h2, h3⟩
    · simp only [e, if_false]
      simp only [InBlock, e, if_false] at h3
      exact ⟨hm', lb', st', h1, h2, h3⟩
  | _ => exact ⟨hm', lb', st', h1, h2, h3⟩

/-- A loop: what holds at every round's head, and what falls. -/
theorem awp_loop {c : Code} (I : AS → Prop) (μ : AS → Nat) (h0 : I st) (round : ∀ s, I s → AWp P c (Then (fun s' => I s' ∧ μ s' < μ s) Q) s) : AWp P (.loop c) Q st := by
  have key : ∀ n s, μ s = n → I s → ∀ hm lb w0 U w a, Rel hm lb w0 U s w a → ∀ b k cs, ∃ e a' w', Post w0 U hm Q e a' w' ∧ Arrives P (lone (b.at a (.code c :: .inLoop c :: k)) cs w) b k cs e a' w' := by
    intro n
    induction n using Nat.strongRecOn with
    | _ n ih =>
      intro s hn hI hm lb w0 U w a r b k cs
      obtain ⟨e, a₁, w₁, hq, harr⟩ := round s hI hm lb w0 U w a r b (.inLoop c :: k) cs
      obtain ⟨hm', lb', s', h1, h2, h3⟩ := hq
      cases e with
      | normal =>
        obtain ⟨hI₁, hlt⟩ := h3
        obtain ⟨e₂, a₂, w₂, hq₂, harr₂⟩ := ih (μ s') (hn ▸ hlt) s' rfl hI₁ hm' lb' w0 U w₁ a₁ h2 b k cs
        exact ⟨e₂, a₂, w₂, Post.mono h1 hq₂, .of_steps (Steps.trans harr (.one step_inLoop)) harr₂⟩
      | exit id => exact ⟨_, a₁, w₁, ⟨hm', lb', s', h1, h2, h3⟩, .pass (x := .inLoop c) rfl (fun _ _ => .inl (by simp)) harr⟩
      | goto l => exact ⟨_, a₁, w₁, ⟨hm', lb', s', h1, h2, h3⟩, .pass (x := .inLoop c) rfl (fun _ _ => .inl (by simp)) harr⟩
      | ret => exact ⟨_, a₁, w₁, ⟨hm', lb', s', h1, h2, h3⟩, .pass (x := .inLoop c) rfl (fun _ _ => .inl (by simp)) harr⟩
      | panic ch => exact ⟨_, a₁, w₁, ⟨hm', lb', s', h1, h2, h3⟩, .pass (x := .inLoop c) rfl (fun _ _ => .inl (by simp)) harr⟩
      | outgrown => exact ⟨_, a₁, w₁, ⟨hm', lb', s', h1, h2, h3⟩, .pass (x := .inLoop c) rfl (fun _ _ => .inl (by simp)) harr⟩
  intro hm lb w0 U w a r b k cs
  obtain ⟨e, a', w', hq, harr⟩ := key _ st rfl h0 hm lb w0 U w a r b k cs
  exact ⟨e, a', w', hq, .of_steps (.one step_loop) harr⟩
end

/-! ## Functions -/
def start (n : Nat) (args : List Value) (H : AH) : AS := ⟨n, fun t => args.getD t undef, [], H⟩

/-- What a function returns, out of its slots and boxes. -/
def ares1 (P : Program) (st : AS) : ResultVar → Option Value
  | .tmp t => if t < st.n then some (st.eval (.tmp t)) else none
  | .cell t T => if t < st.n then aload P st T (st.eval (.tmp t)) else none

def aresL (P : Program) (st : AS) : List ResultVar → Option (List Value)
  | [] => some []
  | x :: r => match ares1 P st x, aresL P st r with | some v, some vs => some (v :: vs) | _, _ => none

def notTuple : Value → Bool | .tuple _ => false | _ => true

def ares (P : Program) (rs : List ResultVar) (st : AS) : Option Value :=
  match aresL P st rs with
  | some [v] => some v
  | some vs => if vs.all notTuple then some (.tuple vs.toArray) else none
  | none => none

section
variable {hm : HM} {lb : LM} {w0 : World} {U : Env} {st : AS} {w : World} {a : Act} {P : Program}

def res1 (tmps : Array Value) : ResultVar → Sem Value
  | .tmp t => pure (tmps.getD t undef)
  | .cell a t => do loadVar t (← asAddr (tmps.getD a undef))

theorem ares1_ok (r : Rel hm lb w0 U st w a) {x : ResultVar} {v : Value} (h : ares1 P st x = some v) : ∃ cv, (res1 a.tmps x).run P w = .ok cv w ∧ VR hm lb v cv := by
  cases x with
  | tmp t =>
    simp only [ares1] at h
    split at h
    · rename_i ht
      have he : st.eval (.tmp t) = st.tmps t := by simp [AS.eval, ht]
      rw [he] at h
      cases h
      obtain ⟨cv, h1, h2⟩ := r.tmps t ht
      refine ⟨cv, ?_, h2⟩
      simp [res1, h1]
    · cases h
  | cell t T =>
    simp only [ares1] at h
    split at h
    · rename_i ht
      have he : st.eval (.tmp t) = st.tmps t := by simp [AS.eval, ht]
      rw [he] at h
      obtain ⟨cx, h1, h2⟩ := r.tmps t ht
      obtain ⟨cv, h3, h4⟩ := aload_ok (P := P) r h h2
      refine ⟨cv, ?_, h4⟩
      have hp : ∃ c, cx = .pointer (some c) := by
        unfold aload at h
        split at h
        · rename_i p hp
          rw [hp] at h2
          obtain ⟨c, _, rfl⟩ := h2.sr rfl
          exact ⟨c, rfl⟩
        · cases h
      obtain ⟨c, rfl⟩ := hp
      simp only [Instr.loadAt, Instr.sureAddr, Sem.run_bind, Sem.run_pure, Result.andThen_ok] at h3
      simp [res1, h1, asAddr, h3 w (Grows.refl w)]
    · cases h

theorem aresL_ok (r : Rel hm lb w0 U st w a) : ∀ {l : List ResultVar} {vs : List Value}, aresL P st l = some vs → ∃ cvs, (l.mapM (res1 a.tmps)).run P w = .ok cvs w ∧ L2 (VR hm lb) vs cvs
  | [], vs, h => by cases h; exact ⟨[], by simp, .nil⟩
  | x :: l, vs, h => by
    unfold aresL at h
    split at h
    · rename_i v vs' hv hvs
      cases h
      obtain ⟨cv, h1, h2⟩ := ares1_ok (P := P) r hv
      obtain ⟨cvs, h3, h4⟩ := aresL_ok r hvs
      exact ⟨cv :: cvs, by simp [List.mapM_cons, h1, h3], .cons h2 h4⟩
    · cases h

theorem VR.vr1 {v cv : Value} (h : notTuple v = true) (e : VR hm lb v cv) : VR1 hm lb v cv := by
  unfold VR at e
  split at e
  · simp [notTuple] at h
  · exact e

theorem results_eq (fn : Func) (tmps : Array Value) : results fn tmps = (do let vs ← fn.results.mapM (res1 tmps); pure (if h : vs.size = 1 then vs[0] else .tuple vs)) := by
  unfold results
  congr 1

theorem ares_ok (r : Rel hm lb w0 U st w a) {fn : Func} {v : Value} (h : ares P fn.results.toList st = some v) : ∃ cv, (results fn a.tmps).run P w = .ok cv w ∧ VR hm lb v cv := by
  unfold ares at h
  rw [results_eq]
  have hmap : ∀ cvs, (fn.results.toList.mapM (res1 a.tmps)).run P w = .ok cvs w → (fn.results.mapM (res1 a.tmps)).run P w = .ok cvs.toArray w := by
    intro cvs hc
    have e := Array.toList_mapM (xs := fn.results) (f := res1 a.tmps)
    rw [← e, Sem.run_map] at hc
    cases hx : (fn.results.mapM (res1 a.tmps)).run P w with
    | ok arr w' =>
      rw [hx] at hc
      simp only [Result.andThen_ok] at hc
      injection hc with h1 h2
      rw [← h1, h2]
    | halt x w' => rw [hx] at hc; simp at hc
  split at h
  · rename_i u hu
    cases h
    obtain ⟨cvs, h1, h2⟩ := aresL_ok (P := P) r hu
    obtain ⟨cv, t, rfl, h3, h4⟩ := h2.cons_inv
    rw [h4.nil_inv] at h1
    refine ⟨cv, ?_, h3⟩
    rw [Sem.run_bind, hmap _ h1]
    simp
  · rename_i vs hne hvs
    split at h
    · rename_i hnt
      cases h
      obtain ⟨cvs, h1, h2⟩ := aresL_ok (P := P) r hvs
      have hlen : cvs.length ≠ 1 := by
        intro h5
        have h6 : vs.length = 1 := by have := h2.1; omega
        match vs, h6 with
        | [x], _ => exact hne x rfl
      refine ⟨.tuple cvs.toArray, ?_, ?_⟩
      · rw [Sem.run_bind, hmap _ h1]
        simp [hlen]
      · refine .inr (.inr ⟨_, rfl, ?_⟩)
        exact ⟨h2.1, fun i x y hx hy => (h2.2 i x y hx hy).vr1 (List.all_eq_true.1 hnt x (List.mem_of_getElem? hx))⟩
    · cases h
  · cases h
end

/-- The end of a function's body. -/
def Fin (P : Program) (fn : Func) (R : Value → AH → Prop) : Exit → AS → Prop
  | .normal, s | .ret, s => ∃ v, ares P fn.results.toList s = some v ∧ hpV v = true ∧ R v s.heap
  | _, _ => False

theorem hpV_of_vr {hm : HM} {lb : LM} {v cv : Value} (h : hpV v = true) (e : VR hm lb v cv) : VR hm [] v cv := e.hp h []

theorem AFn.of_body {P : Program} {f : FuncId} {fn : Func} {c : Code} {args : List Value} {H : AH} {R : Value → AH → Prop} (hf : P.funcs[f]? = some fn) (hb : fn.body = some c) (hn : args.length ≤ fn.ntmps)
    (h : AWp P c (Fin P fn R) (start fn.ntmps args H)) : AFn P f args H R := by
  intro hm w0 U w cargs hr ha
  have hlen : args.length = cargs.size := by have := ha.1; simpa using this
  refine calls_of_wp hf hb ?_
  have r : Rel hm [] w0 U (start fn.ntmps args H) w { tmps := cargs ++ Array.replicate (fn.ntmps - cargs.size) undef, defers := [] } :=
    { toHRel := hr
      defers := rfl
      tsize := by simp [start]; omega
      tmps := fun t ht => by
        simp only [start] at ht ⊢
        by_cases q : t < args.length
        · obtain ⟨b, h1, h2⟩ := ha.get (i := t) (a := args[t]) (List.getElem?_eq_getElem q)
          refine ⟨b, ?_, ?_⟩
          · rw [Array.getElem?_append_left (by omega)]; simpa using h1
          · rw [List.getD_eq_getElem?_getD, List.getElem?_eq_getElem q]; exact h2
        · refine ⟨undef, ?_, ?_⟩
          · rw [Array.getElem?_append_right (by omega)]
            rw [Array.getElem?_replicate, if_pos (by omega)]
          · rw [List.getD_eq_getElem?_getD, List.getElem?_eq_none (by omega)]; exact .inl rfl
      llen := rfl
      loc := fun k cs hk => by simp [start] at hk
      linj := fun k k' B h1 => by simp at h1
      lheap := fun k B n b i h1 => by simp at h1 }
  refine wp_mono (h hm [] w0 U w _ r) fun e a' w' q => ?_
  obtain ⟨hm', lb', st', h1, h2, h3⟩ := q
  cases e with
  | normal =>
    obtain ⟨v, h4, h5, h6⟩ := h3
    obtain ⟨cv, h7, h8⟩ := ares_ok (P := P) h2 h4
    exact ⟨h2.defers, cv, h7, hm', v, cv, st'.heap, rfl, h1, h2.toHRel, h8.hp h5 [], h6⟩
  | ret =>
    obtain ⟨v, h4, h5, h6⟩ := h3
    obtain ⟨cv, h7, h8⟩ := ares_ok (P := P) h2 h4
    exact ⟨h2.defers, cv, h7, hm', v, cv, st'.heap, rfl, h1, h2.toHRel, h8.hp h5 [], h6⟩
  | _ => exact h3.elim

end Go.Ahl
