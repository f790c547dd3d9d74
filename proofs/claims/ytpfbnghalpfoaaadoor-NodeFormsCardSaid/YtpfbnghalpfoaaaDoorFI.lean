/-
  A logic over the model, part nine: contracts, statements, functions.
-/
import Derived.Test.YtpfbnghalpfoaaaDoorFH
import Derived.OrdersHeld
namespace Go.Fhl
set_option linter.unusedVariables false
set_option linter.unusedSimpArgs false

/-! ## Contracts -/
/-- Called with these arguments over this heap the function returns, and what it returns, and the heap then, are as R says; nothing else is written. -/
def AFn (P : Program) (f : FuncId) (args : List Value) (H : AH) (R : Value → AH → Prop) : Prop :=
  ∀ (hm : GM) (w0 : World) (U : Env) (w : World) (cargs : Array Value), HRel hm w0 U H w → L2 (VR hm []) args cargs.toList →
    Calls P f cargs w fun e w' => ∃ hm' v cv H', e = .returned cv ∧ hm.leb H.next hm' ∧ H.next ≤ H'.next ∧ HRel hm' w0 U H' w' ∧ VR hm' [] v cv ∧ R v H'
theorem AFn.mono {P : Program} {f : FuncId} {args : List Value} {H : AH} {R R' : Value → AH → Prop} (h : AFn P f args H R) (k : ∀ v H', R v H' → R' v H') : AFn P f args H R' :=
  fun hm w0 U w cargs hr ha => (h hm w0 U w cargs hr ha).mono fun e w' ⟨hm', v, cv, H', h1, h2, h3, h4, h5, h6⟩ => ⟨hm', v, cv, H', h1, h2, h3, h4, h5, k v H' h6⟩

/-- A function of values alone. -/
def FFn (P : Program) (f : FuncId) (args : List Value) (r : Value) : Prop := AFn P f args AH.empty fun v _ => v = r

/-- The end of a piece of code, as the abstract state has it. -/
def Post (w0 : World) (U : Env) (hm : GM) (b : Nat) (Q : Exit → AS → Prop) : Exit → Act → World → Prop :=
  fun e a w => ∃ hm' lb' st', hm.leb b hm' ∧ st'.base = b ∧ Rel hm' lb' w0 U st' w a ∧ Q e st'
theorem Post.mono {w0 : World} {U : Env} {hm hm' : GM} {b : Nat} {Q : Exit → AS → Prop} (h : hm.leb b hm') {e : Exit} {a : Act} {w : World} (p : Post w0 U hm' b Q e a w) : Post w0 U hm b Q e a w := by
  obtain ⟨h1, lb, st, h2, h3, h4⟩ := p
  exact ⟨h1, lb, st, GM.leb_trans h h2, h3, h4⟩

def AWp (P : Program) (c : Code) (Q : Exit → AS → Prop) (st : AS) : Prop :=
  ∀ hm lb w0 U w a, Rel hm lb w0 U st w a → c.wp P (Post w0 U hm st.base Q) a w

theorem wpOp_mono2 {P : Program} {ops : Array Oper} {Q Q' : Exit → Act → World → Prop} {i : Nat} {K K' : Act → World → Prop} {a : Act} {w : World} (hq : ∀ e a w, Q e a w → Q' e a w) (hk : ∀ a w, K a w → K' a w) (h : wpOp P ops Q i K a w) : wpOp P ops Q' i K' a w := by
  have h8 := wpOp_mono hk h
  unfold wpOp at h8 ⊢
  cases ho : ops[i]? with
  | none => simp only [ho] at h8 ⊢; exact h8
  | some o =>
    simp only [ho] at h8 ⊢
    split at h8
    · rename_i hwn
      rw [if_pos hwn]
      refine h8.imp (fun q => ?_) (fun ⟨q1, a0, w1, q2⟩ => ⟨q1, a0, w1, hq _ _ _ q2⟩)
      unfold Oper.wp at q ⊢
      revert q
      generalize (execOp a.eval o).run P w = res
      intro q
      cases res with
      | ok n w' =>
        cases n <;> simp only [Oper.upon] at q ⊢ <;> first
          | exact q
          | exact Calls.mono q (fun e w'' he => by cases e <;> first | exact he | exact hq _ _ _ he | (obtain ⟨a0, w1, q2⟩ := he; exact ⟨a0, w1, hq _ _ _ q2⟩))
      | halt x w' => cases x <;> simp only [Oper.upon] at q ⊢ <;> first | exact q | exact hq _ _ _ q
    · rename_i hwn
      rw [if_neg hwn]
      exact h8
theorem wpOps_mono {P : Program} {ops : Array Oper} {Q Q' : Exit → Act → World → Prop} (hq : ∀ e a w, Q e a w → Q' e a w) : ∀ (l : List Nat) (a : Act) (w : World), wpOps P ops Q l a w → wpOps P ops Q' l a w
  | [], a, w, h => hq _ _ _ h
  | i :: rest, a, w, h => by
    rw [wpOps_cons] at h ⊢
    exact wpOp_mono2 hq (fun a w q => wpOps_mono hq rest a w q) h

/-! ## Statements -/
section
variable {P : Program} {Q : Exit → AS → Prop} {st : AS}
theorem awp_mono {c : Code} {Q' : Exit → AS → Prop} (h : AWp P c Q st) (k : ∀ e s, Q e s → Q' e s) : AWp P c Q' st :=
  fun hm lb w0 U w a r => wp_mono (h hm lb w0 U w a r) fun e a w ⟨hm', lb', st', h1, h2, h3, h4⟩ => ⟨hm', lb', st', h1, h2, h3, k e st' h4⟩
theorem awp_skip (h : Q .normal st) : AWp P .skip Q st := fun hm lb w0 U w a r => wp_skip ⟨hm, lb, st, GM.leb_refl _ _, rfl, r, h⟩
theorem awp_exit {id : Nat} (h : Q (.exit id) st) : AWp P (.exit id) Q st := fun hm lb w0 U w a r => wp_exit ⟨hm, lb, st, GM.leb_refl _ _, rfl, r, h⟩
theorem awp_ret (h : Q .ret st) : AWp P .ret Q st := fun hm lb w0 U w a r => wp_ret ⟨hm, lb, st, GM.leb_refl _ _, rfl, r, h⟩

def Then (K : AS → Prop) (Q : Exit → AS → Prop) : Exit → AS → Prop
  | .normal, s => K s
  | e, s => Q e s
theorem awp_seq {x y : Code} (h : AWp P x (Then (AWp P y Q) Q) st) : AWp P (.seq x y) Q st := by
  intro hm lb w0 U w a r
  refine wp_seq (wp_mono (h hm lb w0 U w a r) fun e a' w' q => ?_)
  obtain ⟨hm', lb', st', h1, h2, h3, h4⟩ := q
  cases e with
  | normal => exact wp_mono (h4 hm' lb' w0 U w' a' h3) fun e a w q => Post.mono h1 (h2 ▸ q)
  | _ => exact ⟨hm', lb', st', h1, h2, h3, h4⟩
theorem awp_cond {c : Operand} {x y : Code} {b : Bool} (hc : ev st.tmps c = .bool b) (h : AWp P (if b then x else y) Q st) : AWp P (.cond c x y) Q st := by
  intro hm lb w0 U w a r
  have := r.ev c
  rw [hc] at this
  exact wp_cond (this.sr rfl) (h hm lb w0 U w a r)
theorem awp_condT {c : Operand} {x y : Code} (hc : ev st.tmps c = .bool true) (h : AWp P x Q st) : AWp P (.cond c x y) Q st := awp_cond hc h
theorem awp_condF {c : Operand} {x y : Code} (hc : ev st.tmps c = .bool false) (h : AWp P y Q st) : AWp P (.cond c x y) Q st := awp_cond hc h
theorem awp_cond2 {c : Operand} {x y : Code} {b : Bool} (hc : ev st.tmps c = .bool b) (ht : b = true → AWp P x Q st) (hf : b = false → AWp P y Q st) : AWp P (.cond c x y) Q st := by
  cases b with
  | true => exact awp_cond hc (ht rfl)
  | false => exact awp_cond hc (hf rfl)

def InBlock (id : Nat) (Q : Exit → AS → Prop) : Exit → AS → Prop
  | .exit id', s => if id' = id then Q .normal s else Q (.exit id') s
  | e, s => Q e s
theorem awp_block {id : Nat} {c : Code} (h : AWp P c (InBlock id Q) st) : AWp P (.block id c) Q st := by
  intro hm lb w0 U w a r
  refine wp_block (wp_mono (h hm lb w0 U w a r) fun e a' w' q => ?_)
  obtain ⟨hm', lb', st', h1, h2, h3, h4⟩ := q
  cases e with
  | exit id' =>
    simp only [Exit.inBlock]
    by_cases e : id' = id
    · simp only [e, if_true]
      simp only [InBlock, e, if_true] at h4
      exact ⟨hm', lb', st', h1, h2, h3, h4⟩
    · simp only [e, if_false]
      simp only [InBlock, e, if_false] at h4
      exact ⟨hm', lb', st', h1, h2, h3, h4⟩
  | _ => exact ⟨hm', lb', st', h1, h2, h3, h4⟩

/-- A loop: what holds at every round's head, by the rounds that are left at most. -/
theorem awp_loop {c : Code} (I : Nat → AS → Prop) (n : Nat) (h0 : I n st) (round : ∀ n s, I n s → s.base = st.base → AWp P c (Then (fun s' => ∃ m, m < n ∧ I m s') Q) s) : AWp P (.loop c) Q st := by
  have key : ∀ n s, I n s → s.base = st.base → ∀ hm lb w0 U w a, Rel hm lb w0 U s w a → ∀ b k cs, ∃ e a' w', Post w0 U hm st.base Q e a' w' ∧ Arrives P (lone (b.at a (.code c :: .inLoop c :: k)) cs w) b k cs e a' w' := by
    intro n
    induction n using Nat.strongRecOn with
    | _ n ih =>
      intro s hI hbase hm lb w0 U w a r b k cs
      obtain ⟨e, a₁, w₁, hq, harr⟩ := round n s hI hbase hm lb w0 U w a r b (.inLoop c :: k) cs
      obtain ⟨hm', lb', s', h1, h2, h3, h4⟩ := hq
      rw [hbase] at h1 h2
      cases e with
      | normal =>
        obtain ⟨m, hlt, hI₁⟩ := h4
        obtain ⟨e₂, a₂, w₂, hq₂, harr₂⟩ := ih m hlt s' hI₁ h2 hm' lb' w0 U w₁ a₁ h3 b k cs
        exact ⟨e₂, a₂, w₂, Post.mono h1 hq₂, .of_steps (Steps.trans harr (.one step_inLoop)) harr₂⟩
      | exit id => exact ⟨_, a₁, w₁, ⟨hm', lb', s', h1, h2, h3, h4⟩, .pass (x := .inLoop c) rfl (fun _ _ => .inl (by simp)) harr⟩
      | goto l => exact ⟨_, a₁, w₁, ⟨hm', lb', s', h1, h2, h3, h4⟩, .pass (x := .inLoop c) rfl (fun _ _ => .inl (by simp)) harr⟩
      | ret => exact ⟨_, a₁, w₁, ⟨hm', lb', s', h1, h2, h3, h4⟩, .pass (x := .inLoop c) rfl (fun _ _ => .inl (by simp)) harr⟩
      | panic ch => exact ⟨_, a₁, w₁, ⟨hm', lb', s', h1, h2, h3, h4⟩, .pass (x := .inLoop c) rfl (fun _ _ => .inl (by simp)) harr⟩
      | outgrown => exact ⟨_, a₁, w₁, ⟨hm', lb', s', h1, h2, h3, h4⟩, .pass (x := .inLoop c) rfl (fun _ _ => .inl (by simp)) harr⟩
  intro hm lb w0 U w a r b k cs
  obtain ⟨e, a', w', hq, harr⟩ := key n st h0 rfl hm lb w0 U w a r b k cs
  exact ⟨e, a', w', hq, .of_steps (.one step_loop) harr⟩

theorem awp_seqJ {x y : Code} (J : AS → Prop) (hx : AWp P x (Then J Q) st) (hy : ∀ s, J s → AWp P y Q s) : AWp P (.seq x y) Q st :=
  awp_seq (awp_mono hx fun e s q => by cases e <;> first | exact hy s q | exact q)
theorem inb {id : Nat} {s : AS} (h : Q .normal s) : InBlock id Q (.exit id) s := by simp only [InBlock, if_true]; exact h
theorem inb_ne {id id' : Nat} {s : AS} (hne : Nat.beq id' id = false) (h : Q (.exit id') s) : InBlock id Q (.exit id') s := by
  have : ¬ id' = id := fun e => by subst e; rw [beq_self] at hne; cases hne
  simp only [InBlock, this, if_false]; exact h
/-- The end of a piece of code, and what is read still. -/
theorem awp_kn {c : Code} {st' s0 : AS} (ts : List Nat) (k m : Nat) (h : AWp P c (fun e s => e = .normal ∧ s = s0) st) (ho : okKeep s0 ts k m = true) (he : s0.keep ts k m = st') (q : Q .normal st') : AWp P c Q st := by
  intro hm lb w0 U w a r
  refine wp_mono (h hm lb w0 U w a r) fun e a' w' p => ?_
  obtain ⟨hm', lb', s, h1, h2, h3, rfl, rfl⟩ := p
  obtain ⟨k1, k2⟩ := h3.keep ho
  rw [h2] at k1
  subst he
  exact ⟨_, _, s.keep ts k m, GM.leb_trans h1 k1, h2, k2, q⟩
/-- What is not read any more is forgotten. -/
theorem awp_keep {c : Code} (ts : List Nat) (k m : Nat) (ho : okKeep st ts k m = true) (h : AWp P c Q (st.keep ts k m)) : AWp P c Q st := by
  intro hm lb w0 U w a r
  obtain ⟨h1, h2⟩ := r.keep ho
  exact wp_mono (h _ _ w0 U w a h2) fun e a w q => Post.mono h1 q
/-- A state that knows less. -/
theorem awp_fewer {c : Code} {n b : Nat} {T T' : List (Nat × Value)} {L : List (List Value)} {H : AH} (hT : ∀ t v, lk T' t = some v → lk T t = some v) (h : AWp P c Q ⟨n, b, T', L, H⟩) : AWp P c Q ⟨n, b, T, L, H⟩ := by
  intro hm lb w0 U w a r
  exact h _ _ w0 U w a (r.fewer T' hT)
end

/-! ## Operations, one behind the other -/
def isSkip : Value → Bool
  | .tuple vs => match vs.toList with | [.tuple us] => us.size == 0 | _ => false
  | _ => false
theorem isSkip_eq {v : Value} (h : isSkip v = true) : v = skipV := by
  unfold isSkip at h
  split at h
  · rename_i vs
    split at h
    · rename_i us hv
      have h1 : us = #[] := Array.eq_empty_of_size_eq_zero (by simpa using h)
      have h2 : vs = #[.tuple us] := by apply Array.toList_inj.1; rw [hv]
      rw [h2, h1]; rfl
    · cases h
  · cases h

def gval (want : Bool) : Option Value → Option Bool
  | some (.bool b) => some (b == want)
  | some v => cond (isSkip v) (some false) none
  | none => none
def awanted (ops : Array Oper) (T : List (Nat × Value)) (o : Oper) : Option Bool :=
  match o.guard with
  | none => some true
  | some (j, want) => match (ops[j]?).bind (·.dst) with | some d => gval want (lk T d) | none => none

theorem awanted_ok {hm : GM} {lb : LM} {w0 : World} {U : Env} {st : AS} {w : World} {a : Act} (r : Rel hm lb w0 U st w a) {ops : Array Oper} {o : Oper} {b : Bool} (h : awanted ops st.tmps o = some b) :
    Region.wanted o (yielded ops a.tmps) = b := by
  unfold awanted at h
  unfold Region.wanted
  split at h
  · rename_i hg; rw [hg]; exact Option.some.inj h
  · rename_i j want hg
    rw [hg]
    simp only
    split at h
    · rename_i d hd
      cases hl : lk st.tmps d with
      | none => rw [hl] at h; cases h
      | some v =>
        rw [hl] at h
        obtain ⟨cv, h1, h2⟩ := r.tmps d v hl
        unfold yielded
        rw [hd, Option.bind_some, h1]
        unfold gval at h
        split at h
        · rename_i c hc
          cases hc
          have hcv : cv = .bool c := h2.sr rfl
          subst hcv
          have := Option.some.inj h
          rw [← this]
          cases c <;> cases want <;> rfl
        · rename_i v' hv hc
          cases hc
          cases hs : isSkip v with
          | false => rw [hs] at h; cases h
          | true =>
            rw [hs] at h
            have := isSkip_eq hs
            rw [this] at h2
            have hcv : cv = .tuple #[] := by
              rcases h2 with h2 | ⟨_, h2⟩ | ⟨vs', h3, h4⟩
              · cases h2
              · exact h2
              · obtain ⟨x, h5, h6⟩ := h4.get (i := 0) (a := Value.tuple #[]) rfl
                exact h6.elim
            subst hcv
            have := Option.some.inj h
            rw [← this]
            cases want <;> rfl
        · cases h
    · cases h

/-- One operation, whatever its guard. -/
def AExec (P : Program) (o : Oper) (st : AS) (v : Value) (L : List (List Value)) (H : AH) : Prop :=
  ∀ hm lb w0 U w a (Q : Exit → Act → World → Prop), Rel hm lb w0 U st w a →
    o.wp P a w (fun a' w' => ∃ hm' lb' cv, hm.le hm' ∧ LM.le lb lb' ∧ a' = a.put o.dst cv ∧ VR hm' lb' v cv ∧ Rel hm' lb' w0 U ⟨st.n, st.base, st.tmps, L, H⟩ w' a) Q

/-- One operation of a region. -/
def AStep (P : Program) (ops : Array Oper) (i : Nat) (o : Oper) (st : AS) (v : Value) (L : List (List Value)) (H : AH) : Prop :=
  ops[i]? = some o → ∀ hm lb w0 U w a (Q : Exit → Act → World → Prop), Rel hm lb w0 U st w a →
    wpOp P ops Q i (fun a' w' => ∃ hm' lb' cv, hm.le hm' ∧ LM.le lb lb' ∧ a' = a.put o.dst cv ∧ VR hm' lb' v cv ∧ Rel hm' lb' w0 U ⟨st.n, st.base, st.tmps, L, H⟩ w' a) a w

theorem astep_do {P : Program} {ops : Array Oper} {i : Nat} {o : Oper} {st : AS} {v : Value} {L : List (List Value)} {H : AH} (hg : awanted ops st.tmps o = some true) (h : AExec P o st v L H) : AStep P ops i o st v L H := by
  intro ho hm lb w0 U w a Q r
  have hw := awanted_ok r hg
  simp only [wpOp, ho, hw, if_true]
  exact .inl (h hm lb w0 U w a _ r)
theorem astep_skip {P : Program} {ops : Array Oper} {i : Nat} {o : Oper} {st : AS} (hg : awanted ops st.tmps o = some false) : AStep P ops i o st skipV st.locs st.heap := by
  intro ho hm lb w0 U w a Q r
  have hw := awanted_ok r hg
  simp only [wpOp, ho, hw, Bool.false_eq_true, if_false]
  exact ⟨hm, lb, undef, GM.le_refl _, LM.le_refl _, rfl, .inr (.inl ⟨rfl, rfl⟩), r⟩

/-- One that is done just if a guard holds: its slot is what is done then, or nothing. -/
theorem astep_guard {P : Program} {ops : Array Oper} {i : Nat} {o : Oper} {st : AS} {v : Value} (g : Bool) (hg : awanted ops st.tmps o = some g) (h : g = true → AExec P o st v st.locs st.heap) : AStep P ops i o st (cond g v skipV) st.locs st.heap := by
  cases g with
  | true => exact astep_do hg (h rfl)
  | false => exact astep_skip hg
theorem cond_of {g : Bool} (h : g = true) {v w : Value} : cond g v w = v := by rw [h]; rfl
theorem gv_nest {g x want : Bool} : gval want (some (cond g (.bool x) skipV)) = some (g && (x == want)) := by cases g <;> rfl
theorem pkAndN {g c a : Bool} {w : Value} (h : g = true) : cond c (cond (g && (c == true)) (.bool a) w) (.bool false) = Value.bool (c && a) := by rw [h]; cases c <;> rfl
theorem pkOrN {g c a : Bool} {w : Value} (h : g = true) : cond c (.bool true) (cond (g && (c == false)) (.bool a) w) = Value.bool (c || a) := by rw [h]; cases c <;> rfl
theorem pkAnd {c a : Bool} {w : Value} : cond c (cond (c == true) (.bool a) w) (.bool false) = Value.bool (c && a) := by cases c <;> rfl
theorem pkOr {c a : Bool} {w : Value} : cond c (.bool true) (cond (c == false) (.bool a) w) = Value.bool (c || a) := by cases c <;> rfl

/-- Operations along the text: those that are left. -/
def ARun (P : Program) (ops : Array Oper) (i : Nat) (l : List Oper) (Q : Exit → AS → Prop) (st : AS) : Prop :=
  (∀ (k : Nat) (o : Oper), l[k]? = some o → ops[i + k]? = some o) → ∀ hm lb w0 U w a, Rel hm lb w0 U st w a → wpOps P ops (Post w0 U hm st.base Q) (List.range' i l.length) a w

theorem lk_push {T : List (Nat × Value)} {d : Nat} {v : Value} {t : Nat} {u : Value} (h : lk ((d, v) :: T) t = some u) : (t = d ∧ u = v) ∨ (t ≠ d ∧ lk T t = some u) := by
  by_cases e : d = t
  · subst e; rw [lk_cons_self] at h; cases h; exact .inl ⟨rfl, rfl⟩
  · rw [lk_cons_ne e] at h; exact .inr ⟨fun q => e q.symm, h⟩

theorem Rel.push {hm : GM} {lb : LM} {w0 : World} {U : Env} {n b : Nat} {T : List (Nat × Value)} {L : List (List Value)} {H : AH} {w : World} {a : Act} (r : Rel hm lb w0 U ⟨n, b, T, L, H⟩ w a) {d : Nat} {v cv : Value} (hd : Nat.blt d n = true) (h : VR hm lb v cv) :
    Rel hm lb w0 U ⟨n, b, (d, v) :: T, L, H⟩ w (a.put (some d) cv) := by
  have r1 := r.put (some d) h
  have := r1.fewer ((d, v) :: T) (fun t u hu => by
    show lk (putL n T (some d) v) t = some u
    simp only [putL, hd, cond_true]
    rw [lk_ups]
    rcases lk_push hu with ⟨rfl, rfl⟩ | ⟨h1, h2⟩
    · simp
    · simp [h1, h2])
  exact this
theorem Rel.push0 {hm : GM} {lb : LM} {w0 : World} {U : Env} {st : AS} {w : World} {a : Act} (r : Rel hm lb w0 U st w a) {cv : Value} : Rel hm lb w0 U st w (a.put none cv) := r

section
variable {P : Program} {ops : Array Oper} {Q : Exit → AS → Prop} {i n b d : Nat} {o : Oper} {l : List Oper} {T : List (Nat × Value)} {L L' : List (List Value)} {H H' : AH} {v : Value}
theorem arun_nil {st : AS} (h : Q .normal st) : ARun P ops i [] Q st := fun _ hm lb w0 U w a r => ⟨hm, lb, st, GM.leb_refl _ _, rfl, r, h⟩
theorem arun_step (hd : o.dst = some d) (hn : Nat.blt d n = true) (h : AStep P ops i o ⟨n, b, T, L, H⟩ v L' H') (k : ARun P ops (i + 1) l Q ⟨n, b, (d, v) :: T, L', H'⟩) : ARun P ops i (o :: l) Q ⟨n, b, T, L, H⟩ := by
  intro hl hm lb w0 U w a r
  have ho : ops[i]? = some o := hl 0 o rfl
  rw [List.length_cons, List.range'_succ, wpOps_cons]
  refine wpOp_mono (fun a' w' q => ?_) (h ho hm lb w0 U w a _ r)
  obtain ⟨hm', lb', cv, h1, h2, rfl, h4, h5⟩ := q
  rw [hd]
  have r2 := Rel.push h5 hn h4
  have hk := k (fun x o' e => by rw [Nat.add_assoc, Nat.add_comm 1 x]; exact hl (x + 1) o' (by simpa using e)) hm' lb' w0 U w' _ r2
  exact wpOps_mono (fun e a w q => Post.mono (h1.leb b) q) _ _ _ hk
theorem arun_step0 (hd : o.dst = none) (h : AStep P ops i o ⟨n, b, T, L, H⟩ v L' H') (k : ARun P ops (i + 1) l Q ⟨n, b, T, L', H'⟩) : ARun P ops i (o :: l) Q ⟨n, b, T, L, H⟩ := by
  intro hl hm lb w0 U w a r
  have ho : ops[i]? = some o := hl 0 o rfl
  rw [List.length_cons, List.range'_succ, wpOps_cons]
  refine wpOp_mono (fun a' w' q => ?_) (h ho hm lb w0 U w a _ r)
  obtain ⟨hm', lb', cv, h1, h2, rfl, h4, h5⟩ := q
  rw [hd]
  have hk := k (fun x o' e => by rw [Nat.add_assoc, Nat.add_comm 1 x]; exact hl (x + 1) o' (by simpa using e)) hm' lb' w0 U w' _ h5
  exact wpOps_mono (fun e a w q => Post.mono (h1.leb b) q) _ _ _ hk
/-- The everyday step. -/
theorem arun_do (hd : o.dst = some d) (hn : Nat.blt d n = true) (hg : awanted ops T o = some true) (h : AExec P o ⟨n, b, T, L, H⟩ v L' H') (k : ARun P ops (i + 1) l Q ⟨n, b, (d, v) :: T, L', H'⟩) : ARun P ops i (o :: l) Q ⟨n, b, T, L, H⟩ :=
  arun_step hd hn (astep_do hg h) k
theorem arun_do0 (hd : o.dst = none) (hg : awanted ops T o = some true) (h : AExec P o ⟨n, b, T, L, H⟩ v L' H') (k : ARun P ops (i + 1) l Q ⟨n, b, T, L', H'⟩) : ARun P ops i (o :: l) Q ⟨n, b, T, L, H⟩ :=
  arun_step0 hd (astep_do hg h) k
theorem arun_skip (hd : o.dst = some d) (hn : Nat.blt d n = true) (hg : awanted ops T o = some false) (k : ARun P ops (i + 1) l Q ⟨n, b, (d, skipV) :: T, L, H⟩) : ARun P ops i (o :: l) Q ⟨n, b, T, L, H⟩ :=
  arun_step hd hn (astep_skip hg) k
theorem arun_skip0 (hd : o.dst = none) (hg : awanted ops T o = some false) (k : ARun P ops (i + 1) l Q ⟨n, b, T, L, H⟩) : ARun P ops i (o :: l) Q ⟨n, b, T, L, H⟩ :=
  arun_step0 hd (astep_skip hg) k
theorem arun_guard (g : Bool) (hd : o.dst = some d) (hn : Nat.blt d n = true) (hg : awanted ops T o = some g) (h : g = true → AExec P o ⟨n, b, T, L, H⟩ v L H) (k : ARun P ops (i + 1) l Q ⟨n, b, (d, cond g v skipV) :: T, L, H⟩) : ARun P ops i (o :: l) Q ⟨n, b, T, L, H⟩ :=
  arun_step hd hn (astep_guard g hg h) k
theorem arun_fewer {T' : List (Nat × Value)} (hT : ∀ t v, lk T' t = some v → lk T t = some v) (h : ARun P ops i l Q ⟨n, b, T', L, H⟩) : ARun P ops i l Q ⟨n, b, T, L, H⟩ :=
  fun hl hm lb w0 U w a r => h hl hm lb w0 U w a (r.fewer T' hT)
theorem arun_keep {st : AS} (ts : List Nat) (k m : Nat) (ho : okKeep st ts k m = true) (h : ARun P ops i l Q (st.keep ts k m)) : ARun P ops i l Q st := by
  intro hl hm lb w0 U w a r
  obtain ⟨h1, h2⟩ := r.keep ho
  exact wpOps_mono (fun e a w q => Post.mono h1 q) _ _ _ (h hl _ _ w0 U w a h2)
theorem arun_keepE {st st' : AS} (ts : List Nat) (k m : Nat) (ho : okKeep st ts k m = true) (he : st.keep ts k m = st') (h : Q .normal st') : ARun P ops i [] Q st := by
  subst he
  exact arun_keep ts k m ho (arun_nil h)
theorem awp_region {id : Nat} {st : AS} (h : ARun P ops 0 ops.toList Q st) : AWp P (.region id ops false) Q st := by
  intro hm lb w0 U w a r
  refine wp_region ?_
  have := h (fun k o e => by simpa using e) hm lb w0 U w a r
  rw [← List.range_eq_range'] at this
  simpa using this
end

/-! ## What is frozen -/
/-- A slot's value before, and behind, the freezing of a block. -/
def Fz (n : Nat) (b : Blk) (v v' : Value) : Prop :=
  v' = v ∨ ∃ off len cap s e, v = .slice (some ⟨n, off, s⟩) len cap ∧ b.esz = e + 1 ∧ v' = .iface (e + 1) (.tuple ((b.cells.drop off).take (len * (e + 1))).toArray) ∧ off + len * (e + 1) ≤ b.cells.length ∧
    ((s = none ∧ b.gro = false) ∨ (s = some 1 ∧ b.gro = true ∧ off = 0 ∧ len * (e + 1) = b.cells.length))

theorem Fz.sr {hm : GM} {lb : LM} {w0 : World} {U : Env} {st : AS} {w : World} {a : Act} (r : Rel hm lb w0 U st w a) {n : Nat} {b : Blk} {i : Info} (hb : st.heap.get n = some b) (hi : hm.map n = some i) {v v' cv : Value} (h : Fz n b v v')
    {hm' : GM} (hle : hm.le hm') (hnew : ∀ j c, b.cells[j]? = some c → hm'.fz i.blk j = some c) (e : SR hm lb v cv) : SR hm' lb v' cv := by
  rcases h with rfl | ⟨off, len, cap, s, e0, rfl, hez, rfl, hl, hs⟩
  · exact e.mono hle (LM.le_refl _)
  · obtain ⟨i', g1, g2, g3, g4, gp, g5⟩ := r.blk n b hb
    rw [hi] at g1; cases g1
    have hcell : ∀ o, (0 < len → o = off) → (∀ (j : Nat) (c : Value), ((b.cells.drop off).take (len * (e0 + 1)))[j]? = some c → hm'.fz i.blk (o + j) = some c) := by
      intro o ho j c hj
      have hj2 : j < len * (e0 + 1) := by have := lookup_lt hj; simp at this; omega
      have hpos : 0 < len := by
        rcases Nat.eq_zero_or_pos len with q | q
        · subst q; simp at hj2
        · exact q
      rw [ho hpos]
      refine hnew _ c ?_
      rw [List.getElem?_take_of_lt hj2, List.getElem?_drop] at hj; exact hj
    have hlen : len * (e0 + 1) = ((b.cells.drop off).take (len * (e0 + 1))).length := by simp; omega
    rcases hs with ⟨rfl, hg⟩ | ⟨rfl, hg, rfl, hll⟩
    · obtain ⟨i2, o, h1, h2, rfl, h3, h4, h5⟩ := e
      simp only at h1 h4
      rw [hi] at h1; cases h1
      refine ⟨_, len, cap, rfl, by simpa using hlen, h3, .inr ⟨i.blk, o, rfl, ?_⟩⟩
      intro j c hj
      exact hcell o (fun q => h4 (by omega)) j c (by simpa using hj)
    · obtain ⟨i2, p, cap', h1, h2, rfl, h3, h4⟩ := e
      simp only at h1
      rw [hi] at h1; cases h1
      obtain ⟨k1, k2, k3⟩ := h4 (by rw [(g4 hg).1, g2, hez, hll])
      refine ⟨_, len, cap', rfl, by simpa using hlen, k1, ?_⟩
      by_cases hl0 : len = 0
      · exact .inl (by simp [hl0])
      · exact .inr ⟨i.blk, 0, k2 (by omega), fun j c hj => hcell 0 (fun _ => rfl) j c (by simpa using hj)⟩

theorem Fz.one {n : Nat} {b : Blk} {v v' : Value} (h : Fz n b v v') : v' = v ∨ (one v = true ∧ one v' = true) := by
  rcases h with h | ⟨_, _, _, _, _, rfl, _, rfl, _⟩
  · exact .inl h
  · exact .inr ⟨rfl, rfl⟩

/-- The slots, and the boxes, before and behind. -/
def FzT (n : Nat) (b : Blk) (T T' : List (Nat × Value)) : Prop := ∀ t v', lk T' t = some v' → ∃ v, lk T t = some v ∧ Fz n b v v'
theorem FzT.nil {n : Nat} {b : Blk} {T : List (Nat × Value)} : FzT n b T [] := fun t v h => by simp [lk] at h
theorem FzT.keep {n : Nat} {b : Blk} {T T' : List (Nat × Value)} {t : Nat} {v : Value} (h : lk T t = some v) (k : FzT n b T T') : FzT n b T ((t, v) :: T') := by
  intro u v' hu
  rcases lk_push hu with ⟨rfl, rfl⟩ | ⟨h1, h2⟩
  · exact ⟨_, h, .inl rfl⟩
  · exact k u v' h2
theorem FzT.conv {n : Nat} {b : Blk} {T T' : List (Nat × Value)} {t off len cap : Nat} {s : Option Nat} {e : Nat} {cs : List Value} (h : lk T t = some (.slice (some ⟨n, off, s⟩) len cap)) (he : b.esz = e + 1) (hl : off + len * (e + 1) ≤ b.cells.length) (hcs : (b.cells.drop off).take (len * (e + 1)) = cs)
    (hs : (s = none ∧ b.gro = false) ∨ (s = some 1 ∧ b.gro = true ∧ off = 0 ∧ len * (e + 1) = b.cells.length)) (k : FzT n b T T') : FzT n b T ((t, .iface (e + 1) (.tuple cs.toArray)) :: T') := by
  intro u v' hu
  rcases lk_push hu with ⟨rfl, rfl⟩ | ⟨h1, h2⟩
  · exact ⟨_, h, .inr ⟨off, len, cap, s, e, rfl, he, by rw [hcs], hl, hs⟩⟩
  · exact k u v' h2
theorem FzL.refl {n : Nat} {b : Blk} (L : List (List Value)) : L2 (L2 (Fz n b)) L L :=
  ⟨rfl, fun i x y hx hy => by rw [hx] at hy; cases hy; exact ⟨rfl, fun j u v hu hv => by rw [hu] at hv; cases hv; exact .inl rfl⟩⟩

theorem Rel.freezeAll {hm : GM} {lb : LM} {w0 : World} {U : Env} {n0 b0 : Nat} {T T' : List (Nat × Value)} {L L' : List (List Value)} {H : AH} {w : World} {a : Act} (r : Rel hm lb w0 U ⟨n0, b0, T, L, H⟩ w a) {n : Nat} {b : Blk} (hb : H.get n = some b)
    (hT : FzT n b T T') (hL : L2 (L2 (Fz n b)) L L') : ∃ hm', hm.le hm' ∧ Rel hm' lb w0 U ⟨n0, b0, T', L', H.kill n⟩ w a := by
  obtain ⟨i, g1, _⟩ := r.blk n b hb
  obtain ⟨h1, h2, h3⟩ := r.freeze hb g1
  refine ⟨_, h1, ?_⟩
  have hsr : ∀ lb v v' cv, Rel hm lb w0 U ⟨n0, b0, T, L, H⟩ w a → Fz n b v v' → SR hm lb v cv → SR (hm.freeze i.blk b.cells) lb v' cv := fun lb v v' cv r f e => f.sr r hb g1 h1 h3 e
  exact { toHRel := h2.toHRel, defers := h2.defers, tsize := h2.tsize, base_le := h2.base_le
          tmps := fun t v' ht => by
            obtain ⟨v, k1, k2⟩ := hT t v' ht
            obtain ⟨cv, k3, k4⟩ := r.tmps t v k1
            refine ⟨cv, k3, ?_⟩
            rcases k2.one with rfl | ⟨o1, o2⟩
            · exact k4.mono h1 (LM.le_refl _)
            · exact .of_sr o2 (hsr lb v v' cv r k2 (k4.sr o1))
          llen := by have := hL.1; simp only; rw [r.llen]; exact this
          loc := fun k cs' hk => by
            simp only at hk
            have hlt : k < L.length := by rw [hL.1]; exact lookup_lt hk
            have hLk : L[k]? = some L[k] := List.getElem?_eq_getElem hlt
            have hrel := hL.2 k _ _ hLk hk
            obtain ⟨B, C, e, fz, k1, k2, k3, k4, k5, k6, k7⟩ := h2.loc k L[k] hLk
            obtain ⟨B', C', e', fz', q1, q2, q3, q4, q5, q6, q7⟩ := r.loc k L[k] hLk
            rw [k1] at q1; cases q1
            rw [k2] at q2; cases q2
            refine ⟨B, C, e, fz, k1, k2, by rw [k3]; exact hrel.1, k4, k5, k6, fun j v' hj => ?_⟩
            have hjl : j < L[k].length := by rw [hrel.1]; exact lookup_lt hj
            have hjv : L[k][j]? = some L[k][j] := List.getElem?_eq_getElem hjl
            obtain ⟨cv, q8, q9⟩ := q7 j _ hjv
            exact ⟨cv, q8, hsr lb _ v' cv r (hrel.2 j _ _ hjv hj) q9⟩
          linj := h2.linj, lheap := h2.lheap }

section
variable {P : Program} {ops : Array Oper} {Q : Exit → AS → Prop} {i n b : Nat} {l : List Oper} {T T' : List (Nat × Value)} {L L' : List (List Value)} {H : AH}
theorem arun_freeze (m : Nat) {bk : Blk} (hb : H.get m = some bk) (hT : FzT m bk T T') (hL : L2 (L2 (Fz m bk)) L L') (h : ARun P ops i l Q ⟨n, b, T', L', H.kill m⟩) : ARun P ops i l Q ⟨n, b, T, L, H⟩ := by
  intro hl hm lb w0 U w a r
  obtain ⟨hm', h1, h2⟩ := r.freezeAll hb hT hL
  exact wpOps_mono (fun e a w q => Post.mono (h1.leb b) q) _ _ _ (h hl _ _ w0 U w a h2)
theorem awp_freeze {c : Code} (m : Nat) {bk : Blk} (hb : H.get m = some bk) (hT : FzT m bk T T') (hL : L2 (L2 (Fz m bk)) L L') (h : AWp P c Q ⟨n, b, T', L', H.kill m⟩) : AWp P c Q ⟨n, b, T, L, H⟩ := by
  intro hm lb w0 U w a r
  obtain ⟨hm', h1, h2⟩ := r.freezeAll hb hT hL
  exact wp_mono (h _ _ w0 U w a h2) fun e a w q => Post.mono (h1.leb b) q
/-- A nil slice as one that may grow. -/
theorem Rel.nilGro {hm : GM} {lb : LM} {w0 : World} {U : Env} {w : World} {a : Act} {t s : Nat} (r : Rel hm lb w0 U ⟨n, b, T, L, H⟩ w a) (ht : lk T t = some (.slice none 0 0)) (hs : 1 ≤ s) :
    ∃ hm', hm.le hm' ∧ Rel hm' lb w0 U ⟨n, b, (t, .slice (some ⟨H.next, 0, some 1⟩) 0 0) :: T, L, H.alloc ⟨s, [], true⟩⟩ w a := by
  obtain ⟨h1, h2⟩ := r.newGro s hs
  refine ⟨_, h1, { toHRel := h2.toHRel, defers := h2.defers, tsize := h2.tsize, base_le := h2.base_le, tmps := ?_, llen := h2.llen, loc := h2.loc, linj := h2.linj, lheap := h2.lheap }⟩
  intro u v hu
  rcases lk_push hu with ⟨rfl, rfl⟩ | ⟨k1, k2⟩
  · obtain ⟨cv, k3, k4⟩ := r.tmps _ _ ht
    obtain rfl : cv = _ := k4.sr rfl
    exact ⟨_, k3, .of_sr rfl ⟨_, none, 0, GM.put_same, rfl, rfl, by simp, fun _ => ⟨Nat.le_refl _, fun q => absurd rfl q, by simp⟩⟩⟩
  · exact h2.tmps u v k2
theorem awp_nilGro {c : Code} (t s : Nat) (ht : lk T t = some (.slice none 0 0)) (hs : 1 ≤ s) (h : AWp P c Q ⟨n, b, (t, .slice (some ⟨H.next, 0, some 1⟩) 0 0) :: T, L, H.alloc ⟨s, [], true⟩⟩) : AWp P c Q ⟨n, b, T, L, H⟩ := by
  intro hm lb w0 U w a r
  obtain ⟨hm', h1, h2⟩ := r.nilGro ht hs
  exact wp_mono (h _ _ w0 U w a h2) fun e a w q => Post.mono (h1.leb b) q
end

end Go.Fhl
