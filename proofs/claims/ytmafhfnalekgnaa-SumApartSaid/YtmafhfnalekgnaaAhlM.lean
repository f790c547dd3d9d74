/-
  The abstract heap logic, part twelve: how an abstract state is reckoned with: slots, arithmetic, runs of operations.
-/
import Derived.Test.YtmafhfnalekgnaaAhlK
namespace Go.Ahl
set_option linter.unusedVariables false

/-! ## Slots -/
section
variable {st : AS} {v : Value} {d t : Nat}
theorem put_some (st : AS) (d : Nat) (v : Value) : st.put (some d) v = { st with tmps := fun t => if t = d then v else st.tmps t } := rfl
theorem put_none (st : AS) (v : Value) : st.put none v = st := rfl
theorem put_n (st : AS) (d : Option Nat) (v : Value) : (st.put d v).n = st.n := by cases d <;> rfl
theorem put_heap (st : AS) (d : Option Nat) (v : Value) : (st.put d v).heap = st.heap := by cases d <;> rfl
theorem put_locs (st : AS) (d : Option Nat) (v : Value) : (st.put d v).locs = st.locs := by cases d <;> rfl
theorem ev_same (h : d < st.n) : (st.put (some d) v).eval (.tmp d) = v := by simp [AS.eval, AS.put, h]
theorem ev_ne (h : t ≠ d) : (st.put (some d) v).eval (.tmp t) = st.eval (.tmp t) := by simp [AS.eval, AS.put, h]
theorem ev_const (st : AS) (v : Value) : st.eval (.const v) = if plain v then v else undef := rfl
theorem ev_func (st : AS) (f : FuncId) : st.eval (.func f) = .func (.func f) #[] #[] := rfl
theorem ev_setHeap (st : AS) (H : AH) (x : Operand) : (st.setHeap H).eval x = st.eval x := by cases x <;> rfl
theorem ev_setLocs (st : AS) (l : List (List Value)) (x : Operand) : (st.setLocs l).eval x = st.eval x := by cases x <;> rfl
theorem put_setHeap (st : AS) (H : AH) (d : Option Nat) (v : Value) : (st.setHeap H).put d v = (st.put d v).setHeap H := by cases d <;> rfl
theorem put_setLocs (st : AS) (l : List (List Value)) (d : Option Nat) (v : Value) : (st.setLocs l).put d v = (st.put d v).setLocs l := by cases d <;> rfl
theorem setHeap_heap (st : AS) (H : AH) : (st.setHeap H).heap = H := rfl
theorem setHeap_locs (st : AS) (H : AH) : (st.setHeap H).locs = st.locs := rfl
theorem setHeap_n (st : AS) (H : AH) : (st.setHeap H).n = st.n := rfl
theorem setLocs_heap (st : AS) (l : List (List Value)) : (st.setLocs l).heap = st.heap := rfl
theorem setLocs_locs (st : AS) (l : List (List Value)) : (st.setLocs l).locs = l := rfl
theorem setLocs_n (st : AS) (l : List (List Value)) : (st.setLocs l).n = st.n := rfl
theorem setHeap_setHeap (st : AS) (H H' : AH) : (st.setHeap H).setHeap H' = st.setHeap H' := rfl
theorem setLocs_setLocs (st : AS) (l l' : List (List Value)) : (st.setLocs l).setLocs l' = st.setLocs l' := rfl
theorem setLocs_setHeap (st : AS) (H : AH) (l : List (List Value)) : (st.setHeap H).setLocs l = (st.setLocs l).setHeap H := rfl
theorem tmps_ev (h : t < st.n) : st.tmps t = st.eval (.tmp t) := by simp [AS.eval, h]
end

theorem start_n (n : Nat) (args : List Value) (H : AH) : (start n args H).n = n := rfl
theorem start_heap (n : Nat) (args : List Value) (H : AH) : (start n args H).heap = H := rfl
theorem start_locs (n : Nat) (args : List Value) (H : AH) : (start n args H).locs = [] := rfl
theorem start_ev {n t : Nat} (args : List Value) (H : AH) (h : t < n) : (start n args H).eval (.tmp t) = args.getD t undef := by simp [AS.eval, start, h]

theorem hpV_string (s : ByteArray) : hpV (.string s) = true := rfl
theorem hpV_int (k : IntKind) (n : Int) : hpV (.int k n) = true := rfl
theorem hpV_bool (b : Bool) : hpV (.bool b) = true := rfl

/-! ## Arithmetic -/
section
variable {P : Program} {t : TypeId} {xo yo : Operand} {k : IntKind} {x y : Int}
theorem bin_add : keep (abin P .add t xo yo (.int k x) (.int k y)) = some (.int k (k.wrap (x + y))) := by cases k <;> rfl
theorem bin_sub : keep (abin P .sub t xo yo (.int k x) (.int k y)) = some (.int k (k.wrap (x - y))) := by cases k <;> rfl
theorem bin_mul : keep (abin P .mul t xo yo (.int k x) (.int k y)) = some (.int k (k.wrap (x * y))) := by cases k <;> rfl
theorem bin_eql : keep (abin P .eql t xo yo (.int k x) (.int k y)) = some (.bool (x == y)) := by cases k <;> rfl
theorem bin_neq : keep (abin P .neq t xo yo (.int k x) (.int k y)) = some (.bool (x != y)) := by cases k <;> rfl
theorem bin_lss : keep (abin P .lss t xo yo (.int k x) (.int k y)) = some (.bool (decide (x < y))) := by cases k <;> rfl
theorem bin_leq : keep (abin P .leq t xo yo (.int k x) (.int k y)) = some (.bool (decide (x ≤ y))) := by cases k <;> rfl
theorem bin_gtr : keep (abin P .gtr t xo yo (.int k x) (.int k y)) = some (.bool (decide (x > y))) := by cases k <;> rfl
theorem bin_geq : keep (abin P .geq t xo yo (.int k x) (.int k y)) = some (.bool (decide (x ≥ y))) := by cases k <;> rfl
theorem bin_and : keep (abin P .and t xo yo (.int k x) (.int k y)) = some (.int k (k.wrap (BitVec.ofInt k.bits x &&& BitVec.ofInt k.bits y).toNat)) := by cases k <;> rfl
theorem bin_or : keep (abin P .or t xo yo (.int k x) (.int k y)) = some (.int k (k.wrap (BitVec.ofInt k.bits x ||| BitVec.ofInt k.bits y).toNat)) := by cases k <;> rfl
theorem bin_xor : keep (abin P .xor t xo yo (.int k x) (.int k y)) = some (.int k (k.wrap (BitVec.ofInt k.bits x ^^^ BitVec.ofInt k.bits y).toNat)) := by cases k <;> rfl
theorem bin_quo (h : y ≠ 0) : keep (abin P .quo t xo yo (.int k x) (.int k y)) = some (.int k (k.wrap (x.tdiv y))) := by
  have : pureRun P (do eqGuard .quo t xo yo (.int k x) (.int k y); binOp .quo t (.int k x) (.int k y)) = some (.int k (k.wrap (x.tdiv y))) := by
    rw [pureRun_bind]
    simp [binOp, Op.intDiv, h, eqGuard, pureRun_pure]
  unfold abin
  simp [plain, plain1, this, keep]
theorem bin_rem (h : y ≠ 0) : keep (abin P .rem t xo yo (.int k x) (.int k y)) = some (.int k (x.tmod y)) := by
  have : pureRun P (do eqGuard .rem t xo yo (.int k x) (.int k y); binOp .rem t (.int k x) (.int k y)) = some (.int k (x.tmod y)) := by
    rw [pureRun_bind]
    simp [binOp, Op.intDiv, h, eqGuard, pureRun_pure]
  unfold abin
  simp [plain, plain1, this, keep]
theorem bin_shl {k' : IntKind} (h : 0 ≤ y) : keep (abin P .shl t xo yo (.int k x) (.int k' y)) = some (.int k (k.wrap (x * 2 ^ (min y.toNat k.bits)))) := by
  have : pureRun P (do eqGuard .shl t xo yo (.int k x) (.int k' y); binOp .shl t (.int k x) (.int k' y)) = some (.int k (k.wrap (x * 2 ^ (min y.toNat k.bits)))) := by
    have hn : ¬ y < 0 := by omega
    rw [pureRun_bind]
    simp [binOp, Op.shift, hn, eqGuard, pureRun_pure]
  unfold abin
  simp [plain, plain1, this, keep]
theorem bin_shr {k' : IntKind} (h : 0 ≤ y) : keep (abin P .shr t xo yo (.int k x) (.int k' y)) = some (.int k (x.fdiv (2 ^ (min y.toNat k.bits)))) := by
  have : pureRun P (do eqGuard .shr t xo yo (.int k x) (.int k' y); binOp .shr t (.int k x) (.int k' y)) = some (.int k (x.fdiv (2 ^ (min y.toNat k.bits)))) := by
    have hn : ¬ y < 0 := by omega
    rw [pureRun_bind]
    simp [binOp, Op.shift, hn, eqGuard, pureRun_pure]
  unfold abin
  simp [plain, plain1, this, keep]
variable {s u : ByteArray}
theorem bin_eqlS : keep (abin P .eql t xo yo (.string s) (.string u)) = some (.bool (s.toList == u.toList)) := rfl
theorem bin_neqS : keep (abin P .neq t xo yo (.string s) (.string u)) = some (.bool (!(s.toList == u.toList))) := rfl
theorem bin_addS (h : s.size + u.size ≤ 9223372036854775807) : keep (abin P .add t xo yo (.string s) (.string u)) = some (.string (s ++ u)) := by
  have : pureRun P (do eqGuard .add t xo yo (.string s) (.string u); binOp .add t (.string s) (.string u)) = some (.string (s ++ u)) := by
    have h1 : ¬ (((s.size + u.size : Nat) : Int) > IntKind.i64.max) := by
      have : IntKind.i64.max = 9223372036854775807 := by decide
      rw [this]; omega
    rw [pureRun_bind]
    show (Option.some ()).bind (fun _ => pureRun P (Op.stringOp .add s u)) = _
    unfold Op.stringOp
    simp only [h1, if_false]
    rfl
  unfold abin
  simp [plain, plain1, this, keep]
theorem un_not {b : Bool} : aun P .not (.bool b) = some (.bool !b) := rfl
theorem un_neg : aun P .neg (.int k x) = some (.int k (k.wrap (0 - x))) := by cases k <;> rfl
theorem bi_len {v : Value} : abuiltin P .len #[t] [v] = alen P t v := rfl
theorem bi_cap {v : Value} : abuiltin P .cap #[t] [v] = acap P t v := rfl
theorem bi_min {ts : Array TypeId} : abuiltin P .min ts [.int k x, .int k y] = some (.int k (if y < x then y else x)) := by
  simp [abuiltin, plain, plain1, Builtin.min_, Builtin.min2, keep]; rfl
theorem bi_max {ts : Array TypeId} : abuiltin P .max ts [.int k x, .int k y] = some (.int k (if y > x then y else x)) := by
  simp [abuiltin, plain, plain1, Builtin.max_, Builtin.max2, keep]; rfl
end

theorem slice_str {P : Program} {t : TypeId} (hu : und P t = some .string) (b : ByteArray) (lo hi : Int) (l h : Nat) (h0 : lo = l) (h1 : hi = h) (h2 : l ≤ h) (h3 : h ≤ b.size) (k k' : IntKind) (st : AS) :
    aslice P st t (.string b) (some (.int k lo)) (some (.int k' hi)) none = some (.string (b.extract l h)) := by
  subst h0; subst h1
  simp [aslice, hu, bnd, h2, h3]

theorem alloc_get_new' (H : AH) (b : Blk) : (H.alloc b).get H.next = some b := by simp [AH.alloc]
theorem alloc_get_old' {H : AH} {n : Nat} (b : Blk) (h : n < H.next) : (H.alloc b).get n = H.get n := by
  have : n ≠ H.next := by omega
  simp [AH.alloc, this]
theorem alloc_next (H : AH) (b : Blk) : (H.alloc b).next = H.next + 1 := rfl
theorem alloc_ok {H : AH} (h : H.ok) (b : Blk) : (H.alloc b).ok := by
  intro n c hc
  simp only [AH.alloc] at hc ⊢
  split at hc
  · omega
  · have := h n c hc; omega

theorem wrap_u32 {n : Int} : IntKind.u32.wrap n = n % 4294967296 := by
  simp only [IntKind.wrap, IntKind.bits, IntKind.signed, Bool.false_and, Bool.false_eq_true, if_false]
  rfl
theorem wrap_u8 {n : Int} : IntKind.u8.wrap n = n % 256 := by
  simp only [IntKind.wrap, IntKind.bits, IntKind.signed, Bool.false_and, Bool.false_eq_true, if_false]
  rfl

/-! ## Runs of operations -/
def runO (P : Program) (esc : List Nat) (ops : Array Oper) (cc : List Nat) (i : Nat) (o : Oper) (st : AS) : Option AS :=
  match awanted ops st o with
  | some true =>
    if tks P o then (aopR P o st).map fun v => st.put o.dst v
    else if cc.contains i then none
    else (aopW P esc o st).map fun p => p.2.put o.dst p.1
  | some false => some (st.put o.dst skipV)
  | none => none

def run1 (P : Program) (esc : List Nat) (ops : Array Oper) (cc : List Nat) (i : Nat) (st : AS) : Option AS :=
  match ops[i]? with
  | none => none
  | some o => runO P esc ops cc i o st

def runL (P : Program) (esc : List Nat) (ops : Array Oper) (cc : List Nat) : Nat → List Oper → AS → Option AS
  | _, [], st => some st
  | i, o :: l, st => match runO P esc ops cc i o st with | some st' => runL P esc ops cc (i + 1) l st' | none => none

theorem aplan_run1 {P : Program} {esc : List Nat} {ops : Array Oper} {cc : List Nat} {i : Nat} {l : List Nat} {Q : Exit → AS → Prop} {st st' : AS} (h : run1 P esc ops cc i st = some st')
    (k : APlan P ops cc l Q st') : APlan P ops cc (i :: l) Q st := by
  unfold run1 at h
  split at h
  · cases h
  · rename_i o ho
    unfold runO at h
    split at h
    · rename_i hw
      split at h
      · rename_i ht
        obtain ⟨v, h1, h2⟩ := map_some h
        subst h2
        exact aplan_take ho ht hw h1 k
      · rename_i ht
        split at h
        · cases h
        · rename_i hg
          obtain ⟨p, h1, h2⟩ := map_some h
          subst h2
          refine aplan_op ho (by simpa using ht) hw (AOp.of_W (v := p.1) (st' := p.2) h1 (fun q => ?_) k)
          unfold grw at q
          simp only [ho] at q
          have h3 : tks P o = false := by simpa using ht
          have h4 : cc.contains i = false := by simpa using hg
          rw [h3, h4] at q
          simpa using q
    · rename_i hw
      cases h
      exact aplan_skip ho hw k
    · cases h

def runI (P : Program) (esc : List Nat) (ops : Array Oper) (cc : List Nat) : List Nat → AS → Option AS
  | [], st => some st
  | i :: l, st => match run1 P esc ops cc i st with | some st' => runI P esc ops cc l st' | none => none

theorem aplan_run {P : Program} {esc : List Nat} {ops : Array Oper} {cc : List Nat} {Q : Exit → AS → Prop} {post : List Nat} : ∀ {pre : List Nat} {st st' : AS}, runI P esc ops cc pre st = some st' →
    APlan P ops cc post Q st' → APlan P ops cc (pre ++ post) Q st
  | [], st, st', h, k => by cases h; exact k
  | i :: l, st, st', h, k => by
    unfold runI at h
    split at h
    · rename_i s hs
      exact aplan_run1 hs (aplan_run h k)
    · cases h

theorem runI_of_runL {P : Program} {esc : List Nat} {ops : Array Oper} {cc : List Nat} : ∀ {l : List Oper} {i : Nat} {st st' : AS}, (∀ (k : Nat) (o : Oper), l[k]? = some o → ops[i + k]? = some o) →
    runL P esc ops cc i l st = some st' → runI P esc ops cc (List.range' i l.length) st = some st'
  | [], i, st, st', hl, h => h
  | o :: l, i, st, st', hl, h => by
    unfold runL at h
    have h0 : ops[i]? = some o := hl 0 o rfl
    simp only [List.length_cons, List.range'_succ, runI, run1, h0]
    split at h
    · rename_i s hs
      exact runI_of_runL (fun k o' e => by rw [Nat.add_assoc, Nat.add_comm 1 k]; exact hl (k + 1) o' (by simpa using e)) h
    · cases h

/-- A region that calls nothing. -/
theorem awp_run {P : Program} (esc : List Nat) {id : Nat} {ops : Array Oper} {Q : Exit → AS → Prop} {st st' : AS} (h : runL P esc ops [] 0 ops.toList st = some st') (k : Q .normal st') :
    AWp P (.region id ops false) Q st := by
  refine awp_region [] ?_
  have h1 := runI_of_runL (fun k o e => by simpa using e) h
  have := aplan_run (post := []) h1 (aplan_nil k)
  rw [List.append_nil, ← List.range_eq_range'] at this
  simpa using this

theorem awp_run_seq {P : Program} (esc : List Nat) {id : Nat} {ops : Array Oper} {Q : Exit → AS → Prop} {y : Code} {st st' : AS} (h : runL P esc ops [] 0 ops.toList st = some st') (k : AWp P y Q st') :
    AWp P (.seq (.region id ops false) y) Q st := awp_seq (awp_run esc h k)

theorem awp_skip_seq {P : Program} {Q : Exit → AS → Prop} {y : Code} {st : AS} (k : AWp P y Q st) : AWp P (.seq .skip y) Q st := awp_seq (awp_skip k)

/-- A call at hand: to be met by a contract. -/
theorem aplan_call {P : Program} {ops : Array Oper} {i : Nat} {l : List Nat} {Q : Exit → AS → Prop} {st : AS} {o : Oper} {c : Call} (g : FuncId) (args : List Value) (d : Option Nat) (H0 : AH) {R : Value → AH → Prop}
    (ho : ops[i]? = some o) (hoc : o.op = .call c) (hd : o.dst = d) (hH : st.heap = H0) (ht : tks P o = false) (hgr : grw P ops [] i = false) (hw : awanted ops st o = some true)
    (hc : callArgs st c = some (g, args)) (hg : enterable P g = true) (hh : args.all hpV = true) (hf : AFn P g args H0 R)
    (k : ∀ v H', R v H' → APlan P ops [] l Q ((st.put d v).setHeap H')) : APlan P ops [] (i :: l) Q st := by
  subst hH; subst hd
  exact aplan_op ho ht hw (by rw [hgr]; exact AOp.of_call hoc hc hg hh hf fun v H' h => by rw [put_setHeap]; exact k v H' h)

theorem aplan_clean {P : Program} {ops : Array Oper} {cc : List Nat} {i : Nat} {l : List Nat} {Q : Exit → AS → Prop} {st : AS} {o : Oper} {c : Call} (g : FuncId) (args : List Value) (d : Option Nat) (H0 : AH) {R : Value → AH → Prop}
    (ho : ops[i]? = some o) (hoc : o.op = .call c) (hd : o.dst = d) (hH : st.heap = H0) (ht : tks P o = false) (hw : awanted ops st o = some true)
    (hc : callArgs st c = some (g, args)) (hg : enterable P g = true) (hh : args.all hpV = true) (hf : AFn P g args H0.ro (MadeOnly H0.ro R))
    (k : ∀ v H', Ext H0.ro H' → R v H' → APlan P ops cc l Q ((st.put d v).setHeap (H0.beside H'))) : APlan P ops cc (i :: l) Q st := by
  subst hH; subst hd
  exact aplan_op ho ht hw (AOp.of_clean hoc hc hg hh hf fun v H' h1 h2 => by rw [put_setHeap]; exact k v H' h1 h2)

/-! ## Contracts that come from elsewhere -/
theorem HRel.below {hm : HM} {w0 : World} {U : Env} {H : AH} {w w' : World} (r : HRel hm w0 U H w) (h : Go.RowKit.Below w.heap.size w w') : HRel hm w0 U H w' where
  nsz := Nat.le_trans r.nsz h.size
  os := h.os.trans r.os
  tape := h.tape.trans r.tape
  output := h.output.trans r.output
  size := Nat.le_trans r.size h.size
  prot := fun B hB => ⟨(r.prot B hB).1, (h.block B (Nat.lt_of_lt_of_le (r.prot B hB).1 r.size)).trans (r.prot B hB).2⟩
  fresh := r.fresh
  blk := fun n b hb => by
    obtain ⟨i, C, e, fz, h1, h2, h3⟩ := r.blk n b hb
    exact ⟨i, C, e, fz, h1, by rw [h.block _ (lt_of_get h2)]; exact h2, h3⟩
  inj := r.inj

theorem AFn.assume {P : Program} {f : FuncId} {args : List Value} {H : AH} {R : Value → AH → Prop} (h : H.ok → AFn P f args H R) : AFn P f args H R :=
  fun hm w0 U w cargs hr ha => h (fun n b hb => hr.lt hb) hm w0 U w cargs hr ha

theorem AFn.of_below {P : Program} {f : FuncId} {args : List Value} {H : AH} {v : Value} (hv : plain v = true)
    (h : ∀ (hm : HM) (w0 : World) (U : Env) (w : World) (cargs : Array Value), HRel hm w0 U H w → L2 (VR hm []) args cargs.toList → Calls P f cargs w fun e w' => e = .returned v ∧ Go.RowKit.Below w.heap.size w w') :
    AFn P f args H (MadeOnly H fun v' H' => v' = v ∧ H' = H) := by
  intro hm w0 U w cargs hr ha
  refine (h hm w0 U w cargs hr ha).mono fun e w' ⟨h1, h2⟩ => ⟨hm, v, v, H, h1, HM.le_refl _, hr.below h2, .of_plain hv, Ext.refl H, fun n b hn hb => ?_, rfl, rfl⟩
  have := hr.lt hb
  omega

/-- A clean contract may be used where the heap is written, too. -/
theorem MadeOnly.mono {H : AH} {R R' : Value → AH → Prop} (k : ∀ v H', Ext H H' → R v H' → R' v H') {v : Value} {H' : AH} (h : MadeOnly H R v H') : MadeOnly H R' v H' := ⟨h.1, h.2.1, k v H' h.1 h.2.2⟩

/-! ## What was there, and what is new -/
structure New (H H' : AH) : Prop extends Ext H H' where
  wr : ∀ n b, H.next ≤ n → H'.get n = some b → b.wr = true
theorem New.refl {H : AH} (h : H.ok) : New H H := { toExt := Ext.refl H, wr := fun n b hn hb => by have := h n b hb; omega }
theorem New.trans {A B C : AH} (h : New A B) (k : New B C) : New A C :=
  { toExt := h.toExt.trans k.toExt
    wr := fun n b hn hb => by
      by_cases q : n < B.next
      · rw [k.old n q] at hb; exact h.wr n b hn hb
      · exact k.wr n b (by omega) hb }
theorem New.alloc {A B : AH} (h : New A B) (b : Blk) (hw : b.wr = true) : New A (B.alloc b) :=
  { next := Nat.le_succ_of_le h.next
    old := fun n hn => by
      have := h.next
      simp only [AH.alloc]
      rw [if_neg (by omega)]
      exact h.old n hn
    wr := fun n c hn hc => by
      simp only [AH.alloc] at hc
      split at hc
      · cases hc; exact hw
      · exact h.wr n c hn hc }
theorem New.clean {H H' : AH} (h : New H H') {R : Value → AH → Prop} {v : Value} (k : R v H') : MadeOnly H R v H' := ⟨h.toExt, h.wr, k⟩

end Go.Ahl
