/-
  The abstract heap logic, part ten: one operation, whatever it is, that calls no function.
-/
import Derived.Test.YtmafhfnalekgnaaAhlI
namespace Go.Ahl
set_option linter.unusedVariables false

section
variable {hm : HM} {lb : LM} {w0 : World} {U : Env} {st : AS} {w : World} {a : Act} {P : Program}

def prOk : Value → Bool
  | .slice _ _ _ | .func _ _ _ | .agg _ | .tuple _ => false
  | _ => true
theorem PR.of_vr {x v : Value} (h : prOk x = true) (e : VR hm lb x v) : PR hm lb x v := by
  have ho : one x = true := by cases x <;> first | rfl | (simp [prOk] at h; done)
  have hs := e.sr ho
  cases x <;> first | (simp [prOk] at h; done) | exact hs | skip
  case pointer p => cases p <;> exact hs

theorem plain_all {l l' : List Value} (h : l.all plain = true) (e : L2 (VR hm lb) l l') : l' = l := by
  induction l generalizing l' with
  | nil => exact e.nil_inv
  | cons x l ih =>
    obtain ⟨b, t, rfl, h1, h2⟩ := e.cons_inv
    simp only [List.all_cons, Bool.and_eq_true] at h
    rw [h1.plain h.1, ih h.2 h2]


/-- The builtins that write no memory. -/
def abuiltin (P : Program) (b : Builtin) (ts : Array TypeId) (args : List Value) : Option Value :=
  match b with
  | .len => match ts[0]?, args with | some t, [x] => alen P t x | _, _ => none
  | .cap => match ts[0]?, args with | some t, [x] => acap P t x | _, _ => none
  | .min => if args.all plain then keep (pureRun P (Builtin.min_ ts 0 args.toArray)) else none
  | .max => if args.all plain then keep (pureRun P (Builtin.max_ ts 0 args.toArray)) else none
  | _ => none

theorem abuiltin_ok {b : Builtin} {ts : Array TypeId} {T : TypeId} {consts : Array Bool} {args : List Value} {cargs : Array Value} {v : Value} (h : abuiltin P b ts args = some v)
    (hx : L2 (VR hm lb) args cargs.toList) : ∃ cv, (∀ w, (builtin b ts T consts cargs).run P w = .ok (.value cv) w) ∧ VR hm lb v cv := by
  have hargs : ∀ l, cargs.toList = l → cargs = l.toArray := fun l e => by apply Array.toList_inj.1; rw [e]
  unfold abuiltin at h
  split at h
  · split at h
    · rename_i t x ht
      obtain ⟨cx, t1, e1, h1, h2⟩ := hx.cons_inv
      rw [h2.nil_inv] at e1
      obtain ⟨h3, h4⟩ := alen_ok (P := P) (T := T) h h1 ht
      rw [hargs _ e1]
      exact ⟨v, fun w => by simp [builtin, h3], h4⟩
    · cases h
  · split at h
    · rename_i t x ht
      obtain ⟨cx, t1, e1, h1, h2⟩ := hx.cons_inv
      rw [h2.nil_inv] at e1
      obtain ⟨h3, h4⟩ := acap_ok (P := P) (T := T) h h1 ht
      rw [hargs _ e1]
      exact ⟨v, fun w => by simp [builtin, h3], h4⟩
    · cases h
  · split at h
    · rename_i hp
      obtain ⟨h1, h2⟩ := keep_ok h
      rw [hargs _ (plain_all hp hx)]
      have h4 : (Builtin.min_ ts T args.toArray) = Builtin.min_ ts 0 args.toArray := rfl
      exact ⟨v, fun w => by simp only [builtin, h4, Sem.run_bind, pureRun_ok h1 w, Result.andThen_ok, Sem.run_pure], .of_plain h2⟩
    · cases h
  · split at h
    · rename_i hp
      obtain ⟨h1, h2⟩ := keep_ok h
      rw [hargs _ (plain_all hp hx)]
      have h4 : (Builtin.max_ ts T args.toArray) = Builtin.max_ ts 0 args.toArray := rfl
      exact ⟨v, fun w => by simp only [builtin, h4, Sem.run_bind, pureRun_ok h1 w, Result.andThen_ok, Sem.run_pure], .of_plain h2⟩
    · cases h
  · cases h

/-- Operations that write no memory. -/
def aopR (P : Program) (o : Oper) (st : AS) : Option Value :=
  match o.op with
  | .move x | .assign x => some (st.eval x)
  | .pick c x y => match st.eval c with | .bool t => some (if t then st.eval x else st.eval y) | _ => none
  | .build t ps => abuild P t (ps.toList.map fun p => (p.1, st.eval p.2))
  | .load t x => aload P st t (st.eval x)
  | .nilCheck x => anilCheck (st.eval x)
  | .binOp op t x y _ => keep (abin P op t x y (st.eval x) (st.eval y))
  | .unOp op _ x => aun P op (st.eval x)
  | .convert src dst x => aconv P st src dst (st.eval x)
  | .makeFunc fn first captured => if first.size = 0 ∧ (captured.toList.map st.eval).all prOk then some (.func fn #[] (captured.toList.map st.eval).toArray) else none
  | .slice t x lo hi mx => aslice P st t (st.eval x) (lo.map st.eval) (hi.map st.eval) (mx.map st.eval)
  | .fieldAddr t x f => afieldAddr P t (st.eval x) f
  | .field t x f => afield P t (st.eval x) f
  | .indexAddr t x i => aindexAddr P t (st.eval x) (st.eval i)
  | .index t x i => aindexv P t (st.eval x) (st.eval i)
  | .extract t i => aextract (st.eval t) i
  | .call { callee := .builtin b, args, argTypes } => abuiltin P b argTypes (args.toList.map st.eval)
  | _ => none

/-- Is the box of this operation laid in the heap? -/
def esc? (esc : List Nat) (o : Oper) : Bool := match o.dst with | some d => esc.contains d | none => true

/-- Operations that make memory, or write it. -/
def aopW (P : Program) (esc : List Nat) (o : Oper) (st : AS) : Option (Value × AS) :=
  match o.op with
  | .alloc T => match zr P T with | some z => if z.cells.toList.all plain1 then st.newBox (esc? esc o) z.cells.toList else none | none => none
  | .box T x => match cellsOf (st.eval x) with | some cs => st.newBox (esc? esc o) cs | none => none
  | .buildSlice t len ps => abuildSlice P st t len (ps.toList.map fun p => (p.1, st.eval p.2))
  | .makeSlice t l c => amakeSlice P st t (st.eval l) (st.eval c)
  | .convert src dst x => aconvW P st src dst (st.eval x)
  | .store t x v => (astore P st t (st.eval x) (st.eval v)).map (undef, ·)
  | .call { callee := .builtin .append, args, argTypes } => match argTypes.toList, args.toList with | [sT, xT], [s, x] => aappend P st sT xT (st.eval s) (st.eval x) | _, _ => none
  | _ => none

/-- Those that leave all that was there. -/
def grows (o : Oper) : Bool :=
  match o.op with
  | .alloc _ | .box _ _ | .buildSlice _ _ _ | .makeSlice _ _ _ | .convert _ _ _ => true
  | _ => false

def OpR (P : Program) (o : Oper) (st : AS) (v : Value) : Prop :=
  ∀ hm lb w0 U w a, Rel hm lb w0 U st w a → ∃ cv, (∀ w', Grows w w' → (execOp a.eval o).run P w' = .ok (.value cv) w') ∧ VR hm lb v cv

def OpW (P : Program) (o : Oper) (st : AS) (v : Value) (st' : AS) : Prop :=
  ∀ hm lb w0 U w a, Rel hm lb w0 U st w a → ∃ hm' lb' w' cv n, (execOp a.eval o).run P w = .ok n w' ∧ (n = .value cv ∨ (n = .skip ∧ cv = undef)) ∧ hm.le hm' ∧ Rel hm' lb' w0 U st' w' a ∧ VR hm' lb' v cv ∧ (grows o = true → Grows w w')

theorem map_some {α β : Type} {o : Option α} {f : α → β} {b : β} (h : o.map f = some b) : ∃ x, o = some x ∧ f x = b := by
  cases o with
  | none => simp at h
  | some x => simp at h; exact ⟨x, rfl, h⟩

theorem L2.map {α β γ : Type} {R : α → β → Prop} {f : γ → α} {g : γ → β} (l : List γ) (h : ∀ x ∈ l, R (f x) (g x)) : L2 R (l.map f) (l.map g) := by
  induction l with
  | nil => exact .nil
  | cons x l ih => exact .cons (h x (by simp)) (ih fun y hy => h y (by simp [hy]))

theorem optR_map (r : Rel hm lb w0 U st w a) (x : Option Operand) : optR hm lb (x.map st.eval) (x.map a.eval) := by
  cases x with
  | none => trivial
  | some x => exact r.eval x


theorem aopR_ok {o : Oper} {v : Value} (h : aopR P o st = some v) : OpR P o st v := by
  intro hm lb w0 U w a r
  unfold aopR at h
  split at h
  · rename_i x ho
    cases h
    exact ⟨_, fun w' _ => by simp only [execOp, ho]; rfl, r.eval x⟩
  · rename_i x ho
    cases h
    exact ⟨_, fun w' _ => by simp only [execOp, ho]; rfl, r.eval x⟩
  · rename_i c x y ho
    split at h
    · rename_i t hc
      cases h
      have hcc := r.eval c
      rw [hc] at hcc
      have hcc' : a.eval c = .bool t := hcc.sr rfl
      refine ⟨(if t then a.eval x else a.eval y), fun w' _ => by simp [execOp, ho, hcc', asBool], ?_⟩
      cases t
      · exact r.eval y
      · exact r.eval x
    · cases h
  · rename_i t ps ho
    obtain ⟨cv, g1, g2⟩ := abuild_ok (P := P) (hm := hm) (lb := lb) (ps' := ps.map fun p => (p.1, a.eval p.2)) h
      (by rw [Array.toList_map]; exact L2.map (R := fun (x y : Nat × Value) => x.1 = y.1 ∧ VR hm lb x.2 y.2) ps.toList fun x _ => ⟨rfl, r.eval x.2⟩)
    exact ⟨cv, fun w' _ => by simp [execOp, ho, g1], g2⟩
  · rename_i t x ho
    obtain ⟨cv, g1, g2⟩ := aload_ok (P := P) r h (r.eval x)
    exact ⟨cv, fun w' hg => by simp [execOp, ho, g1 w' hg], g2⟩
  · rename_i x ho
    have hx := r.eval x
    unfold anilCheck at h
    split at h
    · rename_i p hp
      cases h
      rw [hp] at hx
      obtain ⟨c, h1, h2⟩ := hx.sr rfl
      exact ⟨.pointer (some c), fun w' _ => by simp [execOp, ho, h2], .of_sr rfl ⟨c, h1, rfl⟩⟩
    · rename_i f first c hp
      cases h
      rw [hp] at hx
      obtain ⟨c', h1, h2, h3⟩ := hx.sr rfl
      exact ⟨.func (.func f) #[] c', fun w' _ => by simp [execOp, ho, h1], .of_sr rfl ⟨c', rfl, h2, h3⟩⟩
    · cases h
  · rename_i op t x y _ ho
    obtain ⟨g1, g2⟩ := abin_ok (P := P) h (r.eval x) (r.eval y)
    refine ⟨v, fun w' _ => ?_, g2⟩
    simp only [execOp, ho]
    rw [Sem.run_bind, g1 w']
    simp
  · rename_i op t x ho
    obtain ⟨g1, g2⟩ := aun_ok (P := P) h (r.eval x)
    exact ⟨v, fun w' _ => by simp [execOp, ho, g1], g2⟩
  · rename_i src dst x ho
    obtain ⟨cv, g1, g2⟩ := aconv_ok (P := P) r h (r.eval x)
    exact ⟨cv, fun w' hg => by simp [execOp, ho, g1 w' hg], g2⟩
  · rename_i fn first captured ho
    split at h
    · rename_i hc
      cases h
      refine ⟨.func fn #[] (captured.map a.eval), fun w' _ => ?_, .of_sr rfl ⟨_, rfl, rfl, ?_⟩⟩
      · have : first.map a.eval = #[] := by apply Array.eq_empty_of_size_eq_zero; simp [hc.1]
        simp [execOp, ho, Instr.makeFunc, this]
      · rw [Array.toList_map]
        simp only
        refine L2.map captured.toList fun x hx => PR.of_vr ?_ (r.eval x)
        exact List.all_eq_true.1 hc.2 _ (List.mem_map_of_mem hx)
    · cases h
  · rename_i t x lo hi mx ho
    obtain ⟨cv, g1, g2⟩ := aslice_ok (P := P) r h (r.eval x) (optR_map r lo) (optR_map r hi) (optR_map r mx)
    exact ⟨cv, fun w' _ => by simp [execOp, ho, g1], g2⟩
  · rename_i t x f ho
    obtain ⟨cv, g1, g2⟩ := afieldAddr_ok (P := P) h (r.eval x)
    exact ⟨cv, fun w' _ => by simp [execOp, ho, g1], g2⟩
  · rename_i t x f ho
    obtain ⟨cv, g1, g2⟩ := afield_ok (P := P) h (r.eval x)
    exact ⟨cv, fun w' _ => by simp [execOp, ho, g1], g2⟩
  · rename_i t x i ho
    obtain ⟨cv, g1, g2⟩ := aindexAddr_ok (P := P) h (r.eval x) (r.eval i)
    exact ⟨cv, fun w' _ => by simp [execOp, ho, g1], g2⟩
  · rename_i t x i ho
    obtain ⟨cv, g1, g2⟩ := aindexv_ok (P := P) h (r.eval x) (r.eval i)
    exact ⟨cv, fun w' _ => by simp [execOp, ho, g1], g2⟩
  · rename_i t i ho
    obtain ⟨cv, g1, g2⟩ := aextract_ok (P := P) h (r.eval t)
    exact ⟨cv, fun w' _ => by simp [execOp, ho, g1], g2⟩
  · rename_i b args ts ho
    obtain ⟨cv, g1, g2⟩ := abuiltin_ok (P := P) (T := o.type) (consts := args.map fun | .const _ => true | _ => false) (cargs := args.map a.eval) h
      (by rw [Array.toList_map]; exact L2.map (R := VR hm lb) args.toList fun x _ => r.eval x)
    refine ⟨cv, fun w' _ => ?_, g2⟩
    simp only [execOp, ho, resolve, Sem.run_bind, Sem.run_pure, Result.andThen_ok, invoke]
    exact g1 w'
  · cases h

theorem aopW_ok {esc : List Nat} {o : Oper} {v : Value} {st' : AS} (h : aopW P esc o st = some (v, st')) : OpW P o st v st' := by
  intro hm lb w0 U w a r
  unfold aopW at h
  split at h
  · rename_i T ho
    split at h
    · rename_i z hz
      split at h
      · rename_i hp
        obtain ⟨hm', lb', w', cv, g1, g2, g3, g4, g5, g6⟩ := newBox_ok (P := P) r h (T := T) (C := z.cells) (L2.of_plain hp)
        refine ⟨hm', lb', w', cv, .value cv, ?_, .inl rfl, g2, g4, g5, fun _ => g6⟩
        simp only [execOp, ho, Instr.alloc, newVar, Sem.run_bind, run_zero hz, Result.andThen_ok] at g1 ⊢
        cases hr : (newRow T z.cells).run P w with
        | ok x w1 => simp [hr] at g1 ⊢; exact g1
        | halt x w1 => simp [hr] at g1
      · cases h
    · cases h
  · rename_i T x ho
    split at h
    · rename_i cs hcs
      obtain ⟨hm', lb', w', cv, g1, g2, g3, g4, g5, g6⟩ := newBox_ok (P := P) r h (T := T) (C := (a.eval x).cells) (cells_rel (r.eval x) hcs)
      refine ⟨hm', lb', w', cv, .value cv, ?_, .inl rfl, g2, g4, g5, fun _ => g6⟩
      simp only [execOp, ho, Instr.box, newVar, Sem.run_bind] at g1 ⊢
      cases hr : (newRow T (a.eval x).cells).run P w with
      | ok x w1 => simp [hr] at g1 ⊢; exact g1
      | halt x w1 => simp [hr] at g1
    · cases h
  · rename_i t len ps ho
    obtain ⟨hm', w', cv, g1, g2, g3, g4, g5⟩ := abuildSlice_ok (P := P) r (ps' := ps.map fun p => (p.1, a.eval p.2)) h
      (by rw [Array.toList_map]; exact L2.map (R := fun (x y : Nat × Value) => x.1 = y.1 ∧ VR hm lb x.2 y.2) ps.toList fun x _ => ⟨rfl, r.eval x.2⟩)
    exact ⟨hm', lb, w', cv, .value cv, by simp [execOp, ho, g1], .inl rfl, g2, g3, g4, fun _ => g5⟩
  · rename_i t l c ho
    obtain ⟨hm', w', cv, g1, g2, g3, g4, g5⟩ := amakeSlice_ok (P := P) r h (r.eval l) (r.eval c)
    exact ⟨hm', lb, w', cv, .value cv, by simp [execOp, ho, g1], .inl rfl, g2, g3, g4, fun _ => g5⟩
  · rename_i src dst x ho
    obtain ⟨hm', w', cv, g1, g2, g3, g4, g5⟩ := aconvW_ok (P := P) r h (r.eval x)
    exact ⟨hm', lb, w', cv, .value cv, by simp [execOp, ho, g1], .inl rfl, g2, g3, g4, fun _ => g5⟩
  · rename_i t x y ho
    obtain ⟨u, hu, e⟩ := map_some h
    cases e
    obtain ⟨w', g1, g2⟩ := astore_ok (P := P) r hu (r.eval x) (r.eval y)
    exact ⟨hm, lb, w', undef, .skip, by simp [execOp, ho, g1], .inr ⟨rfl, rfl⟩, HM.le_refl _, g2, .inl rfl, fun q => by simp [grows, ho] at q⟩
  · rename_i args ts ho
    split at h
    · rename_i sT xT s x ht ha
      have hts : ts = #[sT, xT] := by apply Array.toList_inj.1; rw [ht]
      have has : args.map a.eval = #[a.eval s, a.eval x] := by apply Array.toList_inj.1; rw [Array.toList_map, ha]; rfl
      subst hts
      obtain ⟨hm', w', cv, g1, g2, g3, g4⟩ := aappend_ok (T := o.type) r h (r.eval s) (r.eval x)
      refine ⟨hm', lb, w', cv, .value cv, ?_, .inl rfl, g2, g3, g4, fun q => by simp [grows, ho] at q⟩
      simp only [execOp, ho, resolve, Sem.run_bind, Sem.run_pure, Result.andThen_ok, invoke, has, builtin, g1]
    · cases h
  · cases h
end

end Go.Ahl
