/-
  A logic over the model, part eleven: a region that draws its order.
-/
import Derived.Test.YtpfbnghalpfoaaaDoorFJ
namespace Go.Fhl
set_option linter.unusedVariables false
set_option linter.unusedSimpArgs false

def dstOf (ops : Array Oper) (j : Nat) : Option Nat := (ops[j]?).bind (·.dst)

/-- The slots, when these operations are done. -/
def TD (ops : Array Oper) (T : List Value) (T0 : List (Nat × Value)) (d : Nat → Bool) : Nat → List (Nat × Value)
  | 0 => T0
  | i + 1 => match d i, dstOf ops i, T[i]? with
    | true, some t, some v => (t, v) :: TD ops T T0 d i
    | _, _, _ => TD ops T T0 d i

theorem TD_spec {ops : Array Oper} {T : List Value} {T0 : List (Nat × Value)} {d : Nat → Bool} : ∀ {m : Nat} (hT : m ≤ T.length) {t : Nat},
    (∃ j v, j < m ∧ d j = true ∧ dstOf ops j = some t ∧ T[j]? = some v ∧ (∀ j', j < j' → j' < m → d j' = true → dstOf ops j' ≠ some t) ∧ lk (TD ops T T0 d m) t = some v) ∨
    ((∀ j, j < m → d j = true → dstOf ops j ≠ some t) ∧ lk (TD ops T T0 d m) t = lk T0 t)
  | 0, hT, t => .inr ⟨fun j hj => by omega, rfl⟩
  | m + 1, hT, t => by
    have ih := TD_spec (ops := ops) (T := T) (T0 := T0) (d := d) (m := m) (by omega) (t := t)
    have hm : T[m]? = some T[m] := List.getElem?_eq_getElem (by omega)
    by_cases hd : d m = true
    · cases hdst : dstOf ops m with
      | none =>
        have e : TD ops T T0 d (m + 1) = TD ops T T0 d m := by simp only [TD, hd, hdst]
        rw [e]
        rcases ih with ⟨j, v, h1, h2, h3, h4, h5, h6⟩ | ⟨h1, h2⟩
        · exact .inl ⟨j, v, by omega, h2, h3, h4, fun j' q1 q2 q3 => by
            by_cases z : j' = m
            · subst z; rw [hdst]; simp
            · exact h5 j' q1 (by omega) q3, h6⟩
        · exact .inr ⟨fun j q1 q2 => by
            by_cases z : j = m
            · subst z; rw [hdst]; simp
            · exact h1 j (by omega) q2, h2⟩
      | some u =>
        have e : TD ops T T0 d (m + 1) = (u, T[m]) :: TD ops T T0 d m := by simp only [TD, hd, hdst, hm]
        rw [e]
        by_cases hu : u = t
        · subst hu
          exact .inl ⟨m, T[m], by omega, hd, hdst, hm, fun j' q1 q2 => by omega, lk_cons_self _ _ _⟩
        · rw [lk_cons_ne hu]
          rcases ih with ⟨j, v, h1, h2, h3, h4, h5, h6⟩ | ⟨h1, h2⟩
          · exact .inl ⟨j, v, by omega, h2, h3, h4, fun j' q1 q2 q3 => by
              by_cases z : j' = m
              · subst z; rw [hdst]; simp [hu]
              · exact h5 j' q1 (by omega) q3, h6⟩
          · exact .inr ⟨fun j q1 q2 => by
              by_cases z : j = m
              · subst z; rw [hdst]; simp [hu]
              · exact h1 j (by omega) q2, h2⟩
    · have e : TD ops T T0 d (m + 1) = TD ops T T0 d m := by
        have : d m = false := by simpa using hd
        simp only [TD, this]
      rw [e]
      rcases ih with ⟨j, v, h1, h2, h3, h4, h5, h6⟩ | ⟨h1, h2⟩
      · exact .inl ⟨j, v, by omega, h2, h3, h4, fun j' q1 q2 q3 => by
          by_cases z : j' = m
          · subst z; exact absurd q3 hd
          · exact h5 j' q1 (by omega) q3, h6⟩
      · exact .inr ⟨fun j q1 q2 => by
          by_cases z : j = m
          · subst z; exact absurd q2 hd
          · exact h1 j (by omega) q2, h2⟩

theorem TD_none {ops : Array Oper} {T : List Value} {T0 : List (Nat × Value)} {d : Nat → Bool} (hd : ∀ i, d i = false) : ∀ m, TD ops T T0 d m = T0
  | 0 => rfl
  | m + 1 => by simp only [TD, hd m]; exact TD_none hd m

/-- What an operation reads: slots as they stood, or as an operation has left them. -/
def mini (T0 : List (Nat × Value)) (T : List Value) : List (Nat × Option Nat) → Option (List (Nat × Value))
  | [] => some []
  | (t, none) :: r => match lk T0 t, mini T0 T r with | some v, some m => some ((t, v) :: m) | _, _ => none
  | (t, some j) :: r => match T[j]?, mini T0 T r with | some v, some m => some ((t, v) :: m) | _, _ => none

theorem lk_mini {T0 : List (Nat × Value)} {T : List Value} : ∀ {l : List (Nat × Option Nat)} {m : List (Nat × Value)} {t : Nat} {v : Value}, mini T0 T l = some m → lk m t = some v →
    ∃ s, (t, s) ∈ l ∧ (match s with | none => lk T0 t = some v | some j => T[j]? = some v)
  | [], m, t, v, h, hl => by cases h; simp [lk] at hl
  | (u, none) :: r, m, t, v, h, hl => by
    unfold mini at h
    split at h
    · rename_i x y hx hy
      cases h
      rcases lk_push hl with ⟨rfl, rfl⟩ | ⟨h1, h2⟩
      · exact ⟨none, by simp, hx⟩
      · obtain ⟨s, h3, h4⟩ := lk_mini hy h2
        exact ⟨s, by simp [h3], h4⟩
    · cases h
  | (u, some j) :: r, m, t, v, h, hl => by
    unfold mini at h
    split at h
    · rename_i x y hx hy
      cases h
      rcases lk_push hl with ⟨rfl, rfl⟩ | ⟨h1, h2⟩
      · exact ⟨some j, by simp, hx⟩
      · obtain ⟨s, h3, h4⟩ := lk_mini hy h2
        exact ⟨s, by simp [h3], h4⟩
    · cases h

structure DOp where
  src : List (Nat × Option Nat)
  before : List Nat
  ks : List Nat
  s : Bool

def inB (D : List DOp) (i j : Nat) : Bool := match D[i]? with | some x => x.before.contains j | none => false

/-- The checks on one operation. -/
def srcOk (ops : Array Oper) (D : List DOp) (i : Nat) : Nat × Option Nat → Bool
  | (t, none) => (List.range ops.size).all fun j => dstOf ops j != some t || j == i || inB D j i
  | (t, some j) => dstOf ops j == some t && inB D i j && (List.range ops.size).all fun j' => dstOf ops j' != some t || j' == j || j' == i || inB D j' i || (Nat.blt j' j)
def befOk (ops : Array Oper) (D : List DOp) (i j : Nat) : Bool :=
  match ops[i]? with | some o => o.after.toList.any fun e => Region.binds .any e && (e.on == j || inB D e.on j) | none => false
def kOk (D : List DOp) (S : List Nat) (i k : Nat) : Bool :=
  (match S[k]? with | some s => inB D i s | none => false) || (match k with | 0 => false | q + 1 => match S[q]? with | some s => inB D s i | none => false)
def opOk (n : Nat) (ops : Array Oper) (D : List DOp) (S : List Nat) (i : Nat) (x : DOp) : Bool :=
  x.src.all (srcOk ops D i) && (x.before.all (befOk ops D i) && ((match dstOf ops i with | some t => Nat.blt t n && (List.range i).all fun j => dstOf ops j != some t || inB D i j | none => true) &&
    (x.s == S.contains i && (if x.s then (List.range S.length).all fun k => S[k]? != some i || x.ks.contains k else (List.range (S.length + 1)).all fun k => x.ks.contains k || kOk D S i k))))
def opsOk (n : Nat) (ops : Array Oper) (D : List DOp) (S : List Nat) : Nat → List DOp → Bool
  | _, [] => true
  | i, x :: l => opOk n ops D S i x && opsOk n ops D S (i + 1) l
def sOk (D : List DOp) (N : Nat) : List Nat → Bool
  | s :: s' :: r => Nat.blt s N && (inB D s' s && sOk D N (s' :: r))
  | [s] => Nat.blt s N
  | [] => true
def planOk (ops : Array Oper) : List Nat → List Nat → Bool
  | _, [] => true
  | done, i :: r => (match ops[i]? with | some o => o.after.toList.all fun e => !Region.binds .any e || done.contains e.on | none => false) && planOk ops (i :: done) r
def drawOk (n : Nat) (ops : Array Oper) (D : List DOp) (S plan : List Nat) : Bool :=
  opsOk n ops D S 0 D && (sOk D ops.size S && (planOk ops [] plan && ((List.range ops.size).all (fun i => plan.contains i) && (D.length == ops.size))))

def DStep (P : Program) (ops : Array Oper) (n b : Nat) (T0 : List (Nat × Value)) (T : List Value) (LH : List (List (List Value) × AH)) (i : Nat) (o : Oper) (x : DOp) : Prop :=
  ∀ k ∈ x.ks, ∃ Tm L H L' H' v, mini T0 T x.src = some Tm ∧ LH[k]? = some (L, H) ∧ LH[if x.s then k + 1 else k]? = some (L', H') ∧ T[i]? = some v ∧ AStep P ops i o ⟨n, b, Tm, L, H⟩ v L' H'
def DSteps (P : Program) (ops : Array Oper) (n b : Nat) (T0 : List (Nat × Value)) (T : List Value) (LH : List (List (List Value) × AH)) : Nat → List Oper → List DOp → Prop
  | i, o :: l, x :: r => DStep P ops n b T0 T LH i o x ∧ DSteps P ops n b T0 T LH (i + 1) l r
  | _, _, _ => True

theorem opsOk_get {n : Nat} {ops : Array Oper} {D : List DOp} {S : List Nat} : ∀ {l : List DOp} {i k : Nat} {x : DOp}, opsOk n ops D S i l = true → l[k]? = some x → opOk n ops D S (i + k) x = true
  | [], i, k, x, h, hx => by simp at hx
  | y :: l, i, k, x, h, hx => by
    simp only [opsOk, Bool.and_eq_true] at h
    cases k with
    | zero => simp at hx; subst hx; exact h.1
    | succ k => have := opsOk_get h.2 (by simpa using hx); rw [show i + (k + 1) = i + 1 + k from by omega]; exact this
theorem dsteps_get {P : Program} {ops : Array Oper} {n b : Nat} {T0 : List (Nat × Value)} {T : List Value} {LH : List (List (List Value) × AH)} : ∀ {l : List Oper} {r : List DOp} {i k : Nat} {o : Oper} {x : DOp},
    DSteps P ops n b T0 T LH i l r → l[k]? = some o → r[k]? = some x → DStep P ops n b T0 T LH (i + k) o x
  | [], r, i, k, o, x, h, ho, hx => by simp at ho
  | y :: l, [], i, k, o, x, h, ho, hx => by simp at hx
  | y :: l, z :: r, i, k, o, x, h, ho, hx => by
    cases k with
    | zero => simp at ho hx; subst ho; subst hx; exact h.1
    | succ k => have := dsteps_get h.2 (by simpa using ho) (by simpa using hx); rw [show i + (k + 1) = i + 1 + k from by omega]; exact this

theorem planOk_spec {ops : Array Oper} : ∀ {l done : List Nat}, planOk ops done l = true → ∀ (d : Nat → Bool), (∀ j ∈ done, d j = true) → (∃ i ∈ l, d i = false) →
    ∃ i ∈ l, d i = false ∧ ∃ o, ops[i]? = some o ∧ ∀ e ∈ o.after, Region.binds .any e = true → d e.on = true
  | [], done, h, d, hd, ⟨i, hi, _⟩ => by simp at hi
  | i :: l, done, h, d, hd, hx => by
    simp only [planOk, Bool.and_eq_true] at h
    obtain ⟨h1, h2⟩ := h
    by_cases hi : d i = true
    · obtain ⟨j, hj, hj2⟩ := hx
      have hj' : j ∈ l := by
        rcases List.mem_cons.1 hj with rfl | q
        · rw [hi] at hj2; cases hj2
        · exact q
      obtain ⟨x, k1, k2⟩ := planOk_spec h2 d (fun y hy => by rcases List.mem_cons.1 hy with rfl | q; exact hi; exact hd y q) ⟨j, hj', hj2⟩
      exact ⟨x, by simp [k1], k2⟩
    · cases ho : ops[i]? with
      | none => simp [ho] at h1
      | some o =>
        simp only [ho, List.all_eq_true, Array.mem_toList_iff, Bool.or_eq_true, Bool.not_eq_true', List.contains_eq_mem, decide_eq_true_eq] at h1
        refine ⟨i, by simp, by simpa using hi, o, ho, fun e he hb => ?_⟩
        rcases h1 e he with q | q
        · rw [q] at hb; cases hb
        · exact hd _ q

theorem sOk_spec {D : List DOp} {N : Nat} : ∀ {S : List Nat}, sOk D N S = true → (∀ s ∈ S, s < N) ∧ ∀ (q s s' : Nat), S[q]? = some s → S[q + 1]? = some s' → inB D s' s = true
  | [], h => ⟨fun s hs => by simp at hs, fun q s s' h1 => by simp at h1⟩
  | [s], h => ⟨fun x hx => by simp at hx; subst hx; exact blt_lt h, fun q s s' h1 h2 => by simp at h2⟩
  | s :: s' :: r, h => by
    simp only [sOk, Bool.and_eq_true] at h
    obtain ⟨h1, h2, h3⟩ := h
    obtain ⟨g1, g2⟩ := sOk_spec h3
    refine ⟨fun x hx => ?_, fun q x y hx hy => ?_⟩
    · rcases List.mem_cons.1 hx with rfl | hx
      · exact blt_lt h1
      · exact g1 x hx
    · cases q with
      | zero => simp at hx hy; subst hx; subst hy; exact h2
      | succ q => exact g2 q x y (by simpa using hx) (by simpa using hy)

section
variable {P : Program} {ops : Array Oper} {n b : Nat} {T0 : List (Nat × Value)} {T : List Value} {LH : List (List (List Value) × AH)} {D : List DOp} {S plan : List Nat} {Q : Exit → AS → Prop}

theorem draw_any (hck : drawOk n ops D S plan = true) (hT : T.length = ops.size) (hst : DSteps P ops n b T0 T LH 0 ops.toList D) {L1 : List (List Value)} {H1 : AH} (hlast : LH[S.length]? = some (L1, H1))
    (k : Q .normal ⟨n, b, TD ops T T0 (fun _ => true) ops.size, L1, H1⟩) (w0 : World) (U : Env) :
    ∀ (fuel : Nat) (listed : Array Bool) (hm0 hm : GM) (lb : LM) (w : World) (a : Act) (kk : Nat) (L : List (List Value)) (H : AH), listed.size = ops.size →
      (List.range ops.size).countP (fun i => !(listed.getD i false)) = fuel →
      (∀ i, listed.getD i false = true → ∀ j, inB D i j = true → listed.getD j false = true) → kk ≤ S.length → (∀ q s, S[q]? = some s → (listed.getD s false = true ↔ q < kk)) → LH[kk]? = some (L, H) →
      hm0.leb b hm → Rel hm lb w0 U ⟨n, b, TD ops T T0 (fun i => listed.getD i false) ops.size, L, H⟩ w a →
      wpAny P .any ops (Post w0 U hm0 b Q) fuel listed a w := by
  have hck' := hck
  unfold drawOk at hck
  simp only [Bool.and_eq_true, List.all_eq_true, List.mem_range, beq_iff_eq] at hck
  obtain ⟨c1, c2, c3, c4, c5⟩ := hck
  obtain ⟨s1, s2⟩ := sOk_spec c2
  have hready : ∀ listed : Array Bool, listed.size = ops.size → (∃ i, i < ops.size ∧ listed.getD i false = false) → Region.ready .any ops listed ≠ [] := by
    intro listed hsz ⟨i, hi, hd⟩ he
    obtain ⟨j, k1, k2, o, k3, k4⟩ := planOk_spec c3 (fun i => listed.getD i false) (fun j hj => by simp at hj) ⟨i, by simpa using c4 i hi, hd⟩
    have : j ∈ Region.ready .any ops listed := mem_ready.2 ⟨by
      have hjl : j < listed.size := by rw [hsz]; exact (Array.getElem?_eq_some_iff.1 k3).1
      simp [hjl] at k2 ⊢; exact k2, o, k3, k4⟩
    rw [he] at this; cases this
  have hend : ∀ (listed : Array Bool) (hm0 hm : GM) (lb : LM) (w : World) (a : Act) (kk : Nat) (L : List (List Value)) (H : AH), listed.size = ops.size → (∀ i, i < ops.size → listed.getD i false = true) → kk ≤ S.length →
      (∀ q s, S[q]? = some s → (listed.getD s false = true ↔ q < kk)) → LH[kk]? = some (L, H) → hm0.leb b hm → Rel hm lb w0 U ⟨n, b, TD ops T T0 (fun i => listed.getD i false) ops.size, L, H⟩ w a →
      Post w0 U hm0 b Q .normal a w := by
    intro listed hm0 hm lb w a kk L H hsz hall hk hS hLH hle r
    have hkk : kk = S.length := by
      rcases Nat.lt_or_ge kk S.length with q | q
      · have h1 := hS kk S[kk] (List.getElem?_eq_getElem q)
        have := h1.1 (hall _ (s1 _ (List.getElem_mem q)))
        omega
      · omega
    subst hkk
    rw [hlast] at hLH; cases hLH
    refine ⟨hm, lb, _, hle, rfl, ?_, k⟩
    have : TD ops T T0 (fun i => listed.getD i false) ops.size = TD ops T T0 (fun _ => true) ops.size := by
      have : ∀ m, m ≤ ops.size → TD ops T T0 (fun i => listed.getD i false) m = TD ops T T0 (fun _ => true) m := by
        intro m
        induction m with
        | zero => intro _; rfl
        | succ m ih => intro hm'; simp only [TD, hall m (by omega), ih (by omega)]
      exact this _ (Nat.le_refl _)
    rw [this] at r
    exact r
  intro fuel
  induction fuel with
  | zero =>
    intro listed hm0 hm lb w a kk L H hsz hcnt hM hk hS hLH hle r
    have hall : ∀ i, i < ops.size → listed.getD i false = true := by
      intro i hi
      have := List.countP_eq_zero.1 hcnt i (by simpa using hi)
      simpa using this
    refine ⟨?_, hend listed hm0 hm lb w a kk L H hsz hall hk hS hLH hle r⟩
    rw [List.eq_nil_iff_forall_not_mem]
    intro i hi
    obtain ⟨h1, o, h2, _⟩ := mem_ready.1 hi
    have hlt := (Array.getElem?_eq_some_iff.1 h2).1
    have := hall i hlt
    have hl : i < listed.size := by omega
    simp [hl] at h1 this; rw [h1] at this; cases this
  | succ fuel ih =>
    intro listed hm0 hm lb w a kk L H hsz hcnt hM hk hS hLH hle r
    refine ⟨fun he => ?_, fun i hi => ?_⟩
    · refine absurd he (hready listed hsz ?_)
      have hpos : 0 < (List.range ops.size).countP (fun i => !(listed.getD i false)) := by omega
      obtain ⟨i, h1, h2⟩ := List.countP_pos_iff.1 hpos
      exact ⟨i, by simpa using h1, by simpa using h2⟩
    · obtain ⟨h1, o, h2, h3⟩ := mem_ready.1 hi
      have hlt := (Array.getElem?_eq_some_iff.1 h2).1
      have hil : listed.getD i false = false := by
        have hl : i < listed.size := by omega
        simp [hl] at h1 ⊢; exact h1
      have hDi : D[i]? = some D[i] := List.getElem?_eq_getElem (by omega)
      have hop := opsOk_get c1 hDi
      rw [Nat.zero_add] at hop
      have hol : ops.toList[i]? = some o := by simpa using h2
      have hds := dsteps_get hst hol hDi
      rw [Nat.zero_add] at hds
      unfold opOk at hop
      simp only [Bool.and_eq_true, List.all_eq_true, beq_iff_eq] at hop
      obtain ⟨o1, o2, o3, o4, o5⟩ := hop
      -- what comes before is done
      have hbef : ∀ j, inB D i j = true → listed.getD j false = true := by
        intro j hj
        unfold inB at hj
        rw [hDi] at hj
        have := o2 j (by simpa using hj)
        unfold befOk at this
        rw [h2] at this
        simp only [List.any_eq_true, Array.mem_toList_iff, Bool.and_eq_true, Bool.or_eq_true, beq_iff_eq] at this
        obtain ⟨e, e1, e2, e3⟩ := this
        have hd := h3 e e1 e2
        rcases e3 with rfl | e3
        · exact hd
        · exact hM _ hd _ e3
      have hnot : ∀ j, inB D j i = true → listed.getD j false = false := by
        intro j hj
        cases hd : listed.getD j false with
        | false => rfl
        | true => have := hM j hd i hj; rw [hil] at this; cases this
      -- which stage
      have hstage : kk ∈ D[i].ks ∧ (D[i].s = true → S[kk]? = some i) ∧ (D[i].s = false → i ∉ S) := by
        by_cases hs : D[i].s = true
        · have hiS : i ∈ S := by rw [hs] at o4; simpa using o4.symm
          obtain ⟨q, hq, hqe⟩ := List.getElem_of_mem hiS
          have hSq : S[q]? = some i := by rw [List.getElem?_eq_getElem hq, hqe]
          have hge : ¬ q < kk := fun z => by have := (hS q i hSq).2 z; rw [hil] at this; cases this
          have hqk : q = kk := by
            rcases Nat.lt_or_ge kk q with z | z
            · obtain ⟨p, rfl⟩ : ∃ p, q = p + 1 := ⟨q - 1, by omega⟩
              have hp : S[p]? = some S[p] := List.getElem?_eq_getElem (by omega)
              have := hbef _ (s2 p _ _ hp hSq)
              have := (hS p _ hp).1 this
              omega
            · omega
          subst hqk
          simp only [hs, if_true, List.all_eq_true, List.mem_range, Bool.or_eq_true, bne_iff_ne, ne_eq] at o5
          refine ⟨?_, (fun _ => hSq), (fun z => by rw [hs] at z; cases z)⟩
          rcases o5 q hq with z | z
          · exact absurd hSq z
          · simpa using z
        · have hs' : D[i].s = false := by simpa using hs
          simp only [hs', Bool.false_eq_true, if_false, List.all_eq_true, List.mem_range, Bool.or_eq_true] at o5
          refine ⟨?_, (fun z => by rw [hs'] at z; cases z), (fun _ => by rw [hs'] at o4; simpa using o4.symm)⟩
          rcases o5 kk (by omega) with z | z
          · simpa using z
          · exfalso
            unfold kOk at z
            simp only [Bool.or_eq_true] at z
            rcases z with z | z
            · cases hSk : S[kk]? with
              | none => simp [hSk] at z
              | some s =>
                simp only [hSk] at z
                have := (hS kk s hSk).1 (hbef s z)
                omega
            · cases hkk : kk with
              | zero => simp [hkk] at z
              | succ q =>
                simp only [hkk] at z
                cases hSk : S[q]? with
                | none => simp [hSk] at z
                | some s =>
                  simp only [hSk] at z
                  have := (hS q s hSk).2 (by omega)
                  rw [hnot s z] at this; cases this
      obtain ⟨g1, g2, g3⟩ := hstage
      obtain ⟨Tm, L2', H2, L', H', v, m1, m2, m3, m4, m5⟩ := hds kk g1
      rw [hLH] at m2; cases m2
      -- the slots that it reads
      have hmini : ∀ t u, lk Tm t = some u → lk (TD ops T T0 (fun i => listed.getD i false) ops.size) t = some u := by
        intro t u hu
        obtain ⟨s, q1, q2⟩ := lk_mini m1 hu
        have hso := o1 (t, s) q1
        have hTD := TD_spec (ops := ops) (T := T) (T0 := T0) (d := fun i => listed.getD i false) (m := ops.size) (by omega) (t := t)
        cases s with
        | none =>
          simp only [srcOk, List.all_eq_true, List.mem_range, Bool.or_eq_true, bne_iff_ne, ne_eq, beq_iff_eq] at hso
          rcases hTD with ⟨j, x, z1, z2, z3, z4, z5, z6⟩ | ⟨z1, z2⟩
          · rcases hso j z1 with (y | y) | y
            · exact absurd z3 y
            · subst y; rw [hil] at z2; cases z2
            · rw [hnot j y] at z2; cases z2
          · rw [z2]; exact q2
        | some j =>
          simp only [srcOk, Bool.and_eq_true, beq_iff_eq, List.all_eq_true, List.mem_range, Bool.or_eq_true, bne_iff_ne, ne_eq] at hso
          obtain ⟨⟨p1, p2⟩, p3⟩ := hso
          have hjd := hbef j p2
          have hjlt : j < ops.size := by
            unfold dstOf at p1
            cases hoj : ops[j]? with
            | none => simp [hoj] at p1
            | some oj => exact (Array.getElem?_eq_some_iff.1 hoj).1
          rcases hTD with ⟨j', x, z1, z2, z3, z4, z5, z6⟩ | ⟨z1, z2⟩
          · have hjj : j' = j := by
              rcases p3 j' z1 with (((y | y) | y) | y) | y
              · exact absurd z3 y
              · exact y
              · subst y; rw [hil] at z2; cases z2
              · rw [hnot j' y] at z2; cases z2
              · have := blt_lt y
                exact absurd p1 (z5 j this hjlt hjd)
            subst hjj
            rw [z6]
            have q2' : T[j']? = some u := q2
            rw [q2'] at z4; exact z4.symm
          · exact absurd p1 (z1 j hjlt hjd)
      have r1 := r.fewer Tm hmini
      refine wpOp_mono (fun a' w' q => ?_) (m5 h2 hm lb w0 U w a _ r1)
      obtain ⟨hm', lb', cv, k1, k2, rfl, k4, k5⟩ := q
      have r2 := r.withTmps k5 k1 k2
      have hsize : (listed.setIfInBounds i true).size = ops.size := by simp [hsz]
      have hget : ∀ j, (listed.setIfInBounds i true).getD j false = (j == i || listed.getD j false) := by
        intro j
        by_cases z : j = i
        · subst z
          have hl : j < listed.size := by omega
          simp [hl]
        · have : i ≠ j := fun e => z e.symm
          rw [getD_set_ne false this]
          simp [z]
      refine ih (listed.setIfInBounds i true) hm0 hm' lb' w' (a.put o.dst cv) (if D[i].s then kk + 1 else kk) L' H' hsize ?_ ?_ ?_ ?_ m3 (GM.leb_trans hle (k1.leb b)) ?_
      · -- the count
        have hcount : ∀ N, i < N → (List.range N).countP (fun j => !(listed.getD j false)) = (List.range N).countP (fun j => !((listed.setIfInBounds i true).getD j false)) + 1 := by
          intro N
          induction N with
          | zero => intro h; omega
          | succ N ihN =>
            intro hN
            rw [List.range_succ, List.countP_append, List.countP_append]
            by_cases z : i = N
            · subst z
              have e : (List.range i).countP (fun j => !(listed.getD j false)) = (List.range i).countP (fun j => !((listed.setIfInBounds i true).getD j false)) := by
                refine List.countP_congr fun j hj => ?_
                have : j ≠ i := by have := List.mem_range.1 hj; omega
                rw [hget j]; simp [this]
              rw [e]
              have e1 : List.countP (fun j => !(listed.getD j false)) [i] = 1 := by simp only [List.countP_cons, List.countP_nil, hil]; rfl
              have e2 : List.countP (fun j => !((listed.setIfInBounds i true).getD j false)) [i] = 0 := by simp only [List.countP_cons, List.countP_nil, hget i]; simp
              rw [e1, e2]
            · rw [ihN (by omega)]
              have : N ≠ i := fun e => z e.symm
              simp only [List.countP_cons, List.countP_nil, hget N]
              simp [this]; omega
        have := hcount ops.size hlt
        omega
      · intro j hj x hx
        rw [hget] at hj ⊢
        by_cases z : j = i
        · subst z; rw [hbef x hx]; simp
        · simp [z] at hj; rw [hM j (by simpa using hj) x hx]; simp
      · split
        · rename_i hs
          have := lookup_lt (g2 hs); omega
        · exact hk
      · intro q s hq
        rw [hget]
        by_cases hs : D[i].s = true
        · have hSk := g2 hs
          simp only [hs, if_true]
          by_cases z : s = i
          · subst z
            have hqk : ¬ q < kk := fun y => by have := (hS q s hq).2 y; rw [hil] at this; cases this
            have hqe : q = kk := by
              rcases Nat.lt_or_ge kk q with y | y
              · -- s = S[q] needs S[q-1], which is S[kk] or behind it
                obtain ⟨p, rfl⟩ : ∃ p, q = p + 1 := ⟨q - 1, by omega⟩
                have hpl : p < S.length := by have := lookup_lt hq; omega
                have hp : S[p]? = some S[p] := List.getElem?_eq_getElem hpl
                have := hbef _ (s2 p _ _ hp hq)
                have := (hS p _ hp).1 this
                omega
              · omega
            rw [hqe]; simp
          · have hne : q ≠ kk := fun e => by subst e; rw [hSk] at hq; cases hq; exact z rfl
            simp only [z, beq_iff_eq, Bool.or_eq_true, false_or]
            rw [hS q s hq]; omega
        · have hs' : D[i].s = false := by simpa using hs
          simp only [hs', Bool.false_eq_true, if_false]
          have z : s ≠ i := fun e => g3 hs' (e ▸ List.mem_of_getElem? hq)
          simp only [z, beq_iff_eq, Bool.or_eq_true, false_or]
          exact hS q s hq
      · -- the slots
        have hTi : T[i]? = some v := m4
        have hlook : ∀ t u, lk (TD ops T T0 (fun j => (listed.setIfInBounds i true).getD j false) ops.size) t = some u →
            (o.dst = some t ∧ u = v) ∨ (o.dst ≠ some t ∧ lk (TD ops T T0 (fun j => listed.getD j false) ops.size) t = some u) := by
          intro t u hu
          have hdi : dstOf ops i = o.dst := by unfold dstOf; rw [h2]; rfl
          have hA := TD_spec (ops := ops) (T := T) (T0 := T0) (d := fun j => (listed.setIfInBounds i true).getD j false) (m := ops.size) (by omega) (t := t)
          have hB := TD_spec (ops := ops) (T := T) (T0 := T0) (d := fun j => listed.getD j false) (m := ops.size) (by omega) (t := t)
          by_cases hdt : o.dst = some t
          · refine .inl ⟨hdt, ?_⟩
            rcases hA with ⟨j, x, z1, z2, z3, z4, z5, z6⟩ | ⟨z1, z2⟩
            · have hji : j = i := by
                by_cases y : j = i
                · exact y
                · exfalso
                  have hjd : listed.getD j false = true := by
                    have z2' := z2
                    simp only [hget] at z2'
                    simpa [y] using z2'
                  rcases Nat.lt_or_ge j i with c | c
                  · exact absurd (by rw [hdi]; exact hdt) (z5 i c hlt (by simp [hget]))
                  · have hgt : i < j := by omega
                    -- j is behind i
                    have hDj : D[j]? = some D[j] := List.getElem?_eq_getElem (by omega)
                    have hopj := opsOk_get c1 hDj
                    rw [Nat.zero_add] at hopj
                    unfold opOk at hopj
                    simp only [Bool.and_eq_true] at hopj
                    have h7 := hopj.2.2.1
                    rw [z3] at h7
                    simp only [Bool.and_eq_true, List.all_eq_true, List.mem_range, Bool.or_eq_true, bne_iff_ne, ne_eq] at h7
                    rcases h7.2 i hgt with y2 | y2
                    · exact y2 (by rw [hdi]; exact hdt)
                    · have := hM j hjd i y2; rw [hil] at this; cases this
              subst hji
              rw [hTi] at z4
              rw [z6] at hu; cases hu; exact (Option.some.inj z4).symm
            · exact absurd (by rw [hdi]; exact hdt) (z1 i hlt (by simp [hget]))
          · refine .inr ⟨hdt, ?_⟩
            rcases hA with ⟨j, x, z1, z2, z3, z4, z5, z6⟩ | ⟨z1, z2⟩
            · have hji : j ≠ i := fun e => by subst e; rw [hdi] at z3; exact hdt z3
              have hjd : listed.getD j false = true := by
                have z2' := z2
                simp only [hget] at z2'
                simpa [hji] using z2'
              rcases hB with ⟨j', x', y1, y2, y3, y4, y5, y6⟩ | ⟨y1, y2⟩
              · have hjj : j' = j := by
                  rcases Nat.lt_trichotomy j' j with c | c | c
                  · exact absurd z3 (y5 j c z1 hjd)
                  · exact c
                  · exact absurd y3 (z5 j' c y1 (by have : listed.getD j' false = true := y2; simp only [hget, this]; simp))
                subst hjj
                rw [z4] at y4; cases y4
                rw [y6, ← z6]; exact hu
              · exact absurd z3 (y1 j z1 hjd)
            · rcases hB with ⟨j', x', y1, y2, y3, y4, y5, y6⟩ | ⟨y1, y2⟩
              · exact absurd y3 (z1 j' y1 (by have : listed.getD j' false = true := y2; simp only [hget, this]; simp))
              · rw [y2, ← z2]; exact hu
        have hdlt : ∀ t, o.dst = some t → Nat.blt t n = true := by
          intro t ht
          have hdi : dstOf ops i = some t := by unfold dstOf; rw [h2]; exact ht
          have h7 := o3
          rw [hdi] at h7
          simp only [Bool.and_eq_true] at h7
          exact h7.1
        cases hd : o.dst with
        | none =>
          exact r2.fewer _ fun t u hu => by
            rcases hlook t u hu with ⟨q1, _⟩ | ⟨_, q2⟩
            · rw [hd] at q1; cases q1
            · exact q2
        | some t0 =>
          have r3 := Rel.push r2 (hdlt t0 hd) k4
          exact r3.fewer _ fun t u hu => by
            rcases hlook t u hu with ⟨q1, rfl⟩ | ⟨q1, q2⟩
            · rw [hd] at q1; cases q1; exact lk_cons_self _ _ _
            · have : t0 ≠ t := fun e => q1 (by rw [hd, e])
              show lk ((t0, v) :: _) t = some u
              rw [lk_cons_ne this]; exact q2

/-- A region that draws its order. -/
theorem awp_draw {id : Nat} {L0 : List (List Value)} {H0 : AH} {L1 : List (List Value)} {H1 : AH} (T : List Value) (LH : List (List (List Value) × AH)) (D : List DOp) (S plan : List Nat) (hm : P.follows .mixedOrders = true)
    (hck : drawOk n ops D S plan = true) (hT : Nat.beq T.length ops.size = true) (h0 : LH[0]? = some (L0, H0)) (hlast : LH[S.length]? = some (L1, H1)) (hst : DSteps P ops n b T0 T LH 0 ops.toList D)
    (k : Q .normal ⟨n, b, TD ops T T0 (fun _ => true) ops.size, L1, H1⟩) : AWp P (.region id ops true) Q ⟨n, b, T0, L0, H0⟩ := by
  intro hm' lb w0 U w a r
  have hT' := Nat.eq_of_beq_eq_true hT
  have hrep : ∀ i, (Array.replicate ops.size false).getD i false = false := by intro i; by_cases q : i < ops.size <;> simp [Array.getElem?_replicate, q]
  refine wp_region_any hm (draw_any hck hT' hst hlast k w0 U ops.size (Array.replicate ops.size false) hm' hm' lb _ a 0 L0 H0 (by simp) ?_ (fun i hi => by rw [hrep] at hi; cases hi) (Nat.zero_le _) (fun q s hq => ?_) h0 (GM.leb_refl _ _) ?_)
  · have : (List.range ops.size).countP (fun i => !((Array.replicate ops.size false).getD i false)) = (List.range ops.size).length := by
      rw [List.countP_eq_length]
      intro i _
      rw [hrep]; rfl
    rw [this]; simp
  · rw [hrep]; constructor
    · intro h; cases h
    · intro h; omega
  · rw [TD_none hrep ops.size]
    exact r.drawn (w.drawn + 1)
theorem dstep1 {i k : Nat} {o : Oper} {x : DOp} {Tm : List (Nat × Value)} {L L' : List (List Value)} {H H' : AH} {v : Value} (hks : x.ks = [k]) (hm : mini T0 T x.src = some Tm) (h1 : LH[k]? = some (L, H)) (h2 : LH[cond x.s (k + 1) k]? = some (L', H')) (hv : T[i]? = some v)
    (h : AStep P ops i o ⟨n, b, Tm, L, H⟩ v L' H') : DStep P ops n b T0 T LH i o x := by
  intro k' hk'
  rw [hks] at hk'
  simp at hk'
  subst hk'
  refine ⟨Tm, L, H, L', H', v, hm, h1, ?_, hv, h⟩
  cases hs : x.s with
  | true => simp only [hs, cond_true] at h2; simpa using h2
  | false => simp only [hs, cond_false] at h2; simpa using h2
theorem dstepN {i : Nat} {o : Oper} {x : DOp} (h : ∀ k ∈ x.ks, ∃ Tm L H L' H' v, mini T0 T x.src = some Tm ∧ LH[k]? = some (L, H) ∧ LH[cond x.s (k + 1) k]? = some (L', H') ∧ T[i]? = some v ∧ AStep P ops i o ⟨n, b, Tm, L, H⟩ v L' H') : DStep P ops n b T0 T LH i o x := by
  intro k hk
  obtain ⟨Tm, L, H, L', H', v, h1, h2, h3, h4⟩ := h k hk
  refine ⟨Tm, L, H, L', H', v, h1, h2, ?_, h4⟩
  cases hs : x.s with
  | true => simp only [hs, cond_true] at h3; simpa using h3
  | false => simp only [hs, cond_false] at h3; simpa using h3
end

end Go.Fhl
