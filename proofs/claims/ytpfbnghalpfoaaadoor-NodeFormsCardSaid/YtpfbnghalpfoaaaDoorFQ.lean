/-
  A logic over the model, part nineteen: a region that draws its order, in which things that are made or written do not stand in one row.
-/
import Derived.Test.YtpfbnghalpfoaaaDoorFX
namespace Go.Fhl
set_option linter.unusedVariables false
set_option linter.unusedSimpArgs false
abbrev LHs := List (List Bool × (List (List Value) × AH))
def lkB : LHs → List Bool → Option (List (List Value) × AH)
  | [], _ => none
  | (K, x) :: l, K' => cond (K == K') (some x) (lkB l K')
def allB : Nat → List (List Bool)
  | 0 => [[]]
  | n + 1 => (allB n).flatMap fun l => [false :: l, true :: l]
theorem mem_allB : ∀ (n : Nat) (K : List Bool), K.length = n → K ∈ allB n
  | 0, K, h => by rw [List.eq_nil_of_length_eq_zero h]; simp [allB]
  | n + 1, [], h => by simp at h
  | n + 1, b :: K, h => by
    have := mem_allB n K (by simpa using h)
    simp only [allB, List.mem_flatMap]
    exact ⟨K, this, by cases b <;> simp⟩
/-- A stage at which an operation cannot stand. -/
def exK (D : List DOp) (S : List Nat) (i : Nat) (K : List Bool) : Bool :=
  (List.range S.length).any fun q => match S[q]?, K[q]? with
    | some s, some b => (inB D i s && !b) || ((inB D s i && b) || ((s == i && b) || (List.range S.length).any fun q' => match S[q']?, K[q']? with | some s', some b' => inB D s s' && (b && !b') | _, _ => false))
    | _, _ => false
def ksOk (D : List DOp) (S : List Nat) (i : Nat) (ks : List (List Bool)) : Bool := (allB S.length).all fun K => ks.contains K || exK D S i K
def opOkP (n : Nat) (ops : Array Oper) (D : List DOp) (S : List Nat) (i : Nat) (x : DOp) : Bool :=
  x.src.all (srcOk ops D i) && (x.before.all (befOk ops D i) && ((match dstOf ops i with | some t => Nat.blt t n && (List.range i).all fun j => dstOf ops j != some t || inB D i j | none => true) && (x.s == S.contains i)))
def opsOkP (n : Nat) (ops : Array Oper) (D : List DOp) (S : List Nat) : Nat → List DOp → List (List (List Bool)) → Bool
  | _, [], [] => true
  | i, x :: l, ks :: r => opOkP n ops D S i x && (ksOk D S i ks && opsOkP n ops D S (i + 1) l r)
  | _, _, _ => false
def nodupB : List Nat → Bool
  | [] => true
  | x :: l => !l.contains x && nodupB l
def drawOkP (n : Nat) (ops : Array Oper) (D : List DOp) (KS : List (List (List Bool))) (S plan : List Nat) : Bool :=
  opsOkP n ops D S 0 D KS && ((S.all (fun s => Nat.blt s ops.size) && nodupB S) && (planOk ops [] plan && ((List.range ops.size).all (fun i => plan.contains i) && (D.length == ops.size))))
def DStepP (P : Program) (ops : Array Oper) (n b : Nat) (T0 : List (Nat × Value)) (T : List Value) (LH : LHs) (S : List Nat) (i : Nat) (o : Oper) (x : DOp) (ks : List (List Bool)) : Prop :=
  ∀ K ∈ ks, ∃ Tm L H L' H' v, mini T0 T x.src = some Tm ∧ lkB LH K = some (L, H) ∧ lkB LH (if x.s then K.set (S.idxOf i) true else K) = some (L', H') ∧ T[i]? = some v ∧ AStep P ops i o ⟨n, b, Tm, L, H⟩ v L' H'
def DStepsP (P : Program) (ops : Array Oper) (n b : Nat) (T0 : List (Nat × Value)) (T : List Value) (LH : LHs) (S : List Nat) : Nat → List Oper → List DOp → List (List (List Bool)) → Prop
  | i, o :: l, x :: r, ks :: q => DStepP P ops n b T0 T LH S i o x ks ∧ DStepsP P ops n b T0 T LH S (i + 1) l r q
  | _, _, _, _ => True
theorem opsOkP_get {n : Nat} {ops : Array Oper} {D : List DOp} {S : List Nat} : ∀ {l : List DOp} {KS : List (List (List Bool))} {i k : Nat} {x : DOp}, opsOkP n ops D S i l KS = true → l[k]? = some x → ∃ ks, KS[k]? = some ks ∧ opOkP n ops D S (i + k) x = true ∧ ksOk D S (i + k) ks = true
  | [], KS, i, k, x, h, hx => by simp at hx
  | y :: l, [], i, k, x, h, hx => by simp [opsOkP] at h
  | y :: l, ks :: KS, i, k, x, h, hx => by
    simp only [opsOkP, Bool.and_eq_true] at h
    cases k with
    | zero => simp at hx; subst hx; exact ⟨ks, rfl, h.1, h.2.1⟩
    | succ k =>
      obtain ⟨ks', h1, h2⟩ := opsOkP_get h.2.2 (by simpa using hx)
      exact ⟨ks', by simpa using h1, by rw [show i + (k + 1) = i + 1 + k from by omega]; exact h2⟩
theorem dstepsP_get {P : Program} {ops : Array Oper} {n b : Nat} {T0 : List (Nat × Value)} {T : List Value} {LH : LHs} {S : List Nat} : ∀ {l : List Oper} {r : List DOp} {KS : List (List (List Bool))} {i k : Nat} {o : Oper} {x : DOp} {ks : List (List Bool)},
    DStepsP P ops n b T0 T LH S i l r KS → l[k]? = some o → r[k]? = some x → KS[k]? = some ks → DStepP P ops n b T0 T LH S (i + k) o x ks
  | [], r, KS, i, k, o, x, ks, h, ho, hx, hk => by simp at ho
  | y :: l, [], KS, i, k, o, x, ks, h, ho, hx, hk => by simp at hx
  | y :: l, z :: r, [], i, k, o, x, ks, h, ho, hx, hk => by simp at hk
  | y :: l, z :: r, q :: KS, i, k, o, x, ks, h, ho, hx, hk => by
    cases k with
    | zero => simp at ho hx hk; subst ho; subst hx; subst hk; exact h.1
    | succ k => have := dstepsP_get h.2 (by simpa using ho) (by simpa using hx) (by simpa using hk); rw [show i + (k + 1) = i + 1 + k from by omega]; exact this
theorem nodupB_inj : ∀ {S : List Nat}, nodupB S = true → ∀ (q q' s : Nat), S[q]? = some s → S[q']? = some s → q = q'
  | [], h, q, q', s, h1, h2 => by simp at h1
  | x :: l, h, q, q', s, h1, h2 => by
    simp only [nodupB, Bool.and_eq_true, Bool.not_eq_true', List.contains_eq_mem, decide_eq_false_iff_not] at h
    cases q with
    | zero =>
      cases q' with
      | zero => rfl
      | succ q' => simp at h1 h2; subst h1; exact absurd (List.mem_of_getElem? h2) h.1
    | succ q =>
      cases q' with
      | zero => simp at h1 h2; subst h2; exact absurd (List.mem_of_getElem? h1) h.1
      | succ q' => have := nodupB_inj h.2 q q' s (by simpa using h1) (by simpa using h2); omega

section
variable {P : Program} {ops : Array Oper} {n b : Nat} {T0 : List (Nat × Value)} {T : List Value} {LH : LHs} {D : List DOp} {KS : List (List (List Bool))} {S plan : List Nat} {Q : Exit → AS → Prop}

theorem draw_anyP (hck : drawOkP n ops D KS S plan = true) (hT : T.length = ops.size) (hst : DStepsP P ops n b T0 T LH S 0 ops.toList D KS) {L1 : List (List Value)} {H1 : AH} (hlast : lkB LH (List.replicate S.length true) = some (L1, H1))
    (k : Q .normal ⟨n, b, TD ops T T0 (fun _ => true) ops.size, L1, H1⟩) (w0 : World) (U : Env) :
    ∀ (fuel : Nat) (listed : Array Bool) (hm0 hm : GM) (lb : LM) (w : World) (a : Act) (kk : List Bool) (L : List (List Value)) (H : AH), listed.size = ops.size →
      (List.range ops.size).countP (fun i => !(listed.getD i false)) = fuel →
      (∀ i, listed.getD i false = true → ∀ j, inB D i j = true → listed.getD j false = true) → kk.length = S.length → (∀ (q s : Nat), S[q]? = some s → (listed.getD s false = true ↔ kk[q]? = some true)) → lkB LH kk = some (L, H) →
      hm0.leb b hm → Rel hm lb w0 U ⟨n, b, TD ops T T0 (fun i => listed.getD i false) ops.size, L, H⟩ w a →
      wpAny P .any ops (Post w0 U hm0 b Q) fuel listed a w := by
  have hck' := hck
  unfold drawOkP at hck
  simp only [Bool.and_eq_true, List.all_eq_true, List.mem_range, beq_iff_eq] at hck
  obtain ⟨c1, c2, c3, c4, c5⟩ := hck
  obtain ⟨c2, c2n⟩ := c2
  have s1 : ∀ s ∈ S, s < ops.size := fun s hs => blt_lt (c2 s hs)
  have s2 := nodupB_inj c2n
  have hready : ∀ listed : Array Bool, listed.size = ops.size → (∃ i, i < ops.size ∧ listed.getD i false = false) → Region.ready .any ops listed ≠ [] := by
    intro listed hsz ⟨i, hi, hd⟩ he
    obtain ⟨j, k1, k2, o, k3, k4⟩ := planOk_spec c3 (fun i => listed.getD i false) (fun j hj => by simp at hj) ⟨i, by simpa using c4 i hi, hd⟩
    have : j ∈ Region.ready .any ops listed := mem_ready.2 ⟨by
      have hjl : j < listed.size := by rw [hsz]; exact (Array.getElem?_eq_some_iff.1 k3).1
      simp [hjl] at k2 ⊢; exact k2, o, k3, k4⟩
    rw [he] at this; cases this
  have hend : ∀ (listed : Array Bool) (hm0 hm : GM) (lb : LM) (w : World) (a : Act) (kk : List Bool) (L : List (List Value)) (H : AH), listed.size = ops.size → (∀ i, i < ops.size → listed.getD i false = true) → kk.length = S.length →
      (∀ (q s : Nat), S[q]? = some s → (listed.getD s false = true ↔ kk[q]? = some true)) → lkB LH kk = some (L, H) → hm0.leb b hm → Rel hm lb w0 U ⟨n, b, TD ops T T0 (fun i => listed.getD i false) ops.size, L, H⟩ w a →
      Post w0 U hm0 b Q .normal a w := by
    intro listed hm0 hm lb w a kk L H hsz hall hk hS hLH hle r
    have hkk : kk = List.replicate S.length true := by
      refine List.ext_getElem? fun q => ?_
      by_cases hq : q < S.length
      · rw [List.getElem?_replicate, if_pos hq]
        exact (hS q S[q] (List.getElem?_eq_getElem hq)).1 (hall _ (s1 _ (List.getElem_mem hq)))
      · rw [List.getElem?_eq_none (by omega), List.getElem?_eq_none (by simp; omega)]
    subst hkk
    rw [hlast] at hLH; cases hLH
    refine ⟨hm, lb, _, hle, rfl, ?_, k⟩
    have : TD ops T T0 (fun i => listed.getD i false) ops.size = TD ops T T0 (fun _ => true) ops.size := by
      have : ∀ m, m ≤ ops.size → TD ops T T0 (fun i => listed.getD i false) m = TD ops T T0 (fun _ => true) m := by
        intro m
        induction m with
        | zero => intro _; rfl
        | succ m ih => intro hm'; simp only [TD, hall m (by omega), ih (by omega)]
      exact this _ (Nat.le_refl _)
    rw [this] at r
    exact r
  intro fuel
  induction fuel with
  | zero =>
    intro listed hm0 hm lb w a kk L H hsz hcnt hM hk hS hLH hle r
    have hall : ∀ i, i < ops.size → listed.getD i false = true := by
      intro i hi
      have := List.countP_eq_zero.1 hcnt i (by simpa using hi)
      simpa using this
    refine ⟨?_, hend listed hm0 hm lb w a kk L H hsz hall hk hS hLH hle r⟩
    rw [List.eq_nil_iff_forall_not_mem]
    intro i hi
    obtain ⟨h1, o, h2, _⟩ := mem_ready.1 hi
    have hlt := (Array.getElem?_eq_some_iff.1 h2).1
    have := hall i hlt
    have hl : i < listed.size := by omega
    simp [hl] at h1 this; rw [h1] at this; cases this
  | succ fuel ih =>
    intro listed hm0 hm lb w a kk L H hsz hcnt hM hk hS hLH hle r
    refine ⟨fun he => ?_, fun i hi => ?_⟩
    · refine absurd he (hready listed hsz ?_)
      have hpos : 0 < (List.range ops.size).countP (fun i => !(listed.getD i false)) := by omega
      obtain ⟨i, h1, h2⟩ := List.countP_pos_iff.1 hpos
      exact ⟨i, by simpa using h1, by simpa using h2⟩
    · obtain ⟨h1, o, h2, h3⟩ := mem_ready.1 hi
      have hlt := (Array.getElem?_eq_some_iff.1 h2).1
      have hil : listed.getD i false = false := by
        have hl : i < listed.size := by omega
        simp [hl] at h1 ⊢; exact h1
      have hDi : D[i]? = some D[i] := List.getElem?_eq_getElem (by omega)
      obtain ⟨ks, hks, hop, o5⟩ := opsOkP_get c1 hDi
      rw [Nat.zero_add] at hop o5
      have hol : ops.toList[i]? = some o := by simpa using h2
      have hds := dstepsP_get hst hol hDi hks
      rw [Nat.zero_add] at hds
      unfold opOkP at hop
      simp only [Bool.and_eq_true, List.all_eq_true, beq_iff_eq] at hop
      obtain ⟨o1, o2, o3, o4⟩ := hop
      -- what comes before is done
      have hbef : ∀ j, inB D i j = true → listed.getD j false = true := by
        intro j hj
        unfold inB at hj
        rw [hDi] at hj
        have := o2 j (by simpa using hj)
        unfold befOk at this
        rw [h2] at this
        simp only [List.any_eq_true, Array.mem_toList_iff, Bool.and_eq_true, Bool.or_eq_true, beq_iff_eq] at this
        obtain ⟨e, e1, e2, e3⟩ := this
        have hd := h3 e e1 e2
        rcases e3 with rfl | e3
        · exact hd
        · exact hM _ hd _ e3
      have hnot : ∀ j, inB D j i = true → listed.getD j false = false := by
        intro j hj
        cases hd : listed.getD j false with
        | false => rfl
        | true => have := hM j hd i hj; rw [hil] at this; cases this
      -- which stage
      have hstage : kk ∈ ks ∧ (D[i].s = true → S[S.idxOf i]? = some i) ∧ (D[i].s = false → i ∉ S) := by
        refine ⟨?_, fun hs => ?_, fun hs => by rw [hs] at o4; simpa using o4.symm⟩
        · unfold ksOk at o5
          have := List.all_eq_true.1 o5 kk (mem_allB _ _ hk)
          simp only [Bool.or_eq_true, List.contains_eq_mem, decide_eq_true_eq] at this
          rcases this with z | z
          · exact z
          · exfalso
            unfold exK at z
            simp only [List.any_eq_true, List.mem_range] at z
            obtain ⟨q, hq, z⟩ := z
            have hSq : S[q]? = some S[q] := List.getElem?_eq_getElem hq
            have hKq : kk[q]? = some kk[q] := List.getElem?_eq_getElem (by omega)
            rw [hSq, hKq] at z
            have hSS := hS q _ hSq
            rw [hKq] at hSS
            simp only [Bool.or_eq_true, Bool.and_eq_true, Bool.not_eq_true', beq_iff_eq, List.any_eq_true, List.mem_range] at z
            rcases z with ⟨z1, z2⟩ | ⟨z1, z2⟩ | ⟨z1, z2⟩ | ⟨q', hq', z⟩
            · have := hSS.1 (hbef _ z1)
              rw [z2] at this; cases this
            · have := hSS.2 (by rw [z2])
              rw [hnot _ z1] at this; cases this
            · have := hSS.2 (by rw [z2])
              rw [z1, hil] at this; cases this
            · have hSq' : S[q']? = some S[q'] := List.getElem?_eq_getElem hq'
              have hKq' : kk[q']? = some kk[q'] := List.getElem?_eq_getElem (by omega)
              rw [hSq', hKq'] at z
              simp only [Bool.and_eq_true, Bool.not_eq_true'] at z
              obtain ⟨z1, z2, z3⟩ := z
              have h5 := hM _ (hSS.2 (by rw [z2])) _ z1
              have := (hS q' _ hSq').1 h5
              rw [hKq', z3] at this; cases this
        · have hiS : i ∈ S := by rw [hs] at o4; simpa using o4.symm
          have hlt : S.idxOf i < S.length := List.idxOf_lt_length_of_mem hiS
          rw [List.getElem?_eq_getElem hlt, List.getElem_idxOf hlt]
      obtain ⟨g1, g2, g3⟩ := hstage
      obtain ⟨Tm, L2', H2, L', H', v, m1, m2, m3, m4, m5⟩ := hds kk g1
      rw [hLH] at m2; cases m2
      -- the slots that it reads
      have hmini : ∀ t u, lk Tm t = some u → lk (TD ops T T0 (fun i => listed.getD i false) ops.size) t = some u := by
        intro t u hu
        obtain ⟨s, q1, q2⟩ := lk_mini m1 hu
        have hso := o1 (t, s) q1
        have hTD := TD_spec (ops := ops) (T := T) (T0 := T0) (d := fun i => listed.getD i false) (m := ops.size) (by omega) (t := t)
        cases s with
        | none =>
          simp only [srcOk, List.all_eq_true, List.mem_range, Bool.or_eq_true, bne_iff_ne, ne_eq, beq_iff_eq] at hso
          rcases hTD with ⟨j, x, z1, z2, z3, z4, z5, z6⟩ | ⟨z1, z2⟩
          · rcases hso j z1 with (y | y) | y
            · exact absurd z3 y
            · subst y; rw [hil] at z2; cases z2
            · rw [hnot j y] at z2; cases z2
          · rw [z2]; exact q2
        | some j =>
          simp only [srcOk, Bool.and_eq_true, beq_iff_eq, List.all_eq_true, List.mem_range, Bool.or_eq_true, bne_iff_ne, ne_eq] at hso
          obtain ⟨⟨p1, p2⟩, p3⟩ := hso
          have hjd := hbef j p2
          have hjlt : j < ops.size := by
            unfold dstOf at p1
            cases hoj : ops[j]? with
            | none => simp [hoj] at p1
            | some oj => exact (Array.getElem?_eq_some_iff.1 hoj).1
          rcases hTD with ⟨j', x, z1, z2, z3, z4, z5, z6⟩ | ⟨z1, z2⟩
          · have hjj : j' = j := by
              rcases p3 j' z1 with (((y | y) | y) | y) | y
              · exact absurd z3 y
              · exact y
              · subst y; rw [hil] at z2; cases z2
              · rw [hnot j' y] at z2; cases z2
              · have := blt_lt y
                exact absurd p1 (z5 j this hjlt hjd)
            subst hjj
            rw [z6]
            have q2' : T[j']? = some u := q2
            rw [q2'] at z4; exact z4.symm
          · exact absurd p1 (z1 j hjlt hjd)
      have r1 := r.fewer Tm hmini
      refine wpOp_mono (fun a' w' q => ?_) (m5 h2 hm lb w0 U w a _ r1)
      obtain ⟨hm', lb', cv, k1, k2, rfl, k4, k5⟩ := q
      have r2 := r.withTmps k5 k1 k2
      have hsize : (listed.setIfInBounds i true).size = ops.size := by simp [hsz]
      have hget : ∀ j, (listed.setIfInBounds i true).getD j false = (j == i || listed.getD j false) := by
        intro j
        by_cases z : j = i
        · subst z
          have hl : j < listed.size := by omega
          simp [hl]
        · have : i ≠ j := fun e => z e.symm
          rw [getD_set_ne false this]
          simp [z]
      refine ih (listed.setIfInBounds i true) hm0 hm' lb' w' (a.put o.dst cv) (if D[i].s then kk.set (S.idxOf i) true else kk) L' H' hsize ?_ ?_ ?_ ?_ m3 (GM.leb_trans hle (k1.leb b)) ?_
      · -- the count
        have hcount : ∀ N, i < N → (List.range N).countP (fun j => !(listed.getD j false)) = (List.range N).countP (fun j => !((listed.setIfInBounds i true).getD j false)) + 1 := by
          intro N
          induction N with
          | zero => intro h; omega
          | succ N ihN =>
            intro hN
            rw [List.range_succ, List.countP_append, List.countP_append]
            by_cases z : i = N
            · subst z
              have e : (List.range i).countP (fun j => !(listed.getD j false)) = (List.range i).countP (fun j => !((listed.setIfInBounds i true).getD j false)) := by
                refine List.countP_congr fun j hj => ?_
                have : j ≠ i := by have := List.mem_range.1 hj; omega
                rw [hget j]; simp [this]
              rw [e]
              have e1 : List.countP (fun j => !(listed.getD j false)) [i] = 1 := by simp only [List.countP_cons, List.countP_nil, hil]; rfl
              have e2 : List.countP (fun j => !((listed.setIfInBounds i true).getD j false)) [i] = 0 := by simp only [List.countP_cons, List.countP_nil, hget i]; simp
              rw [e1, e2]
            · rw [ihN (by omega)]
              have : N ≠ i := fun e => z e.symm
              simp only [List.countP_cons, List.countP_nil, hget N]
              simp [this]; omega
        have := hcount ops.size hlt
        omega
      · intro j hj x hx
        rw [hget] at hj ⊢
        by_cases z : j = i
        · subst z; rw [hbef x hx]; simp
        · simp [z] at hj; rw [hM j (by simpa using hj) x hx]; simp
      · split
        · rw [List.length_set]; exact hk
        · exact hk
      · intro q s hq
        rw [hget]
        by_cases hs : D[i].s = true
        · have hSk := g2 hs
          simp only [hs, if_true]
          by_cases z : s = i
          · subst z
            have hqe : q = S.idxOf s := s2 _ _ _ hq hSk
            rw [hqe, List.getElem?_set_self (by have := lookup_lt hSk; omega)]; simp
          · have hne : S.idxOf i ≠ q := fun e => by subst e; rw [hSk] at hq; cases hq; exact z rfl
            rw [List.getElem?_set_ne hne]
            simp only [z, beq_iff_eq, Bool.or_eq_true, false_or]
            exact hS q s hq
        · have hs' : D[i].s = false := by simpa using hs
          simp only [hs', Bool.false_eq_true, if_false]
          have z : s ≠ i := fun e => g3 hs' (e ▸ List.mem_of_getElem? hq)
          simp only [z, beq_iff_eq, Bool.or_eq_true, false_or]
          exact hS q s hq
      · -- the slots
        have hTi : T[i]? = some v := m4
        have hlook : ∀ t u, lk (TD ops T T0 (fun j => (listed.setIfInBounds i true).getD j false) ops.size) t = some u →
            (o.dst = some t ∧ u = v) ∨ (o.dst ≠ some t ∧ lk (TD ops T T0 (fun j => listed.getD j false) ops.size) t = some u) := by
          intro t u hu
          have hdi : dstOf ops i = o.dst := by unfold dstOf; rw [h2]; rfl
          have hA := TD_spec (ops := ops) (T := T) (T0 := T0) (d := fun j => (listed.setIfInBounds i true).getD j false) (m := ops.size) (by omega) (t := t)
          have hB := TD_spec (ops := ops) (T := T) (T0 := T0) (d := fun j => listed.getD j false) (m := ops.size) (by omega) (t := t)
          by_cases hdt : o.dst = some t
          · refine .inl ⟨hdt, ?_⟩
            rcases hA with ⟨j, x, z1, z2, z3, z4, z5, z6⟩ | ⟨z1, z2⟩
            · have hji : j = i := by
                by_cases y : j = i
                · exact y
                · exfalso
                  have hjd : listed.getD j false = true := by
                    have z2' := z2
                    simp only [hget] at z2'
                    simpa [y] using z2'
                  rcases Nat.lt_or_ge j i with c | c
                  · exact absurd (by rw [hdi]; exact hdt) (z5 i c hlt (by simp [hget]))
                  · have hgt : i < j := by omega
                    -- j is behind i
                    have hDj : D[j]? = some D[j] := List.getElem?_eq_getElem (by omega)
                    obtain ⟨_, _, hopj, _⟩ := opsOkP_get c1 hDj
                    rw [Nat.zero_add] at hopj
                    unfold opOkP at hopj
                    simp only [Bool.and_eq_true] at hopj
                    have h7 := hopj.2.2.1
                    rw [z3] at h7
                    simp only [Bool.and_eq_true, List.all_eq_true, List.mem_range, Bool.or_eq_true, bne_iff_ne, ne_eq] at h7
                    rcases h7.2 i hgt with y2 | y2
                    · exact y2 (by rw [hdi]; exact hdt)
                    · have := hM j hjd i y2; rw [hil] at this; cases this
              subst hji
              rw [hTi] at z4
              rw [z6] at hu; cases hu; exact (Option.some.inj z4).symm
            · exact absurd (by rw [hdi]; exact hdt) (z1 i hlt (by simp [hget]))
          · refine .inr ⟨hdt, ?_⟩
            rcases hA with ⟨j, x, z1, z2, z3, z4, z5, z6⟩ | ⟨z1, z2⟩
            · have hji : j ≠ i := fun e => by subst e; rw [hdi] at z3; exact hdt z3
              have hjd : listed.getD j false = true := by
                have z2' := z2
                simp only [hget] at z2'
                simpa [hji] using z2'
              rcases hB with ⟨j', x', y1, y2, y3, y4, y5, y6⟩ | ⟨y1, y2⟩
              · have hjj : j' = j := by
                  rcases Nat.lt_trichotomy j' j with c | c | c
                  · exact absurd z3 (y5 j c z1 hjd)
                  · exact c
                  · exact absurd y3 (z5 j' c y1 (by have : listed.getD j' false = true := y2; simp only [hget, this]; simp))
                subst hjj
                rw [z4] at y4; cases y4
                rw [y6, ← z6]; exact hu
              · exact absurd z3 (y1 j z1 hjd)
            · rcases hB with ⟨j', x', y1, y2, y3, y4, y5, y6⟩ | ⟨y1, y2⟩
              · exact absurd y3 (z1 j' y1 (by have : listed.getD j' false = true := y2; simp only [hget, this]; simp))
              · rw [y2, ← z2]; exact hu
        have hdlt : ∀ t, o.dst = some t → Nat.blt t n = true := by
          intro t ht
          have hdi : dstOf ops i = some t := by unfold dstOf; rw [h2]; exact ht
          have h7 := o3
          rw [hdi] at h7
          simp only [Bool.and_eq_true] at h7
          exact h7.1
        cases hd : o.dst with
        | none =>
          exact r2.fewer _ fun t u hu => by
            rcases hlook t u hu with ⟨q1, _⟩ | ⟨_, q2⟩
            · rw [hd] at q1; cases q1
            · exact q2
        | some t0 =>
          have r3 := Rel.push r2 (hdlt t0 hd) k4
          exact r3.fewer _ fun t u hu => by
            rcases hlook t u hu with ⟨q1, rfl⟩ | ⟨q1, q2⟩
            · rw [hd] at q1; cases q1; exact lk_cons_self _ _ _
            · have : t0 ≠ t := fun e => q1 (by rw [hd, e])
              show lk ((t0, v) :: _) t = some u
              rw [lk_cons_ne this]; exact q2

/-- A region that draws its order. -/
theorem awp_drawP {id : Nat} {L0 : List (List Value)} {H0 : AH} {L1 : List (List Value)} {H1 : AH} (T : List Value) (LH : LHs) (D : List DOp) (KS : List (List (List Bool))) (S plan : List Nat) (hm : P.follows .mixedOrders = true)
    (hck : drawOkP n ops D KS S plan = true) (hT : Nat.beq T.length ops.size = true) (h0 : lkB LH (List.replicate S.length false) = some (L0, H0)) (hlast : lkB LH (List.replicate S.length true) = some (L1, H1)) (hst : DStepsP P ops n b T0 T LH S 0 ops.toList D KS)
    (k : Q .normal ⟨n, b, TD ops T T0 (fun _ => true) ops.size, L1, H1⟩) : AWp P (.region id ops true) Q ⟨n, b, T0, L0, H0⟩ := by
  intro hm' lb w0 U w a r
  have hT' := Nat.eq_of_beq_eq_true hT
  have hrep : ∀ i, (Array.replicate ops.size false).getD i false = false := by intro i; by_cases q : i < ops.size <;> simp [Array.getElem?_replicate, q]
  refine wp_region_any hm (draw_anyP hck hT' hst hlast k w0 U ops.size (Array.replicate ops.size false) hm' hm' lb _ a (List.replicate S.length false) L0 H0 (by simp) ?_ (fun i hi => by rw [hrep] at hi; cases hi) (by simp) (fun q s hq => ?_) h0 (GM.leb_refl _ _) ?_)
  · have : (List.range ops.size).countP (fun i => !((Array.replicate ops.size false).getD i false)) = (List.range ops.size).length := by
      rw [List.countP_eq_length]
      intro i _
      rw [hrep]; rfl
    rw [this]; simp
  · rw [hrep]; constructor
    · intro h; cases h
    · intro h; rw [List.getElem?_replicate] at h; split at h <;> cases h
  · rw [TD_none hrep ops.size]
    exact r.drawn (w.drawn + 1)
theorem dstepPN {i : Nat} {o : Oper} {x : DOp} {ks : List (List Bool)} (h : ∀ K ∈ ks, ∃ Tm L H L' H' v, mini T0 T x.src = some Tm ∧ lkB LH K = some (L, H) ∧ lkB LH (cond x.s (K.set (S.idxOf i) true) K) = some (L', H') ∧ T[i]? = some v ∧ AStep P ops i o ⟨n, b, Tm, L, H⟩ v L' H') : DStepP P ops n b T0 T LH S i o x ks := by
  intro k hk
  obtain ⟨Tm, L, H, L', H', v, h1, h2, h3, h4⟩ := h k hk
  refine ⟨Tm, L, H, L', H', v, h1, h2, ?_, h4⟩
  cases hs : x.s with
  | true => simp only [hs, cond_true] at h3; simpa using h3
  | false => simp only [hs, cond_false] at h3; simpa using h3
theorem pnil {P' : List Bool → Prop} : ∀ K ∈ ([] : List (List Bool)), P' K := fun K h => by simp at h
theorem pcons {K0 : List Bool} {ks : List (List Bool)} {P' : List Bool → Prop} (h : P' K0) (k : ∀ K ∈ ks, P' K) : ∀ K ∈ K0 :: ks, P' K := fun K hK => by
  rcases List.mem_cons.1 hK with rfl | q
  · exact h
  · exact k K q
theorem dconsP {D : DOp} {Ds : List DOp} {o : Oper} {l : List Oper} {i : Nat} {ks : List (List Bool)} {KSs : List (List (List Bool))} (h : DStepP P ops n b T0 T LH S i o D ks) (k : DStepsP P ops n b T0 T LH S (i + 1) l Ds KSs) : DStepsP P ops n b T0 T LH S i (o :: l) (D :: Ds) (ks :: KSs) := ⟨h, k⟩
theorem dnilP {i : Nat} : DStepsP P ops n b T0 T LH S i [] [] [] := trivial
end

/-! ## Names that are laid ahead -/
section
variable {P : Program} {n b : Nat} {T : List (Nat × Value)} {L : List (List Value)} {H H' : AH} {Q : Exit → AS → Prop}
theorem awp_newGro {c : Code} (s : Nat) (hs : 1 ≤ s) (hH : H.alloc ⟨s, [], true⟩ = H') (h : AWp P c Q ⟨n, b, T, L, H'⟩) : AWp P c Q ⟨n, b, T, L, H⟩ := by
  subst hH
  intro hm lb w0 U w a r
  have h1 := r.newGro s hs
  exact wp_mono (h _ _ w0 U w a h1.2) fun e a w q => Post.mono (h1.1.leb b) q
end
/-- Some bytes at least. -/
def neB {α : Type} (l : List α) : Option Unit := if l.length = 0 then none else some ()
theorem neB_ok {α : Type} {l : List α} {x : Unit} (h : neB l = some x) : l.length ≠ 0 := by
  unfold neB at h
  split at h
  · cases h
  · assumption
theorem strBytesAt_ok {hm : GM} {lb : LM} {w0 : World} {U : Env} {st : AS} {w : World} {a : Act} {P : Program} (r : Rel hm lb w0 U st w a) {src dst e : TypeId} {d : TypeDesc} {s : ByteArray} {cx : Value} {m : Nat} (hs : und P src = some d) (hd : und P dst = some (.slice e)) (he : und P e = some (.int .u8)) (hx : VR hm lb (.string s) cx)
    (hb : st.heap.get m = some ⟨1, [], true⟩) (hne : s.size ≠ 0) :
    ∃ hm' w' cv, (convert src dst cx).run P w = .ok cv w' ∧ hm.le hm' ∧ Rel hm' lb w0 U (st.setHeap (st.heap.set m ⟨1, bcells s, true⟩)) w' a ∧ VR hm' lb (.slice (some ⟨m, 0, some 1⟩) s.size s.size) cv := by
  obtain rfl : cx = _ := hx.sr rfl
  obtain ⟨newCap, C, h1, h2, h3, h4⟩ := strBytes_run (P := P) (w := w) e s
  have hbl : (bcells s).length = s.size := by simp [bcells]
  obtain ⟨i, g1, g2, g3, g4, _, _⟩ := r.blk m _ hb
  have g4' := (g4 rfl).1
  have h := (r.drawn (w.drawn + 1)).reBlk (i' := ⟨w.heap.size, C.size, 1, true, (bcells s).length⟩) (b' := ⟨1, bcells s, true⟩) (w' := World.alloc { w with drawn := w.drawn + 1 } (.cells C e (C.size, C.size + 1))) hb g1
    (.inr ⟨g3, rfl, g2.symm, by rw [g4']; simp only [hbl, List.length_nil]; omega⟩) rfl rfl (fun _ => ⟨rfl, Nat.le_refl _⟩) (plain_pure (bcells_plain s)) rfl rfl rfl (by simp) (fun B _ hB => alloc_get_lt (w := { w with drawn := w.drawn + 1 }) hB) (.inr ⟨Nat.le_refl _, by simp⟩)
    ⟨C, e, (C.size, C.size + 1), alloc_get_new { w with drawn := w.drawn + 1 } _, rfl, by simp only [hbl]; omega, fun k k1 k2 => by have : k < C.size := k1; have : C.size ≤ k := k2.1; omega, fun k v hk => ⟨v, h3 k v hk, SR.of_plain (List.all_eq_true.1 (bcells_plain s) v (List.mem_of_getElem? hk))⟩⟩
  refine ⟨_, _, .slice (some ⟨w.heap.size, 0, none⟩) s.size newCap, ?_, h.1, h.2, .of_sr rfl ⟨_, some ⟨w.heap.size, 0, none⟩, newCap, GM.put_same, rfl, rfl, by simp [hbl], fun _ => ⟨h1, fun _ => rfl, by simp [h2]⟩⟩⟩
  simp only [convert, Sem.run_bind, run_und hs, run_und hd, Result.andThen_ok, run_und he]
  exact h4
section
variable {P : Program} {n0 b0 : Nat} {Tm : List (Nat × Value)} {Lo : List (List Value)} {He : AH} {v : Value} {x y : Operand} {d : Option Tmp} {ty : TypeId} {pos : String} {af : Array Edge} {g : Option (Nat × Bool)}
theorem tx_sbAt {src dst e : TypeId} {ds : TypeDesc} {bs : Str} {m : Nat} {H' : AH} {z : Unit} (hs : und P src = some ds) (hd : und P dst = some (.slice e)) (he : und P e = some (.int .u8)) (hx : ev Tm x = S bs) (hb : He.get m = some ⟨1, [], true⟩) (hne : neB bs = some z) (hH : He.set m ⟨1, bs.flatMap c8, true⟩ = H') :
    AExec P ⟨d, .convert src dst x, ty, pos, af, g⟩ ⟨n0, b0, Tm, Lo, He⟩ (GV m bs.length) Lo H' :=
  .of_value fun hm lb w0 U w a r => by
    subst hH
    obtain ⟨hm', w', cv, h1, h2, h3, h4⟩ := strBytesAt_ok r hs hd he (r.evEq hx) hb (by rw [sB_size]; exact neB_ok hne)
    rw [sB_size] at h4
    rw [bcells_sB] at h3
    exact ⟨hm', lb, w', cv, by simp [execOp, h1], h2, LM.le_refl _, h3, h4⟩
end
end Go.Fhl
