/-
  A logic over the model, part thirteen: short arrays; values made with parts left out; a function that makes one block and hands it out.
-/
import Derived.Test.YtpfbnghalpfoaaaDoorFT
namespace Go.Fhl
set_option linter.unusedVariables false
set_option linter.unusedSimpArgs false

def c16 (n : UInt16) : List Value := [U16 n]
def c32 (n : UInt32) : List Value := [U32 n]
theorem ce16 : CE c16 1 := ⟨fun _ => rfl, fun _ => rfl⟩
theorem ce32 : CE c32 1 := ⟨fun _ => rfl, fun _ => rfl⟩

/-! ## Arrays of four, and of seven -/
structure A4 (α : Type) where
  x0 : α
  x1 : α
  x2 : α
  x3 : α
  deriving DecidableEq, Inhabited
structure A7 (α : Type) where
  x0 : α
  x1 : α
  x2 : α
  x3 : α
  x4 : α
  x5 : α
  x6 : α
  deriving DecidableEq, Inhabited
def cA4 {α : Type} (c : α → List Value) (a : A4 α) : List Value := c a.x0 ++ (c a.x1 ++ (c a.x2 ++ c a.x3))
def cA7 {α : Type} (c : α → List Value) (a : A7 α) : List Value := c a.x0 ++ (c a.x1 ++ (c a.x2 ++ (c a.x3 ++ (c a.x4 ++ (c a.x5 ++ c a.x6)))))
theorem ceA4 {α : Type} {c : α → List Value} (h : CE c 1) : CE (cA4 c) 4 := ⟨fun x => by simp [cA4, h.len], fun x => by simp only [cA4, List.all_append, h.pure]; rfl⟩
theorem ceA7 {α : Type} {c : α → List Value} (h : CE c 1) : CE (cA7 c) 7 := ⟨fun x => by simp [cA7, h.len], fun x => by simp only [cA7, List.all_append, h.pure]; rfl⟩
def A4.get {α : Type} (a : A4 α) (i : Int) : Option α := if i = 0 then some a.x0 else if i = 1 then some a.x1 else if i = 2 then some a.x2 else if i = 3 then some a.x3 else none
def A4.set {α : Type} (a : A4 α) (i : Int) (y : α) : Option (A4 α) := if i = 0 then some { a with x0 := y } else if i = 1 then some { a with x1 := y } else if i = 2 then some { a with x2 := y } else if i = 3 then some { a with x3 := y } else none
theorem A4.get_some {α : Type} {a : A4 α} {i : Int} {z : α} (h : a.get i = some z) : (i = 0 ∧ z = a.x0) ∨ (i = 1 ∧ z = a.x1) ∨ (i = 2 ∧ z = a.x2) ∨ (i = 3 ∧ z = a.x3) := by
  unfold A4.get at h
  split at h
  · cases h; exact .inl ⟨‹_›, rfl⟩
  · split at h
    · cases h; exact .inr (.inl ⟨‹_›, rfl⟩)
    · split at h
      · cases h; exact .inr (.inr (.inl ⟨‹_›, rfl⟩))
      · split at h
        · cases h; exact .inr (.inr (.inr ⟨‹_›, rfl⟩))
        · cases h
theorem A4.set_some {α : Type} {a : A4 α} {i : Int} {y : α} {z : A4 α} (h : a.set i y = some z) : (i = 0 ∧ z = { a with x0 := y }) ∨ (i = 1 ∧ z = { a with x1 := y }) ∨ (i = 2 ∧ z = { a with x2 := y }) ∨ (i = 3 ∧ z = { a with x3 := y }) := by
  unfold A4.set at h
  split at h
  · cases h; exact .inl ⟨‹_›, rfl⟩
  · split at h
    · cases h; exact .inr (.inl ⟨‹_›, rfl⟩)
    · split at h
      · cases h; exact .inr (.inr (.inl ⟨‹_›, rfl⟩))
      · split at h
        · cases h; exact .inr (.inr (.inr ⟨‹_›, rfl⟩))
        · cases h
def A7.get {α : Type} (a : A7 α) (i : Int) : Option α := if i = 0 then some a.x0 else if i = 1 then some a.x1 else if i = 2 then some a.x2 else if i = 3 then some a.x3 else if i = 4 then some a.x4 else if i = 5 then some a.x5 else if i = 6 then some a.x6 else none
theorem A7.get_some {α : Type} {a : A7 α} {i : Int} {z : α} (h : a.get i = some z) : (i = 0 ∧ z = a.x0) ∨ (i = 1 ∧ z = a.x1) ∨ (i = 2 ∧ z = a.x2) ∨ (i = 3 ∧ z = a.x3) ∨ (i = 4 ∧ z = a.x4) ∨ (i = 5 ∧ z = a.x5) ∨ (i = 6 ∧ z = a.x6) := by
  unfold A7.get at h
  split at h
  · cases h; exact .inl ⟨‹_›, rfl⟩
  · split at h
    · cases h; exact .inr (.inl ⟨‹_›, rfl⟩)
    · split at h
      · cases h; exact .inr (.inr (.inl ⟨‹_›, rfl⟩))
      · split at h
        · cases h; exact .inr (.inr (.inr (.inl ⟨‹_›, rfl⟩)))
        · split at h
          · cases h; exact .inr (.inr (.inr (.inr (.inl ⟨‹_›, rfl⟩))))
          · split at h
            · cases h; exact .inr (.inr (.inr (.inr (.inr (.inl ⟨‹_›, rfl⟩)))))
            · split at h
              · cases h; exact .inr (.inr (.inr (.inr (.inr (.inr ⟨‹_›, rfl⟩)))))
              · cases h
/-- Is it a place of an array? -/
def inA (n : Nat) (i : Int) : Option Unit := if 0 ≤ i ∧ i < n then some () else none
theorem inA_ok {n : Nat} {i : Int} {z : Unit} (h : inA n i = some z) : 0 ≤ i ∧ i < n := by
  unfold inA at h
  split at h
  · assumption
  · cases h

/-! ## Nil, where an empty row is meant -/
def WkL : List Value → List Value → Prop
  | [], [] => True
  | v :: l, w :: r => (w = v ∨ (v = .slice none 0 0 ∧ ∃ s, w = .iface (s + 1) (.tuple #[]))) ∧ WkL l r
  | _, _ => False
theorem wk_sr {hm : GM} {lb : LM} {v w cv : Value} (h : w = v ∨ (v = .slice none 0 0 ∧ ∃ s, w = .iface (s + 1) (.tuple #[]))) (e : SR hm lb v cv) : SR hm lb w cv := by
  rcases h with rfl | ⟨rfl, s, rfl⟩
  · exact e
  · obtain rfl : cv = _ := e
    exact ⟨none, 0, 0, rfl, by simp, Nat.le_refl _, .inl rfl⟩
theorem wk_L2 {hm : GM} {lb : LM} : ∀ {l r : List Value} {cs : List Value}, WkL l r → L2 (SR hm lb) l cs → L2 (SR hm lb) r cs
  | [], [], cs, _, e => e
  | [], _ :: _, cs, h, e => h.elim
  | _ :: _, [], cs, h, e => h.elim
  | v :: l, w :: r, cs, h, e => by
    obtain ⟨b, t, rfl, h1, h2⟩ := e.cons_inv
    exact .cons (wk_sr h.1 h1) (wk_L2 h.2 h2)

section
variable {P : Program} {n0 b0 : Nat} {Tm : List (Nat × Value)} {Lo : List (List Value)} {He : AH} {d : Option Tmp} {ty : TypeId} {pos : String} {af : Array Edge} {g : Option (Nat × Bool)}
theorem ex_buildW {t : TypeId} {ps : Array (Nat × Operand)} {qs : List (Nat × Value)} {vs : Array Value} {ws : List Value} (hq : EVp Tm ps.toList qs) (h : abuild P t qs = some (.agg vs)) (hw : WkL vs.toList ws) :
    AExec P ⟨d, .build t ps, ty, pos, af, g⟩ ⟨n0, b0, Tm, Lo, He⟩ (.agg ws.toArray) Lo He :=
  .of_read fun hm lb w0 U w a r => by
    obtain ⟨cv, g1, g2⟩ := abuild_ok (P := P) (hm := hm) (lb := lb) (ps' := ps.map fun p => (p.1, a.eval p.2)) h (by rw [Array.toList_map]; exact r.EVp hq)
    obtain ⟨cs', rfl, h2⟩ := g2
    exact ⟨.agg cs', by simp [execOp, g1], cs', rfl, wk_L2 hw h2⟩
theorem ex_allocW {T : TypeId} {z : Value} {zs : List Value} {k : Nat} {L' : List (List Value)} (hz : zr P T = some z) (hp : z.cells.toList.all plain1 = true) (hw : WkL z.cells.toList zs) (hk : Lo.length = k) (hL : Lo ++ [zs] = L') : AExec P ⟨d, .alloc T, ty, pos, af, g⟩ ⟨n0, b0, Tm, Lo, He⟩ (.pointer (some ⟨k, 0, some 0⟩)) L' He :=
  .of_value fun hm lb w0 U w a r => by
    subst hk; subst hL
    obtain ⟨lb', w', g1, g2, g3, g4⟩ := newBox_loc (P := P) r (T := T) (C := z.cells) (wk_L2 hw (L2.of_plain hp))
    refine ⟨hm, lb', w', _, ?_, GM.le_refl _, g2, g3, g4⟩
    simp [execOp, Instr.alloc, newVar, run_zero hz, g1]
/-- A conversion between types of one kind. -/
theorem ex_conv64 {src dst : TypeId} {ds : TypeDesc} {x : Operand} {n : Int} (hs : und P src = some ds) (hd : und P dst = some (.int .i64)) (hx : ev Tm x = I n) : AExec P ⟨d, .convert src dst x, ty, pos, af, g⟩ ⟨n0, b0, Tm, Lo, He⟩ (I (w64 n)) Lo He := ex_convInt hs hd hx

/-! ## A function that makes one block, and hands out a pointer to it -/
def FNw (P : Program) (f : FuncId) (args : List Value) (b : Blk) : Prop := AFn P f args AH.empty fun v H' => v = .pointer (some ⟨0, 0, none⟩) ∧ H'.get 0 = some b
def FinN (P : Program) (rs : List ResultVar) (b : Blk) : Exit → AS → Prop
  | .normal, s | .ret, s => ARes P rs s (.pointer (some ⟨0, 0, none⟩)) ∧ s.heap.get 0 = some b ∧ Nat.blt 0 s.heap.next = true
  | _, _ => False
theorem FNw.of_body {f : FuncId} {fn : Func} {c : Code} {args : List Value} {n : Nat} {rs : List ResultVar} {T : List (Nat × Value)} {b : Blk} (hf : P.funcs[f]? = some fn) (hb : fn.body = some c) (hn : fn.ntmps = n) (hl : Nat.ble args.length n = true) (hrs : fn.results.toList = rs) (hT : argsT 0 args = T)
    (h : AWp P c (FinN P rs b) ⟨n, 0, T, [], ⟨0, []⟩⟩) : FNw P f args b := by
  subst hn; subst hT; subst hrs
  refine AFn.of_body hf hb (by rw [Nat.ble_eq] at hl; exact hl) (awp_mono h fun e s q => ?_)
  cases e with
  | normal => exact ⟨_, q.1, q.2.2, rfl, q.2.1⟩
  | ret => exact ⟨_, q.1, q.2.2, rfl, q.2.1⟩
  | _ => exact q.elim

theorem Rel.unhideNew {hm : GM} {lb : LM} {w0 : World} {U : Env} {st : AS} {w : World} {a : Act} (r : Rel hm lb w0 U st w a) {hm1 : GM} {H1 : AH} {w' : World} {b : Blk} (hz : ∀ B k v, hm.fz B k = some v → hm1.fz B k = some v) (h : HRel hm1 w (hideU hm w) H1 w') (hb : H1.get 0 = some b) :
    ∃ i, hm1.map 0 = some i ∧ hm.le ⟨(hm.put st.heap.next i).map, hm1.fz⟩ ∧ Rel ⟨(hm.put st.heap.next i).map, hm1.fz⟩ lb w0 U (st.setHeap (st.heap.alloc b)) w' a := by
  obtain ⟨i, g1, g2, g3, g4, gp, g5⟩ := h.blk 0 b hb
  refine ⟨i, g1, ?_⟩
  obtain ⟨hle0, r0⟩ := r.unhide hz h
  have hn := r.fresh st.heap.next (Nat.le_refl _)
  have hle : hm.le ⟨(hm.put st.heap.next i).map, hm1.fz⟩ := ⟨(GM.put_le_none hn).map, hz⟩
  have hle1 : (⟨hm.map, hm1.fz⟩ : GM).le ⟨(hm.put st.heap.next i).map, hm1.fz⟩ := ⟨(GM.put_le_none hn).map, fun _ _ _ q => q⟩
  refine ⟨hle, ?_⟩
  -- the new block is not one of those that were there
  have hnew : i.size ≠ 0 → w.heap.size ≤ i.blk := by
    intro hs
    rcases g5 with ⟨_, g5, _⟩ | ⟨C, e1, fz, k1, k2, k3, k4, k5, k6⟩
    · exact absurd g5 hs
    · have := k5 hs
      exact Nat.le_of_not_lt this
  have r' : HRel ⟨(hm.put st.heap.next i).map, hm1.fz⟩ w0 U (st.heap.alloc b) w' :=
    { os := r0.os, tape := r0.tape, output := r0.output, size := r0.size, prot := r0.prot, protz := r0.protz
      fresh := fun m hm' => by
        simp only [AH.alloc] at hm'
        show (hm.put st.heap.next i).map m = none
        rw [GM.put_ne (by omega)]; exact r.fresh m (by omega)
      frz := fun B k v hv => by
        obtain ⟨h1, C, e, fz, v', h2, h3, h4⟩ := r0.frz B k v hv
        exact ⟨h1, C, e, fz, v', h2, h3, h4.repl h1 fun _ _ _ q => q⟩
      blk := fun m c hc => by
        rw [alloc_get] at hc
        by_cases q : m = st.heap.next
        · subst q
          simp at hc; subst hc
          refine ⟨i, GM.put_same, g2, g3, g4, gp, g5.imp id ?_⟩
          rintro ⟨C, e, fz, k1, k2, k3, k4, k5, k6, k7⟩
          refine ⟨C, e, fz, k1, k2, k3, k4, fun hs hu => ?_, k6, fun k v hk => ?_⟩
          · have := r.ult hu; have := hnew hs; omega
          · obtain ⟨v', k8, k9⟩ := k7 k v hk
            exact ⟨v', k8, k9.repl (List.all_eq_true.1 gp v (List.mem_of_getElem? hk)) fun _ _ _ q => q⟩
        · rw [if_neg q] at hc
          exact r0.toHRel.other hle1 hc (GM.put_ne q) (fun j hj hs => ⟨rfl, r0.toHRel.blk_fz hc hj hs⟩) (fun B hB h => h)
      inj := fun m c m' c' j j' h1 h2 h3 h4 h5 h6 h7 => by
        rw [alloc_get] at h1 h2
        by_cases q : m = st.heap.next <;> by_cases q' : m' = st.heap.next
        · omega
        · subst q
          rw [if_neg q'] at h2
          have e4 : (hm.put st.heap.next i).map st.heap.next = some j := h4
          rw [GM.put_same] at e4; cases e4
          have e5 : (hm.put st.heap.next i).map m' = some j' := h5
          rw [GM.put_ne q'] at e5
          have := r.toHRel.blk_lt h2 e5 h7
          have := hnew h6
          omega
        · subst q'
          rw [if_neg q] at h1
          have e5 : (hm.put st.heap.next i).map st.heap.next = some j' := h5
          rw [GM.put_same] at e5; cases e5
          have e4 : (hm.put st.heap.next i).map m = some j := h4
          rw [GM.put_ne q] at e4
          have := r.toHRel.blk_lt h1 e4 h6
          have := hnew h7
          omega
        · rw [if_neg q] at h1
          rw [if_neg q'] at h2
          have e4 : (hm.put st.heap.next i).map m = some j := h4
          rw [GM.put_ne q] at e4
          have e5 : (hm.put st.heap.next i).map m' = some j' := h5
          rw [GM.put_ne q'] at e5
          exact r.inj m c m' c' j j' h1 h2 h3 e4 e5 h6 h7 }
  refine r0.frame hle1 r' (by simp [AH.alloc]) (fun k B hk => ⟨rfl, r0.loc_fz hk⟩) ?_
  intro k B m c j hk hc hj hs e
  rw [alloc_get] at hc
  by_cases q : m = st.heap.next
  · subst q
    have e4 : (hm.put st.heap.next i).map st.heap.next = some j := hj
    rw [GM.put_same] at e4; cases e4
    have := r.loc_lt hk
    have := hnew hs
    omega
  · rw [if_neg q] at hc
    have e4 : (hm.put st.heap.next i).map m = some j := hj
    rw [GM.put_ne q] at e4
    exact r.lheap k B m c j hk hc e4 hs e

theorem ex_callNew {f : Operand} {args : Array Operand} {ts : Array TypeId} {gd : Option (Nat × Bool)} {g : FuncId} {cap : Array Value} {vs : List Value} {k : Nat} {b : Blk} {H' : AH} (hf : ev Tm f = .func (.func g) #[] cap) (hg : enterable P g = true) (ha : CArgs Tm args cap vs) (hp : vs.all pureV = true) (hc : FNw P g vs b) (hgr : b.gro = false)
    (hk : He.next = k) (hH : He.alloc b = H') : AExec P ⟨d, .call ⟨.value f, args, ts⟩, ty, pos, af, gd⟩ ⟨n0, b0, Tm, Lo, He⟩ (.pointer (some ⟨k, 0, none⟩)) Lo H' := by
  intro hm lb w0 U w a Q r
  subst hk; subst hH
  obtain ⟨cargs, hrun, hargs⟩ := call_run (d := d) (ts := ts) (ty := ty) (pos := pos) (af := af) (gd := gd) r hf hg ha
  have hargs' : L2 (VR hm.bare []) vs cargs.toList := hargs.mono fun x y hx q => VR.pure (hm := hm) (List.all_eq_true.1 hp x hx) (fun _ _ _ z => z) q
  unfold Oper.wp
  rw [hrun]
  refine (hc hm.bare w (hideU hm w) w cargs r.hide hargs').mono fun e w' q => ?_
  obtain ⟨hm', v', cv, H', rfl, q2, q3, q4, q5, rfl, q7⟩ := q
  obtain ⟨i, g1, h1, h2⟩ := r.unhideNew q2.fz q4 q7
  refine ⟨_, lb, cv, h1, LM.le_refl _, rfl, ?_, h2⟩
  obtain ⟨c, ⟨i', k1, k2, k3⟩, rfl⟩ := q5.sr rfl
  simp only at k1
  rw [g1] at k1; cases k1
  exact .of_sr rfl ⟨c, ⟨i, GM.put_same, k2, k3⟩, rfl⟩
end

/-! ## Slots with another word for a length -/
def ReT (T T' : List (Nat × Value)) : Prop := ∀ t v, lk T' t = some v → lk T t = some v
theorem ReT.nil {T : List (Nat × Value)} : ReT T [] := fun t v h => by simp [lk] at h
theorem ReT.keep {T T' : List (Nat × Value)} {t : Nat} {v : Value} (h : lk T t = some v) (k : ReT T T') : ReT T ((t, v) :: T') := by
  intro u v' hu
  rcases lk_push hu with ⟨rfl, rfl⟩ | ⟨h1, h2⟩
  · exact h
  · exact k u v' h2
theorem ReT.gv {T T' : List (Nat × Value)} {t m k k' : Nat} (h : lk T t = some (GV m k)) (e : k = k') (q : ReT T T') : ReT T ((t, GV m k') :: T') := by subst e; exact q.keep h
theorem ReT.fv {T T' : List (Nat × Value)} {t m k k' : Nat} (h : lk T t = some (FV m k)) (e : k = k') (q : ReT T T') : ReT T ((t, FV m k') :: T') := by subst e; exact q.keep h

/-! ## Nil slots -/
section
variable {P : Program} {ops : Array Oper} {Q : Exit → AS → Prop} {i n b : Nat} {l : List Oper} {T : List (Nat × Value)} {L : List (List Value)} {H : AH}
theorem arun_nilGro (t s : Nat) (ht : lk T t = some (.slice none 0 0)) (hs : 1 ≤ s) (h : ARun P ops i l Q ⟨n, b, (t, .slice (some ⟨H.next, 0, some 1⟩) 0 0) :: T, L, H.alloc ⟨s, [], true⟩⟩) : ARun P ops i l Q ⟨n, b, T, L, H⟩ := by
  intro hl hm lb w0 U w a r
  obtain ⟨hm', h1, h2⟩ := r.nilGro ht hs
  exact wpOps_mono (fun e a w q => Post.mono (h1.leb b) q) _ _ _ (h hl _ _ w0 U w a h2)
theorem Rel.nilDeep {hm : GM} {lb : LM} {w0 : World} {U : Env} {w : World} {a : Act} {t s : Nat} (r : Rel hm lb w0 U ⟨n, b, T, L, H⟩ w a) (ht : lk T t = some (.slice none 0 0)) : Rel hm lb w0 U ⟨n, b, (t, .iface (s + 1) (.tuple #[])) :: T, L, H⟩ w a :=
  { toHRel := r.toHRel, defers := r.defers, tsize := r.tsize, base_le := r.base_le
    tmps := fun u v hu => by
      rcases lk_push hu with ⟨rfl, rfl⟩ | ⟨k1, k2⟩
      · obtain ⟨cv, k3, k4⟩ := r.tmps _ _ ht
        obtain rfl : cv = _ := k4.sr rfl
        exact ⟨_, k3, .of_sr rfl ⟨none, 0, 0, rfl, by simp, Nat.le_refl _, .inl rfl⟩⟩
      · exact r.tmps u v k2
    llen := r.llen, loc := r.loc, linj := r.linj, lheap := r.lheap }
theorem arun_nilDeep (t s : Nat) (ht : lk T t = some (.slice none 0 0)) (h : ARun P ops i l Q ⟨n, b, (t, .iface (s + 1) (.tuple #[])) :: T, L, H⟩) : ARun P ops i l Q ⟨n, b, T, L, H⟩ :=
  fun hl hm lb w0 U w a r => h hl hm lb w0 U w a (r.nilDeep ht)
theorem awp_nilDeep {c : Code} (t s : Nat) (ht : lk T t = some (.slice none 0 0)) (h : AWp P c Q ⟨n, b, (t, .iface (s + 1) (.tuple #[])) :: T, L, H⟩) : AWp P c Q ⟨n, b, T, L, H⟩ :=
  fun hm lb w0 U w a r => h hm lb w0 U w a (r.nilDeep ht)
theorem awp_keepE {c : Code} {st st' : AS} (ts : List Nat) (k m : Nat) (ho : okKeep st ts k m = true) (he : st.keep ts k m = st') (h : AWp P c Q st') : AWp P c Q st := by
  subst he
  exact awp_keep ts k m ho h
theorem dcons {D : DOp} {Ds : List DOp} {o : Oper} {LH : List (List (List Value) × AH)} {Tv : List Value} (h : DStep P ops n b T Tv LH i o D) (k : DSteps P ops n b T Tv LH (i + 1) l Ds) : DSteps P ops n b T Tv LH i (o :: l) (D :: Ds) := ⟨h, k⟩
theorem dnil {LH : List (List (List Value) × AH)} {Tv : List Value} : DSteps P ops n b T Tv LH i [] [] := trivial
end
/-- How often a loop may go round. -/
def fuel : Nat := 4611686018427387904
end Go.Fhl
