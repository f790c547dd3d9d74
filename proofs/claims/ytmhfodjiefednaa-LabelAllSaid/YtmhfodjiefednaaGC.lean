/-
  Functions that are handed a row of ours, and hand it out as it was, grown, or as a longer one.
-/
import Derived.Test.YtmhfodjiefednaaGB
import Derived.Test.YtmhfodjiefednaaFZ
namespace Go.Fhl
set_option linter.unusedVariables false
set_option linter.unusedSimpArgs false
section
variable {hm : GM} {lb : LM} {w0 : World} {U : Env} {st : AS} {w : World} {a : Act}
theorem Rel.backJ (r : Rel hm lb w0 U st w a) {n : Nat} {b : Blk} {i : Info} (hn : st.heap.get n = some b) (hi : hm.map n = some i) {hm1 : GM} {H1 : AH} {w' : World} {b' : Blk}
    {jj : Nat} (hzle : ∀ B k v, hm.fz B k = some v → hm1.fz B k = some v) (h : HRel hm1 w (oneU hm w i) H1 w') (hb' : H1.get jj = some b') {i' : Info} (hi' : hm1.map jj = some i') (hii : i.le i') :
    hm.le ⟨(hm.put n i').map, hm1.fz⟩ ∧ Rel ⟨(hm.put n i').map, hm1.fz⟩ lb w0 U (st.setHeap (st.heap.set n b')) w' a := by
  have hle : hm.le ⟨(hm.put n i').map, hm1.fz⟩ := by
    refine ⟨fun m j hj => ?_, hzle⟩
    by_cases e : m = n
    · subst e; rw [hi] at hj; cases hj; exact ⟨i', GM.put_same, hii⟩
    · exact ⟨j, by show (hm.put n i').map m = _; rw [GM.put_ne e]; exact hj, .inl rfl⟩
  refine ⟨hle, ?_⟩
  have hkeep : ∀ B, (oneU hm w i).U B → w'.heap[B]? = w.heap[B]? := fun B hB => (h.prot B hB).2
  have hfz : ∀ B k, (oneU hm w i).U B → hm1.fz B k = hm.fz B k := fun B k hB => h.protz B hB k
  have hU : ∀ B, U.U B → (oneU hm w i).U B := by
    intro B hB
    refine ⟨r.ult hB, fun hs e => ?_⟩
    obtain ⟨i0, h1, h2, h3, h4, hp, h5⟩ := r.blk n b hn
    rw [hi] at h1; cases h1
    rcases h5 with ⟨_, h5, _⟩ | ⟨C, e1, fz, k1, k2, k3, k4, k5, k6⟩
    · exact hs h5
    · exact k5 hs (e ▸ hB)
  have hL : ∀ k B, lb[k]? = some B → (oneU hm w i).U B := fun k B hk => ⟨r.loc_lt hk, fun hs => r.lheap k B n b i hk hn hi hs⟩
  have hO : ∀ m c j, st.heap.get m = some c → m ≠ n → hm.map m = some j → j.size ≠ 0 → (oneU hm w i).U j.blk := fun m c j hm1' hne hj hs =>
    ⟨r.toHRel.blk_lt hm1' hj hs, fun hs' e => r.inj m c n b j i hm1' hn hne hj hi hs hs' e.symm⟩
  obtain ⟨i2, g1, g2, g3, g4, gp, g5⟩ := h.blk jj b' hb'
  rw [hi'] at g1; cases g1
  have hout : i'.size ≠ 0 → ¬ (oneU hm w i).U i'.blk := by
    intro hs
    rcases g5 with ⟨_, g5, _⟩ | ⟨C, e1, fz, k1, k2, k3, k4, k5, k6⟩
    · exact absurd g5 hs
    · exact k5 hs
  have r' : HRel ⟨(hm.put n i').map, hm1.fz⟩ w0 U (st.heap.set n b') w' :=
    { os := h.os.trans r.os
      tape := h.tape.trans r.tape
      output := h.output.trans r.output
      size := Nat.le_trans r.size h.size
      prot := fun B hB => ⟨(r.prot B hB).1, ((h.prot B (hU B hB)).2).trans (r.prot B hB).2⟩
      protz := fun B hB k => (hfz B k (hU B hB)).trans (r.protz B hB k)
      fresh := fun m hm' => by
        have hnlt := r.toHRel.lt hn
        simp only [AH.set] at hm'
        show (hm.put n i').map m = none
        rw [GM.put_ne (by omega)]; exact r.fresh m hm'
      frz := fun B k v hv => by
        obtain ⟨h1, C, e, fz, v', h2, h3, h4⟩ := h.frz B k v hv
        exact ⟨h1, C, e, fz, v', h2, h3, h4.repl h1 fun _ _ _ q => q⟩
      blk := fun m c hc => by
        rw [set_get] at hc
        by_cases q : m = n
        · subst q
          simp at hc; subst hc
          refine ⟨i', GM.put_same, g2, g3, g4, gp, g5.imp id ?_⟩
          rintro ⟨C, e, fz, k1, k2, k3, k4, k5, k6, k7⟩
          refine ⟨C, e, fz, k1, k2, k3, k4, fun hs hu => k5 hs (hU _ hu), k6, fun k v hk => ?_⟩
          obtain ⟨v', k8, k9⟩ := k7 k v hk
          exact ⟨v', k8, k9.repl (List.all_eq_true.1 gp v (List.mem_of_getElem? hk)) fun _ _ _ q => q⟩
        · rw [if_neg q] at hc
          refine r.toHRel.other hle hc (GM.put_ne q) (fun j hj hs => ?_) ?_
          · have hu := hO m c j hc q hj hs
            exact ⟨hkeep _ hu, fun k hk => by show hm1.fz _ _ = _; rw [hfz _ _ hu]; exact r.toHRel.blk_fz hc hj hs k hk⟩
          · rintro B hB ⟨C, e, fz, h1, h2⟩
            refine ⟨C, e, fz, ?_, h2⟩
            rw [hkeep B ⟨hB, fun hs e' => ?_⟩]; exact h1
            subst e'
            obtain ⟨i0, x1, x2, x3, x4, xp, x5⟩ := r.blk n b hn
            rw [hi] at x1; cases x1
            rcases x5 with ⟨_, x5, _⟩ | ⟨C0, e0, fz0, y1, y2, _⟩
            · exact hs x5
            · rw [h1] at y1; cases y1; omega
      inj := fun m c m' c' j j' h1 h2 h3 h4 h5 h6 h7 => by
        rw [set_get] at h1 h2
        by_cases q : m = n <;> by_cases q' : m' = n
        · omega
        · subst q
          rw [if_neg q'] at h2
          have e4 : (hm.put m i').map m = some j := h4
          rw [GM.put_same] at e4; cases e4
          have e5 : (hm.put m i').map m' = some j' := h5
          rw [GM.put_ne q'] at e5
          exact fun e => hout h6 (e ▸ hO m' c' j' h2 q' e5 h7)
        · subst q'
          rw [if_neg q] at h1
          have e5 : (hm.put m' i').map m' = some j' := h5
          rw [GM.put_same] at e5; cases e5
          have e4 : (hm.put m' i').map m = some j := h4
          rw [GM.put_ne q] at e4
          exact fun e => hout h7 (e ▸ hO m c j h1 q e4 h6)
        · rw [if_neg q] at h1
          rw [if_neg q'] at h2
          have e4 : (hm.put n i').map m = some j := h4
          rw [GM.put_ne q] at e4
          have e5 : (hm.put n i').map m' = some j' := h5
          rw [GM.put_ne q'] at e5
          exact r.inj m c m' c' j j' h1 h2 h3 e4 e5 h6 h7 }
  refine r.frame hle r' (by simp [AH.set]) (fun k B hk => ⟨hkeep B (hL k B hk), fun j => by show hm1.fz B j = none; rw [hfz B j (hL k B hk)]; exact r.loc_fz hk j⟩) ?_
  intro k B m c j hk hc hj hs e
  rw [set_get] at hc
  by_cases q : m = n
  · subst q
    have e4 : (hm.put m i').map m = some j := hj
    rw [GM.put_same] at e4; cases e4
    exact hout hs (e ▸ hL k B hk)
  · rw [if_neg q] at hc
    have e4 : (hm.put n i').map m = some j := hj
    rw [GM.put_ne q] at e4
    exact r.lheap k B m c j hk hc e4 hs e
end
def FGr (P : Program) (f : FuncId) (args : List Value) (e : Nat) (cs : List Value) (len : Nat) (cs' : List Value) : Prop :=
  AFn P f args ⟨1, [(0, ⟨e, cs, true⟩)]⟩ fun v H' => ∃ j, v = GV j len ∧ H'.get j = some ⟨e, cs', true⟩ ∧ (j = 0 ∨ cs.length < cs'.length)
def FinG (P : Program) (rs : List ResultVar) (e : Nat) (cs : List Value) (len : Nat) (cs' : List Value) : Exit → AS → Prop
  | .normal, s | .ret, s => ∃ j, ARes P rs s (GV j len) ∧ s.heap.get j = some ⟨e, cs', true⟩ ∧ Nat.blt j s.heap.next = true ∧ (j = 0 ∨ cs.length < cs'.length)
  | _, _ => False
theorem FGr.of_body {P : Program} {f : FuncId} {fn : Func} {c : Code} {args : List Value} {n : Nat} {rs : List ResultVar} {T : List (Nat × Value)} {e len : Nat} {cs cs' : List Value} (hf : P.funcs[f]? = some fn) (hb : fn.body = some c) (hn : fn.ntmps = n) (hl : Nat.ble args.length n = true) (hrs : fn.results.toList = rs) (hT : argsT 0 args = T)
    (h : AWp P c (FinG P rs e cs len cs') ⟨n, 1, T, [], ⟨1, [(0, ⟨e, cs, true⟩)]⟩⟩) : FGr P f args e cs len cs' := by
  subst hn; subst hT; subst hrs
  refine AFn.of_body hf hb (by rw [Nat.ble_eq] at hl; exact hl) (awp_mono h fun e s q => ?_)
  cases e with
  | normal => obtain ⟨j, q1, q2, q3, q4⟩ := q; exact ⟨_, q1, q3, j, rfl, q2, q4⟩
  | ret => obtain ⟨j, q1, q2, q3, q4⟩ := q; exact ⟨_, q1, q3, j, rfl, q2, q4⟩
  | _ => exact q.elim
section
variable {P : Program} {n0 b0 : Nat} {Tm : List (Nat × Value)} {Lo : List (List Value)} {He : AH} {f : Operand} {args : Array Operand} {ts : Array TypeId} {d : Option Tmp} {ty : TypeId} {pos : String} {af : Array Edge} {gd : Option (Nat × Bool)}
theorem ex_callGr {g : FuncId} {cap : Array Value} {vs vs' : List Value} {n len e : Nat} {cs cs' : List Value} {H' : AH} (hf : ev Tm f = .func (.func g) #[] cap) (hg : enterable P g = true) (ha : CArgs Tm args cap vs) (hb : He.get n = some ⟨e, cs, true⟩) (hrn : L2 (RnM n) vs vs')
    (hc : FGr P g vs' e cs len cs') (hH : He.set n ⟨e, cs', true⟩ = H') : AExec P ⟨d, .call ⟨.value f, args, ts⟩, ty, pos, af, gd⟩ ⟨n0, b0, Tm, Lo, He⟩ (GV n len) Lo H' := by
  intro hm lb w0 U w a Q r
  subst hH
  obtain ⟨cargs, hrun, hargs⟩ := call_run (d := d) (ts := ts) (ty := ty) (pos := pos) (af := af) (gd := gd) r hf hg ha
  obtain ⟨i, g1, g2, g3, g4, _⟩ := r.blk n _ hb
  have hargs' : L2 (VR (hm.only i) []) vs' cargs.toList := by
    refine ⟨hrn.1.symm.trans hargs.1, fun k x' y hx' hy => ?_⟩
    have hk : k < vs.length := by rw [hrn.1]; exact lookup_lt hx'
    have hx := List.getElem?_eq_getElem hk
    exact (hrn.2 k _ _ hx hx').vr g1 (hargs.2 k _ _ hx hy)
  unfold Oper.wp
  rw [hrun]
  refine (hc (hm.only i) w (oneU hm w i) w cargs (r.enter1 hb g1) hargs').mono fun e' w' q => ?_
  obtain ⟨hm', v', cv, H', rfl, q2, q3, q4, q5, j, rfl, q7, q8⟩ := q
  obtain ⟨i', k1, k2, k3, k4, _⟩ := q4.blk j _ q7
  have hii : i.le i' := by
    rcases q8 with rfl | q8
    · obtain ⟨i2, m1, m2⟩ := q2.map 0 i (by show 0 < 1; omega) (by simp [GM.only])
      rw [k1] at m1; cases m1; exact m2
    · refine .inr ⟨g3, k3, k2.trans g2.symm, ?_⟩
      rw [(g4 rfl).1, (k4 rfl).1]; exact q8
  obtain ⟨h1, h2⟩ := r.backJ hb g1 q2.fz q4 q7 k1 hii
  refine ⟨_, lb, cv, h1, LM.le_refl _, rfl, ?_, h2⟩
  obtain ⟨i2, p, c, m1, m2⟩ := q5.sr rfl
  simp only at m1
  rw [k1] at m1; cases m1
  exact .of_sr rfl ⟨i', p, c, GM.put_same, m2⟩
end
/-- Only if it is longer. -/
def growR {α : Type} (xs ys : List α) : Option (List α) := if xs.length < ys.length then some ys else none
theorem growR_of {α : Type} {xs ys r : List α} (h : growR xs ys = some r) : ys = r ∧ xs.length < ys.length := by
  unfold growR at h
  split at h
  · cases h; exact ⟨rfl, by assumption⟩
  · cases h
theorem flat_lt {α : Type} {c : α → List Value} {s : Nat} {xs ys : List α} (hc : CE c (s + 1)) (h : xs.length < ys.length) : (xs.flatMap c).length < (ys.flatMap c).length := by
  have h1 := hc.flat xs
  have h2 := hc.flat ys
  rw [h1, h2]
  exact Nat.mul_lt_mul_of_pos_right h (Nat.succ_pos s)
end Go.Fhl
