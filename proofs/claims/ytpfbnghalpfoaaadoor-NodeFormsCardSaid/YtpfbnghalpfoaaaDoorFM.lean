/-
  A logic over the model, continued: boxes of the frame that hold a slice that grows. Nothing of any program stands here.
-/
import Derived.Test.YtpfbnghalpfoaaaDoorFS
namespace Go.Fhl
set_option linter.unusedVariables false
set_option linter.unusedSimpArgs false
section
variable {α : Type} {c : α → List Value} {s : Nat} {xs : List α}
theorem fzcN {m : Nat} {b : Blk} : L2 (Fz m b) [] [] := .nil
theorem fzcK {m : Nat} {b : Blk} {v : Value} {l l' : List Value} (h : L2 (Fz m b) l l') : L2 (Fz m b) (v :: l) (v :: l') := .cons (.inl rfl) h
theorem fzcG {m k : Nat} {l l' : List Value} (hc : CE c (s + 1)) (hn : k = xs.length) (h : L2 (Fz m ⟨s + 1, xs.flatMap c, true⟩) l l') : L2 (Fz m ⟨s + 1, xs.flatMap c, true⟩) (GV m k :: l) (SL (s + 1) c xs :: l') := by
  subst hn
  have hl := hc.flat xs
  exact .cons (.inr ⟨0, xs.length, xs.length, some 1, s, rfl, rfl, by rw [List.drop_zero, List.take_of_length_le (by simp only; omega)]; rfl, by simp only; omega, .inr ⟨rfl, rfl, rfl, by simp only; omega⟩⟩) h
theorem fzlN {m : Nat} {b : Blk} : L2 (L2 (Fz m b)) [] [] := .nil
theorem fzlK {m : Nat} {b : Blk} {l l' : List Value} {L L' : List (List Value)} (h : L2 (Fz m b) l l') (k : L2 (L2 (Fz m b)) L L') : L2 (L2 (Fz m b)) (l :: L) (l' :: L') := .cons h k
theorem fzlS {m : Nat} {b : Blk} {l : List Value} {L L' : List (List Value)} (k : L2 (L2 (Fz m b)) L L') : L2 (L2 (Fz m b)) (l :: L) (l :: L') :=
  .cons ⟨rfl, fun i x y hx hy => by rw [hx] at hy; cases hy; exact .inl rfl⟩ k
end
section
variable {P : Program} {ops : Array Oper} {Q : Exit → AS → Prop} {i n b : Nat} {l : List Oper} {T : List (Nat × Value)} {L L' : List (List Value)} {H : AH}
/-- A nil slice in a box as one that may grow. -/
theorem Rel.nilGroL {hm : GM} {lb : LM} {w0 : World} {U : Env} {w : World} {a : Act} {k j s : Nat} {cs : List Value} (r : Rel hm lb w0 U ⟨n, b, T, L, H⟩ w a) (hk : L[k]? = some cs) (hj : cs[j]? = some (.slice none 0 0)) (hs : 1 ≤ s) :
    ∃ hm', hm.le hm' ∧ Rel hm' lb w0 U ⟨n, b, T, L.set k (cs.set j (GV H.next 0)), H.alloc ⟨s, [], true⟩⟩ w a := by
  obtain ⟨h1, h2⟩ := r.newGro s hs
  refine ⟨_, h1, { toHRel := h2.toHRel, defers := h2.defers, tsize := h2.tsize, base_le := h2.base_le, tmps := h2.tmps, llen := by rw [h2.llen]; simp, loc := ?_, linj := h2.linj, lheap := h2.lheap }⟩
  intro q ds hq
  simp only at hq
  by_cases e : k = q
  · subst e
    have hlt := lookup_lt hk
    rw [List.getElem?_set_self hlt] at hq
    cases hq
    obtain ⟨B, C, el, fz, k1, k2, k3, k4, k5, k6, k7⟩ := h2.loc k cs hk
    refine ⟨B, C, el, fz, k1, k2, by rw [k3]; simp, k4, k5, k6, fun p v hp => ?_⟩
    by_cases e2 : j = p
    · subst e2
      rw [List.getElem?_set_self (lookup_lt hj)] at hp
      cases hp
      obtain ⟨v', q1, q2⟩ := k7 j _ hj
      obtain rfl : v' = _ := q2
      exact ⟨_, q1, _, none, 0, GM.put_same, rfl, rfl, by simp, fun _ => ⟨Nat.le_refl _, fun q => absurd rfl q, by simp⟩⟩
    · rw [List.getElem?_set_ne e2] at hp
      exact k7 p v hp
  · rw [List.getElem?_set_ne e] at hq
    exact h2.loc q ds hq
theorem awp_nilGroL {c : Code} (k j s : Nat) {cs : List Value} (hk : L[k]? = some cs) (hj : cs[j]? = some (.slice none 0 0)) (hs : 1 ≤ s) (hL : L.set k (cs.set j (GV H.next 0)) = L') (h : AWp P c Q ⟨n, b, T, L', H.alloc ⟨s, [], true⟩⟩) : AWp P c Q ⟨n, b, T, L, H⟩ := by
  subst hL
  intro hm lb w0 U w a r
  obtain ⟨hm', h1, h2⟩ := r.nilGroL hk hj hs
  exact wp_mono (h _ _ w0 U w a h2) fun e a w q => Post.mono (h1.leb b) q
theorem arun_nilGroL (k j s : Nat) {cs : List Value} (hk : L[k]? = some cs) (hj : cs[j]? = some (.slice none 0 0)) (hs : 1 ≤ s) (hL : L.set k (cs.set j (GV H.next 0)) = L') (h : ARun P ops i l Q ⟨n, b, T, L', H.alloc ⟨s, [], true⟩⟩) : ARun P ops i l Q ⟨n, b, T, L, H⟩ := by
  subst hL
  intro hl hm lb w0 U w a r
  obtain ⟨hm', h1, h2⟩ := r.nilGroL hk hj hs
  exact wpOps_mono (fun e a w q => Post.mono (h1.leb b) q) _ _ _ (h hl _ _ w0 U w a h2)
end
/-- An aggregate with nil where an empty row is meant. -/
theorem eW {T : List (Nat × Value)} {x : Operand} {vs : Array Value} {ws : List Value} (h : ev T x = .agg vs) (hw : WkL vs.toList ws) : EV T x (.agg ws.toArray) := fun hm lb cv e => by
  rw [h] at e
  obtain ⟨cs, rfl, h2⟩ := e
  exact ⟨cs, rfl, wk_L2 hw h2⟩
end Go.Fhl
