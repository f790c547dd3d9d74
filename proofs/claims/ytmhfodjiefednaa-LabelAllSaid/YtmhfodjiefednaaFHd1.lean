/-
  A logic over the model, in one text.
-/
import Derived.Test.YtmhfodjiefednaaFHc1
import Derived.Below
import Derived.Lib.Join
import Derived.Lib.Repeat
import Derived.Lib.Bytealg
import Derived.Lib.BitFns
/-
  A logic over the model, part seventeen: functions of the library.
-/
namespace Go.Fhl
open Go.RowKit
set_option linter.unusedVariables false
set_option linter.unusedSimpArgs false
theorem HRel.below {hm : GM} {w0 : World} {U : Env} {w w' : World} (r : HRel hm w0 U AH.empty w) (h : Below w.heap.size w w') : HRel hm w0 U AH.empty w' where
  os := h.os.trans r.os
  tape := h.tape.trans r.tape
  output := h.output.trans r.output
  size := Nat.le_trans r.size h.size
  prot := fun B hB => by
    obtain ⟨h1, h2⟩ := r.prot B hB
    exact ⟨h1, (h.block B (r.ult hB)).trans h2⟩
  protz := r.protz
  fresh := r.fresh
  frz := fun B k v hz => by
    obtain ⟨h1, C, e, fz, v', h2, h3, h4⟩ := r.frz B k v hz
    exact ⟨h1, C, e, fz, v', (h.block B (r.fz_lt hz)).trans h2, h3, h4⟩
  blk := fun n b hb => by cases hb
  inj := fun n b n' b' i i' hb => by cases hb
/-- A function whose answer is plain, and that leaves what is there. -/
theorem ffn_of_below {P : Program} {f : FuncId} {args : List Value} {v : Value} (hv : plain v = true)
    (h : ∀ (hm : GM) (w0 : World) (U : Env) (w : World) (cargs : Array Value), HRel hm w0 U AH.empty w → L2 (VR hm []) args cargs.toList → Calls P f cargs w fun e w' => e = .returned v ∧ Below w.heap.size w w') : FFn P f args v := by
  intro hm w0 U w cargs hr ha
  refine (h hm w0 U w cargs hr ha).mono fun e w' ⟨h1, h2⟩ => ?_
  exact ⟨hm, v, v, AH.empty, h1, GM.leb_refl _ _, Nat.le_refl _, hr.below h2, .of_plain hv, rfl⟩
/-- The cells of a frozen row of strings. -/
theorem deep_strs {hm : GM} {w0 : World} {U : Env} {w : World} {H : AH} (r : HRel hm w0 U H w) {xs : List Str} {cv : Value} (h : VR hm [] (SL 1 cS xs) cv) :
    ∃ a n cap, cv = .slice a n cap ∧ n = xs.length ∧ n ≤ cap ∧ (xs = [] ∨ ∃ B o, a = some ⟨B, o, none⟩ ∧ B < w.heap.size ∧ ∀ (j : Nat) (x : ByteArray), (xs.map sB)[j]? = some x → w.cell? ⟨B, o + j, none⟩ = some (.string x)) := by
  obtain ⟨a, n, cap, rfl, h2, h3, h4⟩ := h.sr rfl
  have hfl : ∀ (l : List Str), l.flatMap cS = l.map S := fun l => by
    induction l with
    | nil => rfl
    | cons x l ih => rw [List.flatMap_cons, ih]; rfl
  rw [List.toList_toArray, hfl] at h2 h4
  refine ⟨a, n, cap, rfl, by simpa using h2, h3, ?_⟩
  rcases h4 with h4 | ⟨B, o, rfl, h5⟩
  · exact .inl (by simpa using h4)
  · cases xs with
    | nil => exact .inl rfl
    | cons x0 xs0 =>
      refine .inr ⟨B, o, rfl, ?_, fun j x hj => ?_⟩
      · exact r.fz_lt (h5 0 (S x0) rfl)
      · rw [List.getElem?_map] at hj
        cases hx : (x0 :: xs0)[j]? with
        | none => rw [hx] at hj; cases hj
        | some y =>
          rw [hx] at hj; cases hj
          obtain ⟨_, C, e, fz, v', g1, g2, g3⟩ := r.frz B (o + j) (S y) (h5 j (S y) (by rw [List.getElem?_map, hx]; rfl))
          have : v' = S y := g3
          subst this
          simp [World.cell?, g1, g2]
/-- strings.Join. -/
def joinS (xs : List Str) (sep : Str) : Str := Lib.join xs sep
def M_join (xs : List Str) (sep : Str) : Option Str := if xs.length ≤ 140737488355328 ∧ (joinS xs sep).length ≤ 140737488355328 then some (joinS xs sep) else none
theorem ffn_join {P : Program} {f : FuncId}
    (h0 : ∀ (a : Option Addr) (c : Nat) (sep : ByteArray) (w : World), Calls P f #[.slice a 0 c, .string sep] w fun e w' => e = .returned (.string ⟨#[]⟩) ∧ w' = w)
    (h1 : ∀ (bk o c : Nat) (xs : List ByteArray) (sep : ByteArray) (w : World) (hcells : ∀ (j : Nat) x, xs[j]? = some x → w.cell? ⟨bk, o + j, none⟩ = some (.string x)) (hbk : bk < w.heap.size) (hN : xs.length ≤ 140737488355328) (hcap : xs.length ≤ c) (hlen : (Lib.join (xs.map (·.data.toList)) sep.data.toList).length ≤ 140737488355328),
      Calls P f #[.slice (some ⟨bk, o, none⟩) xs.length c, .string sep] w fun e w' => e = .returned (.string ⟨(Lib.join (xs.map (·.data.toList)) sep.data.toList).toArray⟩) ∧ Below w.heap.size w w')
    (t0 : List Str) (t1 : Str) (r : Str) (h : M_join t0 t1 = some r) : FFn P f [SL 1 cS t0, S t1] (S r) := by
  unfold M_join at h
  split at h
  · rename_i hc
    cases h
    refine ffn_of_below rfl fun hm w0 U w cargs hr ha => ?_
    obtain ⟨c1, t1', e1, a1, ha1⟩ := ha.cons_inv
    obtain ⟨c2, t2', e2, a2, ha2⟩ := ha1.cons_inv
    have e3 := ha2.nil_inv
    have hc2 : c2 = S t1 := a2.sr rfl
    have hcargs : cargs = #[c1, S t1] := by apply Array.toList_inj.1; rw [e1, e2, e3, hc2]
    rw [hcargs]
    obtain ⟨a, n, cap, rfl, rfl, h3, h4⟩ := deep_strs hr a1
    have hmap : (t0.map sB).map (·.data.toList) = t0 := by
      rw [List.map_map]
      have : ((fun (x : ByteArray) => x.data.toList) ∘ sB) = id := by funext x; exact sB_data x
      rw [this, List.map_id]
    rcases h4 with rfl | ⟨B, o, rfl, hB, hcells⟩
    · exact (h0 a cap (sB t1) w).mono fun e w' ⟨he, hw⟩ => ⟨he, hw ▸ Below.refl _ _⟩
    · have := h1 B o cap (t0.map sB) (sB t1) w hcells hB (by simpa using hc.1) (by simpa using h3) (by rw [hmap, sB_data]; exact hc.2)
      rw [hmap, sB_data, List.length_map] at this
      exact this
  · cases h
/-- Two arguments that are plain. -/
theorem args2 {hm : GM} {x y : Value} {cargs : Array Value} (hx : plain x = true) (hy : plain y = true) (ha : L2 (VR hm []) [x, y] cargs.toList) : cargs = #[x, y] := by
  obtain ⟨c1, t1', e1, a1, ha1⟩ := ha.cons_inv
  obtain ⟨c2, t2', e2, a2, ha2⟩ := ha1.cons_inv
  have e3 := ha2.nil_inv
  apply Array.toList_inj.1; rw [e1, e2, e3, a1.plain hx, a2.plain hy]
/-- strings.Repeat. -/
def M_repeat (s : Str) (c : Int) : Option Str := if 0 ≤ c ∧ c ≤ 9223372036854775807 ∧ s.length * c.toNat ≤ 140737488355328 then some (Lib.repeatL s c.toNat) else none
theorem ffn_repeat {P : Program} {f : FuncId}
    (h1 : ∀ (s : ByteArray) (c : Nat) (w : World) (hc : c ≤ 9223372036854775807) (hlen : s.size * c ≤ 140737488355328), Calls P f #[.string s, .int .i64 c] w fun e w' => e = .returned (.string ⟨(Lib.repeatL s.data.toList c).toArray⟩) ∧ Below w.heap.size w w')
    (t0 : Str) (t1 : Int) (r : Str) (h : M_repeat t0 t1 = some r) : FFn P f [S t0, I t1] (S r) := by
  unfold M_repeat at h
  split at h
  · rename_i hc
    cases h
    refine ffn_of_below rfl fun hm w0 U w cargs hr ha => ?_
    rw [args2 (by rfl) (by rfl) ha]
    obtain ⟨c, rfl⟩ : ∃ c : Nat, t1 = c := ⟨t1.toNat, by omega⟩
    have := h1 (sB t0) c w (by omega) (by rw [sB_size]; simpa using hc.2.2)
    rw [sB_data] at this
    rw [Int.toNat_natCast]
    exact this
  · cases h
end Go.Fhl

/-
  A logic over the model, part nineteen: more functions of the library.
-/
namespace Go.Fhl
open Go.RowKit
set_option linter.unusedVariables false
set_option linter.unusedSimpArgs false
/-! ### Guards that are known -/
theorem gT {x : Option Bool} {g : Bool} (h : x = some g) (hc : g = true) : x = some true := by rw [h, hc]
theorem gF {x : Option Bool} {g : Bool} (h : x = some g) (hc : g = false) : x = some false := by rw [h, hc]
theorem pkAndD {c a : Bool} : cond c (Value.bool a) (.bool false) = Value.bool (c && a) := by cases c <;> rfl
theorem pkAndS {c : Bool} {w : Value} (h : (c == true) = false) : cond c w (.bool false) = Value.bool c := by cases c <;> first | rfl | cases h
/-- strings.IndexByte. -/
def M_indexByte (s : Str) (c : UInt8) : Option Int := some (Lib.indexByte s c)
/-- strings.Index, where one byte is looked for. -/
def M_index (s t : Str) : Option Int := match t with | [c] => some (Lib.indexByte s c) | _ => none
/-- strings.Count, where one byte is counted. -/
def M_count (s t : Str) : Option Int := match t with | [c] => some (Lib.countByte s c : Int) | _ => none
end Go.Fhl

/-
  A logic over the model, continued: boxes of the frame that hold a slice that grows. Nothing of any program stands here.
-/
namespace Go.Fhl
set_option linter.unusedVariables false
set_option linter.unusedSimpArgs false
section
variable {α : Type} {c : α → List Value} {s : Nat} {xs : List α}
theorem fzcN {m : Nat} {b : Blk} : L2 (Fz m b) [] [] := .nil
theorem fzcK {m : Nat} {b : Blk} {v : Value} {l l' : List Value} (h : L2 (Fz m b) l l') : L2 (Fz m b) (v :: l) (v :: l') := .cons (.inl rfl) h
theorem fzcG {m k : Nat} {l l' : List Value} (hc : CE c (s + 1)) (hn : k = xs.length) (h : L2 (Fz m ⟨s + 1, xs.flatMap c, true⟩) l l') : L2 (Fz m ⟨s + 1, xs.flatMap c, true⟩) (GV m k :: l) (SL (s + 1) c xs :: l') := by
  subst hn
  have hl := hc.flat xs
  exact .cons (.inr ⟨0, xs.length, xs.length, some 1, s, rfl, rfl, by rw [List.drop_zero, List.take_of_length_le (by simp only; omega)]; rfl, by simp only; omega, .inr ⟨rfl, rfl, rfl, by simp only; omega⟩⟩) h
theorem fzlN {m : Nat} {b : Blk} : L2 (L2 (Fz m b)) [] [] := .nil
theorem fzlK {m : Nat} {b : Blk} {l l' : List Value} {L L' : List (List Value)} (h : L2 (Fz m b) l l') (k : L2 (L2 (Fz m b)) L L') : L2 (L2 (Fz m b)) (l :: L) (l' :: L') := .cons h k
theorem fzlS {m : Nat} {b : Blk} {l : List Value} {L L' : List (List Value)} (k : L2 (L2 (Fz m b)) L L') : L2 (L2 (Fz m b)) (l :: L) (l :: L') :=
  .cons ⟨rfl, fun i x y hx hy => by rw [hx] at hy; cases hy; exact .inl rfl⟩ k
end
section
variable {P : Program} {ops : Array Oper} {Q : Exit → AS → Prop} {i n b : Nat} {l : List Oper} {T : List (Nat × Value)} {L L' : List (List Value)} {H : AH}
/-- A nil slice in a box as one that may grow. -/
theorem Rel.nilGroL {hm : GM} {lb : LM} {w0 : World} {U : Env} {w : World} {a : Act} {k j s : Nat} {cs : List Value} (r : Rel hm lb w0 U ⟨n, b, T, L, H⟩ w a) (hk : L[k]? = some cs) (hj : cs[j]? = some (.slice none 0 0)) (hs : 1 ≤ s) :
    ∃ hm', hm.le hm' ∧ Rel hm' lb w0 U ⟨n, b, T, L.set k (cs.set j (GV H.next 0)), H.alloc ⟨s, [], true⟩⟩ w a := by
  obtain ⟨h1, h2⟩ := r.newGro s hs
  refine ⟨_, h1, { toHRel := h2.toHRel, defers := h2.defers, tsize := h2.tsize, base_le := h2.base_le, tmps := h2.tmps, llen := by rw [h2.llen]; simp, loc := ?_, linj := h2.linj, lheap := h2.lheap }⟩
  intro q ds hq
  simp only at hq
  by_cases e : k = q
  · subst e
    have hlt := lookup_lt hk
    rw [List.getElem?_set_self hlt] at hq
    cases hq
    obtain ⟨B, C, el, fz, k1, k2, k3, k4, k5, k6, k7⟩ := h2.loc k cs hk
    refine ⟨B, C, el, fz, k1, k2, by rw [k3]; simp, k4, k5, k6, fun p v hp => ?_⟩
    by_cases e2 : j = p
    · subst e2
      rw [List.getElem?_set_self (lookup_lt hj)] at hp
      cases hp
      obtain ⟨v', q1, q2⟩ := k7 j _ hj
      obtain rfl : v' = _ := q2
      exact ⟨_, q1, _, none, 0, GM.put_same, rfl, rfl, by simp, fun _ => ⟨Nat.le_refl _, fun q => absurd rfl q, by simp⟩⟩
    · rw [List.getElem?_set_ne e2] at hp
      exact k7 p v hp
  · rw [List.getElem?_set_ne e] at hq
    exact h2.loc q ds hq
theorem awp_nilGroL {c : Code} (k j s : Nat) {cs : List Value} (hk : L[k]? = some cs) (hj : cs[j]? = some (.slice none 0 0)) (hs : 1 ≤ s) (hL : L.set k (cs.set j (GV H.next 0)) = L') (h : AWp P c Q ⟨n, b, T, L', H.alloc ⟨s, [], true⟩⟩) : AWp P c Q ⟨n, b, T, L, H⟩ := by
  subst hL
  intro hm lb w0 U w a r
  obtain ⟨hm', h1, h2⟩ := r.nilGroL hk hj hs
  exact wp_mono (h _ _ w0 U w a h2) fun e a w q => Post.mono (h1.leb b) q
end
/-- An aggregate with nil where an empty row is meant. -/
theorem eW {T : List (Nat × Value)} {x : Operand} {vs : Array Value} {ws : List Value} (h : ev T x = .agg vs) (hw : WkL vs.toList ws) : EV T x (.agg ws.toArray) := fun hm lb cv e => by
  rw [h] at e
  obtain ⟨cs, rfl, h2⟩ := e
  exact ⟨cs, rfl, wk_L2 hw h2⟩
end Go.Fhl

/-
  A logic over the model, continued: parts of elements, frozen boxes, closures, parts of rows, copies. Nothing of any program stands here.
-/
namespace Go.Fhl
set_option linter.unusedVariables false
set_option linter.unusedSimpArgs false
section
variable {α : Type} {c : α → List Value} {s : Nat} {xs ys : List α} {e e' : α}
/-! ## Parts of elements -/
variable {P : Program} {n0 b0 : Nat} {Tm : List (Nat × Value)} {Lo : List (List Value)} {He : AH} {v : Value} {x y : Operand} {d : Option Tmp} {ty : TypeId} {pos : String} {af : Array Edge} {g : Option (Nat × Bool)}
/-! ## A box that is never written again -/
end

/-! ## A named block that is a box: frozen -/
def FzP (n : Nat) (b : Blk) (v v' : Value) : Prop := v' = v ∨ ∃ off, v = NP n off ∧ v' = DP (b.cells.drop off)
def FzPT (n : Nat) (b : Blk) (T T' : List (Nat × Value)) : Prop := ∀ t v', lk T' t = some v' → ∃ v, lk T t = some v ∧ FzP n b v v'
theorem FzPT.nil {n : Nat} {b : Blk} {T : List (Nat × Value)} : FzPT n b T [] := fun t v h => by simp [lk] at h
theorem FzPT.keep {n : Nat} {b : Blk} {T T' : List (Nat × Value)} {t : Nat} {v : Value} (h : lk T t = some v) (k : FzPT n b T T') : FzPT n b T ((t, v) :: T') := by
  intro u v' hu
  rcases lk_push hu with ⟨rfl, rfl⟩ | ⟨h1, h2⟩
  · exact ⟨_, h, .inl rfl⟩
  · exact k u v' h2
theorem FzPT.conv {n : Nat} {b : Blk} {T T' : List (Nat × Value)} {t off : Nat} {cs : List Value} (h : lk T t = some (NP n off)) (hcs : b.cells.drop off = cs) (k : FzPT n b T T') : FzPT n b T ((t, DP cs) :: T') := by
  intro u v' hu
  rcases lk_push hu with ⟨rfl, rfl⟩ | ⟨h1, h2⟩
  · exact ⟨_, h, .inr ⟨off, rfl, by rw [hcs]⟩⟩
  · exact k u v' h2
section
variable {P : Program} {ops : Array Oper} {Q : Exit → AS → Prop} {i n b : Nat} {l : List Oper} {T T' : List (Nat × Value)} {L : List (List Value)} {H : AH}
end

/-! ## Closures that are handed on -/
def pureA : Value → Bool
  | .func _ f cs => f.isEmpty && cs.toList.all pure1
  | v => pureV v
theorem PR.pureP {hm hm' : GM} {lb lb' : LM} {x v : Value} (h : pure1 x = true) (hf : ∀ B k v, hm.fz B k = some v → hm'.fz B k = some v) (e : PR hm lb x v) : PR hm' lb' x v := by
  cases x <;> first | (simp [pure1] at h; done) | exact e | skip
  case pointer a => cases a <;> first | exact e | (simp [pure1] at h; done)
  case iface t x => cases x <;> first | (simp [pure1] at h; done) | exact DeepR.mono hf e
theorem VR.pureA {hm hm' : GM} {lb lb' : LM} {x v : Value} (h : pureA x = true) (hf : ∀ B k v, hm.fz B k = some v → hm'.fz B k = some v) (e : VR hm lb x v) : VR hm' lb' x v := by
  by_cases q : ∃ f a cs, x = .func f a cs
  · obtain ⟨f, a, cs, rfl⟩ := q
    obtain ⟨c', h1, h2, h3⟩ := e.sr rfl
    simp only [Fhl.pureA, Bool.and_eq_true] at h
    exact .of_sr rfl ⟨c', h1, h2, h3.mono fun x y hx z => z.pureP (List.all_eq_true.1 h.2 x hx) hf⟩
  · have hp : pureV x = true := by
      cases x <;> first | exact h | exact absurd ⟨_, _, _, rfl⟩ q
    exact VR.pure hp hf e
/-- An argument as the callee names it: the caller's block n is its block 0. -/
def RnP (n : Nat) (x x' : Value) : Prop := (pure1 x = true ∧ x' = x) ∨ ∃ off, x = NP n off ∧ x' = NP 0 off
def RnM (n : Nat) (x x' : Value) : Prop :=
  (pureV x = true ∧ x' = x) ∨ (∃ off, x = NP n off ∧ x' = NP 0 off) ∨ (∃ len, x = GV n len ∧ x' = GV 0 len) ∨ (∃ len, x = FV n len ∧ x' = FV 0 len) ∨ ∃ g cs cs', x = .func g #[] cs ∧ x' = .func g #[] cs' ∧ L2 (RnP n) cs.toList cs'.toList
theorem RnM.vr {hm : GM} {lb : LM} {n : Nat} {i : Info} (hi : hm.map n = some i) {x x' v : Value} (h : RnM n x x') (e : VR hm lb x v) : VR (hm.only i) [] x' v := by
  have h0 : (hm.only i).map 0 = some i := by simp [GM.only]
  rcases h with ⟨h1, rfl⟩ | ⟨off, rfl, rfl⟩ | ⟨len, rfl, rfl⟩ | ⟨len, rfl, rfl⟩ | ⟨g, cs, cs', rfl, rfl, h2⟩
  · exact VR.pure (hm := hm) h1 (fun _ _ _ z => z) e
  · obtain ⟨c, ⟨i', k1, k2, k3⟩, rfl⟩ := e.sr rfl
    simp only at k1
    rw [hi] at k1; cases k1
    exact .of_sr rfl ⟨c, ⟨i, h0, k2, k3⟩, rfl⟩
  · obtain ⟨i', p, c, k1, k2⟩ := e.sr rfl
    simp only at k1
    rw [hi] at k1; cases k1
    exact .of_sr rfl ⟨i, p, c, h0, k2⟩
  · obtain ⟨i', o, k1, k2⟩ := e.sr rfl
    simp only at k1
    rw [hi] at k1; cases k1
    exact .of_sr rfl ⟨i, o, h0, k2⟩
  · obtain ⟨c', h3, h4, h5⟩ := e.sr rfl
    refine .of_sr rfl ⟨c', h3, h4, h2.1.symm.trans h5.1, fun k x' y hx' hy => ?_⟩
    have hk : k < cs.toList.length := by rw [h2.1]; exact lookup_lt hx'
    have hx := List.getElem?_eq_getElem hk
    have hv := h5.2 k _ _ hx hy
    rcases h2.2 k _ _ hx hx' with ⟨q1, rfl⟩ | ⟨off, q1, rfl⟩
    · exact PR.pureP (hm := hm) (lb := lb) q1 (fun _ _ _ z => z) hv
    · rw [q1] at hv
      obtain ⟨c, ⟨i', k1, k2, k3⟩, rfl⟩ := hv
      simp only at k1
      rw [hi] at k1; cases k1
      exact ⟨c, ⟨i, h0, k2, k3⟩, rfl⟩
section
variable {P : Program} {n0 b0 : Nat} {Tm : List (Nat × Value)} {Lo : List (List Value)} {He : AH} {f : Operand} {args : Array Operand} {ts : Array TypeId} {d : Option Tmp} {ty : TypeId} {pos : String} {af : Array Edge} {gd : Option (Nat × Bool)}
/-- A call of a function of values and closures alone. -/
theorem ex_callA {g : FuncId} {cap : Array Value} {vs : List Value} {v : Value} (hf : ev Tm f = .func (.func g) #[] cap) (hg : enterable P g = true) (ha : CArgs Tm args cap vs) (hp : vs.all pureA = true) (hc : FFn P g vs v) (hv : pureV v = true) :
    AExec P ⟨d, .call ⟨.value f, args, ts⟩, ty, pos, af, gd⟩ ⟨n0, b0, Tm, Lo, He⟩ v Lo He := by
  intro hm lb w0 U w a Q r
  obtain ⟨cargs, hrun, hargs⟩ := call_run (d := d) (ts := ts) (ty := ty) (pos := pos) (af := af) (gd := gd) r hf hg ha
  have hargs' : L2 (VR hm.bare []) vs cargs.toList := hargs.mono fun x y hx q => VR.pureA (hm := hm) (List.all_eq_true.1 hp x hx) (fun _ _ _ z => z) q
  unfold Oper.wp
  rw [hrun]
  refine (hc hm.bare w (hideU hm w) w cargs r.hide hargs').mono fun e w' q => ?_
  obtain ⟨hm', v', cv, H', rfl, q2, q3, q4, q5, rfl⟩ := q
  obtain ⟨h1, h2⟩ := r.unhide q2.fz q4
  exact ⟨_, lb, cv, h1, LM.le_refl _, rfl, VR.pure (hm := hm') hv (fun _ _ _ z => z) q5, h2⟩
/-- A call of a function that is handed one named block. -/
theorem ex_callM {g : FuncId} {cap : Array Value} {vs vs' : List Value} {v : Value} {n : Nat} {b b' : Blk} {H' : AH} (hf : ev Tm f = .func (.func g) #[] cap) (hg : enterable P g = true) (ha : CArgs Tm args cap vs) (hb : He.get n = some b) (hrn : L2 (RnM n) vs vs')
    (hc : AFn P g vs' ⟨1, [(0, b)]⟩ fun x H' => x = v ∧ H'.get 0 = some b') (hv : pureV v = true) (hH : He.set n b' = H') : AExec P ⟨d, .call ⟨.value f, args, ts⟩, ty, pos, af, gd⟩ ⟨n0, b0, Tm, Lo, He⟩ v Lo H' := by
  intro hm lb w0 U w a Q r
  subst hH
  obtain ⟨cargs, hrun, hargs⟩ := call_run (d := d) (ts := ts) (ty := ty) (pos := pos) (af := af) (gd := gd) r hf hg ha
  obtain ⟨i, g1, g2, g3, _⟩ := r.blk n b hb
  have hargs' : L2 (VR (hm.only i) []) vs' cargs.toList := by
    refine ⟨hrn.1.symm.trans hargs.1, fun k x' y hx' hy => ?_⟩
    have hk : k < vs.length := by rw [hrn.1]; exact lookup_lt hx'
    have hx := List.getElem?_eq_getElem hk
    exact (hrn.2 k _ _ hx hx').vr g1 (hargs.2 k _ _ hx hy)
  unfold Oper.wp
  rw [hrun]
  refine (hc (hm.only i) w (oneU hm w i) w cargs (r.enter1 hb g1) hargs').mono fun e w' q => ?_
  obtain ⟨hm', v', cv, H', rfl, q2, q3, q4, q5, rfl, q7⟩ := q
  obtain ⟨i', h0, h1, h2⟩ := r.back1 hb g1 q2 q4 q7
  exact ⟨_, lb, cv, h1, LM.le_refl _, rfl, VR.pure (hm := hm') hv (fun _ _ _ z => z) q5, h2⟩
end
/-- A row that is as long as it was. -/
def withLen {α ρ : Type} (xs : List α) (o : Option (ρ × List α)) : Option (ρ × List α) := o.bind fun p => if p.2.length = xs.length then some p else none
theorem withLen_of {α ρ : Type} {xs : List α} {o : Option (ρ × List α)} {p : ρ × List α} (h : withLen xs o = some p) : o = some p := by
  unfold withLen at h
  cases o with
  | none => cases h
  | some q =>
    change (if q.2.length = xs.length then some q else none) = some p at h
    split at h
    · exact h
    · cases h
theorem withLen_len {α ρ : Type} {xs : List α} {o : Option (ρ × List α)} {p : ρ × List α} (h : withLen xs o = some p) : xs.length = p.2.length := by
  unfold withLen at h
  cases o with
  | none => cases h
  | some q =>
    change (if q.2.length = xs.length then some q else none) = some p at h
    split at h
    · rename_i e; cases h; exact e.symm
    · cases h
end Go.Fhl

/-
  A logic over the model, continued: what hangs on whether a row is nil; copies of texts into rows of bytes. Nothing of any program stands here.
-/
namespace Go.Fhl
set_option linter.unusedVariables false
set_option linter.unusedSimpArgs false
section
variable {P : Program} {ops : Array Oper} {Q : Exit → AS → Prop} {i n b d : Nat} {o : Oper} {l : List Oper} {T : List (Nat × Value)} {L : List (List Value)} {H : AH}
end
/-! ## Copies of texts -/
def copyL (xs : List UInt8) (off : Nat) (u : Str) : List UInt8 := xs.take off ++ (u.take (min u.length (xs.length - off)) ++ xs.drop (off + min u.length (xs.length - off)))
section
variable {P : Program} {n0 b0 : Nat} {Tm : List (Nat × Value)} {Lo : List (List Value)} {He : AH} {x y : Operand} {d : Option Tmp} {ty : TypeId} {pos : String} {af : Array Edge} {g : Option (Nat × Bool)}
/-- A part of a row that may grow, to be written. -/
abbrev SUB (n off len K : Nat) : Value := .slice (some ⟨n, off, some 2⟩) len K
def inS (n : Nat) (l : Int) : Option Unit := if 0 ≤ l ∧ l ≤ n then some () else none
end
end Go.Fhl

/-
  A logic over the model, continued: blocks lent to a callee that only reads; functions that hand out a new row. Nothing of any program stands here.
-/
namespace Go.Fhl
set_option linter.unusedVariables false
set_option linter.unusedSimpArgs false
/-- What a caller knows stays, when all that was there stays. -/
theorem HRel.ext {hm : GM} {w0 : World} {U : Env} {H : AH} {w w' : World} (r : HRel hm w0 U H w) (h1 : w'.os = w.os) (h2 : w'.tape = w.tape) (h3 : w'.output = w.output) (h4 : w.heap.size ≤ w'.heap.size) (h5 : ∀ B, B < w.heap.size → w'.heap[B]? = w.heap[B]?) : HRel hm w0 U H w' where
  os := h1.trans r.os
  tape := h2.trans r.tape
  output := h3.trans r.output
  size := Nat.le_trans r.size h4
  prot := fun B hB => ⟨(r.prot B hB).1, (h5 B (r.ult hB)).trans (r.prot B hB).2⟩
  protz := r.protz
  fresh := r.fresh
  frz := fun B k v hz => by
    obtain ⟨g1, C, e, fz, v', g2, g3, g4⟩ := r.frz B k v hz
    exact ⟨g1, C, e, fz, v', (h5 B (r.fz_lt hz)).trans g2, g3, g4⟩
  blk := fun n b hb => by
    obtain ⟨i, g1, g2, g3, g4, gp, g5⟩ := r.blk n b hb
    refine ⟨i, g1, g2, g3, g4, gp, g5.imp id ?_⟩
    rintro ⟨C, e, fz, k1, k2, k3, k4, k5, k6, k7⟩
    exact ⟨C, e, fz, (h5 _ (lt_of_get k1)).trans k1, k2, k3, k4, k5, k6, k7⟩
  inj := r.inj
theorem Rel.ext {hm : GM} {lb : LM} {w0 : World} {U : Env} {st : AS} {w w' : World} {a : Act} (r : Rel hm lb w0 U st w a) (h1 : w'.os = w.os) (h2 : w'.tape = w.tape) (h3 : w'.output = w.output) (h4 : w.heap.size ≤ w'.heap.size) (h5 : ∀ B, B < w.heap.size → w'.heap[B]? = w.heap[B]?) : Rel hm lb w0 U st w' a :=
  r.frame (GM.le_refl _) (r.toHRel.ext h1 h2 h3 h4 h5) (Nat.le_refl _) (fun k B hk => ⟨h5 B (r.loc_lt hk), r.loc_fz hk⟩) (fun k B m c j hk hc hj hs => r.lheap k B m c j hk hc hj hs)
/-- What is the same under any names: plain ones, and tuples of them. -/
def plainT : Value → Bool
  | .tuple vs => vs.toList.all plain1 && !vs.isEmpty
  | v => plain v
theorem VR.plainT {hm hm' : GM} {lb lb' : LM} {x v : Value} (h : Fhl.plainT x = true) (e : VR hm lb x v) : VR hm' lb' x v := by
  by_cases q : ∃ vs, x = .tuple vs
  · obtain ⟨vs, rfl⟩ := q
    simp only [Fhl.plainT, Bool.and_eq_true, Bool.not_eq_true', Array.isEmpty_eq_false_iff] at h
    rcases e with e | ⟨e, e2⟩ | ⟨vs', rfl, h2⟩
    · exact absurd e h.2
    · subst e; simp [plain1] at h
    · refine .inr (.inr ⟨vs', rfl, h2.mono fun x y hx z => ?_⟩)
      have hp := List.all_eq_true.1 h.1 x hx
      exact .of_sr (plain_one hp) (by rw [(z.sr (plain_one hp)).plain hp]; exact SR.of_plain hp)
  · have hp : Fhl.plain x = true := by
      cases x <;> first | exact h | exact absurd ⟨_, rfl⟩ q
    rw [e.plain hp]; exact .of_plain hp
/-- An argument as the callee sees it: what is lent is frozen there. -/
def FzA (n : Nat) (b : Blk) (x x' : Value) : Prop :=
  x' = x ∨ Fz n b x x' ∨ FzP n b x x' ∨ (∃ cs cs', x = .agg cs ∧ x' = .agg cs' ∧ L2 (Fz n b) cs.toList cs'.toList) ∨ ∃ g cs cs', x = .func g #[] cs ∧ x' = .func g #[] cs' ∧ L2 (FzP n b) cs.toList cs'.toList
theorem FzP.pr {hm hm' : GM} {lb : LM} {n : Nat} {b : Blk} {i : Info} (hi : hm.map n = some i) (hle : hm.le hm') (hnew : ∀ j c, b.cells[j]? = some c → hm'.fz i.blk j = some c) {v v' cv : Value} (h : FzP n b v v') (e : PR hm lb v cv) : PR hm' lb v' cv := by
  rcases h with rfl | ⟨off, rfl, rfl⟩
  · exact e.mono hle (LM.le_refl _)
  · obtain ⟨p, ⟨i', q1, q2, q3⟩, rfl⟩ := e
    simp only at q1 q3
    rw [hi] at q1; cases q1
    exact ⟨_, off, by rw [q3], fun j c hj => hnew _ c (by simpa using hj)⟩
theorem FzA.vr {hm : GM} {lb : LM} {w0 : World} {U : Env} {st : AS} {w : World} {a : Act} (r : Rel hm lb w0 U st w a) {n : Nat} {b : Blk} {i : Info} (hb : st.heap.get n = some b) (hi : hm.map n = some i) {hm' : GM} (hle : hm.le hm') (hnew : ∀ j c, b.cells[j]? = some c → hm'.fz i.blk j = some c)
    {x x' v : Value} (h : FzA n b x x') (e : VR hm lb x v) : VR hm' lb x' v := by
  have fzv : ∀ x x' v, Fz n b x x' → VR hm lb x v → VR hm' lb x' v := fun x x' v h e => by
    rcases h.one with rfl | ⟨o1, o2⟩
    · exact e.mono hle (LM.le_refl _)
    · exact .of_sr o2 (h.sr r hb hi hle hnew (e.sr o1))
  rcases h with rfl | h | h | ⟨cs, cs', rfl, rfl, h⟩ | ⟨g, cs, cs', rfl, rfl, h⟩
  · exact e.mono hle (LM.le_refl _)
  · exact fzv _ _ _ h e
  · rcases h with rfl | ⟨off, rfl, rfl⟩
    · exact e.mono hle (LM.le_refl _)
    · obtain ⟨p, ⟨i', q1, q2, q3⟩, rfl⟩ := e.sr rfl
      simp only at q1 q3
      rw [hi] at q1; cases q1
      exact .of_sr rfl ⟨_, off, by rw [q3], fun j c hj => hnew _ c (by simpa using hj)⟩
  · obtain ⟨ds, rfl, h2⟩ := e
    refine ⟨ds, rfl, h.1.symm.trans h2.1, fun k y z hy hz => ?_⟩
    have hk : k < cs.toList.length := by rw [h.1]; exact lookup_lt hy
    have hx := List.getElem?_eq_getElem hk
    exact (h.2 k _ _ hx hy).sr r hb hi hle hnew (h2.2 k _ _ hx hz)
  · obtain ⟨c', h3, h4, h5⟩ := e.sr rfl
    refine .of_sr rfl ⟨c', h3, h4, h.1.symm.trans h5.1, fun k y z hy hz => ?_⟩
    have hk : k < cs.toList.length := by rw [h.1]; exact lookup_lt hy
    have hx := List.getElem?_eq_getElem hk
    exact (h.2 k _ _ hx hy).pr hi hle hnew (h5.2 k _ _ hx hz)
theorem fzaG {α : Type} {c : α → List Value} {s : Nat} {xs : List α} {m k : Nat} (hc : CE c (s + 1)) (hn : k = xs.length) : Fz m ⟨s + 1, xs.flatMap c, true⟩ (GV m k) (SL (s + 1) c xs) := by
  subst hn
  have hl := hc.flat xs
  exact .inr ⟨0, xs.length, xs.length, some 1, s, rfl, rfl, by rw [List.drop_zero, List.take_of_length_le (by simp only; omega)]; rfl, by simp only; omega, .inr ⟨rfl, rfl, rfl, by simp only; omega⟩⟩
section
variable {P : Program} {n0 b0 : Nat} {Tm : List (Nat × Value)} {Lo : List (List Value)} {He : AH} {f : Operand} {args : Array Operand} {ts : Array TypeId} {d : Option Tmp} {ty : TypeId} {pos : String} {af : Array Edge} {gd : Option (Nat × Bool)}
end
/-! ## Functions that hand out a new row -/
def FOw (P : Program) (f : FuncId) (args : List Value) (len : Nat) (b : Blk) : Prop := AFn P f args AH.empty fun v H' => v = GV 0 len ∧ H'.get 0 = some b
def FinO (P : Program) (rs : List ResultVar) (len : Nat) (b : Blk) : Exit → AS → Prop
  | .normal, s | .ret, s => ARes P rs s (GV 0 len) ∧ s.heap.get 0 = some b ∧ Nat.blt 0 s.heap.next = true
  | _, _ => False
theorem FOw.of_body {P : Program} {f : FuncId} {fn : Func} {c : Code} {args : List Value} {n : Nat} {rs : List ResultVar} {T : List (Nat × Value)} {len : Nat} {b : Blk} (hf : P.funcs[f]? = some fn) (hb : fn.body = some c) (hn : fn.ntmps = n) (hl : Nat.ble args.length n = true) (hrs : fn.results.toList = rs) (hT : argsT 0 args = T)
    (h : AWp P c (FinO P rs len b) ⟨n, 0, T, [], ⟨0, []⟩⟩) : FOw P f args len b := by
  subst hn; subst hT; subst hrs
  refine AFn.of_body hf hb (by rw [Nat.ble_eq] at hl; exact hl) (awp_mono h fun e s q => ?_)
  cases e with
  | normal => exact ⟨_, q.1, q.2.2, rfl, q.2.1⟩
  | ret => exact ⟨_, q.1, q.2.2, rfl, q.2.1⟩
  | _ => exact q.elim
section
variable {P : Program} {n0 b0 : Nat} {Tm : List (Nat × Value)} {Lo : List (List Value)} {He : AH} {f : Operand} {args : Array Operand} {ts : Array TypeId} {d : Option Tmp} {ty : TypeId} {pos : String} {af : Array Edge} {gd : Option (Nat × Bool)}
end
end Go.Fhl

/-
  A logic over the model, part twenty-two: rows that are built at names that were laid ahead; more functions of the library.
-/
namespace Go.Fhl
open Go.RowKit
set_option linter.unusedVariables false
set_option linter.unusedSimpArgs false
section
variable {P : Program} {n0 b0 : Nat} {Tm : List (Nat × Value)} {Lo : List (List Value)} {He : AH} {v : Value} {x y : Operand} {d : Option Tmp} {ty : TypeId} {pos : String} {af : Array Edge} {g : Option (Nat × Bool)}
end
theorem wrap_u64 {n : Int} : IntKind.u64.wrap n = ((UInt64.ofInt n).toNat : Int) := by
  simp only [IntKind.wrap, IntKind.bits, IntKind.signed, Bool.false_and, Bool.false_eq_true, if_false, UInt64.ofInt, UInt64.toNat_ofNat']
  have : (2 : Int) ^ 64 = 18446744073709551616 := by decide
  have h2 : (2 : Nat) ^ 64 = 18446744073709551616 := by decide
  rw [this, h2]
  omega
section
variable {P : Program} {n0 b0 : Nat} {Tm : List (Nat × Value)} {Lo : List (List Value)} {He : AH} {x : Operand} {d : Option Tmp} {ty : TypeId} {pos : String} {af : Array Edge} {g : Option (Nat × Bool)}
theorem tx_64_u64 {src dst : TypeId} {ds : TypeDesc} {n : Int} (hs : und P src = some ds) (hd : und P dst = some (.int .u64)) (hx : ev Tm x = I n) : AExec P ⟨d, .convert src dst x, ty, pos, af, g⟩ ⟨n0, b0, Tm, Lo, He⟩ (U64 (UInt64.ofInt n)) Lo He := by
  have := ex_convInt (n0 := n0) (b0 := b0) (Lo := Lo) (He := He) (d := d) (ty := ty) (pos := pos) (af := af) (g := g) hs hd hx
  rwa [wrap_u64] at this
end
/-- The boxes, in other words. -/
theorem arun_locs {P : Program} {ops : Array Oper} {Q : Exit → AS → Prop} {i n b : Nat} {l : List Oper} {T : List (Nat × Value)} {L L' : List (List Value)} {H : AH} (hL : L = L') (h : ARun P ops i l Q ⟨n, b, T, L', H⟩) : ARun P ops i l Q ⟨n, b, T, L, H⟩ := hL ▸ h
/-- strings.Compare. -/
def M_compare (s u : Str) : Option Int := some (Lib.compareBytes s u)
/-- bits.Len. -/
def M_bitLen (x : UInt64) : Option Int := some (Lib.bitLen x.toNat : Int)
theorem args1' {hm : GM} {x : Value} {cs : Array Value} (hx : plain x = true) (h : L2 (VR hm []) [x] cs.toList) : cs = #[x] := by
  obtain ⟨c1, t1', e1, a1, ha1⟩ := h.cons_inv
  have e3 := ha1.nil_inv
  apply Array.toList_inj.1; rw [e1, e3, a1.plain hx]
theorem ffn_bitLen {P : Program} {f : FuncId}
    (h1 : ∀ (x : Int) (w : World), 0 ≤ x → x ≤ 18446744073709551615 → Calls P f #[.int .u64 x] w fun e w' => e = .returned (.int .i64 (Lib.bitLen x.toNat)) ∧ w' = w)
    (t0 : UInt64) (r : Int) (h : M_bitLen t0 = some r) : FFn P f [U64 t0] (I r) := by
  cases h
  refine ffn_of_below rfl fun hm w0 U w cargs hr ha => ?_
  rw [args1' (by rfl) ha]
  have := t0.toNat_lt
  refine (h1 (t0.toNat : Int) w (by omega) (by omega)).mono fun e w' ⟨he, hw⟩ => ⟨?_, hw ▸ Below.refl _ _⟩
  rw [he, Int.toNat_natCast]
end Go.Fhl
