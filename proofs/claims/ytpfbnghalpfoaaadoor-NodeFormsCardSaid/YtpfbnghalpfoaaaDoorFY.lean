/-
  A logic over the model, part seventeen: functions of the library.
-/
import Derived.Test.YtpfbnghalpfoaaaDoorFX
import Derived.Below
import Derived.Lib.Join
import Derived.Lib.Repeat
namespace Go.Fhl
open Go.RowKit
set_option linter.unusedVariables false
set_option linter.unusedSimpArgs false
theorem HRel.below {hm : GM} {w0 : World} {U : Env} {w w' : World} (r : HRel hm w0 U AH.empty w) (h : Below w.heap.size w w') : HRel hm w0 U AH.empty w' where
  os := h.os.trans r.os
  tape := h.tape.trans r.tape
  output := h.output.trans r.output
  size := Nat.le_trans r.size h.size
  prot := fun B hB => by
    obtain ⟨h1, h2⟩ := r.prot B hB
    exact ⟨h1, (h.block B (r.ult hB)).trans h2⟩
  protz := r.protz
  fresh := r.fresh
  frz := fun B k v hz => by
    obtain ⟨h1, C, e, fz, v', h2, h3, h4⟩ := r.frz B k v hz
    exact ⟨h1, C, e, fz, v', (h.block B (r.fz_lt hz)).trans h2, h3, h4⟩
  blk := fun n b hb => by cases hb
  inj := fun n b n' b' i i' hb => by cases hb
/-- A function whose answer is plain, and that leaves what is there. -/
theorem ffn_of_below {P : Program} {f : FuncId} {args : List Value} {v : Value} (hv : plain v = true)
    (h : ∀ (hm : GM) (w0 : World) (U : Env) (w : World) (cargs : Array Value), HRel hm w0 U AH.empty w → L2 (VR hm []) args cargs.toList → Calls P f cargs w fun e w' => e = .returned v ∧ Below w.heap.size w w') : FFn P f args v := by
  intro hm w0 U w cargs hr ha
  refine (h hm w0 U w cargs hr ha).mono fun e w' ⟨h1, h2⟩ => ?_
  exact ⟨hm, v, v, AH.empty, h1, GM.leb_refl _ _, Nat.le_refl _, hr.below h2, .of_plain hv, rfl⟩
/-- The cells of a frozen row of strings. -/
theorem deep_strs {hm : GM} {w0 : World} {U : Env} {w : World} {H : AH} (r : HRel hm w0 U H w) {xs : List Str} {cv : Value} (h : VR hm [] (SL 1 cS xs) cv) :
    ∃ a n cap, cv = .slice a n cap ∧ n = xs.length ∧ n ≤ cap ∧ (xs = [] ∨ ∃ B o, a = some ⟨B, o, none⟩ ∧ B < w.heap.size ∧ ∀ (j : Nat) (x : ByteArray), (xs.map sB)[j]? = some x → w.cell? ⟨B, o + j, none⟩ = some (.string x)) := by
  obtain ⟨a, n, cap, rfl, h2, h3, h4⟩ := h.sr rfl
  have hfl : ∀ (l : List Str), l.flatMap cS = l.map S := fun l => by
    induction l with
    | nil => rfl
    | cons x l ih => rw [List.flatMap_cons, ih]; rfl
  rw [List.toList_toArray, hfl] at h2 h4
  refine ⟨a, n, cap, rfl, by simpa using h2, h3, ?_⟩
  rcases h4 with h4 | ⟨B, o, rfl, h5⟩
  · exact .inl (by simpa using h4)
  · cases xs with
    | nil => exact .inl rfl
    | cons x0 xs0 =>
      refine .inr ⟨B, o, rfl, ?_, fun j x hj => ?_⟩
      · exact r.fz_lt (h5 0 (S x0) rfl)
      · rw [List.getElem?_map] at hj
        cases hx : (x0 :: xs0)[j]? with
        | none => rw [hx] at hj; cases hj
        | some y =>
          rw [hx] at hj; cases hj
          obtain ⟨_, C, e, fz, v', g1, g2, g3⟩ := r.frz B (o + j) (S y) (h5 j (S y) (by rw [List.getElem?_map, hx]; rfl))
          have : v' = S y := g3
          subst this
          simp [World.cell?, g1, g2]
/-- strings.Join. -/
def joinS (xs : List Str) (sep : Str) : Str := Lib.join xs sep
def M_join (xs : List Str) (sep : Str) : Option Str := if xs.length ≤ 140737488355328 ∧ (joinS xs sep).length ≤ 140737488355328 then some (joinS xs sep) else none
theorem ffn_join {P : Program} {f : FuncId}
    (h0 : ∀ (a : Option Addr) (c : Nat) (sep : ByteArray) (w : World), Calls P f #[.slice a 0 c, .string sep] w fun e w' => e = .returned (.string ⟨#[]⟩) ∧ w' = w)
    (h1 : ∀ (bk o c : Nat) (xs : List ByteArray) (sep : ByteArray) (w : World) (hcells : ∀ (j : Nat) x, xs[j]? = some x → w.cell? ⟨bk, o + j, none⟩ = some (.string x)) (hbk : bk < w.heap.size) (hN : xs.length ≤ 140737488355328) (hcap : xs.length ≤ c) (hlen : (Lib.join (xs.map (·.data.toList)) sep.data.toList).length ≤ 140737488355328),
      Calls P f #[.slice (some ⟨bk, o, none⟩) xs.length c, .string sep] w fun e w' => e = .returned (.string ⟨(Lib.join (xs.map (·.data.toList)) sep.data.toList).toArray⟩) ∧ Below w.heap.size w w')
    (t0 : List Str) (t1 : Str) (r : Str) (h : M_join t0 t1 = some r) : FFn P f [SL 1 cS t0, S t1] (S r) := by
  unfold M_join at h
  split at h
  · rename_i hc
    cases h
    refine ffn_of_below rfl fun hm w0 U w cargs hr ha => ?_
    obtain ⟨c1, t1', e1, a1, ha1⟩ := ha.cons_inv
    obtain ⟨c2, t2', e2, a2, ha2⟩ := ha1.cons_inv
    have e3 := ha2.nil_inv
    have hc2 : c2 = S t1 := a2.sr rfl
    have hcargs : cargs = #[c1, S t1] := by apply Array.toList_inj.1; rw [e1, e2, e3, hc2]
    rw [hcargs]
    obtain ⟨a, n, cap, rfl, rfl, h3, h4⟩ := deep_strs hr a1
    have hmap : (t0.map sB).map (·.data.toList) = t0 := by
      rw [List.map_map]
      have : ((fun (x : ByteArray) => x.data.toList) ∘ sB) = id := by funext x; exact sB_data x
      rw [this, List.map_id]
    rcases h4 with rfl | ⟨B, o, rfl, hB, hcells⟩
    · exact (h0 a cap (sB t1) w).mono fun e w' ⟨he, hw⟩ => ⟨he, hw ▸ Below.refl _ _⟩
    · have := h1 B o cap (t0.map sB) (sB t1) w hcells hB (by simpa using hc.1) (by simpa using h3) (by rw [hmap, sB_data]; exact hc.2)
      rw [hmap, sB_data, List.length_map] at this
      exact this
  · cases h
/-- Two arguments that are plain. -/
theorem args2 {hm : GM} {x y : Value} {cargs : Array Value} (hx : plain x = true) (hy : plain y = true) (ha : L2 (VR hm []) [x, y] cargs.toList) : cargs = #[x, y] := by
  obtain ⟨c1, t1', e1, a1, ha1⟩ := ha.cons_inv
  obtain ⟨c2, t2', e2, a2, ha2⟩ := ha1.cons_inv
  have e3 := ha2.nil_inv
  apply Array.toList_inj.1; rw [e1, e2, e3, a1.plain hx, a2.plain hy]
/-- strings.Repeat. -/
def M_repeat (s : Str) (c : Int) : Option Str := if 0 ≤ c ∧ c ≤ 9223372036854775807 ∧ s.length * c.toNat ≤ 140737488355328 then some (Lib.repeatL s c.toNat) else none
theorem ffn_repeat {P : Program} {f : FuncId}
    (h1 : ∀ (s : ByteArray) (c : Nat) (w : World) (hc : c ≤ 9223372036854775807) (hlen : s.size * c ≤ 140737488355328), Calls P f #[.string s, .int .i64 c] w fun e w' => e = .returned (.string ⟨(Lib.repeatL s.data.toList c).toArray⟩) ∧ Below w.heap.size w w')
    (t0 : Str) (t1 : Int) (r : Str) (h : M_repeat t0 t1 = some r) : FFn P f [S t0, I t1] (S r) := by
  unfold M_repeat at h
  split at h
  · rename_i hc
    cases h
    refine ffn_of_below rfl fun hm w0 U w cargs hr ha => ?_
    rw [args2 (by rfl) (by rfl) ha]
    obtain ⟨c, rfl⟩ : ∃ c : Nat, t1 = c := ⟨t1.toNat, by omega⟩
    have := h1 (sB t0) c w (by omega) (by rw [sB_size]; simpa using hc.2.2)
    rw [sB_data] at this
    rw [Int.toNat_natCast]
    exact this
  · cases h
end Go.Fhl
