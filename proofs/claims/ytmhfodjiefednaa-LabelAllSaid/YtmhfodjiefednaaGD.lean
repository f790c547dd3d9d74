/-
  A row of arrays of four bytes that came in.
-/
import Derived.Test.YtmhfodjiefednaaFZ
import Derived.Deep.Slices
import Derived.Laws.IdiomArrays
namespace Go.Fhl
open Go.RowKit Go.ChangeShapes Go.WideShapes Go.Deep
set_option linter.unusedVariables false
set_option linter.unusedSimpArgs false
def IsRow4 (w : World) (a : Option Addr) (len cap : Nat) : Prop :=
  (a = none ∧ len = 0 ∧ cap = 0) ∨
  ∃ x, a = some x ∧ len ≤ cap ∧ cap ≤ maxLen ∧ ∀ i, i < len → ∀ q, q < 4 → ∃ n, w.cell? (x.add (i * 4 + q)) = some (.int .u8 n) ∧ (Lit.int .u8 n).wf = true
theorem open_row4 {H : Type} {enc : TypeId × Value → H} {P : Program} {w : World} {base : Nat} {spare : Nat → Bool} {held : Bool} {t e b : TypeId} {fuel : Nat} {cs : List Value} {x : DataW H × List MemPlace} (ht : P.underlying t = some (.slice e)) (he : P.underlying e = some (.array 4 b)) (hb : P.underlying b = some (.int .u8)) (ce : P.cellsOf e = 4) (cb : P.cellsOf b = 1)
    (h : DataW.trod enc P w base spare held fuel t cs = some x) : ∃ a len cap, cs = [.slice a len cap] ∧ IsRow4 w a len cap := by
  rcases open_slice ht h with ⟨rfl, _⟩ | ⟨a, len, cap, m, n, D, Pl, rfl, hba, hl, hm, hmm, rfl, hx⟩
  · exact ⟨none, 0, 0, rfl, .inl ⟨rfl, rfl, rfl⟩⟩
  refine ⟨some a, len, cap, rfl, .inr ⟨a, rfl, hl, hm, fun i hi q hq => ?_⟩⟩
  have hlm : len ≤ m := by rw [hmm]; split <;> omega
  obtain ⟨cs', h1, h2⟩ := hx i (by omega)
  rw [ce] at h1
  obtain ⟨_, hlen, hcell⟩ := World.cells?_some h1
  match cs', hlen with
  | [c0, c1, c2, c3], _ =>
    obtain ⟨y0, y1, y2, y3, k, _, g0, g1, g2, g3⟩ := trod_array4 he cb h2
    have e := hcell q (by omega)
    rw [add_add] at e
    rw [e]
    match q, hq with
    | 0, _ => obtain ⟨z, e1, _, e3⟩ := DataW.trod_int hb g0; cases e1; exact ⟨z, rfl, e3⟩
    | 1, _ => obtain ⟨z, e1, _, e3⟩ := DataW.trod_int hb g1; cases e1; exact ⟨z, rfl, e3⟩
    | 2, _ => obtain ⟨z, e1, _, e3⟩ := DataW.trod_int hb g2; cases e1; exact ⟨z, rfl, e3⟩
    | 3, _ => obtain ⟨z, e1, _, e3⟩ := DataW.trod_int hb g3; cases e1; exact ⟨z, rfl, e3⟩
def row4 (f : Nat → Int) (len : Nat) : List (A4 UInt8) := (List.range len).map fun i => ⟨u8 (f (i * 4)), u8 (f (i * 4 + 1)), u8 (f (i * 4 + 2)), u8 (f (i * 4 + 3))⟩
theorem row4_cells (f : Nat → Int) : ∀ len, (∀ k, k < len * 4 → (Lit.int .u8 (f k)).wf = true) → (row4 f len).flatMap (cA4 c8) = (List.range (len * 4)).map fun k => Value.int .u8 (f k) := by
  intro len
  induction len with
  | zero => intro _; rfl
  | succ n ih =>
    intro h
    have e : List.range ((n + 1) * 4) = List.range (n * 4) ++ [n * 4, n * 4 + 1, n * 4 + 2, n * 4 + 3] := by
      rw [show (n + 1) * 4 = n * 4 + 1 + 1 + 1 + 1 by omega, List.range_succ, List.range_succ, List.range_succ, List.range_succ]
      simp
    have e2 : row4 f (n + 1) = row4 f n ++ [⟨u8 (f (n * 4)), u8 (f (n * 4 + 1)), u8 (f (n * 4 + 2)), u8 (f (n * 4 + 3))⟩] := by
      unfold row4; rw [List.range_succ, List.map_append]; rfl
    rw [e, e2, List.flatMap_append, List.map_append, ih fun k hk => h k (by omega)]
    congr 1
    have v0 := val_u8 (h (n * 4) (by omega))
    have v1 := val_u8 (h (n * 4 + 1) (by omega))
    have v2 := val_u8 (h (n * 4 + 2) (by omega))
    have v3 := val_u8 (h (n * 4 + 3) (by omega))
    simp only [List.map_cons, List.map_nil, v0, v1, v2, v3]
    rfl
theorem arr4_in {w : World} {a : Option Addr} {len cap : Nat} (hrow : IsRow4 w a len cap) : ∃ L : List (A4 UInt8), L.length = len ∧ VR (hmW w) [] (SL 4 (cA4 c8) L) (.slice a len cap) := by
  rcases hrow with ⟨rfl, rfl, rfl⟩ | ⟨x, rfl, h1, h2, h4⟩
  · exact ⟨[], rfl, .of_sr rfl ⟨none, 0, 0, rfl, by simp, Nat.le_refl _, .inl rfl⟩⟩
  · obtain ⟨f, hf⟩ := choose_lt (α := Int) (n := len * 4) (p := fun k n => w.cell? (x.add k) = some (.int .u8 n) ∧ (Lit.int .u8 n).wf = true) (fun k hk => by
      have := h4 (k / 4) (by omega) (k % 4) (by omega)
      rwa [show k / 4 * 4 + k % 4 = k by omega] at this)
    have hc := row4_cells f len (fun k hk => (hf k hk).2)
    refine ⟨row4 f len, by simp [row4], .of_sr rfl ⟨some x, len, cap, rfl, ?_, h1, ?_⟩⟩
    · rw [List.toList_toArray, hc]; simp
    by_cases q : len = 0
    · subst q; exact .inl rfl
    have hc0 := (hf 0 (by omega)).1
    obtain ⟨B, o, spot⟩ := x
    cases spot with
    | some sp =>
      simp only [Addr.add, World.cell?] at hc0
      split at hc0 <;> simp at hc0
    | none =>
      refine .inr ⟨B, o, rfl, fun j c hj => ?_⟩
      rw [List.toList_toArray, hc] at hj
      have hj2 : j < len * 4 := by have := lookup_lt hj; simpa using this
      have hcj : c = .int .u8 (f j) := by
        rw [List.getElem?_map, List.getElem?_range hj2] at hj
        exact (Option.some.inj hj).symm
      subst hcj
      have := (hf j hj2).1
      rw [show (⟨B, o, none⟩ : Addr).add j = ⟨B, o + j, none⟩ from add_none B o j] at this
      unfold World.cell? at this
      simp only at this
      split at this <;> first | (cases this; done) | exact fzW_of ‹_› this rfl
end Go.Fhl
