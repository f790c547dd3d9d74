/-
  dev.Read: its contract, walked by hand (a range over a function).
-/
import Derived.RangeFuncNested
import Derived.RangeFuncBound
import Derived.RangeFuncCalls
import Derived.Test.YtmhfodjiefednaaR7RdA
namespace Go.Proofs.Rd
open Go Go.Proofs Go.RowKit Go.Shelf
set_option linter.unusedVariables false
set_option linter.unusedSimpArgs false
attribute [local go_sem] Oper.semAt_some
/-- A device, as a value. -/
abbrev dv (la : Option Addr) (ln lc : Nat) (wa : Option Addr) (wn wc : Nat) (li ar : Int) (dn : Bool) : Value := .agg #[.slice la ln lc, .slice wa wn wc, .int .i64 li, .int .i64 ar, .bool dn]
abbrev dvc (la : Option Addr) (ln lc : Nat) (wa : Option Addr) (wn wc : Nat) (li ar : Int) (dn : Bool) : Array Value := #[.slice la ln lc, .slice wa wn wc, .int .i64 li, .int .i64 ar, .bool dn]
set_option maxHeartbeats 2000000 in
theorem has_in (F : Fence) (n : Nat) (hf : F.fn 55) (hro : F.round = none) (la : Option Addr) (ln lc : Nat) (wa : Option Addr) (wn wc : Nat) (li ar : Int) (dn : Bool) (i : Int) (w : World) :
    CallsIn F n Try.prog 55 #[dv la ln lc wa wn wc li ar dn, .int .i64 i] w fun e w' => e = .returned (.bool (decide (0 ≤ i) && decide (i < ln))) ∧ w' = w.alloc (.cells (dvc la ln lc wa wn wc li ar dn) 29) := by
  refine callsIn_of_wp Try.func55 rfl hf ?_ hro
  simp only [Try.ntmps55, List.size_toArray, List.length_cons, List.length_nil, Nat.reduceAdd, Nat.reduceSub, Array.replicate_succ, Array.replicate_zero, List.push_toArray, List.append_toArray, List.nil_append, List.cons_append]
  by_cases h0 : 0 ≤ i
  · gi_wp2
    go_ret
    refine ⟨?_, rfl⟩
    simp [h0]
  · gi_wp2
    go_ret
    refine ⟨?_, rfl⟩
    simp; omega
set_option maxRecDepth 100000 in
set_option maxHeartbeats 2000000 in
theorem read_down (F : Fence) (n : Nat) (hf : F.fn 40) (hfh : F.fn 55) (hro : F.round = none) (la : Option Addr) (ln lc : Nat) (wa : Option Addr) (wn wc : Nat) (li ar : Int) (i : Int) (w : World) :
    CallsIn F n Try.prog 40 #[dv la ln lc wa wn wc li ar true, .int .i64 i] w fun e w' => e = .returned (.tuple #[.string ByteArray.empty, .bool false]) ∧ Below w.heap.size w w' := by
  refine callsIn_of_wp Try.func40 rfl hf ?_ hro
  simp only [Try.ntmps40, List.size_toArray, List.length_cons, List.length_nil, Nat.reduceAdd, Nat.reduceSub, Array.replicate_succ, Array.replicate_zero, List.push_toArray, List.append_toArray, List.nil_append, List.cons_append]
  gi_wp2
  refine bodyPost_ret (v := .tuple #[.string ByteArray.empty, .bool false]) (by simp [results, Try.f40, go_sem]; rfl) rfl ?_
  refine ⟨?_, ?_⟩
  · rfl
  · exact (((((Below.refl _ w).alloc (Nat.le_refl _) _).alloc (by simp) _).alloc (by simp; omega) _).alloc (by simp; omega) _)
set_option maxRecDepth 100000 in
set_option maxHeartbeats 2000000 in
theorem read_out (F : Fence) (n : Nat) (h1 : 1 ≤ n) (hf : F.fn 40) (hfh : F.fn 55) (hro : F.round = none) (la : Option Addr) (ln lc : Nat) (wa : Option Addr) (wn wc : Nat) (li ar : Int) (i : Int) (hi : ¬(0 ≤ i ∧ i < ln)) (w : World) :
    CallsIn F n Try.prog 40 #[dv la ln lc wa wn wc li ar false, .int .i64 i] w fun e w' => e = .returned (.tuple #[.string ByteArray.empty, .bool false]) ∧ Below w.heap.size w w' := by
  have hb : (decide (0 ≤ i) && decide (i < (ln : Int))) = false := by
    rw [Bool.and_eq_false_iff, decide_eq_false_iff_not, decide_eq_false_iff_not]; omega
  refine callsIn_of_wp Try.func40 rfl hf ?_ hro
  simp only [Try.ntmps40, List.size_toArray, List.length_cons, List.length_nil, Nat.reduceAdd, Nat.reduceSub, Array.replicate_succ, Array.replicate_zero, List.push_toArray, List.append_toArray, List.nil_append, List.cons_append]
  gi_wp2_with (gi_at_call 55; refine (has_in F (n - 1) hfh hro _ _ _ _ _ _ _ _ _ _ _).mono ?_; rintro e w' ⟨rfl, rfl⟩; rw [hb])
  refine bodyPost_ret (v := .tuple #[.string ByteArray.empty, .bool false]) (by simp [results, Try.f40, go_sem]; rfl) rfl ?_
  refine ⟨?_, ?_⟩
  · rfl
  · exact ((((((Below.refl _ w).alloc (Nat.le_refl _) _).alloc (by simp) _).alloc (by simp; omega) _).alloc (by simp; omega) _).alloc (by simp; omega) _)
/-- A block of its own, of several cells. -/
def BoxA (W : World) (B : Nat) (t : TypeId) (xs : Array Value) : Prop := W.heap[B]? = some (.cells xs t (0, 0))
theorem BoxA.lt {W : World} {B : Nat} {t : TypeId} {xs : Array Value} (h : BoxA W B t xs) : B < W.heap.size := (Array.getElem?_eq_some_iff.1 h).1
theorem BoxA.cell {W : World} {B : Nat} {t : TypeId} {xs : Array Value} (h : BoxA W B t xs) (k : Nat) : W.cell? ⟨B, k, none⟩ = xs[k]? := by simp [World.cell?, show W.heap[B]? = _ from h]
theorem BoxA.kept {W W' : World} {row : Option Nat} {B : Nat} {t : TypeId} {xs : Array Value} (h : BoxA W B t xs) (hg : W.grownBy W' row) (hne : some B ≠ row) : BoxA W' B t xs := (hg.block B h.lt hne).trans h
theorem BoxA.alloc {W : World} {B : Nat} {t : TypeId} {xs : Array Value} (h : BoxA W B t xs) (o : Obj) : BoxA (W.alloc o) B t xs := h.kept (World.grownBy_alloc W o none) (by simp)
theorem BoxA.own {β : Type} (B : Nat) (t : TypeId) (f : β → Array Value) : Own (fun s W => BoxA W B t (f s)) := fun s X Y row hs hg hrow =>
  hs.kept hg (fun e' => by obtain ⟨o, ho, hc⟩ := hrow B e'.symm; rw [show X.heap[B]? = _ from hs] at ho; cases ho; cases hc)
theorem BoxA.new (W : World) (t : TypeId) (xs : Array Value) : BoxA (W.alloc (.cells xs t)) W.heap.size t xs := World.alloc_heap_new W _
theorem BoxA.other {W : World} {B B' : Nat} {t : TypeId} {xs : Array Value} (h : BoxA W B t xs) (hne : B ≠ B') (u : Value) : BoxA (W.setCell ⟨B', 0, none⟩ u) B t xs := h.kept (grownBy_setCell' W B' u) (fun e => hne (by cases e; rfl))
/-- What is read. -/
def Found (at_ : Nat → Int) (b_ : Nat → ByteArray) (wn : Nat) (i : Int) (last s : ByteArray) : Prop :=
  (∃ j, j < wn ∧ at_ j = i ∧ (∀ k, j < k → k < wn → at_ k ≠ i) ∧ s = b_ j) ∨ ((∀ j, j < wn → at_ j ≠ i) ∧ s = last)
set_option maxRecDepth 100000 in
set_option maxHeartbeats 4000000 in
theorem read_in (F : Fence) (n : Nat) (h3n : 6 ≤ n) (hf : F.fn 40) (hfh : F.fn 55) (hfb : F.fn 56) (hfc : F.fn 70) (hro : F.round = none) (la : Option Addr) (ln lc : Nat) (wa : Option Addr) (wn wc : Nat) (li ar : Int) (i : Int) (hi : 0 ≤ i ∧ i < ln) (w : World)
    (at_ : Nat → Int) (b_ : Nat → ByteArray) (hreach : wn * 24 ≤ 140737488351232) (hI : Puts w.heap.size w (.slice wa wn wc) wn at_ b_)
    (lb lo : Nat) (hla : la = some ⟨lb, lo, none⟩) (hlb : lb < w.heap.size) (last : ByteArray) (hlast : w.cell? ⟨lb, lo + i.toNat, none⟩ = some (.string last)) :
    CallsIn F n Try.prog 40 #[dv la ln lc wa wn wc li ar false, .int .i64 i] w fun e w' => (∃ s, e = .returned (.tuple #[.string s, .bool true]) ∧ Found at_ b_ wn i last s) ∧ Below w.heap.size w w' := by
  subst hla
  have h1 : 1 ≤ n := by omega
  have hb : (decide (0 ≤ i) && decide (i < (ln : Int))) = true := by
    rw [Bool.and_eq_true, decide_eq_true_eq, decide_eq_true_eq]; exact hi
  refine callsIn_of_wp_marks Try.func40 rfl hf ?_ hro
  simp only [Try.ntmps40, List.size_toArray, List.length_cons, List.length_nil, Nat.reduceAdd, Nat.reduceSub, Array.replicate_succ, Array.replicate_zero, List.push_toArray, List.append_toArray, List.nil_append, List.cons_append]
  gi_wp2_with (first | (gi_at_call 55; refine (has_in F (n - 1) hfh hro _ _ _ _ _ _ _ _ _ _ _).mono ?_; rintro e w' ⟨rfl, rfl⟩; rw [hb]) | (gi_at_call 56; refine (back_in F (n - 1) hfb hro _ _ _ _).mono ?_; rintro e w' ⟨rfl, rfl⟩))
  obtain ⟨W1, hW1⟩ : ∃ W1, ((((w.alloc (Obj.cells (dvc (some ⟨lb, lo, none⟩) ln lc wa wn wc li ar false) 29)).alloc (Obj.cells #[Value.int IntKind.i64 i] 3)).alloc (Obj.cells #[Value.string ⟨#[]⟩] 9)).alloc (Obj.cells #[Value.bool false] 4)).alloc (Obj.cells (dvc (some ⟨lb, lo, none⟩) ln lc wa wn wc li ar false) 29) = W1 := ⟨_, rfl⟩
  have hs1 : W1.heap.size = w.heap.size + 5 := by rw [← hW1]; simp
  have bD : BoxA W1 w.heap.size 29 (dvc (some ⟨lb, lo, none⟩) ln lc wa wn wc li ar false) := by
    rw [← hW1]; exact ((((BoxA.new w _ _).alloc _).alloc _).alloc _).alloc _
  have bI : Boxed W1 (w.heap.size + 1) 3 (.int .i64 i) := by
    rw [← hW1]; have := (((Boxed.new (w.alloc (Obj.cells (dvc (some ⟨lb, lo, none⟩) ln lc wa wn wc li ar false) 29)) 3 (.int .i64 i)).alloc (Obj.cells #[Value.string ⟨#[]⟩] 9)).alloc (Obj.cells #[Value.bool false] 4)).alloc (Obj.cells (dvc (some ⟨lb, lo, none⟩) ln lc wa wn wc li ar false) 29)
    simpa using this
  have bS : Boxed W1 (w.heap.size + 1 + 1) 9 (.string ⟨#[]⟩) := by
    rw [← hW1]; have := ((Boxed.new ((w.alloc (Obj.cells (dvc (some ⟨lb, lo, none⟩) ln lc wa wn wc li ar false) 29)).alloc (Obj.cells #[Value.int IntKind.i64 i] 3)) 9 (.string ⟨#[]⟩)).alloc (Obj.cells #[Value.bool false] 4)).alloc (Obj.cells (dvc (some ⟨lb, lo, none⟩) ln lc wa wn wc li ar false) 29)
    simpa using this
  have bB : Boxed W1 (w.heap.size + 1 + 1 + 1) 4 (.bool false) := by
    rw [← hW1]; have := (Boxed.new (((w.alloc (Obj.cells (dvc (some ⟨lb, lo, none⟩) ln lc wa wn wc li ar false) 29)).alloc (Obj.cells #[Value.int IntKind.i64 i] 3)).alloc (Obj.cells #[Value.string ⟨#[]⟩] 9)) 4 (.bool false)).alloc (Obj.cells (dvc (some ⟨lb, lo, none⟩) ln lc wa wn wc li ar false) 29)
    simpa using this
  have hB1 : Below w.heap.size w W1 := by
    rw [← hW1]; exact ((((((Below.refl _ w).alloc (Nat.le_refl _) _).alloc (by simp) _).alloc (by simp; omega) _).alloc (by simp; omega) _).alloc (by simp; omega) _)
  rw [hW1]
  clear hW1
  have bN : Boxed (W1.alloc (.cells #[.slice wa wn wc] 27)) (w.heap.size + 1 + 1 + 1 + 1 + 1) 27 (.slice wa wn wc) := by
    have := Boxed.new W1 27 (.slice wa wn wc); rw [hs1] at this; exact this
  have hB0 : Below w.heap.size w (W1.alloc (.cells #[.slice wa wn wc] 27)) := hB1.alloc (by omega) _
  refine wpIn_rangeFunc_ownH hro h1 (gf := 70) (lb := #[.pointer (some ⟨w.heap.size + 1 + 1 + 1 + 1 + 1, 0, none⟩)]) rfl hfc (enters_of Try.func70 (by kernel_rfl) rfl)
    (back_stops F (n - 1) hfc hro (by omega) (w.heap.size + 1 + 1 + 1 + 1 + 1) (w.heap.size + 6) _ wn at_ b_ hreach (W1.alloc (.cells #[.slice wa wn wc] 27)) (by simp; omega) (by omega) (by simp; omega) bN.cell ((hI.below hB0).mono (by omega))) belowK_t (belowK_b (by simp; omega)) (Below.refl _ _) (fun _ => rfl)
    (fun pre W => ((((∀ p ∈ pre, p.2.1 ≠ i) ∧ BoxA W w.heap.size 29 (dvc (some ⟨lb, lo, none⟩) ln lc wa wn wc li ar false)) ∧ Boxed W (w.heap.size + 1) 3 (.int .i64 i)) ∧ Boxed W (w.heap.size + 1 + 1) 9 (.string ⟨#[]⟩) ∧ Boxed W (w.heap.size + 1 + 1 + 1) 4 (.bool false)) ∧ Below (w.heap.size + 6) (W1.alloc (.cells #[.slice wa wn wc] 27)) W)
    (fun c pre W => (c = .ret ∧ ∃ ini last, pre = ini ++ [last] ∧ (∀ p ∈ ini, p.2.1 ≠ i) ∧ last.2.1 = i ∧ Boxed W (w.heap.size + 1 + 1) 9 (.string last.2.2) ∧ Boxed W (w.heap.size + 1 + 1 + 1) 4 (.bool true)) ∧ Below w.heap.size w W)
    (OwnFrom.and (OwnFrom.and (OwnFrom.and (OwnFrom.and (ownFrom_pure _ _) (Own.from (BoxA.own _ _ _) _)) (Own.from (boxed_own _ _ _) _)) (OwnFrom.and (Own.from (boxed_own _ _ _) _) (Own.from (boxed_own _ _ _) _))) (ownFrom_below (by simp; omega) (by simp; omega)))
    (fun c => OwnFrom.and (Own.from (fun s A B row hs hg hr => by obtain ⟨hc, ini, last, e1, e2, e3, e4, e5⟩ := hs; exact ⟨hc, ini, last, e1, e2, e3, boxed_own _ _ (fun (_ : Unit) => Value.string last.2.2) () A B row e4 hg hr, boxed_own _ _ (fun (_ : Unit) => Value.bool true) () A B row e5 hg hr⟩) _) (ownFrom_below (Nat.le_refl _) (by simp; omega)))
    ⟨⟨⟨⟨by simp, bD.alloc _⟩, bI.alloc _⟩, bS.alloc _, bB.alloc _⟩, Below.refl _ _⟩
    (fun x a' W => ∃ Bx, w.heap.size + 5 < Bx ∧ BoxA W Bx 44 #[.int .i64 x.2.1, .string x.2.2] ∧ a' = { tmps := #[dv (some ⟨lb, lo, none⟩) ln lc wa wn wc li ar false, .int .i64 i, .pointer (some ⟨w.heap.size, 0, none⟩), .pointer (some ⟨w.heap.size + 1, 0, none⟩), .pointer (some ⟨w.heap.size + 1 + 1, 0, none⟩), .pointer (some ⟨w.heap.size + 1 + 1 + 1, 0, none⟩), undef, .pointer (some ⟨Bx, 0, none⟩), .pointer (some ⟨w.heap.size, 4, none⟩), .bool false, .bool false, dv (some ⟨lb, lo, none⟩) ln lc wa wn wc li ar false, .int .i64 i, .bool true, .bool false, .bool false, .pointer (some ⟨w.heap.size, 1, none⟩), .slice wa wn wc, .func (.func 70) #[] #[.pointer (some ⟨w.heap.size + 1 + 1 + 1 + 1 + 1, 0, none⟩)], .int .i64 (x.1 : Int), .agg #[.int .i64 x.2.1, .string x.2.2], undef, undef, undef, undef, undef, undef, undef, undef, undef, undef, undef], defers := [] })
    (fun x a' _ X Y row hs hg hr => by obtain ⟨Bx, h1, h2, h3⟩ := hs; exact ⟨Bx, h1, BoxA.own Bx 44 (fun (_ : Unit) => #[Value.int .i64 x.2.1, .string x.2.2]) () X Y row h2 hg (fun r e => (hr r e).2), h3⟩)
    ?assign ?body ?done ?stop
  case assign =>
    rintro l pre x W K ⟨⟨⟨⟨hp, bD1⟩, bI1⟩, bS1, bB1⟩, hB1⟩ hK
    have hsz := hB1.size
    simp only [World.size_alloc, hs1] at hsz
    gi_wp2
    exact hK _ _ ((KeepsOthers.alloc _ _).from _) ((Below.refl _ W).alloc (by omega) _) ⟨⟨⟨⟨hp, bD1.alloc _⟩, bI1.alloc _⟩, bS1.alloc _, bB1.alloc _⟩, hB1.alloc (by omega) _⟩ ⟨W.heap.size, by omega, BoxA.new W _ _, rfl⟩
  case body =>
    rintro l pre x a' W hl ⟨r, hr⟩ ⟨⟨⟨⟨hp, bD1⟩, bI1⟩, bS1, bB1⟩, hB1⟩ ⟨Bx, hBx, bX, rfl⟩ hlt
    have hsz := hB1.size
    simp only [World.size_alloc, hs1] at hsz
    have hBw : Below w.heap.size w W := hB0.trans (hB1.mono (by omega))
    have cX0 := bX.cell 0
    have cX1 := bX.cell 1
    simp only [List.getElem?_toArray, List.getElem?_cons_zero, List.getElem?_cons_succ] at cX0 cX1
    have cI := bI1.cell
    have cS := bS1.cell
    have fS := bS1.frozen
    have cB := bB1.cell
    have fB := bB1.frozen
    by_cases hx : x.2.1 = i
    · gi_wp2
      exact ⟨((KeepsOthers.setCell _ _ _).trans (KeepsOthers.setCell _ _ _)).from _, ⟨rfl, pre, x, rfl, hp, hx, (bS1.set _).other (by omega) _, (bB1.other (by omega) _).set _⟩, (hBw.setCell (p := ⟨w.heap.size + 1 + 1, 0, none⟩) (by simp; omega) _).setCell (p := ⟨w.heap.size + 1 + 1 + 1, 0, none⟩) (by simp; omega) _⟩
    · gi_wp2
      exact ⟨KeepsFrom.refl _ _, Below.refl _ _, ⟨⟨⟨fun p hp' => (List.mem_append.1 hp').elim (hp p) (fun e => by simp at e; subst e; exact hx), bD1⟩, bI1⟩, bS1, bB1⟩, hB1⟩
  case done =>
    rintro D ys W hD rfl ⟨⟨⟨⟨hp, bD1⟩, bI1⟩, bS1, bB1⟩, hB1⟩ hK
    have hsz := hB1.size
    simp only [World.size_alloc, hs1] at hsz hD
    have hBw : Below w.heap.size w W := hB0.trans (hB1.mono (by omega))
    have cD0 := bD1.cell 0
    simp only [dvc, List.getElem?_toArray, List.getElem?_cons_zero, List.getElem?_cons_succ] at cD0
    have cI := bI1.cell
    have cS := bS1.cell
    have fS := bS1.frozen
    have cB := bB1.cell
    have fB := bB1.frozen
    have cL := (hBw.cell (p := ⟨lb, lo + i.toNat, none⟩) hlb).trans hlast
    obtain ⟨k, rfl⟩ : ∃ k : Nat, i = k := ⟨i.toNat, by omega⟩
    rw [Int.toNat_natCast] at cL
    have hk2 : k < ln := by omega
    gi_wp2
    have hKK := (KeepsOthers.setCell W ⟨w.heap.size + 1 + 1, 0, none⟩ (.string last)).trans (KeepsOthers.setCell (W.setCell ⟨w.heap.size + 1 + 1, 0, none⟩ (.string last)) ⟨w.heap.size + 1 + 1 + 1, 0, none⟩ (.bool true))
    have hK' := hKK.same D _ hK rfl
    have bS2 := (bS1.set (.string last)).other (B' := w.heap.size + 1 + 1 + 1) (by omega) (.bool true)
    have bB2 := (bB1.other (B' := w.heap.size + 1 + 1) (by omega) (.string last)).set (.bool true)
    refine ⟨by simp, .inl ⟨_, _, rfl, run_takeDeferred hK', ?_⟩⟩
    have hc4 := cell_kept bS2.cell (grownBy_putObj' _ D (.deferred none)) (fun r e => by cases e; exact ⟨_, hK', rfl⟩)
    have hc5 := cell_kept bB2.cell (grownBy_putObj' _ D (.deferred none)) (fun r e => by cases e; exact ⟨_, hK', rfl⟩)
    refine ⟨.tuple #[.string last, .bool true], ?_, ⟨_, rfl, .inr ⟨fun j hj => ?_, rfl⟩⟩, ((hBw.setCell (p := ⟨w.heap.size + 1 + 1, 0, none⟩) (by simp; omega) _).setCell (p := ⟨w.heap.size + 1 + 1 + 1, 0, none⟩) (by simp; omega) _).trans (belowK_b (w := w) (Nat.le_refl _) _ D _ _ (by omega) hK' rfl rfl)⟩
    · simp [results, Try.f40, go_sem, hc4, hc5]
    · have := hp (bk at_ b_ wn (wn - 1 - j)) (by simp only [upto, List.mem_map, List.mem_range]; exact ⟨wn - 1 - j, by omega, rfl⟩)
      simp only [bk] at this
      rwa [show wn - 1 - (wn - 1 - j) = j by omega] at this
  case stop =>
    rintro D c pre W hD ⟨k, hk, rfl⟩ ⟨⟨rfl, ini, lst, e1, e2, e3, bS1, bB1⟩, hB⟩ hK
    gi_wp2
    refine ⟨by simp, .inl ⟨_, _, rfl, run_takeDeferred hK, ?_⟩⟩
    have hc4 := cell_kept bS1.cell (grownBy_putObj' _ D (.deferred none)) (fun r e => by cases e; exact ⟨_, hK, rfl⟩)
    have hc5 := cell_kept bB1.cell (grownBy_putObj' _ D (.deferred none)) (fun r e => by cases e; exact ⟨_, hK, rfl⟩)
    obtain ⟨k', rfl⟩ : ∃ k', k = k' + 1 := by
      cases k with
      | zero => simp [upto] at e1
      | succ k' => exact ⟨k', rfl⟩
    rw [upto_succ] at e1
    obtain ⟨rfl, e5⟩ := List.append_inj' e1 rfl
    obtain rfl : bk at_ b_ wn k' = lst := by simpa using e5
    simp only [World.size_alloc, hs1] at hD
    refine ⟨.tuple #[.string (b_ (wn - 1 - k')), .bool true], ?_, ⟨_, rfl, .inl ⟨wn - 1 - k', by omega, e3, fun q h1 h2 => ?_, rfl⟩⟩, hB.trans (belowK_b (w := w) (Nat.le_refl _) W D _ _ (by omega) hK rfl rfl)⟩
    · simp [results, Try.f40, go_sem, hc4, hc5, bk]
    · have := e2 (bk at_ b_ wn (wn - 1 - q)) (by simp only [upto, List.mem_map, List.mem_range]; exact ⟨wn - 1 - q, by omega, rfl⟩)
      simp only [bk] at this
      rwa [show wn - 1 - (wn - 1 - q) = q by omega] at this
end Go.Proofs.Rd
