/-
  slices.Backward at rows of writes: its contract for a range over it.
-/
import Derived.RangeFuncBox
import Derived.RangeFuncLeaves
import Derived.Shelf.Abstract
import Derived.WalkKit
import Derived.OwnWalkIn
import Derived.TacticsInMore
import Derived.LoopNIn
import Derived.LoopIn
import Derived.Test.YtmhfodjiefednaaProg
namespace Go.Proofs.Rd
open Go Go.Proofs Go.RowKit Go.Shelf
set_option linter.unusedVariables false
set_option linter.unusedSimpArgs false
attribute [local go_sem] Oper.semAt_some

/-- What has come when k rounds are over: f 0, .., f (k - 1). -/
def upto {α : Type} (f : Nat → α) (k : Nat) : List α := (List.range k).map f
theorem upto_succ {α : Type} (f : Nat → α) (k : Nat) : upto f (k + 1) = upto f k ++ [f k] := by simp [upto, List.range_succ]
theorem upto_length {α : Type} (f : Nat → α) (k : Nat) : (upto f k).length = k := by simp [upto]
/-- The j-th of those that come: the last one first. -/
def bk (at_ : Nat → Int) (b_ : Nat → ByteArray) (len j : Nat) : Nat × Int × ByteArray := (len - 1 - j, at_ (len - 1 - j), b_ (len - 1 - j))

set_option maxRecDepth 100000 in
set_option maxHeartbeats 2000000 in
theorem back1_in (F : Fence) (n : Nat) (h7 : F.fn 70) (hro : F.round = none) (hn : 1 ≤ n) (l Bs n₀ b off len cap : Nat) (at_ : Nat → Int) (b_ : Nat → ByteArray) (hreach : len * 24 ≤ 140737488351232) (hb : b < n₀) (J Jx : List (Nat × Int × ByteArray) → World → Prop)
    (hY : ∀ pre x W, J pre W → pre.length < len → YieldAt F (n - 1) Try.prog l #[.int .i64 (x.1 : Int), .agg #[.int .i64 x.2.1, .string x.2.2]] W fun e W' =>
      (e = .returned (.bool true) ∧ J (pre ++ [x]) W' ∧ Below n₀ W W') ∨ (e = .returned (.bool false) ∧ Jx (pre ++ [x]) W'))
    (W : World) (hBn : Bs < n₀) (hBs : W.cell? ⟨Bs, 0, none⟩ = some (.slice (some ⟨b, off, none⟩) len cap)) (hc0 : ∀ j, j < len → W.cell? ⟨b, off + j * 2, none⟩ = some (.int .i64 (at_ j))) (hc1 : ∀ j, j < len → W.cell? ⟨b, off + j * 2 + 1, none⟩ = some (.string (b_ j))) (h0 : J [] W) :
    CallsIn F n Try.prog 70 #[.func (.yield l) #[] #[], .pointer (some ⟨Bs, 0, none⟩)] W fun e W' => (∃ v, e = .returned v) ∧
      ((∃ ys, ys = upto (bk at_ b_ len) len ∧ J ys W') ∨ (∃ pre, (∃ k, k ≤ len ∧ pre = upto (bk at_ b_ len) k) ∧ Jx pre W')) := by
  refine callsIn_of_wp Try.func70 rfl h7 ?_ hro
  simp only [Try.ntmps70, List.size_toArray, List.length_cons, List.length_nil, Nat.reduceAdd, Nat.reduceSub, Array.replicate_succ, Array.replicate_zero, List.push_toArray, List.append_toArray, List.nil_append, List.cons_append]
  gi_wp2
  gi_loopw [3] (fun i wr => ∃ k : Nat, k ≤ len ∧ i = .int .i64 ((len : Int) - 1 - k) ∧ J (upto (bk at_ b_ len) k) wr ∧ Below n₀ W wr)
    (fun i _ => (intOf i + 1).toNat)
  case atStart => exact ⟨0, Nat.zero_le _, by simp, h0, Below.refl _ _⟩
  case round =>
    obtain ⟨k, hk, rfl, hJs, hnx⟩ := hrel
    have hBx : wr.cell? ⟨Bs, 0, none⟩ = some (.slice (some ⟨b, off, none⟩) len cap) := (hnx.cell (p := ⟨Bs, 0, none⟩) hBn).trans hBs
    by_cases hlt : k < len
    · obtain ⟨m, hm⟩ : ∃ m : Nat, m + k + 1 = len := ⟨len - k - 1, by omega⟩
      have e1 : (len : Int) - 1 - k = (m : Int) := by omega
      have e2 : len - 1 - k = m := by omega
      have hm2 : m < len := by omega
      obtain ⟨fn, tmps, assign, body, hy, hR⟩ := hY _ (bk at_ b_ len k) wr hJs (by rw [upto_length]; exact hlt)
      simp only [bk, e2] at hy hR
      have hcx : wr.cell? ⟨b, off + m * 2, none⟩ = some (.int .i64 (at_ m)) := (hnx.cell (p := ⟨b, off + m * 2, none⟩) hb).trans (hc0 m hm2)
      have hcy : wr.cell? ⟨b, off + m * 2 + 1, none⟩ = some (.string (b_ m)) := (hnx.cell (p := ⟨b, off + m * 2 + 1, none⟩) hb).trans (hc1 m hm2)
      rw [e1]
      gi_wp2
      refine hR.mono ?_
      rintro e W3 (⟨rfl, hJ3, hk3⟩ | ⟨rfl, hJx3⟩)
      · gi_wp2
        go_roundw
        case rel => exact ⟨k + 1, by omega, by simp; omega, by rw [upto_succ]; simp only [bk, e2]; exact hJ3, hnx.trans hk3⟩
        case measure => simp [intOf]; try omega
      · gi_wp2
        refine bodyPost_ret (results_none rfl _ _ _) rfl ?_
        exact ⟨⟨_, rfl⟩, .inr ⟨_, ⟨k + 1, by omega, rfl⟩, by rw [upto_succ]; simp only [bk, e2]; exact hJx3⟩⟩
    · obtain rfl : k = len := by omega
      have e1 : (k : Int) - 1 - k = -1 := by omega
      rw [e1]
      gi_wp2
      go_end0
      exact ⟨⟨_, rfl⟩, .inl ⟨_, rfl, hJs⟩⟩

set_option maxRecDepth 100000 in
set_option maxHeartbeats 1000000 in
/-- .. at a row of none: no round. -/
theorem back1_nil_in (F : Fence) (n : Nat) (h7 : F.fn 70) (hro : F.round = none) (l Bs : Nat) (a : Option Addr) (cap : Nat) (J : List (Nat × Int × ByteArray) → World → Prop) (W : World) (hBs : W.cell? ⟨Bs, 0, none⟩ = some (.slice a 0 cap)) (h0 : J [] W) :
    CallsIn F n Try.prog 70 #[.func (.yield l) #[] #[], .pointer (some ⟨Bs, 0, none⟩)] W fun e W' => (∃ v, e = .returned v) ∧ J [] W' := by
  refine callsIn_of_wp Try.func70 rfl h7 ?_ hro
  simp only [Try.ntmps70, List.size_toArray, List.length_cons, List.length_nil, Nat.reduceAdd, Nat.reduceSub, Array.replicate_succ, Array.replicate_zero, List.push_toArray, List.append_toArray, List.nil_append, List.cons_append]
  gi_wp2
  gi_loopw [3] (fun i wr => i = .int .i64 (-1) ∧ J [] wr) (fun _ _ => 0)
  case atStart => exact ⟨rfl, h0⟩
  case round =>
    obtain ⟨rfl, hJs⟩ := hrel
    gi_wp2
    go_end0
    exact ⟨⟨_, rfl⟩, hJs⟩

set_option maxHeartbeats 1000000 in
/-- **slices.Backward(s)**: the slice value is boxed; the function value captures the box. -/
theorem back_in (F : Fence) (n : Nat) (h5 : F.fn 56) (hro : F.round = none) (a : Option Addr) (len cap : Nat) (w : World) :
    CallsIn F n Try.prog 56 #[.slice a len cap] w fun e w' => e = .returned (.func (.func 70) #[] #[.pointer (some ⟨w.heap.size, 0, none⟩)]) ∧ w' = w.alloc (.cells #[.slice a len cap] 27) := by
  refine callsIn_of_wp Try.func56 rfl h5 ?_ hro
  simp only [Try.ntmps56, List.size_toArray, List.length_cons, List.length_nil, Nat.reduceAdd, Nat.reduceSub, Array.replicate_succ, Array.replicate_zero, List.push_toArray, List.append_toArray, List.nil_append, List.cons_append]
  gi_wp2
  go_ret
  exact ⟨rfl, rfl⟩

/-- The slice value holds so many writes; in a block below n₀; or it holds none. -/
def Puts (n₀ : Nat) (W : World) (sv : Value) (len : Nat) (at_ : Nat → Int) (b_ : Nat → ByteArray) : Prop :=
  (∃ a cap, sv = .slice a 0 cap ∧ len = 0) ∨ ∃ b off cap, sv = .slice (some ⟨b, off, none⟩) len cap ∧ b < n₀ ∧ (∀ j, j < len → W.cell? ⟨b, off + j * 2, none⟩ = some (.int .i64 (at_ j))) ∧ ∀ j, j < len → W.cell? ⟨b, off + j * 2 + 1, none⟩ = some (.string (b_ j))
theorem Puts.below {n₀ : Nat} {A B : World} (h : Below n₀ A B) {sv : Value} {len : Nat} {at_ : Nat → Int} {b_ : Nat → ByteArray} : Puts n₀ A sv len at_ b_ → Puts n₀ B sv len at_ b_
  | .inl e => .inl e
  | .inr ⟨b, off, cap, e, hb, hc, hd⟩ => .inr ⟨b, off, cap, e, hb, fun j hj => (h.cell (p := ⟨b, off + j * 2, none⟩) hb).trans (hc j hj), fun j hj => (h.cell (p := ⟨b, off + j * 2 + 1, none⟩) hb).trans (hd j hj)⟩
theorem Puts.mono {m n : Nat} (h : m ≤ n) {W : World} {sv : Value} {len : Nat} {at_ : Nat → Int} {b_ : Nat → ByteArray} : Puts m W sv len at_ b_ → Puts n W sv len at_ b_
  | .inl e => .inl e
  | .inr ⟨b, off, cap, e, hb, hc⟩ => .inr ⟨b, off, cap, e, Nat.lt_of_lt_of_le hb h, hc⟩

/-- **slices.Backward(s)** hands back a value that tells all, the last one first. -/
theorem back_stops (F : Fence) (n : Nat) (h8 : F.fn 70) (hro : F.round = none) (hn : 1 ≤ n) (Bs n₀ : Nat) (sv : Value) (len : Nat) (at_ : Nat → Int) (b_ : Nat → ByteArray) (hreach : len * 24 ≤ 140737488351232) (w : World) (hBs : Bs < w.heap.size) (hBn : Bs < n₀) (hn₀ : n₀ ≤ w.heap.size)
    (hc : w.cell? ⟨Bs, 0, none⟩ = some sv) (hI : Puts n₀ w sv len at_ b_) :
    SeqStopsK F n Try.prog 70 #[.pointer (some ⟨Bs, 0, none⟩)] (fun x : Nat × Int × ByteArray => #[Value.int .i64 (x.1 : Int), .agg #[.int .i64 x.2.1, .string x.2.2]]) (Below n₀) (fun ys => ys = upto (bk at_ b_ len) len)
      (fun pre => ∃ k, k ≤ len ∧ pre = upto (bk at_ b_ len) k) len w := fun l J Jx W hW _ _ hY h0 => by
  have hc' := (hW.cell (p := ⟨Bs, 0, none⟩) hBs).trans hc
  rcases hI.below (hW.mono hn₀) with ⟨a, cap, rfl, rfl⟩ | ⟨b, off, cap, rfl, hb, hcs, hds⟩
  · exact (back1_nil_in F n h8 hro l Bs a cap J W hc' h0).mono fun e W' ⟨he, hj⟩ => ⟨he, .inl ⟨_, rfl, hj⟩⟩
  · exact back1_in F n h8 hro hn l Bs n₀ b off len cap at_ b_ hreach hb J Jx hY W hBn hc' hcs hds h0
end Go.Proofs.Rd
