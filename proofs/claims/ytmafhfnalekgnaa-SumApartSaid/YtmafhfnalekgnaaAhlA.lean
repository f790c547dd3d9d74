/-
  A small logic over the model: an abstract heap of blocks with names of our own, frame-local boxes, and the relation to the model's world. Nothing of any program stands here.
-/
import Derived.Orders
import Derived.Below
import Derived.Laws.Sem
import Derived.Laws.World
import Derived.Laws.Cells
namespace Go.Ahl
set_option linter.unusedVariables false

/-! ## Lists side by side -/
def L2 {α β : Type} (R : α → β → Prop) (l : List α) (l' : List β) : Prop :=
  l.length = l'.length ∧ ∀ (i : Nat) (a : α) (b : β), l[i]? = some a → l'[i]? = some b → R a b

theorem L2.nil {α β : Type} {R : α → β → Prop} : L2 R [] [] := ⟨rfl, fun i a b h => by simp at h⟩
theorem L2.cons {α β : Type} {R : α → β → Prop} {a : α} {b : β} {l : List α} {l' : List β} (h : R a b) (t : L2 R l l') : L2 R (a :: l) (b :: l') := by
  refine ⟨by simp [t.1], fun i x y hx hy => ?_⟩
  cases i with
  | zero => simp at hx hy; subst hx; subst hy; exact h
  | succ i => simp at hx hy; exact t.2 i x y hx hy
theorem L2.mono {α β : Type} {R R' : α → β → Prop} {l : List α} {l' : List β} (h : L2 R l l') (k : ∀ a b, R a b → R' a b) : L2 R' l l' :=
  ⟨h.1, fun i a b ha hb => k a b (h.2 i a b ha hb)⟩
theorem L2.get {α β : Type} {R : α → β → Prop} {l : List α} {l' : List β} (h : L2 R l l') {i : Nat} {a : α} (ha : l[i]? = some a) : ∃ b, l'[i]? = some b ∧ R a b := by
  have hi : i < l.length := by
    rcases Nat.lt_or_ge i l.length with q | q
    · exact q
    · rw [List.getElem?_eq_none q] at ha; cases ha
  have hi' : i < l'.length := h.1 ▸ hi
  exact ⟨l'[i], List.getElem?_eq_getElem hi', h.2 i a _ ha (List.getElem?_eq_getElem hi')⟩
theorem L2.cons_inv {α β : Type} {R : α → β → Prop} {a : α} {l : List α} {l' : List β} (h : L2 R (a :: l) l') : ∃ b t, l' = b :: t ∧ R a b ∧ L2 R l t := by
  cases l' with
  | nil => have := h.1; simp at this
  | cons b t =>
    refine ⟨b, t, rfl, h.2 0 a b rfl rfl, by have := h.1; simpa using this, fun i x y hx hy => h.2 (i + 1) x y (by simpa using hx) (by simpa using hy)⟩
theorem L2.nil_inv {α β : Type} {R : α → β → Prop} {l' : List β} (h : L2 R ([] : List α) l') : l' = [] := by
  cases l' with
  | nil => rfl
  | cons b t => have := h.1; simp at this
theorem L2.append {α β : Type} {R : α → β → Prop} {l : List α} {l' : List β} {m : List α} {m' : List β} (h : L2 R l l') (k : L2 R m m') : L2 R (l ++ m) (l' ++ m') := by
  induction l generalizing l' with
  | nil => rw [h.nil_inv]; exact k
  | cons a l ih => obtain ⟨b, t, rfl, hab, ht⟩ := h.cons_inv; exact L2.cons hab (ih ht)

/-- A list with a part of it written over. -/
def spl {α : Type} (l : List α) (off : Nat) (vs : List α) : List α := l.take off ++ vs ++ l.drop (off + vs.length)
theorem spl_length {α : Type} {l : List α} {off : Nat} {vs : List α} (h : off + vs.length ≤ l.length) : (spl l off vs).length = l.length := by
  simp [spl]; omega
theorem spl_get {α : Type} {l : List α} {off : Nat} {vs : List α} (h : off + vs.length ≤ l.length) (k : Nat) :
    (spl l off vs)[k]? = if k < off then l[k]? else if k < off + vs.length then vs[k - off]? else l[k]? := by
  unfold spl
  have h1 : (l.take off).length = off := by simp; omega
  by_cases a : k < off
  · simp only [a, if_true]
    rw [List.append_assoc, List.getElem?_append_left (by omega)]
    exact List.getElem?_take_of_lt a
  · simp only [a, if_false]
    rw [List.append_assoc, List.getElem?_append_right (by omega), h1]
    by_cases b : k < off + vs.length
    · simp only [b, if_true]
      rw [List.getElem?_append_left (by omega)]
    · simp only [b, if_false]
      rw [List.getElem?_append_right (by omega), List.getElem?_drop]
      congr 1; omega
theorem spl_one {α : Type} {l : List α} {off : Nat} {v : α} (h : off < l.length) : spl l off [v] = l.set off v := by
  refine List.ext_getElem? fun k => ?_
  rw [spl_get (by simp; omega), List.getElem?_set]
  by_cases a : k < off
  · simp [a]; omega
  · by_cases b : k = off
    · subst b; simp [h]
    · have : ¬ k < off + 1 := by omega
      simp [a, this]; intro e; omega

/-! ## The abstract heap -/
structure Blk where
  esz : Nat
  cells : List Value
  wr : Bool

structure AH where
  next : Nat
  get : Nat → Option Blk

def AH.alloc (H : AH) (b : Blk) : AH := ⟨H.next + 1, fun m => if m = H.next then some b else H.get m⟩
def AH.set (H : AH) (n : Nat) (b : Blk) : AH := ⟨H.next, fun m => if m = n then some b else H.get m⟩
def AH.kill (H : AH) (n : Nat) : AH := ⟨H.next, fun m => if m = n then none else H.get m⟩

def AH.ok (H : AH) : Prop := ∀ n b, H.get n = some b → n < H.next

/-- What was there is there, as it was. -/
structure Ext (H H' : AH) : Prop where
  next : H.next ≤ H'.next
  old : ∀ n, n < H.next → H'.get n = H.get n
theorem Ext.refl (H : AH) : Ext H H := ⟨Nat.le_refl _, fun _ _ => rfl⟩
theorem Ext.trans {A B C : AH} (h : Ext A B) (k : Ext B C) : Ext A C :=
  ⟨Nat.le_trans h.next k.next, fun n hn => (k.old n (Nat.lt_of_lt_of_le hn h.next)).trans (h.old n hn)⟩
theorem Ext.get {A B : AH} (h : Ext A B) (ok : A.ok) {n : Nat} {b : Blk} (e : A.get n = some b) : B.get n = some b := (h.old n (ok n b e)).trans e

/-! ## Names and places -/
structure Info where
  blk : Nat
  base : Nat
  size : Nat
  esz : Nat

abbrev HM := Nat → Option Info
abbrev LM := List Nat
def HM.le (h h' : HM) : Prop := ∀ n i, h n = some i → h' n = some i
theorem HM.le_refl (h : HM) : h.le h := fun _ _ e => e
theorem HM.le_trans {a b c : HM} (h : a.le b) (k : b.le c) : a.le c := fun n i e => k n i (h n i e)

/-- A place with spot 'none' lies in the heap, one with a spot in a box of the frame. -/
def amap (hm : HM) (lb : LM) (a : Addr) : Option Addr :=
  match a.spot with
  | none => (hm a.block).map fun i => ⟨i.blk, i.base + a.off, none⟩
  | some _ => (lb[a.block]?).map fun B => ⟨B, a.off, none⟩

theorem amap_mono {hm hm' : HM} {lb lb' : LM} (h : hm.le hm') (hl : ∀ (k B : Nat), lb[k]? = some B → lb'[k]? = some B) {a c : Addr} (e : amap hm lb a = some c) : amap hm' lb' a = some c := by
  unfold amap at *
  cases hs : a.spot with
  | none =>
    simp only [hs] at e ⊢
    cases hi : hm a.block with
    | none => simp [hi] at e
    | some i => rw [h _ _ hi]; simpa [hi] using e
  | some x =>
    simp only [hs] at e ⊢
    cases hi : lb[a.block]? with
    | none => simp [hi] at e
    | some i => rw [hl _ _ hi]; simpa [hi] using e

/-- What a closure holds. -/
def PR (hm : HM) (lb : LM) : Value → Value → Prop
  | .pointer (some a), v => ∃ c, amap hm lb a = some c ∧ v = .pointer (some c)
  | .slice _ _ _, _ => False
  | .func _ _ _, _ => False
  | .agg _, _ => False
  | .tuple _, _ => False
  | x, v => v = x

/-- One cell. -/
def SR (hm : HM) (lb : LM) : Value → Value → Prop
  | .pointer (some a), v => ∃ c, amap hm lb a = some c ∧ v = .pointer (some c)
  | .slice (some a) len cap, v => ∃ i o cap', hm a.block = some i ∧ v = .slice (some ⟨i.blk, o, none⟩) len cap' ∧ len ≤ cap' ∧ (cap' ≠ 0 → o = i.base + a.off) ∧ o + cap' * i.esz ≤ i.size ∧ cap ≤ cap' ∧ (a.spot = none → cap' = cap)
  | .func fn first captured, v => ∃ c', v = .func fn #[] c' ∧ first = #[] ∧ L2 (PR hm lb) captured.toList c'.toList
  | .agg _, _ => False
  | .tuple _, _ => False
  | x, v => v = x

/-- One cell, or a row of them. -/
def VR1 (hm : HM) (lb : LM) : Value → Value → Prop
  | .agg cs, v => ∃ cs', v = .agg cs' ∧ L2 (SR hm lb) cs.toList cs'.toList
  | x, v => SR hm lb x v

/-- What stands in the slot of an operation that was passed over. -/
def skipV : Value := .tuple #[.tuple #[]]

/-- Whatever a slot holds. The empty tuple: we do not care. -/
def VR (hm : HM) (lb : LM) : Value → Value → Prop
  | .tuple vs, v => vs = #[] ∨ (vs = #[.tuple #[]] ∧ v = .tuple #[]) ∨ ∃ vs', v = .tuple vs' ∧ L2 (VR1 hm lb) vs.toList vs'.toList
  | x, v => VR1 hm lb x v

section mono
variable {hm hm' : HM} {lb lb' : LM} (h : hm.le hm') (hl : ∀ (k B : Nat), lb[k]? = some B → lb'[k]? = some B)
include h hl
theorem PR.mono {x v : Value} (e : PR hm lb x v) : PR hm' lb' x v := by
  unfold PR at *
  split at e
  · obtain ⟨c, h1, h2⟩ := e; exact ⟨c, amap_mono h hl h1, h2⟩
  all_goals first | exact e | cases e
theorem SR.mono {x v : Value} (e : SR hm lb x v) : SR hm' lb' x v := by
  unfold SR at *
  split at e
  · obtain ⟨c, h1, h2⟩ := e; exact ⟨c, amap_mono h hl h1, h2⟩
  · obtain ⟨i, o, cap', h1, h2⟩ := e; exact ⟨i, o, cap', h _ _ h1, h2⟩
  · obtain ⟨c', h1, h2, h3⟩ := e; exact ⟨c', h1, h2, h3.mono fun a b q => PR.mono h hl q⟩
  all_goals first | exact e | cases e
theorem VR1.mono {x v : Value} (e : VR1 hm lb x v) : VR1 hm' lb' x v := by
  unfold VR1 at *
  split at e
  · obtain ⟨c, h1, h2⟩ := e; exact ⟨c, h1, h2.mono fun a b q => SR.mono h hl q⟩
  · exact SR.mono h hl e
theorem VR.mono {x v : Value} (e : VR hm lb x v) : VR hm' lb' x v := by
  unfold VR at *
  split at e
  · rcases e with e | e | ⟨c, h1, h2⟩
    · exact .inl e
    · exact .inr (.inl e)
    · exact .inr (.inr ⟨c, h1, h2.mono fun a b q => VR1.mono h hl q⟩)
  · exact VR1.mono h hl e
end mono

/-! ## The relation to the world -/
def Free (fz : Nat × Nat) (n : Nat) : Prop := ∀ k, k < n → ¬ (fz.1 ≤ k ∧ k < fz.2)

/-- What is not ours to write: blocks that must stay; and below what number the blocks lie that are read alone. -/
structure Env where
  U : Nat → Prop
  N : Nat
instance : CoeFun Env (fun _ => Nat → Prop) := ⟨Env.U⟩

structure HRel (hm : HM) (w0 : World) (U : Env) (H : AH) (w : World) : Prop where
  nsz : U.N ≤ w.heap.size
  os : w.os = w0.os
  tape : w.tape = w0.tape
  output : w.output = w0.output
  size : w0.heap.size ≤ w.heap.size
  prot : ∀ B, U B → B < w0.heap.size ∧ w.heap[B]? = w0.heap[B]?
  fresh : ∀ n, H.next ≤ n → hm n = none
  blk : ∀ n b, H.get n = some b → ∃ i C e fz, hm n = some i ∧ w.heap[i.blk]? = some (.cells C e fz) ∧ C.size = i.size ∧ i.esz = b.esz ∧ i.base + b.cells.length ≤ i.size ∧
    (∀ (k : Nat) (v : Value), b.cells[k]? = some v → ∃ v', C[i.base + k]? = some v' ∧ SR hm [] v v') ∧ (b.wr = true → i.base = 0 ∧ Free fz i.size ∧ ¬ U i.blk) ∧ (b.wr = false → i.blk < U.N)
  inj : ∀ n b n' b' i i', H.get n = some b → b.wr = true → H.get n' = some b' → n ≠ n' → hm n = some i → hm n' = some i' → i.blk ≠ i'.blk

structure AS where
  n : Nat
  tmps : Nat → Value
  locs : List (List Value)
  heap : AH

def AS.setHeap (st : AS) (H : AH) : AS := { st with heap := H }
def AS.setLocs (st : AS) (l : List (List Value)) : AS := { st with locs := l }

structure Rel (hm : HM) (lb : LM) (w0 : World) (U : Env) (st : AS) (w : World) (a : Act) : Prop extends HRel hm w0 U st.heap w where
  defers : a.defers = []
  tsize : a.tmps.size = st.n
  tmps : ∀ t, t < st.n → ∃ v, a.tmps[t]? = some v ∧ VR hm lb (st.tmps t) v
  llen : lb.length = st.locs.length
  loc : ∀ (k : Nat) (cs : List Value), st.locs[k]? = some cs → ∃ B C e fz, lb[k]? = some B ∧ w.heap[B]? = some (.cells C e fz) ∧ C.size = cs.length ∧ Free fz C.size ∧ (¬ U B ∧ U.N ≤ B) ∧
    ∀ (j : Nat) (v : Value), cs[j]? = some v → ∃ v', C[j]? = some v' ∧ SR hm lb v v'
  linj : ∀ (k k' B : Nat), lb[k]? = some B → lb[k']? = some B → k = k'
  lheap : ∀ (k B n : Nat) (b : Blk) (i : Info), lb[k]? = some B → st.heap.get n = some b → hm n = some i → i.blk ≠ B

theorem HRel.lt {hm : HM} {w0 : World} {U : Env} {H : AH} {w : World} (r : HRel hm w0 U H w) {n : Nat} {b : Blk} (h : H.get n = some b) : n < H.next := by
  obtain ⟨i, _, _, _, hi, _⟩ := r.blk n b h
  rcases Nat.lt_or_ge n H.next with q | q
  · exact q
  · rw [r.fresh n q] at hi; cases hi

/-- A place within a live block is mapped. -/
theorem HRel.amap {hm : HM} {w0 : World} {U : Env} {H : AH} {w : World} (r : HRel hm w0 U H w) {lb : LM} {n off : Nat} {c : Addr}
    (e : Ahl.amap hm lb ⟨n, off, none⟩ = some c) : ∃ i, hm n = some i ∧ c = ⟨i.blk, i.base + off, none⟩ := by
  unfold Ahl.amap at e
  simp only at e
  cases hi : hm n with
  | none => simp [hi] at e
  | some i => simp [hi] at e; exact ⟨i, rfl, e.symm⟩

end Go.Ahl
