/-
  A logic over the model, in one text.
-/
import Derived.Orders
import Derived.Below
import Derived.Laws.Sem
import Derived.Laws.World
import Derived.Laws.Cells
/-
  A logic over the model in which a slice whose cells no longer change is a value that holds its contents. Part one: what stands for what. Nothing of any program stands here.
-/
namespace Go.Fhl
set_option linter.unusedVariables false
set_option linter.unusedSimpArgs false

/-! ## Lists side by side -/
def L2 {α β : Type} (R : α → β → Prop) (l : List α) (l' : List β) : Prop :=
  l.length = l'.length ∧ ∀ (i : Nat) (a : α) (b : β), l[i]? = some a → l'[i]? = some b → R a b

theorem L2.nil {α β : Type} {R : α → β → Prop} : L2 R [] [] := ⟨rfl, fun i a b h => by simp at h⟩
theorem L2.cons {α β : Type} {R : α → β → Prop} {a : α} {b : β} {l : List α} {l' : List β} (h : R a b) (t : L2 R l l') : L2 R (a :: l) (b :: l') := by
  refine ⟨by simp [t.1], fun i x y hx hy => ?_⟩
  cases i with
  | zero => simp at hx hy; subst hx; subst hy; exact h
  | succ i => simp at hx hy; exact t.2 i x y hx hy
theorem L2.mono {α β : Type} {R R' : α → β → Prop} {l : List α} {l' : List β} (h : L2 R l l') (k : ∀ a b, a ∈ l → R a b → R' a b) : L2 R' l l' :=
  ⟨h.1, fun i a b ha hb => k a b (List.mem_of_getElem? ha) (h.2 i a b ha hb)⟩
theorem L2.get {α β : Type} {R : α → β → Prop} {l : List α} {l' : List β} (h : L2 R l l') {i : Nat} {a : α} (ha : l[i]? = some a) : ∃ b, l'[i]? = some b ∧ R a b := by
  have hi : i < l.length := by
    rcases Nat.lt_or_ge i l.length with q | q
    · exact q
    · rw [List.getElem?_eq_none q] at ha; cases ha
  have hi' : i < l'.length := h.1 ▸ hi
  exact ⟨l'[i], List.getElem?_eq_getElem hi', h.2 i a _ ha (List.getElem?_eq_getElem hi')⟩
theorem L2.cons_inv {α β : Type} {R : α → β → Prop} {a : α} {l : List α} {l' : List β} (h : L2 R (a :: l) l') : ∃ b t, l' = b :: t ∧ R a b ∧ L2 R l t := by
  cases l' with
  | nil => have := h.1; simp at this
  | cons b t =>
    refine ⟨b, t, rfl, h.2 0 a b rfl rfl, by have := h.1; simpa using this, fun i x y hx hy => h.2 (i + 1) x y (by simpa using hx) (by simpa using hy)⟩
theorem L2.nil_inv {α β : Type} {R : α → β → Prop} {l' : List β} (h : L2 R ([] : List α) l') : l' = [] := by
  cases l' with
  | nil => rfl
  | cons b t => have := h.1; simp at this
theorem L2.append {α β : Type} {R : α → β → Prop} {l : List α} {l' : List β} {m : List α} {m' : List β} (h : L2 R l l') (k : L2 R m m') : L2 R (l ++ m) (l' ++ m') := by
  induction l generalizing l' with
  | nil => rw [h.nil_inv]; exact k
  | cons a l ih => obtain ⟨b, t, rfl, hab, ht⟩ := h.cons_inv; exact L2.cons hab (ih ht)
theorem L2.map {α β γ : Type} {R : α → β → Prop} {f : γ → α} {g : γ → β} (l : List γ) (h : ∀ x ∈ l, R (f x) (g x)) : L2 R (l.map f) (l.map g) := by
  induction l with
  | nil => exact .nil
  | cons x l ih => exact .cons (h x (by simp)) (ih fun y hy => h y (by simp [hy]))

theorem lookup_lt {α : Type} {l : List α} {k : Nat} {x : α} (h : l[k]? = some x) : k < l.length := by
  rcases Nat.lt_or_ge k l.length with q | q
  · exact q
  · rw [List.getElem?_eq_none q] at h; cases h
theorem alookup_lt {α : Type} {l : Array α} {k : Nat} {x : α} (h : l[k]? = some x) : k < l.size := by
  rcases Nat.lt_or_ge k l.size with q | q
  · exact q
  · rw [Array.getElem?_eq_none q] at h; cases h

/-- A list with a part of it written over. -/
def spl {α : Type} (l : List α) (off : Nat) (vs : List α) : List α := l.take off ++ vs ++ l.drop (off + vs.length)
theorem spl_length {α : Type} {l : List α} {off : Nat} {vs : List α} (h : off + vs.length ≤ l.length) : (spl l off vs).length = l.length := by
  simp [spl]; omega
theorem spl_get {α : Type} {l : List α} {off : Nat} {vs : List α} (h : off + vs.length ≤ l.length) (k : Nat) :
    (spl l off vs)[k]? = if k < off then l[k]? else if k < off + vs.length then vs[k - off]? else l[k]? := by
  unfold spl
  have h1 : (l.take off).length = off := by simp; omega
  by_cases a : k < off
  · simp only [a, if_true]
    rw [List.append_assoc, List.getElem?_append_left (by omega)]
    exact List.getElem?_take_of_lt a
  · simp only [a, if_false]
    rw [List.append_assoc, List.getElem?_append_right (by omega), h1]
    by_cases b : k < off + vs.length
    · simp only [b, if_true]
      rw [List.getElem?_append_left (by omega)]
    · simp only [b, if_false]
      rw [List.getElem?_append_right (by omega), List.getElem?_drop]
      congr 1; omega

/-! ## Rows with numbers -/
def lk {α : Type} : List (Nat × α) → Nat → Option α
  | [], _ => none
  | (m, x) :: l, n => cond (Nat.beq m n) (some x) (lk l n)
def ups {α : Type} : List (Nat × α) → Nat → α → List (Nat × α)
  | [], n, y => [(n, y)]
  | (m, x) :: l, n, y => cond (Nat.beq m n) ((m, y) :: l) ((m, x) :: ups l n y)
def del {α : Type} : List (Nat × α) → Nat → List (Nat × α)
  | [], _ => []
  | (m, x) :: l, n => cond (Nat.beq m n) (del l n) ((m, x) :: del l n)

theorem beq_self (n : Nat) : Nat.beq n n = true := Nat.beq_refl n
theorem beq_ne {m n : Nat} (h : m ≠ n) : Nat.beq m n = false := by
  cases e : Nat.beq m n with
  | false => rfl
  | true => exact absurd (Nat.eq_of_beq_eq_true e) h
theorem lk_cons_self {α : Type} (n : Nat) (x : α) (l : List (Nat × α)) : lk ((n, x) :: l) n = some x := by simp [lk, beq_self]
theorem lk_cons_ne {α : Type} {m n : Nat} (h : m ≠ n) (x : α) (l : List (Nat × α)) : lk ((m, x) :: l) n = lk l n := by simp [lk, beq_ne h]
theorem lk_ups {α : Type} (l : List (Nat × α)) (n : Nat) (y : α) (k : Nat) : lk (ups l n y) k = if k = n then some y else lk l k := by
  induction l with
  | nil =>
    by_cases e : k = n
    · subst e; simp [ups, lk, beq_self]
    · simp [ups, lk, e, beq_ne (fun q => e q.symm : n ≠ k)]
  | cons p l ih =>
    obtain ⟨m, x⟩ := p
    by_cases q : m = n
    · subst q
      simp only [ups, beq_self, cond_true]
      by_cases e : k = m
      · subst e; simp [lk, beq_self]
      · simp [lk, e, beq_ne (fun q => e q.symm : m ≠ k)]
    · simp only [ups, beq_ne q, cond_false]
      by_cases e : m = k
      · subst e; simp [lk, beq_self, q]
      · simp only [lk, beq_ne e, cond_false, ih]
theorem lk_del {α : Type} (l : List (Nat × α)) (n k : Nat) : lk (del l n) k = if k = n then none else lk l k := by
  induction l with
  | nil => simp [del, lk]
  | cons p l ih =>
    obtain ⟨m, x⟩ := p
    by_cases q : m = n
    · subst q
      simp only [del, beq_self, cond_true, ih]
      by_cases e : k = m
      · simp [e]
      · simp [lk, e, beq_ne (fun q => e q.symm : m ≠ k)]
    · simp only [del, beq_ne q, cond_false]
      by_cases e : m = k
      · subst e; simp [lk, beq_self, q]
      · simp only [lk, beq_ne e, cond_false, ih]

/-! ## The abstract heap: blocks that are ours to write. 'gro': one that may grow, and move. -/
structure Blk where
  esz : Nat
  cells : List Value
  gro : Bool

structure AH where
  next : Nat
  l : List (Nat × Blk)
def AH.get (H : AH) (n : Nat) : Option Blk := lk H.l n
def AH.alloc (H : AH) (b : Blk) : AH := ⟨H.next + 1, (H.next, b) :: H.l⟩
def AH.set (H : AH) (n : Nat) (b : Blk) : AH := ⟨H.next, ups H.l n b⟩
def AH.kill (H : AH) (n : Nat) : AH := ⟨H.next, del H.l n⟩
theorem alloc_get (H : AH) (b : Blk) (n : Nat) : (H.alloc b).get n = if n = H.next then some b else H.get n := by
  unfold AH.alloc AH.get
  by_cases e : n = H.next
  · subst e; simp [lk_cons_self]
  · simp [e, lk_cons_ne (fun q => e q.symm : H.next ≠ n)]
theorem set_get (H : AH) (m : Nat) (b : Blk) (n : Nat) : (H.set m b).get n = if n = m then some b else H.get n := lk_ups _ _ _ _
theorem kill_get (H : AH) (m n : Nat) : (H.kill m).get n = if n = m then none else H.get n := lk_del _ _ _

/-! ## Names and places -/
structure Info where
  blk : Nat
  size : Nat
  esz : Nat
  gro : Bool
  len : Nat

/-- 'map': where the named blocks lie. 'fz': cells that never change, and what they hold. -/
structure GM where
  map : Nat → Option Info
  fz : Nat → Nat → Option Value

def Info.le (i i' : Info) : Prop := i' = i ∨ (i.gro = true ∧ i'.gro = true ∧ i'.esz = i.esz ∧ i.len < i'.len)
theorem Info.le_refl (i : Info) : i.le i := .inl rfl
theorem Info.le_trans {a b c : Info} (h : a.le b) (k : b.le c) : a.le c := by
  rcases h with rfl | ⟨h1, h2, h3, h4⟩
  · exact k
  · rcases k with rfl | ⟨k1, k2, k3, k4⟩
    · exact .inr ⟨h1, h2, h3, h4⟩
    · exact .inr ⟨h1, k2, k3.trans h3, by omega⟩

/-- What was known below a number is known. -/
structure GM.leb (b : Nat) (h h' : GM) : Prop where
  map : ∀ n i, n < b → h.map n = some i → ∃ i', h'.map n = some i' ∧ i.le i'
  fz : ∀ B k v, h.fz B k = some v → h'.fz B k = some v
structure GM.le (h h' : GM) : Prop where
  map : ∀ n i, h.map n = some i → ∃ i', h'.map n = some i' ∧ i.le i'
  fz : ∀ B k v, h.fz B k = some v → h'.fz B k = some v
theorem GM.le_refl (h : GM) : h.le h := ⟨fun n i e => ⟨i, e, .inl rfl⟩, fun _ _ _ e => e⟩
theorem GM.le_trans {a b c : GM} (h : a.le b) (k : b.le c) : a.le c :=
  ⟨fun n i e => by obtain ⟨j, h1, h2⟩ := h.map n i e; obtain ⟨l, h3, h4⟩ := k.map n j h1; exact ⟨l, h3, Info.le_trans h2 h4⟩, fun B x v e => k.fz B x v (h.fz B x v e)⟩
theorem GM.le.leb {a b : GM} (h : a.le b) (n : Nat) : a.leb n b := ⟨fun m i _ e => h.map m i e, h.fz⟩
theorem GM.leb_refl (n : Nat) (h : GM) : h.leb n h := (GM.le_refl h).leb n
theorem GM.leb_trans {n : Nat} {a b c : GM} (h : a.leb n b) (k : b.leb n c) : a.leb n c :=
  ⟨fun m i hm e => by obtain ⟨j, h1, h2⟩ := h.map m i hm e; obtain ⟨l, h3, h4⟩ := k.map m j hm h1; exact ⟨l, h3, Info.le_trans h2 h4⟩, fun B x v e => k.fz B x v (h.fz B x v e)⟩
theorem GM.leb.mono {n m : Nat} {a b : GM} (h : a.leb n b) (k : m ≤ n) : a.leb m b := ⟨fun x i hx e => h.map x i (by omega) e, h.fz⟩

abbrev LM := List Nat
def LM.le (l l' : LM) : Prop := ∀ (k B : Nat), l[k]? = some B → l'[k]? = some B
theorem LM.le_refl (l : LM) : l.le l := fun _ _ h => h
theorem LM.le_trans {a b c : LM} (h : LM.le a b) (k : LM.le b c) : LM.le a c := fun i B e => k i B (h i B e)
theorem LM.nil_le (l : LM) : LM.le [] l := fun k B h => by simp at h
theorem LM.app_le (l : LM) (x : Nat) : LM.le l (l ++ [x]) := by
  intro k B h
  rw [List.getElem?_append_left (lookup_lt h)]; exact h

/-- A place. Spot 'none': in a block that stays where it is; 'some 0': in a box of the frame; 'some (k + 1)': in a block that grows, when it has k cells. -/
def ARel (hm : GM) (lb : LM) (a c : Addr) : Prop :=
  match a.spot with
  | none => ∃ i, hm.map a.block = some i ∧ i.gro = false ∧ c = ⟨i.blk, a.off, none⟩
  | some 0 => ∃ B, lb[a.block]? = some B ∧ c = ⟨B, a.off, none⟩
  | some (k + 1) => ∃ i, hm.map a.block = some i ∧ i.gro = true ∧ k ≤ i.len ∧ c.spot = none ∧ (i.len = k → c = ⟨i.blk, a.off, none⟩)

theorem ARel.mono {hm hm' : GM} {lb lb' : LM} (h : hm.le hm') (hl : LM.le lb lb') {a c : Addr} (e : ARel hm lb a c) : ARel hm' lb' a c := by
  unfold ARel at *
  split at e
  · obtain ⟨i, h1, h2, h3⟩ := e
    obtain ⟨i', h4, h5⟩ := h.map _ _ h1
    rcases h5 with rfl | ⟨h6, _⟩
    · exact ⟨i', h4, h2, h3⟩
    · rw [h2] at h6; cases h6
  · obtain ⟨B, h1, h2⟩ := e; exact ⟨B, hl _ _ h1, h2⟩
  · obtain ⟨i, h1, h2, h3, h4, h5⟩ := e
    obtain ⟨i', h6, h7⟩ := h.map _ _ h1
    rcases h7 with rfl | ⟨h8, h9, h10, h11⟩
    · exact ⟨i', h6, h2, h3, h4, h5⟩
    · exact ⟨i', h6, h9, by omega, h4, fun q => by omega⟩

/-- A row of cells that never change: a pointer to them (e = 0), or a slice of elements of e cells. -/
def DeepR (fz : Nat → Nat → Option Value) (e : Nat) (cs : List Value) (v : Value) : Prop :=
  match e with
  | 0 => ∃ B o, v = .pointer (some ⟨B, o, none⟩) ∧ ∀ (j : Nat) (c : Value), cs[j]? = some c → fz B (o + j) = some c
  | e + 1 => ∃ a n cap, v = .slice a n cap ∧ n * (e + 1) = cs.length ∧ n ≤ cap ∧ (cs = [] ∨ ∃ B o, a = some ⟨B, o, none⟩ ∧ ∀ (j : Nat) (c : Value), cs[j]? = some c → fz B (o + j) = some c)
theorem DeepR.mono {fz fz' : Nat → Nat → Option Value} (h : ∀ B k v, fz B k = some v → fz' B k = some v) {e : Nat} {cs : List Value} {v : Value} (r : DeepR fz e cs v) : DeepR fz' e cs v := by
  cases e with
  | zero => obtain ⟨B, o, h1, h2⟩ := r; exact ⟨B, o, h1, fun j c q => h _ _ _ (h2 j c q)⟩
  | succ e =>
    obtain ⟨a, n, cap, h1, h2, h3, h4⟩ := r
    refine ⟨a, n, cap, h1, h2, h3, h4.imp id ?_⟩
    rintro ⟨B, o, h5, h6⟩
    exact ⟨B, o, h5, fun j c q => h _ _ _ (h6 j c q)⟩

/-- What a closure holds. -/
def PR (hm : GM) (lb : LM) : Value → Value → Prop
  | .pointer (some a), v => ∃ c, ARel hm lb a c ∧ v = .pointer (some c)
  | .iface e (.tuple cs), v => DeepR hm.fz e cs.toList v
  | .slice _ _ _, _ => False
  | .func _ _ _, _ => False
  | .agg _, _ => False
  | .tuple _, _ => False
  | x, v => v = x

/-- One cell. -/
def SR (hm : GM) (lb : LM) : Value → Value → Prop
  | .pointer (some a), v => ∃ c, ARel hm lb a c ∧ v = .pointer (some c)
  | .slice (some a) len cap, v =>
    match a.spot with
    | none => ∃ i o, hm.map a.block = some i ∧ i.gro = false ∧ v = .slice (some ⟨i.blk, o, none⟩) len cap ∧ len ≤ cap ∧ (cap ≠ 0 → o = a.off) ∧ o + cap * i.esz ≤ i.size
    | some 2 => ∃ i p cap', hm.map a.block = some i ∧ i.gro = true ∧ v = .slice p len cap' ∧ cap ≤ i.len ∧ (i.len = cap → len ≠ 0 → p = some ⟨i.blk, a.off, none⟩)
    | some _ => ∃ i p cap', hm.map a.block = some i ∧ i.gro = true ∧ v = .slice p len cap' ∧ len * i.esz ≤ i.len ∧ (i.len = len * i.esz → len ≤ cap' ∧ (cap' ≠ 0 → p = some ⟨i.blk, 0, none⟩) ∧ cap' * i.esz ≤ i.size)
  | .iface e (.tuple cs), v => DeepR hm.fz e cs.toList v
  | .func fn first captured, v => ∃ c', v = .func fn #[] c' ∧ first = #[] ∧ L2 (PR hm lb) captured.toList c'.toList
  | .agg _, _ => False
  | .tuple _, _ => False
  | x, v => v = x

/-- One cell, or a row of them. -/
def VR1 (hm : GM) (lb : LM) : Value → Value → Prop
  | .agg cs, v => ∃ cs', v = .agg cs' ∧ L2 (SR hm lb) cs.toList cs'.toList
  | x, v => SR hm lb x v

/-- What stands in the slot of an operation that was passed over. -/
def skipV : Value := .tuple #[.tuple #[]]

/-- Whatever a slot holds. The empty tuple: we do not care. -/
def VR (hm : GM) (lb : LM) : Value → Value → Prop
  | .tuple vs, v => vs = #[] ∨ (vs = #[.tuple #[]] ∧ v = .tuple #[]) ∨ ∃ vs', v = .tuple vs' ∧ L2 (VR1 hm lb) vs.toList vs'.toList
  | x, v => VR1 hm lb x v

section mono
variable {hm hm' : GM} {lb lb' : LM} (h : hm.le hm') (hl : LM.le lb lb')
include h hl
theorem PR.mono {x v : Value} (e : PR hm lb x v) : PR hm' lb' x v := by
  unfold PR at *
  split at e
  · obtain ⟨c, h1, h2⟩ := e; exact ⟨c, h1.mono h hl, h2⟩
  · exact e.mono h.fz
  all_goals first | exact e | cases e
theorem SR.mono {x v : Value} (e : SR hm lb x v) : SR hm' lb' x v := by
  unfold SR at *
  split at e
  · obtain ⟨c, h1, h2⟩ := e; exact ⟨c, h1.mono h hl, h2⟩
  · split at e
    · obtain ⟨i, o, h1, h2, h3, h4, h5, h6⟩ := e
      obtain ⟨i', h7, h8⟩ := h.map _ _ h1
      rcases h8 with rfl | ⟨h9, _⟩
      · exact ⟨i', o, h7, h2, h3, h4, h5, h6⟩
      · rw [h2] at h9; cases h9
    · obtain ⟨i, p, cap', h1, h2, h3, h4, h5⟩ := e
      obtain ⟨i', h7, h8⟩ := h.map _ _ h1
      rcases h8 with rfl | ⟨h9, h10, h11, h12⟩
      · exact ⟨i', p, cap', h7, h2, h3, h4, h5⟩
      · exact ⟨i', p, cap', h7, h10, h3, by omega, fun q => by omega⟩
    · obtain ⟨i, p, cap', h1, h2, h3, h4, h5⟩ := e
      obtain ⟨i', h7, h8⟩ := h.map _ _ h1
      rcases h8 with rfl | ⟨h9, h10, h11, h12⟩
      · exact ⟨i', p, cap', h7, h2, h3, h4, h5⟩
      · exact ⟨i', p, cap', h7, h10, h3, by rw [h11]; omega, fun q => by rw [h11] at q; omega⟩
  · exact e.mono h.fz
  · obtain ⟨c', h1, h2, h3⟩ := e; exact ⟨c', h1, h2, h3.mono fun a b _ q => PR.mono h hl q⟩
  all_goals first | exact e | cases e
theorem VR1.mono {x v : Value} (e : VR1 hm lb x v) : VR1 hm' lb' x v := by
  unfold VR1 at *
  split at e
  · obtain ⟨c, h1, h2⟩ := e; exact ⟨c, h1, h2.mono fun a b _ q => SR.mono h hl q⟩
  · exact SR.mono h hl e
theorem VR.mono {x v : Value} (e : VR hm lb x v) : VR hm' lb' x v := by
  unfold VR at *
  split at e
  · rcases e with e | e | ⟨c, h1, h2⟩
    · exact .inl e
    · exact .inr (.inl e)
    · exact .inr (.inr ⟨c, h1, h2.mono fun a b _ q => VR1.mono h hl q⟩)
  · exact VR1.mono h hl e
end mono

/-! ## Kinds of values -/
/-- Nothing of the tuples and aggregates. -/
def one : Value → Bool
  | .agg _ | .tuple _ => false
  | _ => true

/-- What names no block: it may be frozen. -/
def pure1 : Value → Bool
  | .bool _ | .int _ _ | .string _ | .pointer none | .slice none _ _ | .nilFunc | .nilIface | .map none | .float _ _ => true
  | .iface _ (.tuple _) => true
  | _ => false
def pureV : Value → Bool
  | .agg cs => cs.toList.all pure1
  | .tuple vs => vs.toList.all fun | .agg cs => cs.toList.all pure1 | .tuple _ => false | v => pure1 v
  | v => pure1 v

/-- What the model's value is, to the letter. -/
def plain1 : Value → Bool
  | .bool _ | .int _ _ | .string _ | .pointer none | .slice none _ _ | .nilFunc | .nilIface | .map none | .float _ _ => true
  | _ => false
def plain : Value → Bool
  | .agg cs => cs.toList.all plain1
  | .tuple vs => false
  | v => plain1 v

section
variable {hm hm' : GM} {lb lb' : LM}
theorem SR.one {x v : Value} (e : SR hm lb x v) : Fhl.one v = true := by
  unfold SR at e
  split at e
  · obtain ⟨c, _, rfl⟩ := e; rfl
  · split at e
    · obtain ⟨i, o, _, _, rfl, _⟩ := e; rfl
    · obtain ⟨i, p, c, _, _, rfl, _⟩ := e; rfl
    · obtain ⟨i, p, c, _, _, rfl, _⟩ := e; rfl
  · rename_i e0 cs
    cases e0 with
    | zero => obtain ⟨B, o, rfl, _⟩ := e; rfl
    | succ e0 => obtain ⟨a, n, cap, rfl, _⟩ := e; rfl
  · obtain ⟨c', rfl, _⟩ := e; rfl
  · cases e
  · cases e
  · subst e; rename_i h1 h2 h3 h4 h5 h6
    cases v <;> first | rfl | (exact absurd rfl (h5 _)) | (exact absurd rfl (h6 _))

theorem SR.plain {x v : Value} (h : plain1 x = true) (e : SR hm lb x v) : v = x := by
  cases x <;> first | (simp [plain1] at h; done) | exact e | skip
  case pointer a => cases a <;> first | exact e | (simp [plain1] at h; done)
  case slice a l c => cases a <;> first | exact e | (simp [plain1] at h; done)
theorem SR.of_plain {x : Value} (h : plain1 x = true) : SR hm lb x x := by
  cases x <;> first | (simp [plain1] at h; done) | exact rfl | skip
  case pointer a => cases a <;> first | exact rfl | (simp [plain1] at h; done)
  case slice a l c => cases a <;> first | exact rfl | (simp [plain1] at h; done)
theorem plain1_pure1 {x : Value} (h : plain1 x = true) : pure1 x = true := by
  cases x <;> first | (simp [plain1] at h; done) | rfl | skip
  case map r => cases r <;> first | rfl | (simp [plain1] at h; done)
  case pointer a => cases a <;> first | rfl | (simp [plain1] at h; done)
  case slice a l c => cases a <;> first | rfl | (simp [plain1] at h; done)
theorem pure1_one {x : Value} (h : pure1 x = true) : Fhl.one x = true := by
  cases x <;> first | (simp [pure1] at h; done) | rfl
/-- What names no block is the same under any names. -/
theorem SR.pure {x v : Value} (h : pure1 x = true) (hf : ∀ B k v, hm.fz B k = some v → hm'.fz B k = some v) (e : SR hm lb x v) : SR hm' lb' x v := by
  cases x <;> first | (simp [pure1] at h; done) | exact e | skip
  case pointer a => cases a <;> first | exact e | (simp [pure1] at h; done)
  case slice a l c => cases a <;> first | exact e | (simp [pure1] at h; done)
  case iface t x => cases x <;> first | (simp [pure1] at h; done) | exact DeepR.mono hf e

theorem SR.repl {x v : Value} (e : SR hm lb x v) (h : pure1 x = true) (hf : ∀ B k v, hm.fz B k = some v → hm'.fz B k = some v) : SR hm' lb' x v := SR.pure h hf e

theorem VR.of_sr {x v : Value} (h : Fhl.one x = true) (e : SR hm lb x v) : VR hm lb x v := by
  cases x <;> first | (simp [Fhl.one] at h; done) | exact e
theorem VR.sr {x v : Value} (h : Fhl.one x = true) (e : VR hm lb x v) : SR hm lb x v := by
  cases x <;> first | (simp [Fhl.one] at h; done) | exact e
theorem VR1.of_sr {x v : Value} (h : Fhl.one x = true) (e : SR hm lb x v) : VR1 hm lb x v := by
  cases x <;> first | (simp [Fhl.one] at h; done) | exact e
theorem VR1.sr {x v : Value} (h : Fhl.one x = true) (e : VR1 hm lb x v) : SR hm lb x v := by
  cases x <;> first | (simp [Fhl.one] at h; done) | exact e
theorem SR.one_left {x v : Value} (e : SR hm lb x v) : Fhl.one x = true := by
  cases x <;> first | rfl | exact e.elim
theorem plain_one {x : Value} (h : plain1 x = true) : Fhl.one x = true := pure1_one (plain1_pure1 h)

theorem L2.plain {l l' : List Value} (h : l.all plain1 = true) (e : L2 (SR hm lb) l l') : l' = l := by
  induction l generalizing l' with
  | nil => exact e.nil_inv
  | cons x l ih =>
    obtain ⟨b, t, rfl, h1, h2⟩ := e.cons_inv
    simp only [List.all_cons, Bool.and_eq_true] at h
    rw [h1.plain h.1, ih h.2 h2]
theorem L2.of_plain {l : List Value} (h : l.all plain1 = true) : L2 (SR hm lb) l l := by
  induction l with
  | nil => exact .nil
  | cons x l ih =>
    simp only [List.all_cons, Bool.and_eq_true] at h
    exact .cons (SR.of_plain h.1) (ih h.2)
theorem L2.pure {l l' : List Value} (h : l.all pure1 = true) (hf : ∀ B k v, hm.fz B k = some v → hm'.fz B k = some v) (e : L2 (SR hm lb) l l') : L2 (SR hm' lb') l l' :=
  e.mono fun a b ha q => q.pure (List.all_eq_true.1 h a ha) hf
theorem plain_cases {x : Value} (h : Fhl.plain x = true) : (∃ cs, x = .agg cs ∧ cs.toList.all plain1 = true) ∨ (Fhl.one x = true ∧ plain1 x = true) := by
  cases x <;> first | (simp [Fhl.plain] at h; done) | exact .inr ⟨rfl, h⟩ | exact .inl ⟨_, rfl, h⟩
theorem VR.plain {x v : Value} (h : Fhl.plain x = true) (e : VR hm lb x v) : v = x := by
  rcases plain_cases h with ⟨cs, rfl, h1⟩ | ⟨h1, h2⟩
  · obtain ⟨cs', rfl, h2⟩ := e
    congr 1; exact Array.toList_inj.1 (h2.plain h1)
  · exact SR.plain h2 (e.sr h1)
theorem VR.of_plain {x : Value} (h : Fhl.plain x = true) : VR hm lb x x := by
  rcases plain_cases h with ⟨cs, rfl, h1⟩ | ⟨h1, h2⟩
  · exact ⟨cs, rfl, L2.of_plain h1⟩
  · exact .of_sr h1 (SR.of_plain h2)
theorem VR.undef (v : Value) : VR hm lb Go.undef v := .inl rfl
theorem VR1.pure {x v : Value} (h : (match x with | .agg cs => cs.toList.all pure1 | .tuple _ => false | v => pure1 v) = true) (hf : ∀ B k v, hm.fz B k = some v → hm'.fz B k = some v) (e : VR1 hm lb x v) : VR1 hm' lb' x v := by
  by_cases ho : Fhl.one x = true
  · refine .of_sr ho ((e.sr ho).pure ?_ hf)
    cases x <;> first | (simp [Fhl.one] at ho; done) | exact h
  · cases x <;> first | (simp [Fhl.one] at ho; done) | skip
    case agg cs => obtain ⟨cs', rfl, h2⟩ := e; exact ⟨cs', rfl, L2.pure h hf h2⟩
    case tuple vs => simp at h
theorem VR.pure {x v : Value} (h : pureV x = true) (hf : ∀ B k v, hm.fz B k = some v → hm'.fz B k = some v) (e : VR hm lb x v) : VR hm' lb' x v := by
  by_cases ho : ∃ vs, x = .tuple vs
  · obtain ⟨vs, rfl⟩ := ho
    rcases e with e | e | ⟨vs', rfl, h2⟩
    · exact .inl e
    · exact .inr (.inl e)
    · refine .inr (.inr ⟨vs', rfl, h2.mono fun a b ha q => VR1.pure ?_ hf q⟩)
      exact List.all_eq_true.1 h a ha
  · have : VR1 hm lb x v := by cases x <;> first | exact e | exact absurd ⟨_, rfl⟩ ho
    have h2 : VR1 hm' lb' x v := VR1.pure (by cases x <;> first | exact h | exact absurd ⟨_, rfl⟩ ho) hf this
    cases x <;> first | exact h2 | exact absurd ⟨_, rfl⟩ ho
end

/-! ## The relation to the world -/
def Free (fz : Nat × Nat) (n : Nat) : Prop := ∀ k, k < n → ¬ (fz.1 ≤ k ∧ k < fz.2)
theorem Free.zero (n : Nat) : Free (0, 0) n := fun k _ hk => by omega

/-- What is not ours to write: blocks that must stay, and what was known of them. -/
structure Env where
  U : Nat → Prop
  z : Nat → Nat → Option Value

/-- A block that is there, as it stands in the world. -/
def There (hm : GM) (U : Env) (w : World) (i : Info) (cells : List Value) : Prop :=
  ∃ C e fz, w.heap[i.blk]? = some (.cells C e fz) ∧ C.size = i.size ∧ cells.length ≤ i.size ∧ Free fz i.size ∧ (i.size ≠ 0 → ¬ U.U i.blk) ∧ (∀ k, k < i.size → hm.fz i.blk k = none) ∧
    ∀ (k : Nat) (v : Value), cells[k]? = some v → ∃ v', C[k]? = some v' ∧ SR hm [] v v'

structure HRel (hm : GM) (w0 : World) (U : Env) (H : AH) (w : World) : Prop where
  os : w.os = w0.os
  tape : w.tape = w0.tape
  output : w.output = w0.output
  size : w0.heap.size ≤ w.heap.size
  prot : ∀ B, U.U B → B < w0.heap.size ∧ w.heap[B]? = w0.heap[B]?
  protz : ∀ B, U.U B → ∀ k, hm.fz B k = U.z B k
  fresh : ∀ n, H.next ≤ n → hm.map n = none
  frz : ∀ B k v, hm.fz B k = some v → pure1 v = true ∧ ∃ C e fz v', w.heap[B]? = some (.cells C e fz) ∧ C[k]? = some v' ∧ SR hm [] v v'
  blk : ∀ n b, H.get n = some b → ∃ i, hm.map n = some i ∧ i.esz = b.esz ∧ i.gro = b.gro ∧ (b.gro = true → i.len = b.cells.length ∧ 1 ≤ b.esz) ∧ b.cells.all pure1 = true ∧ ((b.gro = true ∧ i.size = 0 ∧ b.cells = []) ∨ There hm U w i b.cells)
  inj : ∀ n b n' b' i i', H.get n = some b → H.get n' = some b' → n ≠ n' → hm.map n = some i → hm.map n' = some i' → i.size ≠ 0 → i'.size ≠ 0 → i.blk ≠ i'.blk

structure AS where
  n : Nat
  base : Nat
  tmps : List (Nat × Value)
  locs : List (List Value)
  heap : AH

def AS.setHeap (st : AS) (H : AH) : AS := { st with heap := H }
def AS.setLocs (st : AS) (l : List (List Value)) : AS := { st with locs := l }
def AS.setTmps (st : AS) (l : List (Nat × Value)) : AS := { st with tmps := l }

structure Rel (hm : GM) (lb : LM) (w0 : World) (U : Env) (st : AS) (w : World) (a : Act) : Prop extends HRel hm w0 U st.heap w where
  defers : a.defers = []
  tsize : a.tmps.size = st.n
  base_le : st.base ≤ st.heap.next
  tmps : ∀ t v, lk st.tmps t = some v → ∃ cv, a.tmps[t]? = some cv ∧ VR hm lb v cv
  llen : lb.length = st.locs.length
  loc : ∀ (k : Nat) (cs : List Value), st.locs[k]? = some cs → ∃ B C e fz, lb[k]? = some B ∧ w.heap[B]? = some (.cells C e fz) ∧ C.size = cs.length ∧ Free fz C.size ∧ ¬ U.U B ∧ (∀ k, hm.fz B k = none) ∧
    ∀ (j : Nat) (v : Value), cs[j]? = some v → ∃ v', C[j]? = some v' ∧ SR hm lb v v'
  linj : ∀ (k k' B : Nat), lb[k]? = some B → lb[k']? = some B → k = k'
  lheap : ∀ (k B n : Nat) (b : Blk) (i : Info), lb[k]? = some B → st.heap.get n = some b → hm.map n = some i → i.size ≠ 0 → i.blk ≠ B

theorem HRel.lt {hm : GM} {w0 : World} {U : Env} {H : AH} {w : World} (r : HRel hm w0 U H w) {n : Nat} {b : Blk} (h : H.get n = some b) : n < H.next := by
  obtain ⟨i, hi, _⟩ := r.blk n b h
  rcases Nat.lt_or_ge n H.next with q | q
  · exact q
  · rw [r.fresh n q] at hi; cases hi

end Go.Fhl

/-
  A logic over the model, part two: how the relation fares when a block is made, written, grown, frozen, forgotten.
-/
namespace Go.Fhl
set_option linter.unusedVariables false
set_option linter.unusedSimpArgs false

/-! ## The world with one block written -/
def bset (w : World) (B : Nat) (o : Obj) : World := { w with heap := w.heap.setIfInBounds B o }
theorem bset_get (w : World) (B : Nat) (o : Obj) (k : Nat) : (bset w B o).heap[k]? = if B = k then (if B < w.heap.size then some o else none) else w.heap[k]? := by
  simp only [bset, Array.getElem?_setIfInBounds]
theorem bset_size (w : World) (B : Nat) (o : Obj) : (bset w B o).heap.size = w.heap.size := by simp [bset]
theorem lt_of_get {w : World} {B : Nat} {o : Obj} (h : w.heap[B]? = some o) : B < w.heap.size := by
  rcases Nat.lt_or_ge B w.heap.size with q | q
  · exact q
  · rw [Array.getElem?_eq_none q] at h; cases h
theorem bset_same {w : World} {B : Nat} {o o' : Obj} (h : w.heap[B]? = some o) : (bset w B o').heap[B]? = some o' := by
  rw [bset_get]; simp [lt_of_get h]
theorem bset_other {w : World} {B k : Nat} {o : Obj} (h : B ≠ k) : (bset w B o).heap[k]? = w.heap[k]? := by
  rw [bset_get]; simp [h]
theorem bset_bset (w : World) (B : Nat) (o o' : Obj) : bset (bset w B o) B o' = bset w B o' := by
  simp [bset]
theorem bset_self {w : World} {B : Nat} {o : Obj} (h : w.heap[B]? = some o) : bset w B o = w := by
  have hl := lt_of_get h
  have : w.heap.setIfInBounds B o = w.heap := by
    refine Array.ext_getElem? fun k => ?_
    rw [Array.getElem?_setIfInBounds]
    by_cases e : B = k
    · subst e; simp [hl, ← h]
    · simp [e]
  simp [bset, this]

theorem run_store1 (P : Program) (w : World) (B off : Nat) (C : Array Value) (e : TypeId) (fz : Nat × Nat) (v : Value) (h : w.heap[B]? = some (.cells C e fz))
    (hl : off < C.size) (hf : ¬ (fz.1 ≤ off ∧ off < fz.2)) (hv : one v = true) :
    (store ⟨B, off, none⟩ v).run P w = .ok () (bset w B (.cells (C.setIfInBounds off v) e fz)) := by
  have hc : w.cell? ⟨B, off, none⟩ = some C[off] := by simp [World.cell?, h, hl]
  have hz : w.frozen? ⟨B, off, none⟩ = false := by
    have : fz = (fz.1, fz.2) := rfl
    rw [this] at h
    simp only [World.frozen?, h]
    by_cases q : fz.1 ≤ off
    · have : ¬ off < fz.2 := fun r => hf ⟨q, r⟩
      simp [this]
    · simp [q]
  have hs : w.setCell ⟨B, off, none⟩ v = bset w B (.cells (C.setIfInBounds off v) e fz) := by
    unfold World.setCell bset
    congr 1
    refine Array.ext_getElem? fun k => ?_
    rw [Array.getElem?_modify, Array.getElem?_setIfInBounds]
    by_cases q : B = k
    · subst q; rw [if_pos rfl, h]; simp [lt_of_get h]
    · simp [q]
  cases v <;> first | (simp [one] at hv; done) | (simp [store, Sem.run, hc, hz, hs])

theorem set_spl {α : Type} (l : List α) (o : Nat) (v : α) (vs : List α) (h : o + vs.length + 1 ≤ l.length) : spl (l.set o v) (o + 1) vs = spl l o (v :: vs) := by
  refine List.ext_getElem? fun k => ?_
  rw [spl_get (by simp; omega), spl_get (by simp; omega)]
  by_cases a : k < o
  · have : k < o + 1 := by omega
    simp only [this, a, if_true]
    rw [List.getElem?_set_ne (by omega)]
  · by_cases b : k = o
    · subst b
      have c1 : k < k + 1 := by omega
      have c2 : k < k + (v :: vs).length := by simp
      simp only [c1, if_true, c2, Nat.lt_irrefl, if_false, Nat.sub_self]
      rw [List.getElem?_set_self (by omega)]; rfl
    · have c1 : ¬ k < o + 1 := by omega
      simp only [c1, a, if_false]
      by_cases d : k < o + 1 + vs.length
      · have d' : k < o + (v :: vs).length := by simp; omega
        simp only [d, d', if_true]
        have : k - o = (k - (o + 1)) + 1 := by omega
        rw [this]; rfl
      · have d' : ¬ k < o + (v :: vs).length := by simp; omega
        simp only [d, d', if_false]
        rw [List.getElem?_set_ne (by omega)]

theorem run_storeCells (P : Program) (B off : Nat) (e : TypeId) (fz : Nat × Nat) : ∀ (vs : List Value) (i : Nat) (w : World) (C : Array Value), w.heap[B]? = some (.cells C e fz) →
    off + i + vs.length ≤ C.size → (∀ k, off + i ≤ k → k < off + i + vs.length → ¬ (fz.1 ≤ k ∧ k < fz.2)) → (∀ v ∈ vs, one v = true) →
    (storeCells ⟨B, off, none⟩ vs i).run P w = .ok () (bset w B (.cells (spl C.toList (off + i) vs).toArray e fz))
  | [], i, w, C, h, hl, hf, hv => by
    have : spl C.toList (off + i) [] = C.toList := by simp [spl]
    simp [storeCells, this, bset_self h]
  | v :: vs, i, w, C, h, hl, hf, hv => by
    have ha : (⟨B, off, none⟩ : Addr).add i = ⟨B, off + i, none⟩ := by
      unfold Addr.add; split
      · next q => simp [q]
      · rfl
    simp only [List.length_cons] at hl hf
    have h1 := run_store1 P w B (off + i) C e fz v h (by omega) (hf _ (by omega) (by omega)) (hv v (by simp))
    have h2 := run_storeCells P B off e fz vs (i + 1) (bset w B (.cells (C.setIfInBounds (off + i) v) e fz)) (C.setIfInBounds (off + i) v)
      (bset_same h) (by simp; omega) (fun k h1 h2 => hf k (by omega) (by omega)) (fun u hu => hv u (by simp [hu]))
    unfold storeCells
    rw [Sem.run_bind, ha, h1, Result.andThen_ok, h2, bset_bset]
    congr 3
    rw [← Nat.add_assoc]
    have : (C.setIfInBounds (off + i) v).toList = C.toList.set (off + i) v := by simp
    rw [this, set_spl _ _ _ _ (by simp; omega)]

/-- What a block's cells are after a part is written. -/
theorem arr_spl_get (C : Array Value) (o : Nat) (vs : List Value) (h : o + vs.length ≤ C.size) (k : Nat) :
    ((spl C.toList o vs).toArray)[k]? = if k < o then C[k]? else if k < o + vs.length then vs[k - o]? else C[k]? := by
  simp [spl_get (l := C.toList) (by simpa using h)]

theorem arr_spl_size (C : Array Value) (o : Nat) (vs : List Value) (h : o + vs.length ≤ C.size) : ((spl C.toList o vs).toArray).size = C.size := by
  simp [spl_length (l := C.toList) (by simpa using h)]

/-! ## Loading -/
theorem run_load1 (P : Program) (w : World) (B off : Nat) (C : Array Value) (e : TypeId) (fz : Nat × Nat) (v : Value) (h : w.heap[B]? = some (.cells C e fz)) (hv : C[off]? = some v) :
    (load ⟨B, off, none⟩).run P w = .ok v w := by
  have hc : w.cell? ⟨B, off, none⟩ = some v := by simp [World.cell?, h, hv]
  simp [load, Sem.run, hc]

theorem add_none (B off k : Nat) : (⟨B, off, none⟩ : Addr).add k = ⟨B, off + k, none⟩ := by
  unfold Addr.add; split
  · next q => simp [q]
  · rfl

theorem run_loadCellsFrom' (P : Program) (w : World) (B off : Nat) (C : Array Value) (e : TypeId) (fz : Nat × Nat) (h : w.heap[B]? = some (.cells C e fz)) :
    ∀ (n i : Nat) (acc : Array Value), off + i + n ≤ C.size → (loadCellsFrom ⟨B, off, none⟩ i n acc).run P w = .ok (acc ++ C.extract (off + i) (off + i + n)) w
  | 0, i, acc, hl => by
    simp only [loadCellsFrom, Sem.run_pure, Nat.add_zero]
    congr 1
    apply Array.toList_inj.1
    simp [List.extract_eq_take_drop]
  | n + 1, i, acc, hl => by
    unfold loadCellsFrom
    have hv : C[off + i]? = some C[off + i] := by rw [Array.getElem?_eq_getElem]
    rw [Sem.run_bind, add_none, run_load1 P w B (off + i) C e fz _ h hv, Result.andThen_ok, run_loadCellsFrom' P w B off C e fz h n (i + 1) _ (by omega)]
    congr 1
    apply Array.toList_inj.1
    simp only [Array.toList_append, Array.toList_push, Array.toList_extract, List.append_assoc]
    congr 1
    rw [List.extract_eq_take_drop, List.extract_eq_take_drop]
    have e1 : off + i + (n + 1) - (off + i) = n + 1 := by omega
    have e2 : off + (i + 1) + n - (off + (i + 1)) = n := by omega
    rw [e1, e2]
    have e3 : C.toList.drop (off + i) = C[off + i] :: C.toList.drop (off + i + 1) := List.drop_eq_getElem_cons (by simpa using by omega)
    rw [e3]
    simp [List.take_succ_cons, Nat.add_assoc]

theorem run_loadCells' (P : Program) (w : World) (B off : Nat) (C : Array Value) (e : TypeId) (fz : Nat × Nat) (n : Nat) (h : w.heap[B]? = some (.cells C e fz)) (hl : off + n ≤ C.size) :
    (loadCells ⟨B, off, none⟩ n).run P w = .ok (C.extract off (off + n)) w := by
  unfold loadCells
  rw [run_loadCellsFrom' P w B off C e fz h n 0 #[] (by omega)]
  simp

/-! ## The relation, world by world -/
def putL (n : Nat) (l : List (Nat × Value)) (d : Option Nat) (v : Value) : List (Nat × Value) :=
  match d with
  | some d => cond (Nat.blt d n) (ups l d v) l
  | none => l
def AS.put (st : AS) (d : Option Nat) (v : Value) : AS := { st with tmps := putL st.n st.tmps d v }
theorem lk_putL {n : Nat} {l : List (Nat × Value)} {d : Option Nat} {v : Value} {t : Nat} {u : Value} (hu : lk (putL n l d v) t = some u) :
    (∃ e, d = some e ∧ t = e ∧ e < n ∧ u = v) ∨ (lk l t = some u ∧ ∀ e, d = some e → (t ≠ e ∨ ¬ e < n)) := by
  cases d with
  | none => exact .inr ⟨hu, fun e q => by cases q⟩
  | some d =>
    simp only [putL] at hu
    cases hb : Nat.blt d n with
    | true =>
      have hlt : d < n := by rw [Nat.blt_eq] at hb; exact hb
      simp only [hb, cond_true] at hu
      rw [lk_ups] at hu
      by_cases e : t = d
      · simp only [e, if_true] at hu; cases hu; exact .inl ⟨d, rfl, e, hlt, rfl⟩
      · simp only [e, if_false] at hu; exact .inr ⟨hu, fun e' q => by cases q; exact .inl e⟩
    | false =>
      have hlt : ¬ d < n := fun q => by rw [← Nat.blt_eq] at q; rw [q] at hb; cases hb
      simp only [hb, cond_false] at hu
      exact .inr ⟨hu, fun e' q => by cases q; exact .inr hlt⟩

theorem alloc_get_old {w : World} {o : Obj} {k : Nat} {x : Obj} (h : w.heap[k]? = some x) : (w.alloc o).heap[k]? = some x := by
  have := lt_of_get h
  show (w.heap.push o)[k]? = _
  rw [Array.getElem?_push, if_neg (by omega), h]
theorem alloc_get_new (w : World) (o : Obj) : (w.alloc o).heap[w.heap.size]? = some o := by
  show (w.heap.push o)[w.heap.size]? = _
  simp
theorem alloc_get_lt {w : World} {o : Obj} {k : Nat} (h : k < w.heap.size) : (w.alloc o).heap[k]? = w.heap[k]? := by
  show (w.heap.push o)[k]? = _
  rw [Array.getElem?_push, if_neg (by omega)]

/-- A block of the world of which we know nothing that is not known still. -/
theorem There.mono {hm hm' : GM} {U : Env} {w w' : World} {i : Info} {cells : List Value} (t : There hm U w i cells) (h : hm.le hm') (hw : w'.heap[i.blk]? = w.heap[i.blk]?)
    (hz : ∀ k, k < i.size → hm'.fz i.blk k = none) : There hm' U w' i cells := by
  obtain ⟨C, e, fz, h1, h2, h3, h4, h5, h6, h7⟩ := t
  refine ⟨C, e, fz, by rw [hw]; exact h1, h2, h3, h4, h5, hz, fun k v hk => ?_⟩
  obtain ⟨v', h8, h9⟩ := h7 k v hk
  exact ⟨v', h8, h9.mono h (LM.le_refl _)⟩

section
variable {hm : GM} {lb : LM} {w0 : World} {U : Env} {st : AS} {w : World} {a : Act}

theorem Rel.put (r : Rel hm lb w0 U st w a) (d : Option Nat) {v cv : Value} (h : VR hm lb v cv) : Rel hm lb w0 U (st.put d v) w (a.put d cv) := by
  refine { toHRel := r.toHRel, defers := ?_, tsize := ?_, base_le := r.base_le, tmps := ?_, llen := r.llen, loc := r.loc, linj := r.linj, lheap := r.lheap }
  · cases d <;> exact r.defers
  · cases d with
    | none => exact r.tsize
    | some d => simpa [Act.put, AS.put] using r.tsize
  intro t u hu
  rcases lk_putL hu with ⟨d, rfl, rfl, hlt, rfl⟩ | ⟨hu, hne⟩
  · refine ⟨cv, ?_, h⟩
    simp only [Act.put, Array.getElem?_setIfInBounds]
    have : t < a.tmps.size := by rw [r.tsize]; exact hlt
    simp [this]
  · obtain ⟨x, hx, hr⟩ := r.tmps t u hu
    refine ⟨x, ?_, hr⟩
    cases d with
    | none => exact hx
    | some d =>
      simp only [Act.put, Array.getElem?_setIfInBounds]
      rcases hne d rfl with q | q
      · have : d ≠ t := fun e => q e.symm
        simp [this, hx]
      · have q' : ¬ d < a.tmps.size := by rw [r.tsize]; exact q
        by_cases e : d = t
        · subst e
          have := alookup_lt hx
          exact absurd this q'
        · simp [e, hx]

theorem HRel.drawn {H : AH} (r : HRel hm w0 U H w) (k : Nat) : HRel hm w0 U H { w with drawn := k } :=
  { os := r.os, tape := r.tape, output := r.output, size := r.size, prot := r.prot, protz := r.protz, fresh := r.fresh, frz := r.frz, blk := r.blk, inj := r.inj }
theorem Rel.drawn (r : Rel hm lb w0 U st w a) (k : Nat) : Rel hm lb w0 U st { w with drawn := k } a :=
  { toHRel := r.toHRel.drawn k, defers := r.defers, tsize := r.tsize, base_le := r.base_le, tmps := r.tmps, llen := r.llen, loc := r.loc, linj := r.linj, lheap := r.lheap }

/-- Every block that a name or a box stands for is there. -/
theorem There.lt {i : Info} {cells : List Value} (t : There hm U w i cells) : i.blk < w.heap.size := by
  obtain ⟨C, e, fz, h1, _⟩ := t
  exact lt_of_get h1
theorem HRel.blk_lt {H : AH} (r : HRel hm w0 U H w) {n : Nat} {b : Blk} {i : Info} (h : H.get n = some b) (hi : hm.map n = some i) (hs : i.size ≠ 0) : i.blk < w.heap.size := by
  obtain ⟨i', h1, h2, h3, h4, _, h5⟩ := r.blk n b h
  rw [hi] at h1; cases h1
  rcases h5 with ⟨_, h6, _⟩ | h6
  · exact absurd h6 hs
  · exact h6.lt
theorem Rel.loc_lt (r : Rel hm lb w0 U st w a) {k B : Nat} (h : lb[k]? = some B) : B < w.heap.size := by
  have hk : k < st.locs.length := by rw [← r.llen]; exact lookup_lt h
  obtain ⟨B', C, e, fz, h1, h2, _⟩ := r.loc k _ (List.getElem?_eq_getElem hk)
  rw [h] at h1; cases h1
  exact lt_of_get h2
theorem HRel.fz_lt {H : AH} (r : HRel hm w0 U H w) {B k : Nat} {v : Value} (h : hm.fz B k = some v) : B < w.heap.size := by
  obtain ⟨_, C, e, fz, v', h1, _⟩ := r.frz B k v h
  exact lt_of_get h1
theorem HRel.ult {H : AH} (r : HRel hm w0 U H w) {B : Nat} (h : U.U B) : B < w.heap.size := by
  have := (r.prot B h).1; have := r.size; omega

/-- A change of the world that leaves all blocks that were there. -/
theorem HRel.alloc {H : AH} (r : HRel hm w0 U H w) (o : Obj) : HRel hm w0 U H (w.alloc o) where
  os := r.os
  tape := r.tape
  output := r.output
  size := by simp; have := r.size; omega
  prot := fun B hB => ⟨(r.prot B hB).1, (alloc_get_lt (r.ult hB)).trans (r.prot B hB).2⟩
  protz := r.protz
  fresh := r.fresh
  frz := fun B k v h => by
    obtain ⟨h1, C, e, fz, v', h2, h3⟩ := r.frz B k v h
    exact ⟨h1, C, e, fz, v', alloc_get_old h2, h3⟩
  blk := fun n b h => by
    obtain ⟨i, h1, h2, h3, h4, hp, h5⟩ := r.blk n b h
    refine ⟨i, h1, h2, h3, h4, hp, h5.imp id fun t => ?_⟩
    obtain ⟨C, e, fz, g1, g2⟩ := t
    exact ⟨C, e, fz, alloc_get_old g1, g2⟩
  inj := r.inj

theorem Rel.alloc (r : Rel hm lb w0 U st w a) (o : Obj) : Rel hm lb w0 U st (w.alloc o) a :=
  { toHRel := r.toHRel.alloc o, defers := r.defers, tsize := r.tsize, base_le := r.base_le, tmps := r.tmps, llen := r.llen,
    loc := fun k cs h => by
      obtain ⟨B, C, e, fz, h1, h2, h3⟩ := r.loc k cs h
      exact ⟨B, C, e, fz, h1, alloc_get_old h2, h3⟩
    linj := r.linj, lheap := r.lheap }

theorem app_cases {α : Type} {l : List α} {x y : α} {k : Nat} (h : (l ++ [x])[k]? = some y) : l[k]? = some y ∨ (k = l.length ∧ y = x) := by
  by_cases q : k < l.length
  · rw [List.getElem?_append_left q] at h; exact .inl h
  · rw [List.getElem?_append_right (by omega)] at h
    have hz : k - l.length = 0 := by
      rcases Nat.eq_zero_or_pos (k - l.length) with z | z
      · exact z
      · rw [List.getElem?_eq_none (by simp; omega)] at h; cases h
    rw [hz] at h
    simp at h
    exact .inr ⟨by omega, h.symm⟩

/-- A new box of the frame. -/
theorem Rel.newLoc (r : Rel hm lb w0 U st w a) (C : Array Value) (e : TypeId) (cs : List Value) (h : L2 (SR hm lb) cs C.toList) :
    Rel hm (lb ++ [w.heap.size]) w0 U { st with locs := st.locs ++ [cs] } (w.alloc (.cells C e)) a := by
  have ho := LM.app_le lb w.heap.size
  refine { toHRel := r.toHRel.alloc _, defers := r.defers, tsize := r.tsize, base_le := r.base_le, tmps := ?_, llen := by simp [r.llen], loc := ?_, linj := ?_, lheap := ?_ }
  · intro t v ht
    obtain ⟨cv, h1, h2⟩ := r.tmps t v ht
    exact ⟨cv, h1, h2.mono (GM.le_refl _) ho⟩
  · intro k c hk
    rcases app_cases hk with hk | ⟨hk2, rfl⟩
    · obtain ⟨B, C', e', fz, h1, h2, h3, h4, h5, h6, h7⟩ := r.loc k c hk
      refine ⟨B, C', e', fz, ho _ _ h1, alloc_get_old h2, h3, h4, h5, h6, fun j v hj => ?_⟩
      obtain ⟨v', h8, h9⟩ := h7 j v hj
      exact ⟨v', h8, h9.mono (GM.le_refl _) ho⟩
    · refine ⟨w.heap.size, C, e, (0, 0), by rw [hk2, ← r.llen]; simp, alloc_get_new w _, by simpa using h.1.symm, Free.zero _, fun hu => by have := r.ult hu; omega, fun k => ?_, fun j v hj => ?_⟩
      · cases hz : hm.fz w.heap.size k with
        | none => rfl
        | some v => have := r.fz_lt hz; omega
      · obtain ⟨v', h7, h8⟩ := h.get hj
        exact ⟨v', by simpa using h7, h8.mono (GM.le_refl _) ho⟩
  · intro k k' B h1 h2
    rcases app_cases h1 with a1 | ⟨a1, b1⟩ <;> rcases app_cases h2 with a2 | ⟨a2, b2⟩
    · exact r.linj k k' B a1 a2
    · have := r.loc_lt a1; omega
    · have := r.loc_lt a2; omega
    · omega
  · intro k B n b i h1 h2 h3 h4
    have := r.toHRel.blk_lt h2 h3 h4
    rcases app_cases h1 with a1 | ⟨a1, b1⟩
    · exact r.lheap k B n b i a1 h2 h3 h4
    · omega

def GM.put (hm : GM) (n : Nat) (i : Info) : GM := ⟨fun m => if m = n then some i else hm.map m, hm.fz⟩
theorem GM.put_same {hm : GM} {n : Nat} {i : Info} : (hm.put n i).map n = some i := by simp [GM.put]
theorem GM.put_ne {hm : GM} {n m : Nat} {i : Info} (h : m ≠ n) : (hm.put n i).map m = hm.map m := by simp [GM.put, h]
theorem GM.put_le {hm : GM} {n : Nat} {i : Info} (h : ∀ j, hm.map n = some j → j.le i) : hm.le (hm.put n i) := by
  refine ⟨fun m j hj => ?_, fun _ _ _ h => h⟩
  by_cases e : m = n
  · subst e; exact ⟨i, GM.put_same, h j hj⟩
  · exact ⟨j, by rw [GM.put_ne e]; exact hj, .inl rfl⟩
theorem GM.put_le_none {hm : GM} {n : Nat} {i : Info} (h : hm.map n = none) : hm.le (hm.put n i) := GM.put_le fun j hj => by rw [h] at hj; cases hj

/-- The frame beside a change of the heap: the boxes keep their blocks. -/
theorem Rel.frame (r : Rel hm lb w0 U st w a) {hm' : GM} {H' : AH} {w' : World} (hle : hm.le hm') (r' : HRel hm' w0 U H' w') (hnx : st.heap.next ≤ H'.next)
    (hl : ∀ (k B : Nat), lb[k]? = some B → w'.heap[B]? = w.heap[B]? ∧ ∀ j, hm'.fz B j = none) (hx : ∀ (k B n : Nat) (b : Blk) (i : Info), lb[k]? = some B → H'.get n = some b → hm'.map n = some i → i.size ≠ 0 → i.blk ≠ B) :
    Rel hm' lb w0 U { st with heap := H' } w' a :=
  { toHRel := r', defers := r.defers, tsize := r.tsize
    base_le := Nat.le_trans r.base_le hnx
    tmps := fun t v ht => by obtain ⟨cv, h1, h2⟩ := r.tmps t v ht; exact ⟨cv, h1, h2.mono hle (LM.le_refl _)⟩
    llen := r.llen
    loc := fun k cs hk => by
      obtain ⟨B, C, e, fz, h1, h2, h3, h4, h5, h6, h7⟩ := r.loc k cs hk
      refine ⟨B, C, e, fz, h1, by rw [(hl k B h1).1]; exact h2, h3, h4, h5, (hl k B h1).2, fun j v hj => ?_⟩
      obtain ⟨v', h8, h9⟩ := h7 j v hj
      exact ⟨v', h8, h9.mono hle (LM.le_refl _)⟩
    linj := r.linj
    lheap := hx }

theorem Rel.loc_fz (r : Rel hm lb w0 U st w a) {k B : Nat} (h : lb[k]? = some B) : ∀ j, hm.fz B j = none := by
  have hk : k < st.locs.length := by rw [← r.llen]; exact lookup_lt h
  obtain ⟨B', C, e, fz, h1, h2, h3, h4, h5, h6, _⟩ := r.loc k _ (List.getElem?_eq_getElem hk)
  rw [h] at h1; cases h1
  exact h6

/-- What holds of a named block after another one is changed in the ghost alone. -/
theorem HRel.other {H : AH} (r : HRel hm w0 U H w) {hm' : GM} {w' : World} (hle : hm.le hm') {n : Nat} {b : Blk} (hn : H.get n = some b) (hm1 : hm'.map n = hm.map n)
    (hw : ∀ i, hm.map n = some i → i.size ≠ 0 → w'.heap[i.blk]? = w.heap[i.blk]? ∧ ∀ k, k < i.size → hm'.fz i.blk k = none)
    (hw0 : ∀ B, B < w.heap.size → (∃ C e fz, w.heap[B]? = some (.cells C e fz) ∧ C.size = 0) → ∃ C e fz, w'.heap[B]? = some (.cells C e fz) ∧ C.size = 0) :
    ∃ i, hm'.map n = some i ∧ i.esz = b.esz ∧ i.gro = b.gro ∧ (b.gro = true → i.len = b.cells.length ∧ 1 ≤ b.esz) ∧ b.cells.all pure1 = true ∧ ((b.gro = true ∧ i.size = 0 ∧ b.cells = []) ∨ There hm' U w' i b.cells) := by
  obtain ⟨i, h1, h2, h3, h4, hp, h5⟩ := r.blk n b hn
  refine ⟨i, by rw [hm1]; exact h1, h2, h3, h4, hp, h5.imp id fun t => ?_⟩
  by_cases hs : i.size = 0
  · obtain ⟨C, e, fz, g1, g2, g3, g4, g5, g6, g7⟩ := t
    obtain ⟨C', e', fz', k1, k2⟩ := hw0 i.blk (lt_of_get g1) ⟨C, e, fz, g1, by omega⟩
    refine ⟨C', e', fz', k1, by omega, g3, ?_, g5, fun k hk => by omega, fun k v hk => ?_⟩
    · rw [hs]; intro k hk; omega
    · have := lookup_lt hk; omega
  · exact t.mono hle (hw i h1 hs).1 (hw i h1 hs).2
end

end Go.Fhl

/-
  A logic over the model, part three: blocks made, written, grown, frozen, forgotten.
-/
namespace Go.Fhl
set_option linter.unusedVariables false
set_option linter.unusedSimpArgs false

section
variable {hm : GM} {lb : LM} {w0 : World} {U : Env} {st : AS} {w : World} {a : Act}

/-- A new block of the heap: the cells that are named, and perhaps some more behind. -/
theorem Rel.newBlk (r : Rel hm lb w0 U st w a) (C : Array Value) (e : TypeId) (fz0 : Nat × Nat) (hf0 : Free fz0 C.size) (b : Blk) (hlen : b.cells.length ≤ C.size) (hg : b.gro = true → 1 ≤ b.esz) (hpu : b.cells.all pure1 = true)
    (h : ∀ (k : Nat) (v : Value), b.cells[k]? = some v → ∃ v', C[k]? = some v' ∧ SR hm [] v v') :
    hm.le (hm.put st.heap.next ⟨w.heap.size, C.size, b.esz, b.gro, b.cells.length⟩) ∧
    Rel (hm.put st.heap.next ⟨w.heap.size, C.size, b.esz, b.gro, b.cells.length⟩) lb w0 U { st with heap := st.heap.alloc b } (w.alloc (.cells C e fz0)) a := by
  have hn := r.fresh st.heap.next (Nat.le_refl _)
  have hle := GM.put_le_none (i := ⟨w.heap.size, C.size, b.esz, b.gro, b.cells.length⟩) hn
  refine ⟨hle, ?_⟩
  have hfz : ∀ k, hm.fz w.heap.size k = none := fun k => by
    cases hz : hm.fz w.heap.size k with
    | none => rfl
    | some v => have := r.fz_lt hz; omega
  have ra := r.toHRel.alloc (.cells C e fz0)
  have r' : HRel (hm.put st.heap.next ⟨w.heap.size, C.size, b.esz, b.gro, b.cells.length⟩) w0 U (st.heap.alloc b) (w.alloc (.cells C e fz0)) := by
    refine { os := ra.os, tape := ra.tape, output := ra.output, size := ra.size, prot := ra.prot, protz := ra.protz, fresh := ?_, frz := ?_, blk := ?_, inj := ?_ }
    · intro n hn'
      simp only [AH.alloc] at hn'
      rw [GM.put_ne (by omega)]
      exact r.fresh n (by omega)
    · intro B k v hz
      obtain ⟨h1, C', e', fz', v', h2, h3, h4⟩ := ra.frz B k v hz
      exact ⟨h1, C', e', fz', v', h2, h3, h4.mono hle (LM.le_refl _)⟩
    · intro n c hc
      rw [alloc_get] at hc
      by_cases q : n = st.heap.next
      · subst q
        simp at hc; subst hc
        refine ⟨_, GM.put_same, rfl, rfl, fun z => ⟨rfl, hg z⟩, hpu, .inr ⟨C, e, fz0, alloc_get_new w _, rfl, hlen, hf0, fun _ hu => by have := r.ult hu; simp at this, fun k _ => hfz k, fun k v hk => ?_⟩⟩
        obtain ⟨v', h1, h2⟩ := h k v hk
        exact ⟨v', h1, h2.mono hle (LM.le_refl _)⟩
      · rw [if_neg q] at hc
        exact r.toHRel.other hle hc (GM.put_ne q) (fun i hi hs => ⟨alloc_get_lt (r.toHRel.blk_lt hc hi hs), fun k hk => by
          obtain ⟨i', g1, g2, g3, g4, _, g5⟩ := r.blk n c hc
          rw [hi] at g1; cases g1
          rcases g5 with ⟨_, g6, _⟩ | ⟨_, _, _, _, _, _, _, _, g6, _⟩
          · exact absurd g6 hs
          · exact g6 k hk⟩) (fun B hB ⟨C', e', fz', h1, h2⟩ => ⟨C', e', fz', alloc_get_old h1, h2⟩)
    · intro n c n' c' i i' h1 h2 h3 h4 h5 h6 h7
      rw [alloc_get] at h1 h2
      by_cases q : n = st.heap.next <;> by_cases q' : n' = st.heap.next
      · omega
      · subst q
        rw [if_neg q'] at h2
        rw [GM.put_same] at h4
        rw [GM.put_ne q'] at h5
        have := r.toHRel.blk_lt h2 h5 h7
        cases h4
        simp only; omega
      · subst q'
        rw [if_neg q] at h1
        rw [GM.put_same] at h5
        rw [GM.put_ne q] at h4
        have := r.toHRel.blk_lt h1 h4 h6
        cases h5
        simp only; omega
      · rw [if_neg q] at h1
        rw [if_neg q'] at h2
        rw [GM.put_ne q] at h4
        rw [GM.put_ne q'] at h5
        exact r.inj n c n' c' i i' h1 h2 h3 h4 h5 h6 h7
  refine r.frame hle r' (by simp [AH.alloc]) (fun k B hk => ⟨alloc_get_lt (r.loc_lt hk), r.loc_fz hk⟩) ?_
  intro k B n c i h1 h2 h3 h4
  rw [alloc_get] at h2
  have hB := r.loc_lt h1
  by_cases q : n = st.heap.next
  · subst q
    rw [GM.put_same] at h3
    cases h3
    simp only; omega
  · rw [if_neg q] at h2
    rw [GM.put_ne q] at h3
    exact r.lheap k B n c i h1 h2 h3 h4

/-- A named block of no cells, that may grow: nothing is made. -/
theorem Rel.newGro (r : Rel hm lb w0 U st w a) (s : Nat) (hs : 1 ≤ s) :
    hm.le (hm.put st.heap.next ⟨0, 0, s, true, 0⟩) ∧ Rel (hm.put st.heap.next ⟨0, 0, s, true, 0⟩) lb w0 U { st with heap := st.heap.alloc ⟨s, [], true⟩ } w a := by
  have hn := r.fresh st.heap.next (Nat.le_refl _)
  have hle := GM.put_le_none (i := ⟨0, 0, s, true, 0⟩) hn
  refine ⟨hle, ?_⟩
  have r' : HRel (hm.put st.heap.next ⟨0, 0, s, true, 0⟩) w0 U (st.heap.alloc ⟨s, [], true⟩) w := by
    refine { os := r.os, tape := r.tape, output := r.output, size := r.size, prot := r.prot, protz := r.protz, fresh := ?_, frz := ?_, blk := ?_, inj := ?_ }
    · intro n hn'
      simp only [AH.alloc] at hn'
      rw [GM.put_ne (by omega)]
      exact r.fresh n (by omega)
    · intro B k v hz
      obtain ⟨h1, C', e', fz', v', h2, h3, h4⟩ := r.frz B k v hz
      exact ⟨h1, C', e', fz', v', h2, h3, h4.mono hle (LM.le_refl _)⟩
    · intro n c hc
      rw [alloc_get] at hc
      by_cases q : n = st.heap.next
      · subst q
        simp at hc; subst hc
        exact ⟨_, GM.put_same, rfl, rfl, fun z => ⟨rfl, hs⟩, rfl, .inl ⟨rfl, rfl, rfl⟩⟩
      · rw [if_neg q] at hc
        exact r.toHRel.other hle hc (GM.put_ne q) (fun i hi hs => ⟨rfl, fun k hk => by
          obtain ⟨i', g1, g2, g3, g4, _, g5⟩ := r.blk n c hc
          rw [hi] at g1; cases g1
          rcases g5 with ⟨_, g6, _⟩ | ⟨_, _, _, _, _, _, _, _, g6, _⟩
          · exact absurd g6 hs
          · exact g6 k hk⟩) (fun B hB h => h)
    · intro n c n' c' i i' h1 h2 h3 h4 h5 h6 h7
      rw [alloc_get] at h1 h2
      by_cases q : n = st.heap.next
      · subst q
        rw [GM.put_same] at h4
        cases h4; exact absurd rfl h6
      · by_cases q' : n' = st.heap.next
        · subst q'
          rw [GM.put_same] at h5
          cases h5; exact absurd rfl h7
        · rw [if_neg q] at h1
          rw [if_neg q'] at h2
          rw [GM.put_ne q] at h4
          rw [GM.put_ne q'] at h5
          exact r.inj n c n' c' i i' h1 h2 h3 h4 h5 h6 h7
  refine r.frame hle r' (by simp [AH.alloc]) (fun k B hk => ⟨rfl, r.loc_fz hk⟩) ?_
  intro k B n c i h1 h2 h3 h4
  rw [alloc_get] at h2
  by_cases q : n = st.heap.next
  · subst q
    rw [GM.put_same] at h3
    cases h3; exact absurd rfl h4
  · rw [if_neg q] at h2
    rw [GM.put_ne q] at h3
    exact r.lheap k B n c i h1 h2 h3 h4

theorem HRel.blk_fz {H : AH} (r : HRel hm w0 U H w) {n : Nat} {b : Blk} {i : Info} (h : H.get n = some b) (hi : hm.map n = some i) (hs : i.size ≠ 0) : ∀ k, k < i.size → hm.fz i.blk k = none := by
  obtain ⟨i', g1, g2, g3, g4, _, g5⟩ := r.blk n b h
  rw [hi] at g1; cases g1
  rcases g5 with ⟨_, g6, _⟩ | ⟨_, _, _, _, _, _, _, _, g6, _⟩
  · exact absurd g6 hs
  · exact g6

/-- A named block becomes another one of as many cells or more: in its place, or in a new one. -/
theorem Rel.reBlk (r : Rel hm lb w0 U st w a) {n : Nat} {b b' : Blk} {i i' : Info} {w' : World}
    (hn : st.heap.get n = some b) (hi : hm.map n = some i) (hle : i.le i') (hez : i'.esz = b'.esz) (hgr : i'.gro = b'.gro) (hgl : b'.gro = true → i'.len = b'.cells.length ∧ 1 ≤ b'.esz) (hpu : b'.cells.all pure1 = true)
    (hwo : w'.os = w.os) (hwt : w'.tape = w.tape) (hwu : w'.output = w.output) (hws : w.heap.size ≤ w'.heap.size)
    (hw : ∀ B, B ≠ i'.blk → B < w.heap.size → w'.heap[B]? = w.heap[B]?)
    (hi' : (i'.blk = i.blk ∧ i'.size = i.size ∧ i.size ≠ 0) ∨ (w.heap.size ≤ i'.blk ∧ i'.blk < w'.heap.size))
    (ht : ∃ C e fz, w'.heap[i'.blk]? = some (.cells C e fz) ∧ C.size = i'.size ∧ b'.cells.length ≤ i'.size ∧ Free fz i'.size ∧ ∀ (k : Nat) (v : Value), b'.cells[k]? = some v → ∃ v', C[k]? = some v' ∧ SR hm [] v v') :
    hm.le (hm.put n i') ∧ Rel (hm.put n i') lb w0 U { st with heap := st.heap.set n b' } w' a := by
  have hle' : hm.le (hm.put n i') := GM.put_le fun j hj => by rw [hi] at hj; cases hj; exact hle
  refine ⟨hle', ?_⟩
  have hnlt := r.toHRel.lt hn
  -- what is known of the place
  have hplace : ¬ U.U i'.blk ∧ (∀ k, k < i'.size → hm.fz i'.blk k = none) := by
    rcases hi' with ⟨e1, e2, e3⟩ | ⟨e1, e2⟩
    · obtain ⟨i0, g1, g2, g3, g4, gp, g5⟩ := r.blk n b hn
      rw [hi] at g1; cases g1
      rcases g5 with ⟨_, g6, _⟩ | ⟨_, _, _, _, _, _, _, g5, g6, _⟩
      · exact absurd g6 e3
      · rw [e1, e2]; exact ⟨g5 e3, g6⟩
    · refine ⟨fun hu => by have := r.ult hu; omega, fun k _ => ?_⟩
      cases hz : hm.fz i'.blk k with
      | none => rfl
      | some v => have := r.fz_lt hz; omega
  have hoth : ∀ m c j, st.heap.get m = some c → m ≠ n → hm.map m = some j → j.size ≠ 0 → j.blk ≠ i'.blk := by
    intro m c j hm1 hne hj hs
    rcases hi' with ⟨e1, e2, e3⟩ | ⟨e1, e2⟩
    · rw [e1]; exact r.inj m c n b j i hm1 hn hne hj hi hs e3
    · have := r.toHRel.blk_lt hm1 hj hs; omega
  have hnofz : ∀ k v, hm.fz i'.blk k ≠ some v := by
    intro k v hz
    rcases hi' with ⟨e1, e2, e3⟩ | ⟨e1, e2⟩
    · obtain ⟨i0, g1, g2, g3, g4, gp, g5⟩ := r.blk n b hn
      rw [hi] at g1; cases g1
      rcases g5 with ⟨_, g6, _⟩ | ⟨C, e, fz, h1, h2, _, _, g5, g6, _⟩
      · exact absurd g6 e3
      · obtain ⟨_, C', e', fz', v', k1, k2, _⟩ := r.frz _ k v hz
        rw [e1, h1] at k1; cases k1
        have := alookup_lt k2
        have := g6 k (by omega)
        rw [e1, this] at hz; cases hz
    · have := r.fz_lt hz; omega
  have r' : HRel (hm.put n i') w0 U (st.heap.set n b') w' := by
    refine { os := hwo.trans r.os, tape := hwt.trans r.tape, output := hwu.trans r.output, size := Nat.le_trans r.size hws, prot := ?_, protz := r.protz, fresh := ?_, frz := ?_, blk := ?_, inj := ?_ }
    · intro B hB
      refine ⟨(r.prot B hB).1, (hw B (fun e => hplace.1 (e ▸ hB)) (r.ult hB)).trans (r.prot B hB).2⟩
    · intro m hm'
      simp only [AH.set] at hm'
      rw [GM.put_ne (by omega)]
      exact r.fresh m hm'
    · intro B k v hz
      obtain ⟨h1, C', e', fz', v', h2, h3, h4⟩ := r.frz B k v hz
      refine ⟨h1, C', e', fz', v', ?_, h3, h4.mono hle' (LM.le_refl _)⟩
      rw [hw B (fun e => hnofz k v (e ▸ hz)) (r.fz_lt hz)]; exact h2
    · intro m c hc
      rw [set_get] at hc
      by_cases q : m = n
      · subst q
        simp at hc; subst hc
        obtain ⟨C, e, fz, h1, h2, h3, h4, h5⟩ := ht
        refine ⟨i', GM.put_same, hez, hgr, hgl, hpu, .inr ⟨C, e, fz, h1, h2, h3, h4, fun _ => hplace.1, hplace.2, fun k v hk => ?_⟩⟩
        obtain ⟨v', h6, h7⟩ := h5 k v hk
        exact ⟨v', h6, h7.mono hle' (LM.le_refl _)⟩
      · rw [if_neg q] at hc
        refine r.toHRel.other hle' hc (GM.put_ne q) (fun j hj hs => ⟨hw _ (hoth m c j hc q hj hs) (r.toHRel.blk_lt hc hj hs), r.toHRel.blk_fz hc hj hs⟩) ?_
        rintro B hB ⟨C, e, fz, h1, h2⟩
        by_cases z : B = i'.blk
        · subst z
          obtain ⟨C', e', fz', k1, k2, _⟩ := ht
          refine ⟨C', e', fz', k1, ?_⟩
          rcases hi' with ⟨e1, e2, e3⟩ | ⟨e1, e2⟩
          · obtain ⟨i0, g1, g2, g3, g4, gp, g5⟩ := r.blk n b hn
            rw [hi] at g1; cases g1
            rcases g5 with ⟨_, g6, _⟩ | ⟨C0, e0, fz0, g6, g7, _⟩
            · exact absurd g6 e3
            · rw [← e1, h1] at g6; cases g6; omega
          · omega
        · exact ⟨C, e, fz, by rw [hw B z hB]; exact h1, h2⟩
    · intro m c m' c' j j' h1 h2 h3 h4 h5 h6 h7
      rw [set_get] at h1 h2
      by_cases q : m = n <;> by_cases q' : m' = n
      · omega
      · subst q
        rw [if_neg q'] at h2
        rw [GM.put_same] at h4; cases h4
        rw [GM.put_ne q'] at h5
        exact fun e => hoth m' c' j' h2 q' h5 h7 e.symm
      · subst q'
        rw [if_neg q] at h1
        rw [GM.put_same] at h5; cases h5
        rw [GM.put_ne q] at h4
        exact hoth m c j h1 q h4 h6
      · rw [if_neg q] at h1
        rw [if_neg q'] at h2
        rw [GM.put_ne q] at h4
        rw [GM.put_ne q'] at h5
        exact r.inj m c m' c' j j' h1 h2 h3 h4 h5 h6 h7
  have hlb : ∀ (k B : Nat), lb[k]? = some B → i'.size ≠ 0 → B ≠ i'.blk := by
    intro k B hk hs
    rcases hi' with ⟨e1, e2, e3⟩ | ⟨e1, e2⟩
    · rw [e1]; exact fun e => r.lheap k B n b i hk hn hi e3 e.symm
    · have := r.loc_lt hk; omega
  have hlb' : ∀ (k B : Nat), lb[k]? = some B → B ≠ i'.blk := by
    intro k B hk
    rcases hi' with ⟨e1, e2, e3⟩ | ⟨e1, e2⟩
    · rw [e1]; exact fun e => r.lheap k B n b i hk hn hi e3 e.symm
    · have := r.loc_lt hk; omega
  refine r.frame hle' r' (by simp [AH.set]) (fun k B hk => ⟨hw B (hlb' k B hk) (r.loc_lt hk), r.loc_fz hk⟩) ?_
  intro k B m c j h1 h2 h3 h4
  rw [set_get] at h2
  by_cases q : m = n
  · subst q
    rw [GM.put_same] at h3; cases h3
    exact fun e => hlb k B h1 h4 e.symm
  · rw [if_neg q] at h2
    rw [GM.put_ne q] at h3
    exact r.lheap k B m c j h1 h2 h3 h4

/-- A name dies. -/
theorem Rel.kill (r : Rel hm lb w0 U st w a) (n : Nat) : Rel hm lb w0 U { st with heap := st.heap.kill n } w a := by
  have old : ∀ x y, (st.heap.kill n).get x = some y → st.heap.get x = some y := by
    intro x y hx
    rw [kill_get] at hx
    split at hx
    · cases hx
    · exact hx
  have r' : HRel hm w0 U (st.heap.kill n) w := by
    refine { os := r.os, tape := r.tape, output := r.output, size := r.size, prot := r.prot, protz := r.protz, fresh := r.fresh, frz := r.frz, blk := ?_, inj := ?_ }
    · intro m b h; exact r.blk m b (old m b h)
    · intro m c m' c' j j' g1 g2 g3; exact r.inj m c m' c' j j' (old _ _ g1) (old _ _ g2) g3
  refine r.frame (GM.le_refl _) r' (by simp [AH.kill]) (fun k B hk => ⟨rfl, r.loc_fz hk⟩) ?_
  intro k B m c j h1 h2 h3
  exact r.lheap k B m c j h1 (old _ _ h2) h3

def GM.freeze (hm : GM) (B : Nat) (cells : List Value) : GM :=
  ⟨hm.map, fun B' k => if B' = B ∧ k < cells.length then cells[k]? else hm.fz B' k⟩

/-- A block's cells are frozen, and its name dies. -/
theorem Rel.freeze (r : Rel hm lb w0 U st w a) {n : Nat} {b : Blk} {i : Info} (hn : st.heap.get n = some b) (hi : hm.map n = some i) :
    hm.le (hm.freeze i.blk b.cells) ∧ Rel (hm.freeze i.blk b.cells) lb w0 U { st with heap := st.heap.kill n } w a ∧ (∀ j c, b.cells[j]? = some c → (hm.freeze i.blk b.cells).fz i.blk j = some c) := by
  obtain ⟨i0, g1, g2, g3, g4, gp, g5⟩ := r.blk n b hn
  rw [hi] at g1; cases g1
  have hp := gp
  have hthere : b.cells = [] ∨ There hm U w i b.cells := g5.imp (fun q => q.2.2) id
  have hsz : b.cells ≠ [] → i.size ≠ 0 := by
    intro h
    rcases hthere with q | ⟨C, e, fz, h1, h2, h3, _⟩
    · exact absurd q h
    · have : 0 < b.cells.length := by cases hc : b.cells with | nil => exact absurd hc h | cons x l => simp
      omega
  have hfz : ∀ B k v, hm.fz B k = some v → ¬ (B = i.blk ∧ k < b.cells.length) := by
    rintro B k v hz ⟨rfl, hk⟩
    have hne : b.cells ≠ [] := fun e => by rw [e] at hk; simp at hk
    rcases hthere with q | ⟨C, e, fz, h1, h2, h3, h4, h5, h6, h7⟩
    · exact hne q
    · rw [h6 k (by omega)] at hz; cases hz
  have hle : hm.le (hm.freeze i.blk b.cells) := ⟨fun m j hj => ⟨j, hj, .inl rfl⟩, fun B k v hz => by
    show (if B = i.blk ∧ k < b.cells.length then b.cells[k]? else hm.fz B k) = some v
    rw [if_neg (hfz B k v hz)]; exact hz⟩
  have hnew : ∀ j c, b.cells[j]? = some c → (hm.freeze i.blk b.cells).fz i.blk j = some c := by
    intro j c hj
    show (if i.blk = i.blk ∧ j < b.cells.length then b.cells[j]? else hm.fz i.blk j) = some c
    rw [if_pos ⟨rfl, lookup_lt hj⟩]; exact hj
  have old : ∀ x y, (st.heap.kill n).get x = some y → st.heap.get x = some y ∧ x ≠ n := by
    intro x y hx
    rw [kill_get] at hx
    split at hx
    · cases hx
    · exact ⟨hx, ‹_›⟩
  have hother : ∀ B k, (b.cells ≠ [] → B ≠ i.blk) → (hm.freeze i.blk b.cells).fz B k = hm.fz B k := by
    intro B k h
    show (if B = i.blk ∧ k < b.cells.length then b.cells[k]? else hm.fz B k) = _
    refine if_neg ?_
    rintro ⟨h1, h2⟩
    exact h (fun e => by rw [e] at h2; simp at h2) h1
  refine ⟨hle, ?_, hnew⟩
  have rk := r.kill n
  refine rk.frame (st := { st with heap := st.heap.kill n }) hle (H' := st.heap.kill n) (w' := w) ?_ (by simp) (fun k B hk => ⟨rfl, fun j => ?_⟩) ?_
  · refine { os := r.os, tape := r.tape, output := r.output, size := r.size, prot := r.prot, protz := ?_, fresh := r.fresh, frz := ?_, blk := ?_, inj := rk.inj }
    · intro B hB k
      rw [hother B k ?_]; exact r.protz B hB k
      intro hne e
      rcases hthere with q | ⟨C, e1, fz, h1, h2, h3, h4, h5, h6, h7⟩
      · exact hne q
      · exact h5 (hsz hne) (e ▸ hB)
    · intro B k v hz
      by_cases q : B = i.blk ∧ k < b.cells.length
      · obtain ⟨rfl, hk⟩ := q
        have hz' : b.cells[k]? = some v := by
          have : (if i.blk = i.blk ∧ k < b.cells.length then b.cells[k]? else hm.fz i.blk k) = some v := hz
          rwa [if_pos ⟨rfl, hk⟩] at this
        have hpv := List.all_eq_true.1 hp v (List.mem_of_getElem? hz')
        refine ⟨hpv, ?_⟩
        have hne : b.cells ≠ [] := fun e => by rw [e] at hk; simp at hk
        rcases hthere with q | ⟨C, e, fz, h1, h2, h3, h4, h5, h6, h7⟩
        · exact absurd q hne
        · obtain ⟨v', h8, h9⟩ := h7 k v hz'
          exact ⟨C, e, fz, v', h1, h8, h9.pure hpv hle.fz⟩
      · have hz' : hm.fz B k = some v := by
          have : (if B = i.blk ∧ k < b.cells.length then b.cells[k]? else hm.fz B k) = some v := hz
          rwa [if_neg q] at this
        obtain ⟨h1, C', e', fz', v', h2, h3, h4⟩ := r.frz B k v hz'
        exact ⟨h1, C', e', fz', v', h2, h3, h4.pure h1 hle.fz⟩
    · intro m c hc
      obtain ⟨hc, hmn⟩ := old m c hc
      refine r.toHRel.other hle hc rfl (fun j hj hs => ⟨rfl, fun k hk => ?_⟩) (fun B hB h => h)
      rw [hother]
      · exact r.toHRel.blk_fz hc hj hs k hk
      · intro hne
        exact r.inj m c n b j i hc hn hmn hj hi hs (hsz hne)
  · rw [hother B j (fun hne e => r.lheap k B n b i hk hn hi (hsz hne) e.symm)]
    exact r.loc_fz hk j
  · exact rk.lheap

/-- A store into a box. -/
theorem Rel.storeLoc (r : Rel hm lb w0 U st w a) {k B : Nat} {cs cs' : List Value} {C C' : Array Value} {e : TypeId} {fz : Nat × Nat}
    (hk : st.locs[k]? = some cs) (hB : lb[k]? = some B) (hc : w.heap[B]? = some (.cells C e fz)) (hs : C'.size = C.size) (hl : cs'.length = cs.length)
    (hv : ∀ (j : Nat) (v : Value), cs'[j]? = some v → ∃ v', C'[j]? = some v' ∧ SR hm lb v v') :
    Rel hm lb w0 U { st with locs := st.locs.set k cs' } (bset w B (.cells C' e fz)) a := by
  obtain ⟨B0, C0, e0, fz0, h1, h2, h3, h4, h5, h6, h7⟩ := r.loc k cs hk
  rw [hB] at h1; cases h1
  rw [hc] at h2; cases h2
  have hw : ∀ B', B' ≠ B → (bset w B (.cells C' e fz)).heap[B']? = w.heap[B']? := fun B' q => Fhl.bset_other (fun z => q z.symm)
  have r' : HRel hm w0 U st.heap (bset w B (.cells C' e fz)) := by
    refine { os := r.os, tape := r.tape, output := r.output, size := by rw [bset_size]; exact r.size, prot := ?_, protz := r.protz, fresh := r.fresh, frz := ?_, blk := ?_, inj := r.inj }
    · intro B' hB'
      exact ⟨(r.prot B' hB').1, (hw B' (fun q => h5 (q ▸ hB'))).trans (r.prot B' hB').2⟩
    · intro B' k' v hz
      obtain ⟨g1, C1, e1, fz1, v', g2, g3⟩ := r.frz B' k' v hz
      refine ⟨g1, C1, e1, fz1, v', ?_, g3⟩
      rw [hw B' (fun q => by rw [q, h6] at hz; cases hz)]; exact g2
    · intro m c hm1
      refine r.toHRel.other (GM.le_refl _) hm1 rfl (fun j hj hs => ⟨hw _ (r.lheap k B m c j hB hm1 hj hs), r.toHRel.blk_fz hm1 hj hs⟩) ?_
      rintro B' hB' ⟨C1, e1, fz1, g1, g2⟩
      by_cases q : B' = B
      · subst q
        rw [hc] at g1; cases g1
        exact ⟨C', e, fz, bset_same hc, by omega⟩
      · exact ⟨C1, e1, fz1, by rw [hw B' q]; exact g1, g2⟩
  refine { toHRel := r', defers := r.defers, tsize := r.tsize, base_le := r.base_le, tmps := r.tmps, llen := by simp [r.llen], loc := ?_, linj := r.linj, lheap := r.lheap }
  intro j c hj
  simp only at hj
  by_cases q : j = k
  · subst q
    have hlt := lookup_lt hk
    rw [List.getElem?_set_self hlt] at hj
    cases hj
    exact ⟨B, C', e, fz, hB, bset_same hc, by omega, by rw [hs]; exact h4, h5, h6, hv⟩
  · rw [List.getElem?_set_ne (fun z => q z.symm)] at hj
    obtain ⟨B1, C1, e1, fz1, g1, g2, g3⟩ := r.loc j c hj
    refine ⟨B1, C1, e1, fz1, g1, ?_, g3⟩
    rw [hw B1 (fun z => q (r.linj j k B1 g1 (by rw [hB, z])))]; exact g2
end

end Go.Fhl
