/-
  A logic over the model in which a slice whose cells no longer change is a value that holds its contents. Part one: what stands for what. Nothing of any program stands here.
-/
import Derived.Orders
import Derived.Below
import Derived.Laws.Sem
import Derived.Laws.World
import Derived.Laws.Cells
namespace Go.Fhl
set_option linter.unusedVariables false
set_option linter.unusedSimpArgs false

/-! ## Lists side by side -/
def L2 {α β : Type} (R : α → β → Prop) (l : List α) (l' : List β) : Prop :=
  l.length = l'.length ∧ ∀ (i : Nat) (a : α) (b : β), l[i]? = some a → l'[i]? = some b → R a b

theorem L2.nil {α β : Type} {R : α → β → Prop} : L2 R [] [] := ⟨rfl, fun i a b h => by simp at h⟩
theorem L2.cons {α β : Type} {R : α → β → Prop} {a : α} {b : β} {l : List α} {l' : List β} (h : R a b) (t : L2 R l l') : L2 R (a :: l) (b :: l') := by
  refine ⟨by simp [t.1], fun i x y hx hy => ?_⟩
  cases i with
  | zero => simp at hx hy; subst hx; subst hy; exact h
  | succ i => simp at hx hy; exact t.2 i x y hx hy
theorem L2.mono {α β : Type} {R R' : α → β → Prop} {l : List α} {l' : List β} (h : L2 R l l') (k : ∀ a b, a ∈ l → R a b → R' a b) : L2 R' l l' :=
  ⟨h.1, fun i a b ha hb => k a b (List.mem_of_getElem? ha) (h.2 i a b ha hb)⟩
theorem L2.get {α β : Type} {R : α → β → Prop} {l : List α} {l' : List β} (h : L2 R l l') {i : Nat} {a : α} (ha : l[i]? = some a) : ∃ b, l'[i]? = some b ∧ R a b := by
  have hi : i < l.length := by
    rcases Nat.lt_or_ge i l.length with q | q
    · exact q
    · rw [List.getElem?_eq_none q] at ha; cases ha
  have hi' : i < l'.length := h.1 ▸ hi
  exact ⟨l'[i], List.getElem?_eq_getElem hi', h.2 i a _ ha (List.getElem?_eq_getElem hi')⟩
theorem L2.cons_inv {α β : Type} {R : α → β → Prop} {a : α} {l : List α} {l' : List β} (h : L2 R (a :: l) l') : ∃ b t, l' = b :: t ∧ R a b ∧ L2 R l t := by
  cases l' with
  | nil => have := h.1; simp at this
  | cons b t =>
    refine ⟨b, t, rfl, h.2 0 a b rfl rfl, by have := h.1; simpa using this, fun i x y hx hy => h.2 (i + 1) x y (by simpa using hx) (by simpa using hy)⟩
theorem L2.nil_inv {α β : Type} {R : α → β → Prop} {l' : List β} (h : L2 R ([] : List α) l') : l' = [] := by
  cases l' with
  | nil => rfl
  | cons b t => have := h.1; simp at this
theorem L2.append {α β : Type} {R : α → β → Prop} {l : List α} {l' : List β} {m : List α} {m' : List β} (h : L2 R l l') (k : L2 R m m') : L2 R (l ++ m) (l' ++ m') := by
  induction l generalizing l' with
  | nil => rw [h.nil_inv]; exact k
  | cons a l ih => obtain ⟨b, t, rfl, hab, ht⟩ := h.cons_inv; exact L2.cons hab (ih ht)
theorem L2.map {α β γ : Type} {R : α → β → Prop} {f : γ → α} {g : γ → β} (l : List γ) (h : ∀ x ∈ l, R (f x) (g x)) : L2 R (l.map f) (l.map g) := by
  induction l with
  | nil => exact .nil
  | cons x l ih => exact .cons (h x (by simp)) (ih fun y hy => h y (by simp [hy]))

theorem lookup_lt {α : Type} {l : List α} {k : Nat} {x : α} (h : l[k]? = some x) : k < l.length := by
  rcases Nat.lt_or_ge k l.length with q | q
  · exact q
  · rw [List.getElem?_eq_none q] at h; cases h
theorem alookup_lt {α : Type} {l : Array α} {k : Nat} {x : α} (h : l[k]? = some x) : k < l.size := by
  rcases Nat.lt_or_ge k l.size with q | q
  · exact q
  · rw [Array.getElem?_eq_none q] at h; cases h

/-- A list with a part of it written over. -/
def spl {α : Type} (l : List α) (off : Nat) (vs : List α) : List α := l.take off ++ vs ++ l.drop (off + vs.length)
theorem spl_length {α : Type} {l : List α} {off : Nat} {vs : List α} (h : off + vs.length ≤ l.length) : (spl l off vs).length = l.length := by
  simp [spl]; omega
theorem spl_get {α : Type} {l : List α} {off : Nat} {vs : List α} (h : off + vs.length ≤ l.length) (k : Nat) :
    (spl l off vs)[k]? = if k < off then l[k]? else if k < off + vs.length then vs[k - off]? else l[k]? := by
  unfold spl
  have h1 : (l.take off).length = off := by simp; omega
  by_cases a : k < off
  · simp only [a, if_true]
    rw [List.append_assoc, List.getElem?_append_left (by omega)]
    exact List.getElem?_take_of_lt a
  · simp only [a, if_false]
    rw [List.append_assoc, List.getElem?_append_right (by omega), h1]
    by_cases b : k < off + vs.length
    · simp only [b, if_true]
      rw [List.getElem?_append_left (by omega)]
    · simp only [b, if_false]
      rw [List.getElem?_append_right (by omega), List.getElem?_drop]
      congr 1; omega

/-! ## Rows with numbers -/
def lk {α : Type} : List (Nat × α) → Nat → Option α
  | [], _ => none
  | (m, x) :: l, n => cond (Nat.beq m n) (some x) (lk l n)
def ups {α : Type} : List (Nat × α) → Nat → α → List (Nat × α)
  | [], n, y => [(n, y)]
  | (m, x) :: l, n, y => cond (Nat.beq m n) ((m, y) :: l) ((m, x) :: ups l n y)
def del {α : Type} : List (Nat × α) → Nat → List (Nat × α)
  | [], _ => []
  | (m, x) :: l, n => cond (Nat.beq m n) (del l n) ((m, x) :: del l n)

theorem beq_self (n : Nat) : Nat.beq n n = true := Nat.beq_refl n
theorem beq_ne {m n : Nat} (h : m ≠ n) : Nat.beq m n = false := by
  cases e : Nat.beq m n with
  | false => rfl
  | true => exact absurd (Nat.eq_of_beq_eq_true e) h
theorem lk_cons_self {α : Type} (n : Nat) (x : α) (l : List (Nat × α)) : lk ((n, x) :: l) n = some x := by simp [lk, beq_self]
theorem lk_cons_ne {α : Type} {m n : Nat} (h : m ≠ n) (x : α) (l : List (Nat × α)) : lk ((m, x) :: l) n = lk l n := by simp [lk, beq_ne h]
theorem lk_ups {α : Type} (l : List (Nat × α)) (n : Nat) (y : α) (k : Nat) : lk (ups l n y) k = if k = n then some y else lk l k := by
  induction l with
  | nil =>
    by_cases e : k = n
    · subst e; simp [ups, lk, beq_self]
    · simp [ups, lk, e, beq_ne (fun q => e q.symm : n ≠ k)]
  | cons p l ih =>
    obtain ⟨m, x⟩ := p
    by_cases q : m = n
    · subst q
      simp only [ups, beq_self, cond_true]
      by_cases e : k = m
      · subst e; simp [lk, beq_self]
      · simp [lk, e, beq_ne (fun q => e q.symm : m ≠ k)]
    · simp only [ups, beq_ne q, cond_false]
      by_cases e : m = k
      · subst e; simp [lk, beq_self, q]
      · simp only [lk, beq_ne e, cond_false, ih]
theorem lk_del {α : Type} (l : List (Nat × α)) (n k : Nat) : lk (del l n) k = if k = n then none else lk l k := by
  induction l with
  | nil => simp [del, lk]
  | cons p l ih =>
    obtain ⟨m, x⟩ := p
    by_cases q : m = n
    · subst q
      simp only [del, beq_self, cond_true, ih]
      by_cases e : k = m
      · simp [e]
      · simp [lk, e, beq_ne (fun q => e q.symm : m ≠ k)]
    · simp only [del, beq_ne q, cond_false]
      by_cases e : m = k
      · subst e; simp [lk, beq_self, q]
      · simp only [lk, beq_ne e, cond_false, ih]

/-! ## The abstract heap: blocks that are ours to write. 'gro': one that may grow, and move. -/
structure Blk where
  esz : Nat
  cells : List Value
  gro : Bool

structure AH where
  next : Nat
  l : List (Nat × Blk)
def AH.get (H : AH) (n : Nat) : Option Blk := lk H.l n
def AH.alloc (H : AH) (b : Blk) : AH := ⟨H.next + 1, (H.next, b) :: H.l⟩
def AH.set (H : AH) (n : Nat) (b : Blk) : AH := ⟨H.next, ups H.l n b⟩
def AH.kill (H : AH) (n : Nat) : AH := ⟨H.next, del H.l n⟩
theorem alloc_get (H : AH) (b : Blk) (n : Nat) : (H.alloc b).get n = if n = H.next then some b else H.get n := by
  unfold AH.alloc AH.get
  by_cases e : n = H.next
  · subst e; simp [lk_cons_self]
  · simp [e, lk_cons_ne (fun q => e q.symm : H.next ≠ n)]
theorem set_get (H : AH) (m : Nat) (b : Blk) (n : Nat) : (H.set m b).get n = if n = m then some b else H.get n := lk_ups _ _ _ _
theorem kill_get (H : AH) (m n : Nat) : (H.kill m).get n = if n = m then none else H.get n := lk_del _ _ _

/-! ## Names and places -/
structure Info where
  blk : Nat
  size : Nat
  esz : Nat
  gro : Bool
  len : Nat

/-- 'map': where the named blocks lie. 'fz': cells that never change, and what they hold. -/
structure GM where
  map : Nat → Option Info
  fz : Nat → Nat → Option Value

def Info.le (i i' : Info) : Prop := i' = i ∨ (i.gro = true ∧ i'.gro = true ∧ i'.esz = i.esz ∧ i.len < i'.len)
theorem Info.le_refl (i : Info) : i.le i := .inl rfl
theorem Info.le_trans {a b c : Info} (h : a.le b) (k : b.le c) : a.le c := by
  rcases h with rfl | ⟨h1, h2, h3, h4⟩
  · exact k
  · rcases k with rfl | ⟨k1, k2, k3, k4⟩
    · exact .inr ⟨h1, h2, h3, h4⟩
    · exact .inr ⟨h1, k2, k3.trans h3, by omega⟩

/-- What was known below a number is known. -/
structure GM.leb (b : Nat) (h h' : GM) : Prop where
  map : ∀ n i, n < b → h.map n = some i → ∃ i', h'.map n = some i' ∧ i.le i'
  fz : ∀ B k v, h.fz B k = some v → h'.fz B k = some v
structure GM.le (h h' : GM) : Prop where
  map : ∀ n i, h.map n = some i → ∃ i', h'.map n = some i' ∧ i.le i'
  fz : ∀ B k v, h.fz B k = some v → h'.fz B k = some v
theorem GM.le_refl (h : GM) : h.le h := ⟨fun n i e => ⟨i, e, .inl rfl⟩, fun _ _ _ e => e⟩
theorem GM.le_trans {a b c : GM} (h : a.le b) (k : b.le c) : a.le c :=
  ⟨fun n i e => by obtain ⟨j, h1, h2⟩ := h.map n i e; obtain ⟨l, h3, h4⟩ := k.map n j h1; exact ⟨l, h3, Info.le_trans h2 h4⟩, fun B x v e => k.fz B x v (h.fz B x v e)⟩
theorem GM.le.leb {a b : GM} (h : a.le b) (n : Nat) : a.leb n b := ⟨fun m i _ e => h.map m i e, h.fz⟩
theorem GM.leb_refl (n : Nat) (h : GM) : h.leb n h := (GM.le_refl h).leb n
theorem GM.leb_trans {n : Nat} {a b c : GM} (h : a.leb n b) (k : b.leb n c) : a.leb n c :=
  ⟨fun m i hm e => by obtain ⟨j, h1, h2⟩ := h.map m i hm e; obtain ⟨l, h3, h4⟩ := k.map m j hm h1; exact ⟨l, h3, Info.le_trans h2 h4⟩, fun B x v e => k.fz B x v (h.fz B x v e)⟩
theorem GM.leb.mono {n m : Nat} {a b : GM} (h : a.leb n b) (k : m ≤ n) : a.leb m b := ⟨fun x i hx e => h.map x i (by omega) e, h.fz⟩

abbrev LM := List Nat
def LM.le (l l' : LM) : Prop := ∀ (k B : Nat), l[k]? = some B → l'[k]? = some B
theorem LM.le_refl (l : LM) : l.le l := fun _ _ h => h
theorem LM.le_trans {a b c : LM} (h : LM.le a b) (k : LM.le b c) : LM.le a c := fun i B e => k i B (h i B e)
theorem LM.nil_le (l : LM) : LM.le [] l := fun k B h => by simp at h
theorem LM.app_le (l : LM) (x : Nat) : LM.le l (l ++ [x]) := by
  intro k B h
  rw [List.getElem?_append_left (lookup_lt h)]; exact h

/-- A place. Spot 'none': in a block that stays where it is; 'some 0': in a box of the frame; 'some (k + 1)': in a block that grows, when it has k cells. -/
def ARel (hm : GM) (lb : LM) (a c : Addr) : Prop :=
  match a.spot with
  | none => ∃ i, hm.map a.block = some i ∧ i.gro = false ∧ c = ⟨i.blk, a.off, none⟩
  | some 0 => ∃ B, lb[a.block]? = some B ∧ c = ⟨B, a.off, none⟩
  | some (k + 1) => ∃ i, hm.map a.block = some i ∧ i.gro = true ∧ k ≤ i.len ∧ c.spot = none ∧ (i.len = k → c = ⟨i.blk, a.off, none⟩)

theorem ARel.mono {hm hm' : GM} {lb lb' : LM} (h : hm.le hm') (hl : LM.le lb lb') {a c : Addr} (e : ARel hm lb a c) : ARel hm' lb' a c := by
  unfold ARel at *
  split at e
  · obtain ⟨i, h1, h2, h3⟩ := e
    obtain ⟨i', h4, h5⟩ := h.map _ _ h1
    rcases h5 with rfl | ⟨h6, _⟩
    · exact ⟨i', h4, h2, h3⟩
    · rw [h2] at h6; cases h6
  · obtain ⟨B, h1, h2⟩ := e; exact ⟨B, hl _ _ h1, h2⟩
  · obtain ⟨i, h1, h2, h3, h4, h5⟩ := e
    obtain ⟨i', h6, h7⟩ := h.map _ _ h1
    rcases h7 with rfl | ⟨h8, h9, h10, h11⟩
    · exact ⟨i', h6, h2, h3, h4, h5⟩
    · exact ⟨i', h6, h9, by omega, h4, fun q => by omega⟩

/-- A row of cells that never change: a pointer to them (e = 0), or a slice of elements of e cells. -/
def DeepR (fz : Nat → Nat → Option Value) (e : Nat) (cs : List Value) (v : Value) : Prop :=
  match e with
  | 0 => ∃ B o, v = .pointer (some ⟨B, o, none⟩) ∧ ∀ (j : Nat) (c : Value), cs[j]? = some c → fz B (o + j) = some c
  | e + 1 => ∃ a n cap, v = .slice a n cap ∧ n * (e + 1) = cs.length ∧ n ≤ cap ∧ (cs = [] ∨ ∃ B o, a = some ⟨B, o, none⟩ ∧ ∀ (j : Nat) (c : Value), cs[j]? = some c → fz B (o + j) = some c)
theorem DeepR.mono {fz fz' : Nat → Nat → Option Value} (h : ∀ B k v, fz B k = some v → fz' B k = some v) {e : Nat} {cs : List Value} {v : Value} (r : DeepR fz e cs v) : DeepR fz' e cs v := by
  cases e with
  | zero => obtain ⟨B, o, h1, h2⟩ := r; exact ⟨B, o, h1, fun j c q => h _ _ _ (h2 j c q)⟩
  | succ e =>
    obtain ⟨a, n, cap, h1, h2, h3, h4⟩ := r
    refine ⟨a, n, cap, h1, h2, h3, h4.imp id ?_⟩
    rintro ⟨B, o, h5, h6⟩
    exact ⟨B, o, h5, fun j c q => h _ _ _ (h6 j c q)⟩

/-- What a closure holds. -/
def PR (hm : GM) (lb : LM) : Value → Value → Prop
  | .pointer (some a), v => ∃ c, ARel hm lb a c ∧ v = .pointer (some c)
  | .iface e (.tuple cs), v => DeepR hm.fz e cs.toList v
  | .slice _ _ _, _ => False
  | .func _ _ _, _ => False
  | .agg _, _ => False
  | .tuple _, _ => False
  | x, v => v = x

/-- One cell. -/
def SR (hm : GM) (lb : LM) : Value → Value → Prop
  | .pointer (some a), v => ∃ c, ARel hm lb a c ∧ v = .pointer (some c)
  | .slice (some a) len cap, v =>
    match a.spot with
    | none => ∃ i o, hm.map a.block = some i ∧ i.gro = false ∧ v = .slice (some ⟨i.blk, o, none⟩) len cap ∧ len ≤ cap ∧ (cap ≠ 0 → o = a.off) ∧ o + cap * i.esz ≤ i.size
    | some 2 => ∃ i p cap', hm.map a.block = some i ∧ i.gro = true ∧ v = .slice p len cap' ∧ cap ≤ i.len ∧ (i.len = cap → len ≠ 0 → p = some ⟨i.blk, a.off, none⟩)
    | some _ => ∃ i p cap', hm.map a.block = some i ∧ i.gro = true ∧ v = .slice p len cap' ∧ len * i.esz ≤ i.len ∧ (i.len = len * i.esz → len ≤ cap' ∧ (cap' ≠ 0 → p = some ⟨i.blk, 0, none⟩) ∧ cap' * i.esz ≤ i.size)
  | .iface e (.tuple cs), v => DeepR hm.fz e cs.toList v
  | .func fn first captured, v => ∃ c', v = .func fn #[] c' ∧ first = #[] ∧ L2 (PR hm lb) captured.toList c'.toList
  | .agg _, _ => False
  | .tuple _, _ => False
  | x, v => v = x

/-- One cell, or a row of them. -/
def VR1 (hm : GM) (lb : LM) : Value → Value → Prop
  | .agg cs, v => ∃ cs', v = .agg cs' ∧ L2 (SR hm lb) cs.toList cs'.toList
  | x, v => SR hm lb x v

/-- What stands in the slot of an operation that was passed over. -/
def skipV : Value := .tuple #[.tuple #[]]

/-- Whatever a slot holds. The empty tuple: we do not care. -/
def VR (hm : GM) (lb : LM) : Value → Value → Prop
  | .tuple vs, v => vs = #[] ∨ (vs = #[.tuple #[]] ∧ v = .tuple #[]) ∨ ∃ vs', v = .tuple vs' ∧ L2 (VR1 hm lb) vs.toList vs'.toList
  | x, v => VR1 hm lb x v

section mono
variable {hm hm' : GM} {lb lb' : LM} (h : hm.le hm') (hl : LM.le lb lb')
include h hl
theorem PR.mono {x v : Value} (e : PR hm lb x v) : PR hm' lb' x v := by
  unfold PR at *
  split at e
  · obtain ⟨c, h1, h2⟩ := e; exact ⟨c, h1.mono h hl, h2⟩
  · exact e.mono h.fz
  all_goals first | exact e | cases e
theorem SR.mono {x v : Value} (e : SR hm lb x v) : SR hm' lb' x v := by
  unfold SR at *
  split at e
  · obtain ⟨c, h1, h2⟩ := e; exact ⟨c, h1.mono h hl, h2⟩
  · split at e
    · obtain ⟨i, o, h1, h2, h3, h4, h5, h6⟩ := e
      obtain ⟨i', h7, h8⟩ := h.map _ _ h1
      rcases h8 with rfl | ⟨h9, _⟩
      · exact ⟨i', o, h7, h2, h3, h4, h5, h6⟩
      · rw [h2] at h9; cases h9
    · obtain ⟨i, p, cap', h1, h2, h3, h4, h5⟩ := e
      obtain ⟨i', h7, h8⟩ := h.map _ _ h1
      rcases h8 with rfl | ⟨h9, h10, h11, h12⟩
      · exact ⟨i', p, cap', h7, h2, h3, h4, h5⟩
      · exact ⟨i', p, cap', h7, h10, h3, by omega, fun q => by omega⟩
    · obtain ⟨i, p, cap', h1, h2, h3, h4, h5⟩ := e
      obtain ⟨i', h7, h8⟩ := h.map _ _ h1
      rcases h8 with rfl | ⟨h9, h10, h11, h12⟩
      · exact ⟨i', p, cap', h7, h2, h3, h4, h5⟩
      · exact ⟨i', p, cap', h7, h10, h3, by rw [h11]; omega, fun q => by rw [h11] at q; omega⟩
  · exact e.mono h.fz
  · obtain ⟨c', h1, h2, h3⟩ := e; exact ⟨c', h1, h2, h3.mono fun a b _ q => PR.mono h hl q⟩
  all_goals first | exact e | cases e
theorem VR1.mono {x v : Value} (e : VR1 hm lb x v) : VR1 hm' lb' x v := by
  unfold VR1 at *
  split at e
  · obtain ⟨c, h1, h2⟩ := e; exact ⟨c, h1, h2.mono fun a b _ q => SR.mono h hl q⟩
  · exact SR.mono h hl e
theorem VR.mono {x v : Value} (e : VR hm lb x v) : VR hm' lb' x v := by
  unfold VR at *
  split at e
  · rcases e with e | e | ⟨c, h1, h2⟩
    · exact .inl e
    · exact .inr (.inl e)
    · exact .inr (.inr ⟨c, h1, h2.mono fun a b _ q => VR1.mono h hl q⟩)
  · exact VR1.mono h hl e
end mono

/-! ## Kinds of values -/
/-- Nothing of the tuples and aggregates. -/
def one : Value → Bool
  | .agg _ | .tuple _ => false
  | _ => true

/-- What names no block: it may be frozen. -/
def pure1 : Value → Bool
  | .bool _ | .int _ _ | .string _ | .pointer none | .slice none _ _ | .nilFunc | .nilIface | .map none | .float _ _ => true
  | .iface _ (.tuple _) => true
  | _ => false
def pureV : Value → Bool
  | .agg cs => cs.toList.all pure1
  | .tuple vs => vs.toList.all fun | .agg cs => cs.toList.all pure1 | .tuple _ => false | v => pure1 v
  | v => pure1 v

/-- What the model's value is, to the letter. -/
def plain1 : Value → Bool
  | .bool _ | .int _ _ | .string _ | .pointer none | .slice none _ _ | .nilFunc | .nilIface | .map none | .float _ _ => true
  | _ => false
def plain : Value → Bool
  | .agg cs => cs.toList.all plain1
  | .tuple vs => false
  | v => plain1 v

section
variable {hm hm' : GM} {lb lb' : LM}
theorem SR.one {x v : Value} (e : SR hm lb x v) : Fhl.one v = true := by
  unfold SR at e
  split at e
  · obtain ⟨c, _, rfl⟩ := e; rfl
  · split at e
    · obtain ⟨i, o, _, _, rfl, _⟩ := e; rfl
    · obtain ⟨i, p, c, _, _, rfl, _⟩ := e; rfl
    · obtain ⟨i, p, c, _, _, rfl, _⟩ := e; rfl
  · rename_i e0 cs
    cases e0 with
    | zero => obtain ⟨B, o, rfl, _⟩ := e; rfl
    | succ e0 => obtain ⟨a, n, cap, rfl, _⟩ := e; rfl
  · obtain ⟨c', rfl, _⟩ := e; rfl
  · cases e
  · cases e
  · subst e; rename_i h1 h2 h3 h4 h5 h6
    cases v <;> first | rfl | (exact absurd rfl (h5 _)) | (exact absurd rfl (h6 _))

theorem SR.plain {x v : Value} (h : plain1 x = true) (e : SR hm lb x v) : v = x := by
  cases x <;> first | (simp [plain1] at h; done) | exact e | skip
  case pointer a => cases a <;> first | exact e | (simp [plain1] at h; done)
  case slice a l c => cases a <;> first | exact e | (simp [plain1] at h; done)
theorem SR.of_plain {x : Value} (h : plain1 x = true) : SR hm lb x x := by
  cases x <;> first | (simp [plain1] at h; done) | exact rfl | skip
  case pointer a => cases a <;> first | exact rfl | (simp [plain1] at h; done)
  case slice a l c => cases a <;> first | exact rfl | (simp [plain1] at h; done)
theorem plain1_pure1 {x : Value} (h : plain1 x = true) : pure1 x = true := by
  cases x <;> first | (simp [plain1] at h; done) | rfl | skip
  case map r => cases r <;> first | rfl | (simp [plain1] at h; done)
  case pointer a => cases a <;> first | rfl | (simp [plain1] at h; done)
  case slice a l c => cases a <;> first | rfl | (simp [plain1] at h; done)
theorem pure1_one {x : Value} (h : pure1 x = true) : Fhl.one x = true := by
  cases x <;> first | (simp [pure1] at h; done) | rfl
/-- What names no block is the same under any names. -/
theorem SR.pure {x v : Value} (h : pure1 x = true) (hf : ∀ B k v, hm.fz B k = some v → hm'.fz B k = some v) (e : SR hm lb x v) : SR hm' lb' x v := by
  cases x <;> first | (simp [pure1] at h; done) | exact e | skip
  case pointer a => cases a <;> first | exact e | (simp [pure1] at h; done)
  case slice a l c => cases a <;> first | exact e | (simp [pure1] at h; done)
  case iface t x => cases x <;> first | (simp [pure1] at h; done) | exact DeepR.mono hf e

theorem SR.repl {x v : Value} (e : SR hm lb x v) (h : pure1 x = true) (hf : ∀ B k v, hm.fz B k = some v → hm'.fz B k = some v) : SR hm' lb' x v := SR.pure h hf e

theorem VR.of_sr {x v : Value} (h : Fhl.one x = true) (e : SR hm lb x v) : VR hm lb x v := by
  cases x <;> first | (simp [Fhl.one] at h; done) | exact e
theorem VR.sr {x v : Value} (h : Fhl.one x = true) (e : VR hm lb x v) : SR hm lb x v := by
  cases x <;> first | (simp [Fhl.one] at h; done) | exact e
theorem VR1.of_sr {x v : Value} (h : Fhl.one x = true) (e : SR hm lb x v) : VR1 hm lb x v := by
  cases x <;> first | (simp [Fhl.one] at h; done) | exact e
theorem VR1.sr {x v : Value} (h : Fhl.one x = true) (e : VR1 hm lb x v) : SR hm lb x v := by
  cases x <;> first | (simp [Fhl.one] at h; done) | exact e
theorem SR.one_left {x v : Value} (e : SR hm lb x v) : Fhl.one x = true := by
  cases x <;> first | rfl | exact e.elim
theorem plain_one {x : Value} (h : plain1 x = true) : Fhl.one x = true := pure1_one (plain1_pure1 h)

theorem L2.plain {l l' : List Value} (h : l.all plain1 = true) (e : L2 (SR hm lb) l l') : l' = l := by
  induction l generalizing l' with
  | nil => exact e.nil_inv
  | cons x l ih =>
    obtain ⟨b, t, rfl, h1, h2⟩ := e.cons_inv
    simp only [List.all_cons, Bool.and_eq_true] at h
    rw [h1.plain h.1, ih h.2 h2]
theorem L2.of_plain {l : List Value} (h : l.all plain1 = true) : L2 (SR hm lb) l l := by
  induction l with
  | nil => exact .nil
  | cons x l ih =>
    simp only [List.all_cons, Bool.and_eq_true] at h
    exact .cons (SR.of_plain h.1) (ih h.2)
theorem L2.pure {l l' : List Value} (h : l.all pure1 = true) (hf : ∀ B k v, hm.fz B k = some v → hm'.fz B k = some v) (e : L2 (SR hm lb) l l') : L2 (SR hm' lb') l l' :=
  e.mono fun a b ha q => q.pure (List.all_eq_true.1 h a ha) hf
theorem plain_cases {x : Value} (h : Fhl.plain x = true) : (∃ cs, x = .agg cs ∧ cs.toList.all plain1 = true) ∨ (Fhl.one x = true ∧ plain1 x = true) := by
  cases x <;> first | (simp [Fhl.plain] at h; done) | exact .inr ⟨rfl, h⟩ | exact .inl ⟨_, rfl, h⟩
theorem VR.plain {x v : Value} (h : Fhl.plain x = true) (e : VR hm lb x v) : v = x := by
  rcases plain_cases h with ⟨cs, rfl, h1⟩ | ⟨h1, h2⟩
  · obtain ⟨cs', rfl, h2⟩ := e
    congr 1; exact Array.toList_inj.1 (h2.plain h1)
  · exact SR.plain h2 (e.sr h1)
theorem VR.of_plain {x : Value} (h : Fhl.plain x = true) : VR hm lb x x := by
  rcases plain_cases h with ⟨cs, rfl, h1⟩ | ⟨h1, h2⟩
  · exact ⟨cs, rfl, L2.of_plain h1⟩
  · exact .of_sr h1 (SR.of_plain h2)
theorem VR.undef (v : Value) : VR hm lb Go.undef v := .inl rfl
theorem VR1.pure {x v : Value} (h : (match x with | .agg cs => cs.toList.all pure1 | .tuple _ => false | v => pure1 v) = true) (hf : ∀ B k v, hm.fz B k = some v → hm'.fz B k = some v) (e : VR1 hm lb x v) : VR1 hm' lb' x v := by
  by_cases ho : Fhl.one x = true
  · refine .of_sr ho ((e.sr ho).pure ?_ hf)
    cases x <;> first | (simp [Fhl.one] at ho; done) | exact h
  · cases x <;> first | (simp [Fhl.one] at ho; done) | skip
    case agg cs => obtain ⟨cs', rfl, h2⟩ := e; exact ⟨cs', rfl, L2.pure h hf h2⟩
    case tuple vs => simp at h
theorem VR.pure {x v : Value} (h : pureV x = true) (hf : ∀ B k v, hm.fz B k = some v → hm'.fz B k = some v) (e : VR hm lb x v) : VR hm' lb' x v := by
  by_cases ho : ∃ vs, x = .tuple vs
  · obtain ⟨vs, rfl⟩ := ho
    rcases e with e | e | ⟨vs', rfl, h2⟩
    · exact .inl e
    · exact .inr (.inl e)
    · refine .inr (.inr ⟨vs', rfl, h2.mono fun a b ha q => VR1.pure ?_ hf q⟩)
      exact List.all_eq_true.1 h a ha
  · have : VR1 hm lb x v := by cases x <;> first | exact e | exact absurd ⟨_, rfl⟩ ho
    have h2 : VR1 hm' lb' x v := VR1.pure (by cases x <;> first | exact h | exact absurd ⟨_, rfl⟩ ho) hf this
    cases x <;> first | exact h2 | exact absurd ⟨_, rfl⟩ ho
end

/-! ## The relation to the world -/
def Free (fz : Nat × Nat) (n : Nat) : Prop := ∀ k, k < n → ¬ (fz.1 ≤ k ∧ k < fz.2)
theorem Free.zero (n : Nat) : Free (0, 0) n := fun k _ hk => by omega

/-- What is not ours to write: blocks that must stay, and what was known of them. -/
structure Env where
  U : Nat → Prop
  z : Nat → Nat → Option Value

/-- A block that is there, as it stands in the world. -/
def There (hm : GM) (U : Env) (w : World) (i : Info) (cells : List Value) : Prop :=
  ∃ C e fz, w.heap[i.blk]? = some (.cells C e fz) ∧ C.size = i.size ∧ cells.length ≤ i.size ∧ Free fz i.size ∧ (i.size ≠ 0 → ¬ U.U i.blk) ∧ (∀ k, k < i.size → hm.fz i.blk k = none) ∧
    ∀ (k : Nat) (v : Value), cells[k]? = some v → ∃ v', C[k]? = some v' ∧ SR hm [] v v'

structure HRel (hm : GM) (w0 : World) (U : Env) (H : AH) (w : World) : Prop where
  os : w.os = w0.os
  tape : w.tape = w0.tape
  output : w.output = w0.output
  size : w0.heap.size ≤ w.heap.size
  prot : ∀ B, U.U B → B < w0.heap.size ∧ w.heap[B]? = w0.heap[B]?
  protz : ∀ B, U.U B → ∀ k, hm.fz B k = U.z B k
  fresh : ∀ n, H.next ≤ n → hm.map n = none
  frz : ∀ B k v, hm.fz B k = some v → pure1 v = true ∧ ∃ C e fz v', w.heap[B]? = some (.cells C e fz) ∧ C[k]? = some v' ∧ SR hm [] v v'
  blk : ∀ n b, H.get n = some b → ∃ i, hm.map n = some i ∧ i.esz = b.esz ∧ i.gro = b.gro ∧ (b.gro = true → i.len = b.cells.length ∧ 1 ≤ b.esz) ∧ b.cells.all pure1 = true ∧ ((b.gro = true ∧ i.size = 0 ∧ b.cells = []) ∨ There hm U w i b.cells)
  inj : ∀ n b n' b' i i', H.get n = some b → H.get n' = some b' → n ≠ n' → hm.map n = some i → hm.map n' = some i' → i.size ≠ 0 → i'.size ≠ 0 → i.blk ≠ i'.blk

structure AS where
  n : Nat
  base : Nat
  tmps : List (Nat × Value)
  locs : List (List Value)
  heap : AH

def AS.setHeap (st : AS) (H : AH) : AS := { st with heap := H }
def AS.setLocs (st : AS) (l : List (List Value)) : AS := { st with locs := l }
def AS.setTmps (st : AS) (l : List (Nat × Value)) : AS := { st with tmps := l }

structure Rel (hm : GM) (lb : LM) (w0 : World) (U : Env) (st : AS) (w : World) (a : Act) : Prop extends HRel hm w0 U st.heap w where
  defers : a.defers = []
  tsize : a.tmps.size = st.n
  base_le : st.base ≤ st.heap.next
  tmps : ∀ t v, lk st.tmps t = some v → ∃ cv, a.tmps[t]? = some cv ∧ VR hm lb v cv
  llen : lb.length = st.locs.length
  loc : ∀ (k : Nat) (cs : List Value), st.locs[k]? = some cs → ∃ B C e fz, lb[k]? = some B ∧ w.heap[B]? = some (.cells C e fz) ∧ C.size = cs.length ∧ Free fz C.size ∧ ¬ U.U B ∧ (∀ k, hm.fz B k = none) ∧
    ∀ (j : Nat) (v : Value), cs[j]? = some v → ∃ v', C[j]? = some v' ∧ SR hm lb v v'
  linj : ∀ (k k' B : Nat), lb[k]? = some B → lb[k']? = some B → k = k'
  lheap : ∀ (k B n : Nat) (b : Blk) (i : Info), lb[k]? = some B → st.heap.get n = some b → hm.map n = some i → i.size ≠ 0 → i.blk ≠ B

theorem HRel.lt {hm : GM} {w0 : World} {U : Env} {H : AH} {w : World} (r : HRel hm w0 U H w) {n : Nat} {b : Blk} (h : H.get n = some b) : n < H.next := by
  obtain ⟨i, hi, _⟩ := r.blk n b h
  rcases Nat.lt_or_ge n H.next with q | q
  · exact q
  · rw [r.fresh n q] at hi; cases hi

end Go.Fhl
