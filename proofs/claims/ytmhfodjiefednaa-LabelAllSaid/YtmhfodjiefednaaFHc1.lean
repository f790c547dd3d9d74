/-
  A logic over the model, in one text.
-/
import Derived.Test.YtmhfodjiefednaaFHb1
import Derived.Laws.Strings
/-
  A logic over the model, part twelve: values with types of their own: numbers, texts, rows.
-/
namespace Go.Fhl
set_option linter.unusedVariables false
set_option linter.unusedSimpArgs false

/-! ## Arithmetic on the model's values -/
section
variable {P : Program} {t : TypeId} {xo yo : Operand} {k : IntKind} {x y : Int}
theorem bin_add : keep (abin P .add t xo yo (.int k x) (.int k y)) = some (.int k (k.wrap (x + y))) := by cases k <;> rfl
theorem bin_sub : keep (abin P .sub t xo yo (.int k x) (.int k y)) = some (.int k (k.wrap (x - y))) := by cases k <;> rfl
theorem bin_mul : keep (abin P .mul t xo yo (.int k x) (.int k y)) = some (.int k (k.wrap (x * y))) := by cases k <;> rfl
theorem bin_eql : keep (abin P .eql t xo yo (.int k x) (.int k y)) = some (.bool (x == y)) := by cases k <;> rfl
theorem bin_neq : keep (abin P .neq t xo yo (.int k x) (.int k y)) = some (.bool (x != y)) := by cases k <;> rfl
theorem bin_lss : keep (abin P .lss t xo yo (.int k x) (.int k y)) = some (.bool (decide (x < y))) := by cases k <;> rfl
theorem bin_leq : keep (abin P .leq t xo yo (.int k x) (.int k y)) = some (.bool (decide (x ≤ y))) := by cases k <;> rfl
theorem bin_gtr : keep (abin P .gtr t xo yo (.int k x) (.int k y)) = some (.bool (decide (x > y))) := by cases k <;> rfl
theorem bin_geq : keep (abin P .geq t xo yo (.int k x) (.int k y)) = some (.bool (decide (x ≥ y))) := by cases k <;> rfl
theorem bin_and : keep (abin P .and t xo yo (.int k x) (.int k y)) = some (.int k (k.wrap (BitVec.ofInt k.bits x &&& BitVec.ofInt k.bits y).toNat)) := by cases k <;> rfl
theorem bin_or : keep (abin P .or t xo yo (.int k x) (.int k y)) = some (.int k (k.wrap (BitVec.ofInt k.bits x ||| BitVec.ofInt k.bits y).toNat)) := by cases k <;> rfl
theorem bin_xor : keep (abin P .xor t xo yo (.int k x) (.int k y)) = some (.int k (k.wrap (BitVec.ofInt k.bits x ^^^ BitVec.ofInt k.bits y).toNat)) := by cases k <;> rfl
theorem bin_quo (h : y ≠ 0) : keep (abin P .quo t xo yo (.int k x) (.int k y)) = some (.int k (k.wrap (x.tdiv y))) := by
  have : pureRun P (do eqGuard .quo t xo yo (.int k x) (.int k y); binOp .quo t (.int k x) (.int k y)) = some (.int k (k.wrap (x.tdiv y))) := by
    rw [pureRun_bind]
    simp [binOp, Op.intDiv, h, eqGuard, pureRun_pure]
  unfold abin
  simp [plain, plain1, this, keep]
theorem bin_rem (h : y ≠ 0) : keep (abin P .rem t xo yo (.int k x) (.int k y)) = some (.int k (x.tmod y)) := by
  have : pureRun P (do eqGuard .rem t xo yo (.int k x) (.int k y); binOp .rem t (.int k x) (.int k y)) = some (.int k (x.tmod y)) := by
    rw [pureRun_bind]
    simp [binOp, Op.intDiv, h, eqGuard, pureRun_pure]
  unfold abin
  simp [plain, plain1, this, keep]
theorem bin_shl {k' : IntKind} (h : 0 ≤ y) : keep (abin P .shl t xo yo (.int k x) (.int k' y)) = some (.int k (k.wrap (x * 2 ^ (min y.toNat k.bits)))) := by
  have : pureRun P (do eqGuard .shl t xo yo (.int k x) (.int k' y); binOp .shl t (.int k x) (.int k' y)) = some (.int k (k.wrap (x * 2 ^ (min y.toNat k.bits)))) := by
    have hn : ¬ y < 0 := by omega
    rw [pureRun_bind]
    simp [binOp, Op.shift, hn, eqGuard, pureRun_pure]
  unfold abin
  simp [plain, plain1, this, keep]
theorem bin_shr {k' : IntKind} (h : 0 ≤ y) : keep (abin P .shr t xo yo (.int k x) (.int k' y)) = some (.int k (x.fdiv (2 ^ (min y.toNat k.bits)))) := by
  have : pureRun P (do eqGuard .shr t xo yo (.int k x) (.int k' y); binOp .shr t (.int k x) (.int k' y)) = some (.int k (x.fdiv (2 ^ (min y.toNat k.bits)))) := by
    have hn : ¬ y < 0 := by omega
    rw [pureRun_bind]
    simp [binOp, Op.shift, hn, eqGuard, pureRun_pure]
  unfold abin
  simp [plain, plain1, this, keep]
variable {s u : ByteArray}
theorem bin_neqS : keep (abin P .neq t xo yo (.string s) (.string u)) = some (.bool (!(s.toList == u.toList))) := rfl
theorem bin_addS (h : s.size + u.size ≤ 9223372036854775807) : keep (abin P .add t xo yo (.string s) (.string u)) = some (.string (s ++ u)) := by
  have : pureRun P (do eqGuard .add t xo yo (.string s) (.string u); binOp .add t (.string s) (.string u)) = some (.string (s ++ u)) := by
    have h1 : ¬ (((s.size + u.size : Nat) : Int) > IntKind.i64.max) := by
      have : IntKind.i64.max = 9223372036854775807 := by decide
      rw [this]; omega
    rw [pureRun_bind]
    show (Option.some ()).bind (fun _ => pureRun P (Op.stringOp .add s u)) = _
    unfold Op.stringOp
    simp only [h1, if_false]
    rfl
  unfold abin
  simp [plain, plain1, this, keep]
end

abbrev Str := List UInt8
def sB (s : Str) : ByteArray := ⟨s.toArray⟩
theorem sB_size (s : Str) : (sB s).size = s.length := by simp [sB, ByteArray.size]
theorem sB_data (s : Str) : (sB s).data.toList = s := by simp [sB]
theorem sB_get (s : Str) (i : Nat) : (sB s)[i]? = s[i]? := by
  show (ByteArray.mk s.toArray)[i]? = _
  by_cases h : i < s.length
  · rw [getElem?_pos _ _ (by simpa [ByteArray.size] using h), List.getElem?_eq_getElem h]; rfl
  · rw [getElem?_neg _ _ (by simpa [ByteArray.size] using h), List.getElem?_eq_none (by omega)]
theorem sB_toList (s : Str) : (sB s).toList = s := by
  rw [ByteArray.toList_eq]; exact sB_data s
theorem sB_append (s u : Str) : sB s ++ sB u = sB (s ++ u) := by
  apply ByteArray.ext
  rw [ByteArray.data_append]
  simp [sB]
theorem sB_extract (s : Str) (l h : Nat) : (sB s).extract l h = sB ((s.take h).drop l) := by
  apply ByteArray.ext
  rw [ByteArray.data_extract]
  apply Array.toList_inj.1
  simp [sB, List.extract_eq_take_drop, List.drop_take]

abbrev I (n : Int) : Value := .int .i64 n
abbrev U8 (n : UInt8) : Value := .int .u8 n.toNat
abbrev U16 (n : UInt16) : Value := .int .u16 n.toNat
abbrev U32 (n : UInt32) : Value := .int .u32 n.toNat
abbrev U64 (n : UInt64) : Value := .int .u64 n.toNat
abbrev Bo (b : Bool) : Value := .bool b
abbrev S (s : Str) : Value := .string (sB s)
/-- A row of elements, frozen. -/
def SL {α : Type} (s : Nat) (c : α → List Value) (xs : List α) : Value := .iface s (.tuple (xs.flatMap c).toArray)
/-- A pointer to frozen cells. -/
abbrev DP (cs : List Value) : Value := .iface 0 (.tuple cs.toArray)
/-- A slice that may grow; one whose block stays. -/
abbrev GV (n len : Nat) : Value := .slice (some ⟨n, 0, some 1⟩) len len
abbrev FV (n len : Nat) : Value := .slice (some ⟨n, 0, none⟩) len len
abbrev LP (k off : Nat) : Value := .pointer (some ⟨k, off, some 0⟩)
abbrev NP (n off : Nat) : Value := .pointer (some ⟨n, off, none⟩)
abbrev GP (n off len : Nat) : Value := .pointer (some ⟨n, off, some (len + 1)⟩)
abbrev FN (f : FuncId) : Value := .func (.func f) #[] #[]
def c8 (b : UInt8) : List Value := [U8 b]
def cI (n : Int) : List Value := [I n]
def cS (s : Str) : List Value := [S s]
def cB (b : Bool) : List Value := [Bo b]

/-- How elements lie in cells. -/
structure CE {α : Type} (c : α → List Value) (s : Nat) : Prop where
  len : ∀ x, (c x).length = s
  pure : ∀ x, (c x).all pure1 = true
theorem ce8 : CE c8 1 := ⟨fun _ => rfl, fun _ => rfl⟩
theorem ceI : CE cI 1 := ⟨fun _ => rfl, fun _ => rfl⟩
theorem ceS : CE cS 1 := ⟨fun _ => rfl, fun _ => rfl⟩
/-- Rows of rows. -/
def cL {α : Type} (s : Nat) (c : α → List Value) (xs : List α) : List Value := [SL s c xs]
section
variable {α : Type} {c : α → List Value} {s : Nat}
theorem CE.flat (h : CE c s) (xs : List α) : (xs.flatMap c).length = xs.length * s := by
  induction xs with
  | nil => simp
  | cons x xs ih => simp [h.len, ih, Nat.add_mul]; omega
theorem CE.drop (h : CE c s) (xs : List α) (k : Nat) : (xs.flatMap c).drop (k * s) = (xs.drop k).flatMap c := by
  induction xs generalizing k with
  | nil => simp
  | cons x xs ih =>
    cases k with
    | zero => simp
    | succ k =>
      rw [List.flatMap_cons, List.drop_append, h.len, Nat.add_mul, Nat.one_mul, Nat.add_sub_cancel, ih]
      have : ((c x).drop (k * s + s)) = [] := List.drop_eq_nil_of_le (by rw [h.len]; omega)
      rw [this]; simp
theorem CE.take (h : CE c s) (xs : List α) (k : Nat) : (xs.flatMap c).take (k * s) = (xs.take k).flatMap c := by
  induction xs generalizing k with
  | nil => simp
  | cons x xs ih =>
    cases k with
    | zero => simp
    | succ k =>
      rw [List.flatMap_cons, List.take_append, h.len, Nat.add_mul, Nat.one_mul, Nat.add_sub_cancel, ih]
      have : ((c x).take (k * s + s)) = c x := List.take_of_length_le (by rw [h.len]; omega)
      rw [this]; simp
theorem CE.one (h : CE c s) {xs : List α} {k : Nat} {x : α} (hk : xs[k]? = some x) : ((xs.flatMap c).drop (k * s)).take s = c x := by
  have hlt := lookup_lt hk
  rw [h.drop, List.drop_eq_getElem_cons hlt, List.flatMap_cons, List.take_append, h.len, Nat.sub_self, List.take_zero, List.append_nil, List.take_of_length_le (by rw [h.len]; exact Nat.le_refl _)]
  rw [List.getElem?_eq_getElem hlt] at hk
  rw [Option.some.inj hk]
theorem CE.set (h : CE c s) {xs : List α} {k : Nat} (hk : k < xs.length) (y : α) : spl (xs.flatMap c) (k * s) (c y) = (xs.set k y).flatMap c := by
  unfold spl
  rw [h.take, h.len]
  have : k * s + s = (k + 1) * s := by rw [Nat.add_mul]; omega
  rw [this, h.drop, List.set_eq_take_append_cons_drop, if_pos hk]
  simp
end

/-! ## What the models are made of -/
def w64 (n : Int) : Int := IntKind.i64.wrap n
theorem w64_id {n : Int} (h0 : -9223372036854775808 ≤ n) (h1 : n ≤ 9223372036854775807) : w64 n = n := wrap_i64 h0 h1
def getI {α : Type} (xs : List α) (i : Int) : Option α := if 0 ≤ i then xs[i.toNat]? else none
def setI {α : Type} (xs : List α) (i : Int) (y : α) : Option (List α) := if 0 ≤ i ∧ i < xs.length then some (xs.set i.toNat y) else none
def slL {α : Type} (xs : List α) (l h : Int) : Option (List α) := if 0 ≤ l ∧ l ≤ h ∧ h ≤ xs.length then some ((xs.take h.toNat).drop l.toNat) else none
def addS (s u : Str) : Option Str := if s.length + u.length ≤ 9223372036854775807 then some (s ++ u) else none
def appL {α : Type} (b : Nat) (xs ys : List α) : Option (List α) := if (2 * (xs.length + ys.length) + 192) * b ≤ 281474976710656 then some (xs ++ ys) else none
def makeL {α : Type} (b : Nat) (n : Int) (z : α) : Option (List α) := if 0 ≤ n ∧ n ≤ 9223372036854775807 ∧ (b : Int) * n ≤ 281474976710656 then some (List.replicate n.toNat z) else none
def quoI (x y : Int) : Option Int := if y = 0 then none else some (w64 (x.tdiv y))
def remI (x y : Int) : Option Int := if y = 0 then none else some (x.tmod y)
def shlI (x y : Int) : Option Int := if 0 ≤ y then some (w64 (x * 2 ^ (min y.toNat 64))) else none
def shrI (x y : Int) : Option Int := if 0 ≤ y then some (x.fdiv (2 ^ (min y.toNat 64))) else none
def andI (x y : Int) : Int := w64 (BitVec.ofInt 64 x &&& BitVec.ofInt 64 y).toNat
def orI (x y : Int) : Int := w64 (BitVec.ofInt 64 x ||| BitVec.ofInt 64 y).toNat
/-- What is done just if a guard holds. -/
def gd {α : Type} [Inhabited α] (g : Bool) (o : Option α) : Option α := if g = true then o else some default
theorem gd_of {α : Type} [Inhabited α] {g : Bool} {o : Option α} {x : α} (h : g = true) (e : gd g o = some x) : o = some x := by unfold gd at e; rw [if_pos h] at e; exact e
theorem bindS {α β : Type} {o : Option α} {f : α → Option β} {r : β} (h : o.bind f = some r) : ∃ x, o = some x ∧ f x = some r := by
  cases o with
  | none => cases h
  | some x => exact ⟨x, rfl, h⟩
theorem condT {α : Type} {b : Bool} {x y : α} (h : b = true) : cond b x y = x := by rw [h]; rfl
theorem condF {α : Type} {b : Bool} {x y : α} (h : b = false) : cond b x y = y := by rw [h]; rfl
theorem boT {b : Bool} (h : b = true) : Bo b = .bool true := by rw [h]
theorem boF {b : Bool} (h : b = false) : Bo b = .bool false := by rw [h]

theorem getI_some {α : Type} {xs : List α} {i : Int} {x : α} (h : getI xs i = some x) : 0 ≤ i ∧ xs[i.toNat]? = some x := by
  unfold getI at h
  split at h
  · exact ⟨‹_›, h⟩
  · cases h

/-! ## Steps on typed values -/
section
variable {P : Program} {t : TypeId} {xo yo : Operand} {x y : Int}
theorem addI_ok : keep (abin P .add t xo yo (I x) (I y)) = some (I (w64 (x + y))) := bin_add
theorem subI_ok : keep (abin P .sub t xo yo (I x) (I y)) = some (I (w64 (x - y))) := bin_sub
theorem mulI_ok : keep (abin P .mul t xo yo (I x) (I y)) = some (I (w64 (x * y))) := bin_mul
theorem eqlI_ok : keep (abin P .eql t xo yo (I x) (I y)) = some (Bo (x == y)) := bin_eql
theorem neqI_ok : keep (abin P .neq t xo yo (I x) (I y)) = some (Bo (x != y)) := bin_neq
theorem lssI_ok : keep (abin P .lss t xo yo (I x) (I y)) = some (Bo (decide (x < y))) := bin_lss
theorem leqI_ok : keep (abin P .leq t xo yo (I x) (I y)) = some (Bo (decide (x ≤ y))) := bin_leq
theorem gtrI_ok : keep (abin P .gtr t xo yo (I x) (I y)) = some (Bo (decide (x > y))) := bin_gtr
theorem geqI_ok : keep (abin P .geq t xo yo (I x) (I y)) = some (Bo (decide (x ≥ y))) := bin_geq
theorem andI_ok : keep (abin P .and t xo yo (I x) (I y)) = some (I (andI x y)) := bin_and
theorem orI_ok : keep (abin P .or t xo yo (I x) (I y)) = some (I (orI x y)) := bin_or
theorem remI_ok {z : Int} (h : remI x y = some z) : keep (abin P .rem t xo yo (I x) (I y)) = some (I z) := by
  unfold remI at h
  split at h
  · cases h
  · rename_i hy; cases h; exact bin_rem hy
theorem shlI_ok {k : IntKind} {z : Int} (h : shlI x y = some z) : keep (abin P .shl t xo yo (I x) (.int k y)) = some (I z) := by
  unfold shlI at h
  split at h
  · rename_i hy; cases h; exact bin_shl hy
  · cases h
theorem shrI_ok {k : IntKind} {z : Int} (h : shrI x y = some z) : keep (abin P .shr t xo yo (I x) (.int k y)) = some (I z) := by
  unfold shrI at h
  split at h
  · rename_i hy; cases h; exact bin_shr hy
  · cases h
theorem notB_ok {b : Bool} : aun P .not (Bo b) = some (Bo !b) := rfl
theorem pr_und {u : TypeDesc} (h : und P t = some u) : pureRun P (underlying t) = some u := by
  unfold und at h
  simp [underlying, pureRun_bind, program, pureRun, pureRun_pure, h]
  done
theorem eqIn_bool (d : Nat) {a b : Bool} (hu : und P t = some .bool) : pureRun P (Op.equalIn (d + 1) t (.bool a) (.bool b)) = some (a == b) := by
  simp [Op.equalIn, pureRun_bind, pureRun_pure, pr_und hu]
theorem eqIn_int (d : Nat) {k : IntKind} {a b : Int} (hu : und P t = some (.int k)) : pureRun P (Op.equalIn (d + 1) t (.int k a) (.int k b)) = some (a == b) := by
  simp [Op.equalIn, pureRun_bind, pureRun_pure, pr_und hu]
theorem eqIn_str (d : Nat) {a b : ByteArray} (hu : und P t = some .string) : pureRun P (Op.equalIn (d + 1) t (.string a) (.string b)) = some (a == b) := by
  simp [Op.equalIn, pureRun_bind, pureRun_pure, pr_und hu]
theorem neqB_ok {a b : Bool} (hu : und P t = some .bool) : keep (abin P .neq t xo yo (Bo a) (Bo b)) = some (Bo (a != b)) := by
  have h : pureRun P (do eqGuard .neq t xo yo (Bo a) (Bo b); binOp .neq t (Bo a) (Bo b)) = some (Bo (a != b)) := by
    show pureRun P (do let r ← Op.equal t (Value.bool a) (Value.bool b); pure (Value.bool !r) : Sem Value) = _
    rw [pureRun_bind, equal_eq, eqIn_bool 9999 hu]; rfl
  unfold abin
  simp [plain, plain1, h, keep]
variable {s u : Str}
theorem neqS_ok : keep (abin P .neq t xo yo (S s) (S u)) = some (Bo (s != u)) := by
  rw [bin_neqS, sB_toList, sB_toList]; rfl
theorem addS_ok {z : Str} (h : addS s u = some z) : keep (abin P .add t xo yo (S s) (S u)) = some (S z) := by
  unfold addS at h
  split at h
  · rename_i hl
    cases h
    rw [bin_addS (by rw [sB_size, sB_size]; exact hl), sB_append]
  · cases h

/-! ### Small numbers -/
theorem wrap_u8 {n : Int} : IntKind.u8.wrap n = ((UInt8.ofInt n).toNat : Int) := by
  simp only [IntKind.wrap, IntKind.bits, IntKind.signed, Bool.false_and, Bool.false_eq_true, if_false, UInt8.ofInt, UInt8.toNat_ofNat']
  have : (2 : Int) ^ 8 = 256 := by decide
  have h2 : (2 : Nat) ^ 8 = 256 := by decide
  rw [this, h2]
  omega
theorem wrap_u32 {n : Int} : IntKind.u32.wrap n = ((UInt32.ofInt n).toNat : Int) := by
  simp only [IntKind.wrap, IntKind.bits, IntKind.signed, Bool.false_and, Bool.false_eq_true, if_false, UInt32.ofInt, UInt32.toNat_ofNat']
  have : (2 : Int) ^ 32 = 4294967296 := by decide
  have h2 : (2 : Nat) ^ 32 = 4294967296 := by decide
  rw [this, h2]
  omega

/-! ### Numbers of 8, 16 and 32 bits -/
section
variable {a b : UInt8} {c d : UInt32} {e f : UInt16}
theorem eq8 : ((a.toNat : Int) == (b.toNat : Int)) = (a == b) := by
  rw [Bool.eq_iff_iff]; simp only [beq_iff_eq, Int.natCast_inj]
  exact ⟨fun h => UInt8.toNat_inj.1 h, fun h => by rw [h]⟩
theorem eql8_ok : keep (abin P .eql t xo yo (U8 a) (U8 b)) = some (Bo (a == b)) := by rw [bin_eql, eq8]
theorem add32_ok : keep (abin P .add t xo yo (U32 c) (U32 d)) = some (U32 (c + d)) := by
  rw [bin_add, wrap_u32]; congr 2
  rw [UInt32.toNat_add, UInt32.ofInt, UInt32.toNat_ofNat']; omega
theorem mul32_ok : keep (abin P .mul t xo yo (U32 c) (U32 d)) = some (U32 (c * d)) := by
  rw [bin_mul, wrap_u32]; congr 2
  rw [UInt32.toNat_mul, UInt32.ofInt, UInt32.toNat_ofNat', ← Int.natCast_mul]; omega
theorem wrap8_nat {n : Nat} (h : n < 256) : IntKind.u8.wrap (n : Int) = n := by
  rw [wrap_u8, UInt8.ofInt, UInt8.toNat_ofNat']; omega
theorem wrap32_nat {n : Nat} (h : n < 4294967296) : IntKind.u32.wrap (n : Int) = n := by
  rw [wrap_u32, UInt32.ofInt, UInt32.toNat_ofNat']; omega
theorem xor8_ok : keep (abin P .xor t xo yo (U8 a) (U8 b)) = some (U8 (a ^^^ b)) := by
  rw [bin_xor]
  show some (Value.int .u8 (IntKind.u8.wrap ((BitVec.ofInt 8 (a.toNat : Int) ^^^ BitVec.ofInt 8 (b.toNat : Int)).toNat : Int))) = some (Value.int .u8 ((a ^^^ b).toNat : Int))
  rw [wrap8_nat (BitVec.isLt _), BitVec.ofInt_natCast, BitVec.ofInt_natCast, BitVec.toNat_xor, UInt8.toNat_xor]
  have := a.toNat_lt; have := b.toNat_lt
  simp [BitVec.toNat_ofNat, Nat.mod_eq_of_lt this, Nat.mod_eq_of_lt (show a.toNat < 2 ^ 8 by omega)]
theorem or32_ok : keep (abin P .or t xo yo (U32 c) (U32 d)) = some (U32 (c ||| d)) := by
  rw [bin_or]
  show some (Value.int .u32 (IntKind.u32.wrap ((BitVec.ofInt 32 (c.toNat : Int) ||| BitVec.ofInt 32 (d.toNat : Int)).toNat : Int))) = some (Value.int .u32 ((c ||| d).toNat : Int))
  rw [wrap32_nat (BitVec.isLt _), BitVec.ofInt_natCast, BitVec.ofInt_natCast, BitVec.toNat_or, UInt32.toNat_or]
  have := c.toNat_lt; have := d.toNat_lt
  simp [BitVec.toNat_ofNat, Nat.mod_eq_of_lt this, Nat.mod_eq_of_lt (show c.toNat < 2 ^ 32 by omega)]
def rem8 (a b : UInt8) : Option UInt8 := if b = 0 then none else some (a % b)
def quo8 (a b : UInt8) : Option UInt8 := if b = 0 then none else some (a / b)
def rem16 (a b : UInt16) : Option UInt16 := if b = 0 then none else some (a % b)
theorem rem8_ok {z : UInt8} (h : rem8 a b = some z) : keep (abin P .rem t xo yo (U8 a) (U8 b)) = some (U8 z) := by
  unfold rem8 at h
  split at h
  · cases h
  · rename_i hb
    cases h
    have : (b.toNat : Int) ≠ 0 := fun e => hb (UInt8.toNat_inj.1 (by simpa using e))
    rw [bin_rem this]
    show _ = some (Value.int .u8 ((a % b).toNat : Int))
    rw [UInt8.toNat_mod]; rfl
theorem quo8_ok {z : UInt8} (h : quo8 a b = some z) : keep (abin P .quo t xo yo (U8 a) (U8 b)) = some (U8 z) := by
  unfold quo8 at h
  split at h
  · cases h
  · rename_i hb
    cases h
    have : (b.toNat : Int) ≠ 0 := fun e => hb (UInt8.toNat_inj.1 (by simpa using e))
    have h2 : ((a.toNat : Int).tdiv b.toNat) = ((a.toNat / b.toNat : Nat) : Int) := rfl
    have h3 : a.toNat / b.toNat < 256 := Nat.lt_of_le_of_lt (Nat.div_le_self _ _) a.toNat_lt
    rw [bin_quo this]
    show _ = some (Value.int .u8 ((a / b).toNat : Int))
    rw [UInt8.toNat_div, h2, wrap8_nat h3]
def shl32 (c : UInt32) (y : Int) : Option UInt32 := if 0 ≤ y then some (UInt32.ofNat (c.toNat * 2 ^ (min y.toNat 32))) else none
theorem shl32_ok {k : IntKind} {z : UInt32} (h : shl32 c y = some z) : keep (abin P .shl t xo yo (U32 c) (.int k y)) = some (U32 z) := by
  unfold shl32 at h
  split at h
  · rename_i hy
    cases h
    rw [bin_shl hy]
    show some (Value.int .u32 (IntKind.u32.wrap ((c.toNat : Int) * 2 ^ (min y.toNat 32)))) = _
    rw [wrap_u32]; congr 3
    have : ((c.toNat : Int) * 2 ^ (min y.toNat 32)) = ((c.toNat * 2 ^ (min y.toNat 32) : Nat) : Int) := by rw [Int.natCast_mul, Int.natCast_pow]; rfl
    rw [this, UInt32.ofInt, UInt32.toNat_ofNat', UInt32.toNat_ofNat']; omega
  · cases h
def shr8 (a : UInt8) (y : Int) : Option UInt8 := if 0 ≤ y then some (UInt8.ofNat (a.toNat / 2 ^ (min y.toNat 8))) else none
end
end

section
variable {P : Program} {n0 b0 : Nat} {Tm : List (Nat × Value)} {Lo : List (List Value)} {He : AH} {v : Value} {x y : Operand} {d : Option Tmp} {ty : TypeId} {pos : String} {af : Array Edge} {g : Option (Nat × Bool)}
  {α : Type} {c : α → List Value} {s : Nat} {xs ys zs : List α} {e : α}
/-! ### Conversions of numbers -/
theorem tx_64_8 {src dst : TypeId} {ds : TypeDesc} {n : Int} (hs : und P src = some ds) (hd : und P dst = some (.int .u8)) (hx : ev Tm x = I n) : AExec P ⟨d, .convert src dst x, ty, pos, af, g⟩ ⟨n0, b0, Tm, Lo, He⟩ (U8 (UInt8.ofInt n)) Lo He := by
  have := ex_convInt (n0 := n0) (b0 := b0) (Lo := Lo) (He := He) (d := d) (ty := ty) (pos := pos) (af := af) (g := g) hs hd hx
  rwa [wrap_u8] at this
theorem tx_64_32 {src dst : TypeId} {ds : TypeDesc} {n : Int} (hs : und P src = some ds) (hd : und P dst = some (.int .u32)) (hx : ev Tm x = I n) : AExec P ⟨d, .convert src dst x, ty, pos, af, g⟩ ⟨n0, b0, Tm, Lo, He⟩ (U32 (UInt32.ofInt n)) Lo He := by
  have := ex_convInt (n0 := n0) (b0 := b0) (Lo := Lo) (He := He) (d := d) (ty := ty) (pos := pos) (af := af) (g := g) hs hd hx
  rwa [wrap_u32] at this
theorem tx_8_64 {src dst : TypeId} {ds : TypeDesc} {n : UInt8} (hs : und P src = some ds) (hd : und P dst = some (.int .i64)) (hx : ev Tm x = U8 n) : AExec P ⟨d, .convert src dst x, ty, pos, af, g⟩ ⟨n0, b0, Tm, Lo, He⟩ (I n.toNat) Lo He := by
  have := ex_convInt (n0 := n0) (b0 := b0) (Lo := Lo) (He := He) (d := d) (ty := ty) (pos := pos) (af := af) (g := g) hs hd hx
  rwa [wrap_i64 (by omega) (by have := n.toNat_lt; omega)] at this
theorem tx_32_64 {src dst : TypeId} {ds : TypeDesc} {n : UInt32} (hs : und P src = some ds) (hd : und P dst = some (.int .i64)) (hx : ev Tm x = U32 n) : AExec P ⟨d, .convert src dst x, ty, pos, af, g⟩ ⟨n0, b0, Tm, Lo, He⟩ (I n.toNat) Lo He := by
  have := ex_convInt (n0 := n0) (b0 := b0) (Lo := Lo) (He := He) (d := d) (ty := ty) (pos := pos) (af := af) (g := g) hs hd hx
  rwa [wrap_i64 (by omega) (by have := n.toNat_lt; omega)] at this
theorem tx_8_32 {src dst : TypeId} {ds : TypeDesc} {n : UInt8} (hs : und P src = some ds) (hd : und P dst = some (.int .u32)) (hx : ev Tm x = U8 n) : AExec P ⟨d, .convert src dst x, ty, pos, af, g⟩ ⟨n0, b0, Tm, Lo, He⟩ (U32 n.toUInt32) Lo He := by
  have := ex_convInt (n0 := n0) (b0 := b0) (Lo := Lo) (He := He) (d := d) (ty := ty) (pos := pos) (af := af) (g := g) hs hd hx
  rwa [wrap32_nat (by have := n.toNat_lt; omega)] at this
/-! ### Bytes and texts -/
theorem strOf_sB (bs : Str) : strOf (bs.map fun b => (b.toNat : Int)) = sB bs := by
  unfold strOf sB
  congr 2
  rw [List.map_map]
  conv => rhs; rw [← List.map_id bs]
  refine List.map_congr_left fun b _ => ?_
  simp
theorem flat8 (bs : Str) : bs.flatMap c8 = (bs.map fun b => (b.toNat : Int)).map (Value.int .u8) := by
  induction bs with
  | nil => rfl
  | cons b bs ih => rw [List.flatMap_cons, ih]; rfl
theorem bcells_sB (bs : Str) : bcells (sB bs) = bs.flatMap c8 := by
  rw [flat8]; unfold bcells; rw [sB_data, List.map_map]; rfl
theorem tx_bsD {src dst e : TypeId} {bs : Str} (hs : und P src = some (.slice e)) (hd : und P dst = some .string) (he : und P e = some (.int .u8)) (hx : ev Tm x = SL 1 c8 bs) : AExec P ⟨d, .convert src dst x, ty, pos, af, g⟩ ⟨n0, b0, Tm, Lo, He⟩ (S bs) Lo He := by
  have := ex_bytesStrD (n0 := n0) (b0 := b0) (Lo := Lo) (He := He) (d := d) (ty := ty) (pos := pos) (af := af) (g := g) (ns := bs.map fun b => (b.toNat : Int)) hs hd he hx (by rw [← flat8])
  rwa [strOf_sB] at this
theorem tx_bsG {src dst e : TypeId} {m n : Nat} {bs : Str} (hs : und P src = some (.slice e)) (hd : und P dst = some .string) (he : und P e = some (.int .u8)) (hx : ev Tm x = GV m n) (hb : He.get m = some ⟨1, bs.flatMap c8, true⟩) (hn : n = bs.length) : AExec P ⟨d, .convert src dst x, ty, pos, af, g⟩ ⟨n0, b0, Tm, Lo, He⟩ (S bs) Lo He := by
  subst hn
  have hl := ce8.flat bs
  have := ex_bytesStrG (n0 := n0) (b0 := b0) (Lo := Lo) (He := He) (d := d) (ty := ty) (pos := pos) (af := af) (g := g) (ns := bs.map fun b => (b.toNat : Int)) hs hd he hx hb rfl rfl (by simp only; omega) (by simp only [flat8])
  rwa [strOf_sB] at this
theorem tx_sbD {src dst e : TypeId} {ds : TypeDesc} {bs : Str} (hs : und P src = some ds) (hd : und P dst = some (.slice e)) (he : und P e = some (.int .u8)) (hx : ev Tm x = S bs) : AExec P ⟨d, .convert src dst x, ty, pos, af, g⟩ ⟨n0, b0, Tm, Lo, He⟩ (SL 1 c8 bs) Lo He := by
  have := ex_strBytesD (n0 := n0) (b0 := b0) (Lo := Lo) (He := He) (d := d) (ty := ty) (pos := pos) (af := af) (g := g) hs hd he hx
  rwa [bcells_sB] at this
theorem tx_sbG {src dst e : TypeId} {ds : TypeDesc} {bs : Str} {k : Nat} {H' : AH} (hs : und P src = some ds) (hd : und P dst = some (.slice e)) (he : und P e = some (.int .u8)) (hx : ev Tm x = S bs) (hk : He.next = k) (hH : He.alloc ⟨1, bs.flatMap c8, true⟩ = H') :
    AExec P ⟨d, .convert src dst x, ty, pos, af, g⟩ ⟨n0, b0, Tm, Lo, He⟩ (GV k bs.length) Lo H' := by
  subst hk; subst hH
  have := ex_strBytes (n0 := n0) (b0 := b0) (Lo := Lo) (He := He) (d := d) (ty := ty) (pos := pos) (af := af) (g := g) hs hd he hx
  rwa [bcells_sB, sB_size] at this

/-! ### Rows -/
theorem tx_lenS {t : TypeId} {u : Str} (hu : und P t = some .string) (hx : ev Tm x = S u) : AExec P ⟨d, .call ⟨.builtin .len, #[x], #[t]⟩, ty, pos, af, g⟩ ⟨n0, b0, Tm, Lo, He⟩ (I u.length) Lo He := ex_lenS hu hx (sB_size u)
theorem tx_lenD {t e : TypeId} (hc : CE c (s + 1)) (hu : und P t = some (.slice e)) (hx : ev Tm x = SL (s + 1) c xs) : AExec P ⟨d, .call ⟨.builtin .len, #[x], #[t]⟩, ty, pos, af, g⟩ ⟨n0, b0, Tm, Lo, He⟩ (I xs.length) Lo He :=
  ex_lenD hu hx (by rw [List.size_toArray, hc.flat])
theorem tx_idxS {t : TypeId} {u : Str} {k : IntKind} {i : Int} {b : UInt8} (hu : und P t = some .string) (hx : ev Tm x = S u) (hy : ev Tm y = .int k i) (h : getI u i = some b) : AExec P ⟨d, .index t x y, ty, pos, af, g⟩ ⟨n0, b0, Tm, Lo, He⟩ (U8 b) Lo He := by
  obtain ⟨h0, h1⟩ := getI_some h
  exact ex_indexS hu hx hy h0 (by rw [sB_get]; exact h1)
theorem tx_idxD {t el : TypeId} {k : IntKind} {i : Int} (hc : CE c (s + 1)) (hu : und P t = some (.slice el)) (hs : sz P el = some (s + 1)) (hx : ev Tm x = SL (s + 1) c xs) (hy : ev Tm y = .int k i) (h : getI xs i = some e) : AExec P ⟨d, .indexAddr t x y, ty, pos, af, g⟩ ⟨n0, b0, Tm, Lo, He⟩ (DP (c e)) Lo He := by
  obtain ⟨h0, h1⟩ := getI_some h
  have hlt := lookup_lt h1
  have hm : (i.toNat + 1) * (s + 1) ≤ xs.length * (s + 1) := Nat.mul_le_mul_right _ hlt
  rw [Nat.add_mul, Nat.one_mul] at hm
  exact ex_indexAddrD hu hs hx hy h0 (by rw [List.size_toArray, hc.flat]; exact hm) (hc.one h1)
theorem tx_idxF {t el : TypeId} {m n : Nat} {k : IntKind} {i : Int} (hc : CE c s) (hu : und P t = some (.slice el)) (hs : sz P el = some s) (hx : ev Tm x = FV m n) (hy : ev Tm y = .int k i) (hn : n = xs.length) (h : getI xs i = some e) : AExec P ⟨d, .indexAddr t x y, ty, pos, af, g⟩ ⟨n0, b0, Tm, Lo, He⟩ (NP m (i.toNat * s)) Lo He := by
  obtain ⟨h0, h1⟩ := getI_some h
  have hlt := lookup_lt h1
  exact ex_indexAddrF hu hs hx hy h0 (by omega) (by omega)
theorem tx_idxG {t el : TypeId} {m n : Nat} {k : IntKind} {i : Int} (hc : CE c s) (hu : und P t = some (.slice el)) (hs : sz P el = some s) (hx : ev Tm x = GV m n) (hy : ev Tm y = .int k i) (hb : He.get m = some ⟨s, xs.flatMap c, true⟩) (hn : n = xs.length) (h : getI xs i = some e) :
    AExec P ⟨d, .indexAddr t x y, ty, pos, af, g⟩ ⟨n0, b0, Tm, Lo, He⟩ (GP m (i.toNat * s) (xs.flatMap c).length) Lo He := by
  obtain ⟨h0, h1⟩ := getI_some h
  have hlt := lookup_lt h1
  exact ex_indexAddrG hu hs hx hy h0 (by omega) hb rfl rfl (by rw [hn]; simp only [hc.flat]) rfl rfl
/-- Loads: of a whole element, or of a part of it. -/
theorem tx_ldD1 {T : TypeId} {ds : TypeDesc} {cs : List Value} (hd : und P T = some ds) (hg : agg? ds = false) (hx : ev Tm x = DP cs) (h : cs[0]? = some v) : AExec P ⟨d, .load T x, ty, pos, af, g⟩ ⟨n0, b0, Tm, Lo, He⟩ v Lo He := ex_loadD hx (part1 hd hg h)
theorem tx_ldDA {T : TypeId} {ds : TypeDesc} {cs vs : List Value} {k : Nat} (hd : und P T = some ds) (hg : agg? ds = true) (hs : sz P T = some k) (hk : 0 < k) (hx : ev Tm x = DP cs) (hl : k ≤ cs.length) (h : cs.take k = vs) : AExec P ⟨d, .load T x, ty, pos, af, g⟩ ⟨n0, b0, Tm, Lo, He⟩ (.agg vs.toArray) Lo He :=
  ex_loadD hx (partA hd hg hs hk (by simpa using hl) (by simpa using h))
theorem tx_ldL1 {T : TypeId} {ds : TypeDesc} {k off : Nat} {cs : List Value} (hd : und P T = some ds) (hg : agg? ds = false) (hx : ev Tm x = LP k off) (hc : Lo[k]? = some cs) (h : cs[off]? = some v) : AExec P ⟨d, .load T x, ty, pos, af, g⟩ ⟨n0, b0, Tm, Lo, He⟩ v Lo He := ex_loadL hx hc (part1 hd hg h)
theorem tx_ldLA {T : TypeId} {ds : TypeDesc} {k off m : Nat} {cs vs : List Value} (hd : und P T = some ds) (hg : agg? ds = true) (hs : sz P T = some m) (hm : 0 < m) (hx : ev Tm x = LP k off) (hc : Lo[k]? = some cs) (hl : Nat.ble (off + m) cs.length = true) (h : (cs.drop off).take m = vs) : AExec P ⟨d, .load T x, ty, pos, af, g⟩ ⟨n0, b0, Tm, Lo, He⟩ (.agg vs.toArray) Lo He :=
  ex_loadL hx hc (partA hd hg hs hm (by rw [Nat.ble_eq] at hl; exact hl) h)
/-- Out of a named block: element i, its part at off. -/
theorem part_elem {T : TypeId} {ds : TypeDesc} {i : Int} {off : Nat} (hc : CE c s) (h : getI xs i = some e) (hd : und P T = some ds) (hg : agg? ds = false) (hoff : off < s) (hv : (c e)[off]? = some v) : Part P T (xs.flatMap c) (i.toNat * s + off) v := by
  obtain ⟨h0, h1⟩ := getI_some h
  refine part1 hd hg ?_
  have := hc.one h1
  rw [← this, List.getElem?_take_of_lt hoff, List.getElem?_drop] at hv
  exact hv
theorem part_elemA {T : TypeId} {ds : TypeDesc} {i : Int} {off m : Nat} {vs : List Value} (hc : CE c s) (h : getI xs i = some e) (hd : und P T = some ds) (hg : agg? ds = true) (hs : sz P T = some m) (hm : 0 < m) (hoff : off + m ≤ s) (hv : ((c e).drop off).take m = vs) : Part P T (xs.flatMap c) (i.toNat * s + off) (.agg vs.toArray) := by
  obtain ⟨h0, h1⟩ := getI_some h
  have hlt := lookup_lt h1
  have hm2 : (i.toNat + 1) * s ≤ xs.length * s := Nat.mul_le_mul_right _ hlt
  rw [Nat.add_mul, Nat.one_mul] at hm2
  refine partA hd hg hs hm (by rw [hc.flat]; omega) ?_
  rw [← hv, ← hc.one h1, List.drop_take, List.take_take, List.drop_drop]
  congr 1; omega
theorem tx_ldF {T : TypeId} {m off : Nat} {cs : List Value} (hx : ev Tm x = NP m off) (hb : He.get m = some ⟨s, cs, false⟩) (hp : Part P T cs off v) : AExec P ⟨d, .load T x, ty, pos, af, g⟩ ⟨n0, b0, Tm, Lo, He⟩ v Lo He := ex_loadF hx hb rfl hp
theorem tx_ldG {T : TypeId} {m off : Nat} {cs : List Value} (hx : ev Tm x = GP m off cs.length) (hb : He.get m = some ⟨s, cs, true⟩) (hp : Part P T cs off v) : AExec P ⟨d, .load T x, ty, pos, af, g⟩ ⟨n0, b0, Tm, Lo, He⟩ v Lo He := ex_loadG hx hb rfl rfl hp
/-- Stores of a whole element. -/
theorem setI_some {i : Int} (h : setI xs i e = some ys) : 0 ≤ i ∧ i.toNat < xs.length ∧ ys = xs.set i.toNat e := by
  unfold setI at h
  split at h
  · rename_i hc; cases h; exact ⟨hc.1, by omega, rfl⟩
  · cases h
theorem setI_len {i : Int} (h : setI xs i e = some ys) : xs.length = ys.length := by
  obtain ⟨_, _, rfl⟩ := setI_some h
  simp
theorem CE.stlen (hc : CE c s) {i : Nat} (h : i < xs.length) : i * s + (c e).length ≤ (xs.flatMap c).length := by
  rw [hc.flat, hc.len]
  have : (i + 1) * s ≤ xs.length * s := Nat.mul_le_mul_right _ h
  rw [Nat.add_mul, Nat.one_mul] at this; exact this
theorem tx_stF {T : TypeId} {m : Nat} {i : Int} {vy : Value} {H' : AH} (hc : CE c (s + 1)) (hs : sz P T = some (s + 1)) (hx : ev Tm x = NP m (i.toNat * (s + 1))) (hy : EV Tm y vy) (hvy : cellsOf vy = some (c e)) (hb : He.get m = some ⟨s + 1, xs.flatMap c, false⟩) (h : setI xs i e = some ys) (hH : He.set m ⟨s + 1, ys.flatMap c, false⟩ = H') :
    AExec P ⟨d, .store T x y, ty, pos, af, g⟩ ⟨n0, b0, Tm, Lo, He⟩ undef Lo H' := by
  obtain ⟨h0, h1, rfl⟩ := setI_some h
  refine ex_storeF hx hy hvy (by rw [hc.len]; exact hs) hb rfl (hc.stlen h1) (hc.pure e) (fun q => by have := hc.len e; rw [q] at this; cases this) ?_
  rw [← hH]; simp only [hc.set h1]
theorem tx_stG {T : TypeId} {m : Nat} {i : Int} {vy : Value} {H' : AH} (hc : CE c (s + 1)) (hs : sz P T = some (s + 1)) (hx : ev Tm x = GP m (i.toNat * (s + 1)) (xs.flatMap c).length) (hy : EV Tm y vy) (hvy : cellsOf vy = some (c e)) (hb : He.get m = some ⟨s + 1, xs.flatMap c, true⟩) (h : setI xs i e = some ys) (hH : He.set m ⟨s + 1, ys.flatMap c, true⟩ = H') :
    AExec P ⟨d, .store T x y, ty, pos, af, g⟩ ⟨n0, b0, Tm, Lo, He⟩ undef Lo H' := by
  obtain ⟨h0, h1, rfl⟩ := setI_some h
  refine ex_storeG hx hy hvy (by rw [hc.len]; exact hs) hb rfl rfl (hc.stlen h1) (hc.pure e) (fun q => by have := hc.len e; rw [q] at this; cases this) ?_
  rw [← hH]; simp only [hc.set h1]

/-! ### Slices of rows -/
theorem slL_some {l h : Int} (k : slL xs l h = some ys) : 0 ≤ l ∧ l.toNat ≤ h.toNat ∧ 0 ≤ h ∧ h.toNat ≤ xs.length ∧ ys = (xs.take h.toNat).drop l.toNat := by
  unfold slL at k
  split at k
  · rename_i hc; cases k; exact ⟨hc.1, by omega, by omega, by omega, rfl⟩
  · cases k
/-- Where a slice begins, and ends: as it is said, or not. -/
def Lo? (T : List (Nat × Value)) (o : Option Operand) (l : Int) : Prop := (o = none ∧ l = 0) ∨ ∃ x k, o = some x ∧ ev T x = .int k l
def Hi? (T : List (Nat × Value)) (o : Option Operand) (n : Nat) (h : Int) : Prop := (o = none ∧ h = n) ∨ ∃ x k, o = some x ∧ ev T x = .int k h
theorem lo0 : Lo? Tm none 0 := .inl ⟨rfl, rfl⟩
theorem loX {k : IntKind} {l : Int} (h : ev Tm x = .int k l) : Lo? Tm (some x) l := .inr ⟨x, k, rfl, h⟩
theorem hiN {n : Nat} : Hi? Tm none n n := .inl ⟨rfl, rfl⟩
theorem hiX {k : IntKind} {n : Nat} {l : Int} (h : ev Tm x = .int k l) : Hi? Tm (some x) n l := .inr ⟨x, k, rfl, h⟩
theorem Lo?.bnd {o : Option Operand} {l : Int} (h : Lo? Tm o l) (h0 : 0 ≤ l) : Bnd (o.map (ev Tm)) 0 l.toNat := by
  rcases h with ⟨rfl, rfl⟩ | ⟨x, k, rfl, h⟩
  · exact .inl ⟨rfl, rfl⟩
  · exact .inr ⟨k, l, by simp [h], h0, rfl⟩
theorem Hi?.bnd {o : Option Operand} {n : Nat} {l : Int} (h : Hi? Tm o n l) (h0 : 0 ≤ l) : Bnd (o.map (ev Tm)) n l.toNat := by
  rcases h with ⟨rfl, rfl⟩ | ⟨x, k, rfl, h⟩
  · exact .inl ⟨rfl, by simp⟩
  · exact .inr ⟨k, l, by simp [h], h0, rfl⟩
theorem tx_slS {t : TypeId} {u z : Str} {lo hi : Option Operand} {l h : Int} (hu : und P t = some .string) (hx : ev Tm x = S u) (hl : Lo? Tm lo l) (hh : Hi? Tm hi u.length h) (k : slL u l h = some z) : AExec P ⟨d, .slice t x lo hi none, ty, pos, af, g⟩ ⟨n0, b0, Tm, Lo, He⟩ (S z) Lo He := by
  obtain ⟨h0, h1, h2, h3, rfl⟩ := slL_some k
  exact ex_sliceS hu hx (hl.bnd h0) (by rw [sB_size]; exact hh.bnd h2) h1 (by rw [sB_size]; exact h3) (by rw [sB_extract])
theorem tx_slD {t el : TypeId} {lo hi : Option Operand} {l h : Int} (hc : CE c (s + 1)) (hu : und P t = some (.slice el)) (hs : sz P el = some (s + 1)) (hx : ev Tm x = SL (s + 1) c xs) (hl : Lo? Tm lo l) (hh : Hi? Tm hi xs.length h) (k : slL xs l h = some ys) : AExec P ⟨d, .slice t x lo hi none, ty, pos, af, g⟩ ⟨n0, b0, Tm, Lo, He⟩ (SL (s + 1) c ys) Lo He := by
  obtain ⟨h0, h1, h2, h3, rfl⟩ := slL_some k
  refine ex_sliceD (n := xs.length) hu hs hx (by rw [List.size_toArray, hc.flat]) (hl.bnd h0) (hh.bnd h2) h1 h3 ?_
  rw [List.toList_toArray, hc.drop, hc.take, List.drop_take]

/-! ### Append -/
theorem appL_some {b : Nat} (k : appL b xs ys = some zs) : room (xs.length + ys.length) b ∧ zs = xs ++ ys := by
  unfold appL at k
  split at k
  · rename_i hc; cases k; exact ⟨hc, rfl⟩
  · cases k
theorem tsrcD {sT xT el e2 : TypeId} (hc : CE c (s + 1)) (hsT : und P sT = some (.slice el)) (hs : sz P el = some (s + 1)) (hu : und P xT = some (.slice e2)) (hy : ev Tm y = SL (s + 1) c ys) : Src P ⟨n0, b0, Tm, Lo, He⟩ sT xT el (s + 1) y (ys.flatMap c) ys.length :=
  srcD hsT hs hu hy (by simp) (by rw [hc.flat])
theorem tx_appG {sT xT el : TypeId} {b m n : Nat} {H' : AH} (hc : CE c s) (he : ElemOk P el s b) (hx : ev Tm x = GV m n) (hb : He.get m = some ⟨s, xs.flatMap c, true⟩) (hn : n = xs.length) (hsrc : Src P ⟨n0, b0, Tm, Lo, He⟩ sT xT el s y (ys.flatMap c) ys.length) (h : appL b xs ys = some zs) (hH : He.set m ⟨s, zs.flatMap c, true⟩ = H') :
    AExec P ⟨d, .call ⟨.builtin .append, #[x, y], #[sT, xT]⟩, ty, pos, af, g⟩ ⟨n0, b0, Tm, Lo, He⟩ (GV m zs.length) Lo H' := by
  subst hn
  obtain ⟨h1, rfl⟩ := appL_some h
  exact ex_appG he hx hb rfl rfl (by simp only [hc.flat]) hsrc h1 (by simp) (by simpa [List.flatMap_append] using hH)
/-! ### New rows -/
theorem makeL_some {b : Nat} {n : Int} (h : makeL b n e = some ys) : (0 ≤ n ∧ n ≤ n ∧ n ≤ 9223372036854775807 ∧ (b : Int) * n ≤ 281474976710656) ∧ ys = List.replicate n.toNat e := by
  unfold makeL at h
  split at h
  · rename_i hc; cases h; exact ⟨⟨hc.1, Int.le_refl _, hc.2⟩, rfl⟩
  · cases h
theorem zcells_rep (hc : CE c s) (hs : 0 < s) (n : Nat) : zcells (c e) (n * s) = (List.replicate n e).flatMap c := by
  refine List.ext_getElem? fun k => ?_
  have hl1 : (zcells (c e) (n * s)).length = n * s := by simp [zcells]
  have hl2 : ((List.replicate n e).flatMap c).length = n * s := by rw [hc.flat]; simp
  by_cases hk : k < n * s
  · have hq : k / s < n := Nat.div_lt_of_lt_mul (by rw [Nat.mul_comm]; exact hk)
    have hr : k % s < s := Nat.mod_lt _ hs
    have h1 : (zcells (c e) (n * s))[k]? = (c e)[k % s]? := by
      simp only [zcells, List.getElem?_map, List.getElem?_range hk, Option.map_some, hc.len]
      rw [List.getD_eq_getElem?_getD, List.getElem?_eq_getElem (by rw [hc.len]; exact hr)]; rfl
    have h2 := hc.one (xs := List.replicate n e) (k := k / s) (x := e) (by rw [List.getElem?_replicate, if_pos hq])
    rw [h1, ← h2, List.getElem?_take_of_lt hr, List.getElem?_drop]
    congr 1
    have := Nat.div_add_mod k s
    rw [Nat.mul_comm] at this; omega
  · rw [List.getElem?_eq_none (by omega), List.getElem?_eq_none (by omega)]
theorem tx_make {t el : TypeId} {b k : Nat} {z : Value} {kl kc : IntKind} {n : Int} {H' : AH} (hc : CE c s) (hu : und P t = some (.slice el)) (hs : sz P el = some s) (hb : bt P el = some b) (hz : zr P el = some z) (hzc : z.cells.toList = c e) (hzp : (c e).all plain1 = true) (hpos : 0 < s)
    (hx : ev Tm x = .int kl n) (hy : ev Tm y = .int kc n) (h : makeL b n e = some ys) (hk : He.next = k) (hH : He.alloc ⟨s, ys.flatMap c, false⟩ = H') : AExec P ⟨d, .makeSlice t x y, ty, pos, af, g⟩ ⟨n0, b0, Tm, Lo, He⟩ (FV k ys.length) Lo H' := by
  obtain ⟨h1, rfl⟩ := makeL_some h
  have := ex_make (n0 := n0) (b0 := b0) (Lo := Lo) (He := He) (d := d) (ty := ty) (pos := pos) (af := af) (g := g) (zs := (List.replicate n.toNat e).flatMap c) hu hs hb hz (by rw [hzc]; exact hzp) (by rw [← Array.length_toList, hzc, hc.len]) hpos hx hy h1 hk (by rw [hzc]; exact zcells_rep hc hpos _) hH
  simpa using this

/-! ### Freezing -/
theorem fzG {m k t : Nat} {T' : List (Nat × Value)} (hc : CE c (s + 1)) (hx : lk Tm t = some (GV m k)) (hn : k = xs.length) (q : FzT m ⟨s + 1, xs.flatMap c, true⟩ Tm T') : FzT m ⟨s + 1, xs.flatMap c, true⟩ Tm ((t, SL (s + 1) c xs) :: T') := by
  subst hn
  have hl := hc.flat xs
  exact FzT.conv hx rfl (by simp only; omega) (by simp only [List.drop_zero]; rw [List.take_of_length_le (by omega)]) (.inr ⟨rfl, rfl, rfl, by simp only; omega⟩) q
theorem fzF {m k t : Nat} {T' : List (Nat × Value)} (hc : CE c (s + 1)) (hx : lk Tm t = some (FV m k)) (hn : k = xs.length) (q : FzT m ⟨s + 1, xs.flatMap c, false⟩ Tm T') : FzT m ⟨s + 1, xs.flatMap c, false⟩ Tm ((t, SL (s + 1) c xs) :: T') := by
  subst hn
  have hl := hc.flat xs
  exact FzT.conv hx rfl (by simp only; omega) (by simp only [List.drop_zero]; rw [List.take_of_length_le (by omega)]) (.inl ⟨rfl, rfl⟩) q
end
end Go.Fhl

/-
  A logic over the model, part thirteen: short arrays; values made with parts left out; a function that makes one block and hands it out.
-/
namespace Go.Fhl
set_option linter.unusedVariables false
set_option linter.unusedSimpArgs false

def c16 (n : UInt16) : List Value := [U16 n]
def c32 (n : UInt32) : List Value := [U32 n]
/-! ## Arrays of four, and of seven -/
structure A4 (α : Type) where
  x0 : α
  x1 : α
  x2 : α
  x3 : α
  deriving DecidableEq, Inhabited
structure A7 (α : Type) where
  x0 : α
  x1 : α
  x2 : α
  x3 : α
  x4 : α
  x5 : α
  x6 : α
  deriving DecidableEq, Inhabited
def cA4 {α : Type} (c : α → List Value) (a : A4 α) : List Value := c a.x0 ++ (c a.x1 ++ (c a.x2 ++ c a.x3))
def cA7 {α : Type} (c : α → List Value) (a : A7 α) : List Value := c a.x0 ++ (c a.x1 ++ (c a.x2 ++ (c a.x3 ++ (c a.x4 ++ (c a.x5 ++ c a.x6)))))
theorem ceA4 {α : Type} {c : α → List Value} (h : CE c 1) : CE (cA4 c) 4 := ⟨fun x => by simp [cA4, h.len], fun x => by simp only [cA4, List.all_append, h.pure]; rfl⟩
def A4.get {α : Type} (a : A4 α) (i : Int) : Option α := if i = 0 then some a.x0 else if i = 1 then some a.x1 else if i = 2 then some a.x2 else if i = 3 then some a.x3 else none
def A4.set {α : Type} (a : A4 α) (i : Int) (y : α) : Option (A4 α) := if i = 0 then some { a with x0 := y } else if i = 1 then some { a with x1 := y } else if i = 2 then some { a with x2 := y } else if i = 3 then some { a with x3 := y } else none
theorem A4.get_some {α : Type} {a : A4 α} {i : Int} {z : α} (h : a.get i = some z) : (i = 0 ∧ z = a.x0) ∨ (i = 1 ∧ z = a.x1) ∨ (i = 2 ∧ z = a.x2) ∨ (i = 3 ∧ z = a.x3) := by
  unfold A4.get at h
  split at h
  · cases h; exact .inl ⟨‹_›, rfl⟩
  · split at h
    · cases h; exact .inr (.inl ⟨‹_›, rfl⟩)
    · split at h
      · cases h; exact .inr (.inr (.inl ⟨‹_›, rfl⟩))
      · split at h
        · cases h; exact .inr (.inr (.inr ⟨‹_›, rfl⟩))
        · cases h
theorem A4.set_some {α : Type} {a : A4 α} {i : Int} {y : α} {z : A4 α} (h : a.set i y = some z) : (i = 0 ∧ z = { a with x0 := y }) ∨ (i = 1 ∧ z = { a with x1 := y }) ∨ (i = 2 ∧ z = { a with x2 := y }) ∨ (i = 3 ∧ z = { a with x3 := y }) := by
  unfold A4.set at h
  split at h
  · cases h; exact .inl ⟨‹_›, rfl⟩
  · split at h
    · cases h; exact .inr (.inl ⟨‹_›, rfl⟩)
    · split at h
      · cases h; exact .inr (.inr (.inl ⟨‹_›, rfl⟩))
      · split at h
        · cases h; exact .inr (.inr (.inr ⟨‹_›, rfl⟩))
        · cases h
def A7.get {α : Type} (a : A7 α) (i : Int) : Option α := if i = 0 then some a.x0 else if i = 1 then some a.x1 else if i = 2 then some a.x2 else if i = 3 then some a.x3 else if i = 4 then some a.x4 else if i = 5 then some a.x5 else if i = 6 then some a.x6 else none
theorem A7.get_some {α : Type} {a : A7 α} {i : Int} {z : α} (h : a.get i = some z) : (i = 0 ∧ z = a.x0) ∨ (i = 1 ∧ z = a.x1) ∨ (i = 2 ∧ z = a.x2) ∨ (i = 3 ∧ z = a.x3) ∨ (i = 4 ∧ z = a.x4) ∨ (i = 5 ∧ z = a.x5) ∨ (i = 6 ∧ z = a.x6) := by
  unfold A7.get at h
  split at h
  · cases h; exact .inl ⟨‹_›, rfl⟩
  · split at h
    · cases h; exact .inr (.inl ⟨‹_›, rfl⟩)
    · split at h
      · cases h; exact .inr (.inr (.inl ⟨‹_›, rfl⟩))
      · split at h
        · cases h; exact .inr (.inr (.inr (.inl ⟨‹_›, rfl⟩)))
        · split at h
          · cases h; exact .inr (.inr (.inr (.inr (.inl ⟨‹_›, rfl⟩))))
          · split at h
            · cases h; exact .inr (.inr (.inr (.inr (.inr (.inl ⟨‹_›, rfl⟩)))))
            · split at h
              · cases h; exact .inr (.inr (.inr (.inr (.inr (.inr ⟨‹_›, rfl⟩)))))
              · cases h
/-- Is it a place of an array? -/
def inA (n : Nat) (i : Int) : Option Unit := if 0 ≤ i ∧ i < n then some () else none
theorem inA_ok {n : Nat} {i : Int} {z : Unit} (h : inA n i = some z) : 0 ≤ i ∧ i < n := by
  unfold inA at h
  split at h
  · assumption
  · cases h

/-! ## Nil, where an empty row is meant -/
def WkL : List Value → List Value → Prop
  | [], [] => True
  | v :: l, w :: r => (w = v ∨ (v = .slice none 0 0 ∧ ∃ s, w = .iface (s + 1) (.tuple #[]))) ∧ WkL l r
  | _, _ => False
theorem wk_sr {hm : GM} {lb : LM} {v w cv : Value} (h : w = v ∨ (v = .slice none 0 0 ∧ ∃ s, w = .iface (s + 1) (.tuple #[]))) (e : SR hm lb v cv) : SR hm lb w cv := by
  rcases h with rfl | ⟨rfl, s, rfl⟩
  · exact e
  · obtain rfl : cv = _ := e
    exact ⟨none, 0, 0, rfl, by simp, Nat.le_refl _, .inl rfl⟩
theorem wk_L2 {hm : GM} {lb : LM} : ∀ {l r : List Value} {cs : List Value}, WkL l r → L2 (SR hm lb) l cs → L2 (SR hm lb) r cs
  | [], [], cs, _, e => e
  | [], _ :: _, cs, h, e => h.elim
  | _ :: _, [], cs, h, e => h.elim
  | v :: l, w :: r, cs, h, e => by
    obtain ⟨b, t, rfl, h1, h2⟩ := e.cons_inv
    exact .cons (wk_sr h.1 h1) (wk_L2 h.2 h2)

section
variable {P : Program} {n0 b0 : Nat} {Tm : List (Nat × Value)} {Lo : List (List Value)} {He : AH} {d : Option Tmp} {ty : TypeId} {pos : String} {af : Array Edge} {g : Option (Nat × Bool)}
theorem ex_buildW {t : TypeId} {ps : Array (Nat × Operand)} {qs : List (Nat × Value)} {vs : Array Value} {ws : List Value} (hq : EVp Tm ps.toList qs) (h : abuild P t qs = some (.agg vs)) (hw : WkL vs.toList ws) :
    AExec P ⟨d, .build t ps, ty, pos, af, g⟩ ⟨n0, b0, Tm, Lo, He⟩ (.agg ws.toArray) Lo He :=
  .of_read fun hm lb w0 U w a r => by
    obtain ⟨cv, g1, g2⟩ := abuild_ok (P := P) (hm := hm) (lb := lb) (ps' := ps.map fun p => (p.1, a.eval p.2)) h (by rw [Array.toList_map]; exact r.EVp hq)
    obtain ⟨cs', rfl, h2⟩ := g2
    exact ⟨.agg cs', by simp [execOp, g1], cs', rfl, wk_L2 hw h2⟩
theorem ex_allocW {T : TypeId} {z : Value} {zs : List Value} {k : Nat} {L' : List (List Value)} (hz : zr P T = some z) (hp : z.cells.toList.all plain1 = true) (hw : WkL z.cells.toList zs) (hk : Lo.length = k) (hL : Lo ++ [zs] = L') : AExec P ⟨d, .alloc T, ty, pos, af, g⟩ ⟨n0, b0, Tm, Lo, He⟩ (.pointer (some ⟨k, 0, some 0⟩)) L' He :=
  .of_value fun hm lb w0 U w a r => by
    subst hk; subst hL
    obtain ⟨lb', w', g1, g2, g3, g4⟩ := newBox_loc (P := P) r (T := T) (C := z.cells) (wk_L2 hw (L2.of_plain hp))
    refine ⟨hm, lb', w', _, ?_, GM.le_refl _, g2, g3, g4⟩
    simp [execOp, Instr.alloc, newVar, run_zero hz, g1]
/-! ## A function that makes one block, and hands out a pointer to it -/
def FNw (P : Program) (f : FuncId) (args : List Value) (b : Blk) : Prop := AFn P f args AH.empty fun v H' => v = .pointer (some ⟨0, 0, none⟩) ∧ H'.get 0 = some b
def FinN (P : Program) (rs : List ResultVar) (b : Blk) : Exit → AS → Prop
  | .normal, s | .ret, s => ARes P rs s (.pointer (some ⟨0, 0, none⟩)) ∧ s.heap.get 0 = some b ∧ Nat.blt 0 s.heap.next = true
  | _, _ => False
theorem FNw.of_body {f : FuncId} {fn : Func} {c : Code} {args : List Value} {n : Nat} {rs : List ResultVar} {T : List (Nat × Value)} {b : Blk} (hf : P.funcs[f]? = some fn) (hb : fn.body = some c) (hn : fn.ntmps = n) (hl : Nat.ble args.length n = true) (hrs : fn.results.toList = rs) (hT : argsT 0 args = T)
    (h : AWp P c (FinN P rs b) ⟨n, 0, T, [], ⟨0, []⟩⟩) : FNw P f args b := by
  subst hn; subst hT; subst hrs
  refine AFn.of_body hf hb (by rw [Nat.ble_eq] at hl; exact hl) (awp_mono h fun e s q => ?_)
  cases e with
  | normal => exact ⟨_, q.1, q.2.2, rfl, q.2.1⟩
  | ret => exact ⟨_, q.1, q.2.2, rfl, q.2.1⟩
  | _ => exact q.elim

end

/-! ## Slots with another word for a length -/
def ReT (T T' : List (Nat × Value)) : Prop := ∀ t v, lk T' t = some v → lk T t = some v
theorem ReT.nil {T : List (Nat × Value)} : ReT T [] := fun t v h => by simp [lk] at h
theorem ReT.keep {T T' : List (Nat × Value)} {t : Nat} {v : Value} (h : lk T t = some v) (k : ReT T T') : ReT T ((t, v) :: T') := by
  intro u v' hu
  rcases lk_push hu with ⟨rfl, rfl⟩ | ⟨h1, h2⟩
  · exact h
  · exact k u v' h2
theorem ReT.gv {T T' : List (Nat × Value)} {t m k k' : Nat} (h : lk T t = some (GV m k)) (e : k = k') (q : ReT T T') : ReT T ((t, GV m k') :: T') := by subst e; exact q.keep h
theorem ReT.fv {T T' : List (Nat × Value)} {t m k k' : Nat} (h : lk T t = some (FV m k)) (e : k = k') (q : ReT T T') : ReT T ((t, FV m k') :: T') := by subst e; exact q.keep h

/-! ## Nil slots -/
section
variable {P : Program} {ops : Array Oper} {Q : Exit → AS → Prop} {i n b : Nat} {l : List Oper} {T : List (Nat × Value)} {L : List (List Value)} {H : AH}
theorem awp_keepE {c : Code} {st st' : AS} (ts : List Nat) (k m : Nat) (ho : okKeep st ts k m = true) (he : st.keep ts k m = st') (h : AWp P c Q st') : AWp P c Q st := by
  subst he
  exact awp_keep ts k m ho h
theorem dcons {D : DOp} {Ds : List DOp} {o : Oper} {LH : List (List (List Value) × AH)} {Tv : List Value} (h : DStep P ops n b T Tv LH i o D) (k : DSteps P ops n b T Tv LH (i + 1) l Ds) : DSteps P ops n b T Tv LH i (o :: l) (D :: Ds) := ⟨h, k⟩
theorem dnil {LH : List (List (List Value) × AH)} {Tv : List Value} : DSteps P ops n b T Tv LH i [] [] := trivial
end
/-- How often a loop may go round. -/
def fuel : Nat := 4611686018427387904
end Go.Fhl

/-
  A logic over the model, part fifteen: == on structs and arrays.
-/
namespace Go.Fhl
set_option linter.unusedVariables false
set_option linter.unusedSimpArgs false
section
variable {P : Program}
/-- Two values of a type are compared: so. -/
def EqT (P : Program) (d : Nat) (t : TypeId) (x y : Value) (b : Bool) : Prop := pureRun P (Op.equalIn d t x y) = some b
theorem eqt_int {d : Nat} {t : TypeId} {k : IntKind} {a b : Int} (hu : und P t = some (.int k)) : EqT P (d + 1) t (.int k a) (.int k b) (decide (a = b)) := by
  unfold EqT; rw [eqIn_int d hu]; rfl
theorem eqt_I {d : Nat} {t : TypeId} {a b : Int} (hu : und P t = some (.int .i64)) : EqT P (d + 1) t (I a) (I b) (decide (a = b)) := eqt_int hu
theorem eqt_U32 {d : Nat} {t : TypeId} {a b : UInt32} (hu : und P t = some (.int .u32)) : EqT P (d + 1) t (U32 a) (U32 b) (decide (a = b)) := by
  have := eqt_int (P := P) (d := d) (a := (a.toNat : Int)) (b := b.toNat) hu
  rwa [show decide ((a.toNat : Int) = (b.toNat : Int)) = decide (a = b) from decide_eq_decide.2 (by rw [Int.natCast_inj, UInt32.toNat_inj])] at this
theorem eqt_S {d : Nat} {t : TypeId} {a b : Str} (hu : und P t = some .string) : EqT P (d + 1) t (S a) (S b) (decide (a = b)) := by
  unfold EqT; rw [eqIn_str d hu]; congr 1
  show ((sB a).data == (sB b).data) = _
  rw [Bool.eq_iff_iff, beq_iff_eq, decide_eq_true_eq]
  exact ⟨fun h => by simpa [sB] using congrArg Array.toList h, fun h => by rw [h]⟩
/-- Field by field. -/
def EqF (P : Program) (d : Nat) : List Field → Array Value → Array Value → Bool → Prop
  | [], _, _, b => b = true
  | f :: fs, xs, ys, b => f.name ≠ "_" ∧ ∃ vx vy b1 b2, pureRun P (part f.type xs f.offset) = some vx ∧ pureRun P (part f.type ys f.offset) = some vy ∧ EqT P d f.type vx vy b1 ∧ EqF P d fs xs ys b2 ∧ b = (b1 && b2)
theorem eqf_nil {d : Nat} {xs ys : Array Value} : EqF P d [] xs ys true := rfl
theorem eqf_cons {d : Nat} {f : Field} {fs : List Field} {xs ys : Array Value} {vx vy : Value} {b1 b2 : Bool} (hn : f.name ≠ "_") (hx : pureRun P (part f.type xs f.offset) = some vx) (hy : pureRun P (part f.type ys f.offset) = some vy) (h : EqT P d f.type vx vy b1) (k : EqF P d fs xs ys b2) :
    EqF P d (f :: fs) xs ys (b1 && b2) := ⟨hn, vx, vy, b1, b2, hx, hy, h, k, rfl⟩
/-- Element by element. -/
def EqA (P : Program) (d : Nat) (e : TypeId) (n : Nat) : List Nat → Array Value → Array Value → Bool → Prop
  | [], _, _, b => b = true
  | i :: is, xs, ys, b => ∃ vx vy b1 b2, pureRun P (part e xs (i * n)) = some vx ∧ pureRun P (part e ys (i * n)) = some vy ∧ EqT P d e vx vy b1 ∧ EqA P d e n is xs ys b2 ∧ b = (b1 && b2)
theorem eqa_nil {d : Nat} {e : TypeId} {n : Nat} {xs ys : Array Value} : EqA P d e n [] xs ys true := rfl
theorem eqa_cons {d : Nat} {e : TypeId} {n i : Nat} {is : List Nat} {xs ys : Array Value} {vx vy : Value} {b1 b2 : Bool} (hx : pureRun P (part e xs (i * n)) = some vx) (hy : pureRun P (part e ys (i * n)) = some vy) (h : EqT P d e vx vy b1) (k : EqA P d e n is xs ys b2) :
    EqA P d e n (i :: is) xs ys (b1 && b2) := ⟨vx, vy, b1, b2, hx, hy, h, k, rfl⟩
theorem eqt_struct {d : Nat} {t : TypeId} {fs : Array Field} {xs ys : Array Value} {b : Bool} (hu : und P t = some (.struct fs)) (hst : P.stoodInHeld t = false) (h : EqF P d fs.toList xs ys b) : EqT P (d + 1) t (.agg xs) (.agg ys) b := by
  unfold EqT
  unfold Op.equalIn
  have hp : ∀ (l : List Field) (b : Bool), EqF P d l xs ys b → pureRun P (forIn l ((none, ()) : Option Bool × Unit) fun f _ => (do
        if f.name ≠ "_" then
          if !(← Op.equalIn d f.type (← part f.type xs f.offset) (← part f.type ys f.offset)) then pure (ForInStep.done (some false, ()))
          else pure (ForInStep.yield (none, ()))
        else pure (ForInStep.yield (none, ())) : Sem (ForInStep (Option Bool × Unit))) : Sem (Option Bool × Unit)) = some (if b = true then (none, ()) else (some false, ())) := by
    intro l
    induction l with
    | nil => intro b hb; cases hb; simp [pureRun_bind, pureRun_pure]
    | cons f l ih =>
      rintro b ⟨hn, vx, vy, b1, b2, hx, hy, he, hk, rfl⟩
      have ih2 := ih b2 hk
      unfold EqT at he
      simp only [List.forIn_cons, pureRun_bind] at ih2 ⊢
      cases b1 with
      | true => simp [hn, pureRun_bind, pureRun_pure, hx, hy, he]; simpa [pureRun_bind] using ih2
      | false => simp [hn, pureRun_bind, pureRun_pure, hx, hy, he]
  have := hp fs.toList b h
  rw [pureRun_bind, pr_und hu]
  simp only [Option.bind_some]
  rw [pureRun_bind]
  have hpr : pureRun P program = some P := rfl
  rw [hpr]
  simp only [Option.bind_some, hst, Bool.false_eq_true, if_false]
  rw [← Array.forIn_toList]
  rw [pureRun_bind, this]
  cases b <;> rfl
theorem eqt_array {d n len : Nat} {t el : TypeId} {xs ys : Array Value} {b : Bool} (hu : und P t = some (.array len el)) (hs : sz P el = some n) (h : EqA P d el n (List.range len) xs ys b) : EqT P (d + 1) t (.agg xs) (.agg ys) b := by
  unfold EqT
  unfold Op.equalIn
  have hp : ∀ (l : List Nat) (b : Bool), EqA P d el n l xs ys b → pureRun P (forIn l ((none, ()) : Option Bool × Unit) fun i _ => (do
        if !(← Op.equalIn d el (← part el xs (i * n)) (← part el ys (i * n))) then pure (ForInStep.done (some false, ()))
        else pure (ForInStep.yield (none, ())) : Sem (ForInStep (Option Bool × Unit))) : Sem (Option Bool × Unit)) = some (if b = true then (none, ()) else (some false, ())) := by
    intro l
    induction l with
    | nil => intro b hb; cases hb; simp [pureRun_bind, pureRun_pure]
    | cons f l ih =>
      rintro b ⟨vx, vy, b1, b2, hx, hy, he, hk, rfl⟩
      have ih2 := ih b2 hk
      unfold EqT at he
      simp only [List.forIn_cons, pureRun_bind] at ih2 ⊢
      cases b1 with
      | true => simp [pureRun_bind, pureRun_pure, hx, hy, he]; simpa [pureRun_bind] using ih2
      | false => simp [pureRun_bind, pureRun_pure, hx, hy, he]
  have := hp (List.range len) b h
  rw [pureRun_bind, pr_und hu]
  simp only [Option.bind_some]
  have hss : pureRun P (sizeOf el) = some n := by
    unfold sz at hs
    cases hi : P.info? el with
    | none => rw [hi] at hs; cases hs
    | some info =>
      rw [hi] at hs; cases hs
      simp [sizeOf, typeInfo, pureRun_bind, program, pureRun, pureRun_pure, hi]
  rw [pureRun_bind, hss]
  simp only [Option.bind_some, Std.Legacy.Range.forIn_eq_forIn_range', Std.Legacy.Range.size]
  have hr : List.range' 0 ((len - 0 + 1 - 1) / 1) = List.range len := by
    rw [List.range_eq_range']; congr 1; omega
  rw [hr]
  rw [pureRun_bind, this]
  cases b <;> rfl
/-- From the parts to the whole. -/
theorem eql_of {t : TypeId} {xo yo : Operand} {xs ys : Array Value} {b : Bool} (hp : plain (.agg xs) = true) (hq : plain (.agg ys) = true) (hg : pureRun P (eqGuard .eql t xo yo (.agg xs) (.agg ys)) = some ()) (h : EqT P 10000 t (.agg xs) (.agg ys) b) : keep (abin P .eql t xo yo (.agg xs) (.agg ys)) = some (Bo b) := by
  unfold abin
  rw [hp, hq, Bool.and_self, if_pos rfl, pureRun_bind, hg]
  show keep (pureRun P (do pure (.bool (← Op.equal t (.agg xs) (.agg ys))))) = _
  rw [pureRun_bind, equal_eq]
  have h2 : pureRun P (Op.equalIn (9999 + 1) t (.agg xs) (.agg ys)) = some b := h
  rw [h2]; rfl
theorem neq_of {t : TypeId} {xo yo : Operand} {xs ys : Array Value} {b : Bool} (hp : plain (.agg xs) = true) (hq : plain (.agg ys) = true) (hg : pureRun P (eqGuard .neq t xo yo (.agg xs) (.agg ys)) = some ()) (h : EqT P 10000 t (.agg xs) (.agg ys) b) : keep (abin P .neq t xo yo (.agg xs) (.agg ys)) = some (Bo !b) := by
  unfold abin
  rw [hp, hq, Bool.and_self, if_pos rfl, pureRun_bind, hg]
  show keep (pureRun P (do pure (.bool (!(← Op.equal t (.agg xs) (.agg ys)))))) = _
  rw [pureRun_bind, equal_eq]
  have h2 : pureRun P (Op.equalIn (9999 + 1) t (.agg xs) (.agg ys)) = some b := h
  rw [h2]; rfl
end
end Go.Fhl

/-
  A logic over the model, part sixteen: what is frozen as it is read; new rows that nobody writes.
-/
namespace Go.Fhl
set_option linter.unusedVariables false
set_option linter.unusedSimpArgs false
section
variable {P : Program} {n0 b0 : Nat} {Tm Tm' : List (Nat × Value)} {Lo L' : List (List Value)} {He H' : AH} {v : Value} {x y : Operand} {d : Option Tmp} {ty : TypeId} {pos : String} {af : Array Edge} {g : Option (Nat × Bool)} {o : Oper}
/-- A block is frozen, and then something is done. -/
theorem ex_fz (m : Nat) {bk : Blk} (hb : He.get m = some bk) (hT : FzT m bk Tm Tm') (h : AExec P o ⟨n0, b0, Tm', Lo, He.kill m⟩ v L' H') : AExec P o ⟨n0, b0, Tm, Lo, He⟩ v L' H' := by
  intro hm lb w0 U w a Q r
  obtain ⟨hm1, h1, h2⟩ := r.freezeAll hb hT (FzL.refl _)
  refine Oper.wp_mono ?_ (h hm1 lb w0 U w a Q h2)
  rintro a' w' ⟨hm2, lb2, cv, k1, k2, k3, k4, k5⟩
  exact ⟨hm2, lb2, cv, GM.le_trans h1 k1, k2, k3, k4, r.withTmps k5 (GM.le_trans h1 k1) k2⟩

/-- A new row of noughts that is frozen at once. -/
theorem ex_makeD {t e : TypeId} {s b : Nat} {z : Value} {kl kc : IntKind} {l : Int} {zs : List Value} (hu : und P t = some (.slice e)) (hs : sz P e = some (s + 1)) (hb : bt P e = some b) (hz : zr P e = some z) (hzp : z.cells.toList.all plain1 = true) (hzs : z.cells.size = s + 1)
    (hx : ev Tm x = .int kl l) (hy : ev Tm y = .int kc l) (hc : 0 ≤ l ∧ l ≤ l ∧ l ≤ 9223372036854775807 ∧ (b : Int) * l ≤ 281474976710656) (hcs : zcells z.cells.toList (l.toNat * (s + 1)) = zs) :
    AExec P ⟨d, .makeSlice t x y, ty, pos, af, g⟩ ⟨n0, b0, Tm, Lo, He⟩ (.iface (s + 1) (.tuple zs.toArray)) Lo He :=
  .of_value fun hm lb w0 U w a r => by
    subst hcs
    have hzc := zcells_plain (n := l.toNat * (s + 1)) hzp (by right; simp; omega)
    have hlen : (zcells z.cells.toList (l.toNat * (s + 1))).length = l.toNat * (s + 1) := by simp [zcells]
    obtain ⟨hm', h3, h4, h5⟩ := r.newDeep (zcells z.cells.toList (l.toNat * (s + 1))).toArray e (0, 0) (zcells z.cells.toList (l.toNat * (s + 1))) (plain_pure hzc) (fun k v hk => by
      have := L2.of_plain (hm := hm) (lb := []) hzc
      obtain ⟨v', g1, g2⟩ := this.get hk
      exact ⟨v', by simpa using g1, g2⟩)
    have ex : a.eval x = .int kl l := (r.evEq hx).sr rfl
    have ey : a.eval y = .int kc l := (r.evEq hy).sr rfl
    refine ⟨hm', lb, _, .slice (some ⟨w.heap.size, 0, none⟩) l.toNat l.toNat, by simp [execOp, ex, ey, makeSlice_run hu hs hb hz hzs hc], h3, LM.le_refl _, h4, .of_sr rfl ⟨_, l.toNat, l.toNat, rfl, hlen.symm, Nat.le_refl _, .inr ⟨_, 0, rfl, fun j c hj => by rw [Nat.zero_add]; exact h5 j c hj⟩⟩⟩

theorem tx_makeD {α : Type} {c : α → List Value} {e : α} {ys : List α} {t el : TypeId} {s b : Nat} {z : Value} {kl kc : IntKind} {n : Int} (hc : CE c (s + 1)) (hu : und P t = some (.slice el)) (hs : sz P el = some (s + 1)) (hb : bt P el = some b) (hz : zr P el = some z) (hzc : z.cells.toList = c e) (hzp : (c e).all plain1 = true)
    (hx : ev Tm x = .int kl n) (hy : ev Tm y = .int kc n) (h : makeL b n e = some ys) : AExec P ⟨d, .makeSlice t x y, ty, pos, af, g⟩ ⟨n0, b0, Tm, Lo, He⟩ (SL (s + 1) c ys) Lo He := by
  obtain ⟨h1, rfl⟩ := makeL_some h
  exact ex_makeD hu hs hb hz (by rw [hzc]; exact hzp) (by rw [← Array.length_toList, hzc, hc.len]) hx hy h1 (by rw [hzc]; exact zcells_rep hc (Nat.succ_pos _) _)

/-- A new row that may grow. -/
theorem ex_buildSliceG {t e : TypeId} {s len k : Nat} {ps : Array (Nat × Operand)} {qs : List (Nat × Value)} {cells : List Value} (hu : und P t = some (.slice e)) (hs : sz P e = some s) (hlen : len * s ≤ 16777216) (hpos : 0 < s) (hq : EVp Tm ps.toList qs) (hnt : noTup qs = true)
    (hb : bsCells P e s len qs = some cells) (hpu : cells.all pure1 = true) (hl : cells.length = len * s) (hk : He.next = k) (hH : He.alloc ⟨s, cells, true⟩ = H') :
    AExec P ⟨d, .buildSlice t len ps, ty, pos, af, g⟩ ⟨n0, b0, Tm, Lo, He⟩ (GV k len) Lo H' :=
  .of_value fun hm lb w0 U w a r => by
    subst hk; subst hH
    obtain ⟨C, h1, h2⟩ := buildSlice_run r hu hs hlen hpos hnt hb (ps' := ps.map fun p => (p.1, a.eval p.2)) (by rw [Array.toList_map]; exact r.EVp hq)
    have hlen := h2.1
    simp at hlen
    have h := r.newBlk C e (0, 0) (Free.zero _) ⟨s, cells, true⟩ (by simp; omega) (fun _ => hpos) hpu (fun k v hk => by
      obtain ⟨v', h3, h4⟩ := h2.get hk
      exact ⟨v', by simpa using h3, h4.repl (List.all_eq_true.1 hpu v (List.mem_of_getElem? hk)) fun _ _ _ q => q⟩)
    refine ⟨_, lb, _, .slice (some ⟨w.heap.size, 0, none⟩) len len, by simp [execOp, h1], h.1, LM.le_refl _, h.2, .of_sr rfl ⟨_, some ⟨w.heap.size, 0, none⟩, len, GM.put_same, rfl, rfl, ?_, fun _ => ⟨Nat.le_refl _, fun _ => rfl, ?_⟩⟩⟩
    · simp only; omega
    · simp only; omega
/-- The end of a piece of code, what is read still, and how long rows are. -/
theorem awp_knR {P : Program} {Q : Exit → AS → Prop} {c : Code} {st st' s0 : AS} (ts : List Nat) (k m : Nat) (T' : List (Nat × Value)) (h : AWp P c (fun e s => e = .normal ∧ s = s0) st) (ho : okKeep s0 ts k m = true) (he : s0.keep ts k m = st') (hT : ReT st'.tmps T') (q : Q .normal ⟨st'.n, st'.base, T', st'.locs, st'.heap⟩) : AWp P c Q st := by
  intro hm lb w0 U w a r
  refine wp_mono (h hm lb w0 U w a r) fun e a' w' p => ?_
  obtain ⟨hm', lb', s, h1, h2, h3, rfl, rfl⟩ := p
  obtain ⟨k1, k2⟩ := h3.keep ho
  rw [h2] at k1
  subst he
  exact ⟨_, _, { s.keep ts k m with tmps := T' }, GM.leb_trans h1 k1, h2, k2.fewer T' hT, q⟩
end
end Go.Fhl

/-
  A logic over the model, part nineteen: a region that draws its order, in which things that are made or written do not stand in one row.
-/
namespace Go.Fhl
set_option linter.unusedVariables false
set_option linter.unusedSimpArgs false
abbrev LHs := List (List Bool × (List (List Value) × AH))
def lkB : LHs → List Bool → Option (List (List Value) × AH)
  | [], _ => none
  | (K, x) :: l, K' => cond (K == K') (some x) (lkB l K')
def allB : Nat → List (List Bool)
  | 0 => [[]]
  | n + 1 => (allB n).flatMap fun l => [false :: l, true :: l]
/-- A stage at which an operation cannot stand. -/
def exK (D : List DOp) (S : List Nat) (i : Nat) (K : List Bool) : Bool :=
  (List.range S.length).any fun q => match S[q]?, K[q]? with
    | some s, some b => (inB D i s && !b) || ((inB D s i && b) || ((s == i && b) || (List.range S.length).any fun q' => match S[q']?, K[q']? with | some s', some b' => inB D s s' && (b && !b') | _, _ => false))
    | _, _ => false
def ksOk (D : List DOp) (S : List Nat) (i : Nat) (ks : List (List Bool)) : Bool := (allB S.length).all fun K => ks.contains K || exK D S i K
def opOkP (n : Nat) (ops : Array Oper) (D : List DOp) (S : List Nat) (i : Nat) (x : DOp) : Bool :=
  x.src.all (srcOk ops D i) && (x.before.all (befOk ops D i) && ((match dstOf ops i with | some t => Nat.blt t n && (List.range i).all fun j => dstOf ops j != some t || inB D i j | none => true) && (x.s == S.contains i)))
def opsOkP (n : Nat) (ops : Array Oper) (D : List DOp) (S : List Nat) : Nat → List DOp → List (List (List Bool)) → Bool
  | _, [], [] => true
  | i, x :: l, ks :: r => opOkP n ops D S i x && (ksOk D S i ks && opsOkP n ops D S (i + 1) l r)
  | _, _, _ => false
def nodupB : List Nat → Bool
  | [] => true
  | x :: l => !l.contains x && nodupB l
def drawOkP (n : Nat) (ops : Array Oper) (D : List DOp) (KS : List (List (List Bool))) (S plan : List Nat) : Bool :=
  opsOkP n ops D S 0 D KS && ((S.all (fun s => Nat.blt s ops.size) && nodupB S) && (planOk ops [] plan && ((List.range ops.size).all (fun i => plan.contains i) && (D.length == ops.size))))
def DStepP (P : Program) (ops : Array Oper) (n b : Nat) (T0 : List (Nat × Value)) (T : List Value) (LH : LHs) (S : List Nat) (i : Nat) (o : Oper) (x : DOp) (ks : List (List Bool)) : Prop :=
  ∀ K ∈ ks, ∃ Tm L H L' H' v, mini T0 T x.src = some Tm ∧ lkB LH K = some (L, H) ∧ lkB LH (if x.s then K.set (S.idxOf i) true else K) = some (L', H') ∧ T[i]? = some v ∧ AStep P ops i o ⟨n, b, Tm, L, H⟩ v L' H'
def DStepsP (P : Program) (ops : Array Oper) (n b : Nat) (T0 : List (Nat × Value)) (T : List Value) (LH : LHs) (S : List Nat) : Nat → List Oper → List DOp → List (List (List Bool)) → Prop
  | i, o :: l, x :: r, ks :: q => DStepP P ops n b T0 T LH S i o x ks ∧ DStepsP P ops n b T0 T LH S (i + 1) l r q
  | _, _, _, _ => True
section
variable {P : Program} {ops : Array Oper} {n b : Nat} {T0 : List (Nat × Value)} {T : List Value} {LH : LHs} {D : List DOp} {KS : List (List (List Bool))} {S plan : List Nat} {Q : Exit → AS → Prop}

end

/-! ## Names that are laid ahead -/
section
variable {P : Program} {n b : Nat} {T : List (Nat × Value)} {L : List (List Value)} {H H' : AH} {Q : Exit → AS → Prop}
end
/-- Some bytes at least. -/
def neB {α : Type} (l : List α) : Option Unit := if l.length = 0 then none else some ()
section
variable {P : Program} {n0 b0 : Nat} {Tm : List (Nat × Value)} {Lo : List (List Value)} {He : AH} {v : Value} {x y : Operand} {d : Option Tmp} {ty : TypeId} {pos : String} {af : Array Edge} {g : Option (Nat × Bool)}
end
end Go.Fhl

/-
  A logic over the model, part twenty: more operations on numbers and texts.
-/
namespace Go.Fhl
set_option linter.unusedVariables false
set_option linter.unusedSimpArgs false
section
variable {P : Program} {t : TypeId} {xo yo : Operand} {a b : UInt32} {c d : UInt16} {e f : UInt8} {s u : Str} {x y : Int}
theorem eq32 : (((a.toNat : Int) == (b.toNat : Int)) : Bool) = (a == b) := by
  rw [Bool.eq_iff_iff, beq_iff_eq, beq_iff_eq, Int.natCast_inj, UInt32.toNat_inj]
def quo32 (a b : UInt32) : Option UInt32 := if b = 0 then none else some (a / b)
def rem32 (a b : UInt32) : Option UInt32 := if b = 0 then none else some (a % b)
/-- One text stands ahead of another one. -/
def ltS (s u : Str) : Bool := Op.bytesLess s u
end
section
variable {P : Program} {n0 b0 : Nat} {Tm : List (Nat × Value)} {Lo : List (List Value)} {He : AH} {v : Value} {x y : Operand} {d : Option Tmp} {ty : TypeId} {pos : String} {af : Array Edge} {g : Option (Nat × Bool)}
end
end Go.Fhl
