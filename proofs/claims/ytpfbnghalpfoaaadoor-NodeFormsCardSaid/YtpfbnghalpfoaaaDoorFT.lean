/-
  A logic over the model, part twelve: values with types of their own: numbers, texts, rows.
-/
import Derived.Test.YtpfbnghalpfoaaaDoorFK
import Derived.Laws.Strings
namespace Go.Fhl
set_option linter.unusedVariables false
set_option linter.unusedSimpArgs false

/-! ## Arithmetic on the model's values -/
section
variable {P : Program} {t : TypeId} {xo yo : Operand} {k : IntKind} {x y : Int}
theorem bin_add : keep (abin P .add t xo yo (.int k x) (.int k y)) = some (.int k (k.wrap (x + y))) := by cases k <;> rfl
theorem bin_sub : keep (abin P .sub t xo yo (.int k x) (.int k y)) = some (.int k (k.wrap (x - y))) := by cases k <;> rfl
theorem bin_mul : keep (abin P .mul t xo yo (.int k x) (.int k y)) = some (.int k (k.wrap (x * y))) := by cases k <;> rfl
theorem bin_eql : keep (abin P .eql t xo yo (.int k x) (.int k y)) = some (.bool (x == y)) := by cases k <;> rfl
theorem bin_neq : keep (abin P .neq t xo yo (.int k x) (.int k y)) = some (.bool (x != y)) := by cases k <;> rfl
theorem bin_lss : keep (abin P .lss t xo yo (.int k x) (.int k y)) = some (.bool (decide (x < y))) := by cases k <;> rfl
theorem bin_leq : keep (abin P .leq t xo yo (.int k x) (.int k y)) = some (.bool (decide (x ≤ y))) := by cases k <;> rfl
theorem bin_gtr : keep (abin P .gtr t xo yo (.int k x) (.int k y)) = some (.bool (decide (x > y))) := by cases k <;> rfl
theorem bin_geq : keep (abin P .geq t xo yo (.int k x) (.int k y)) = some (.bool (decide (x ≥ y))) := by cases k <;> rfl
theorem bin_and : keep (abin P .and t xo yo (.int k x) (.int k y)) = some (.int k (k.wrap (BitVec.ofInt k.bits x &&& BitVec.ofInt k.bits y).toNat)) := by cases k <;> rfl
theorem bin_or : keep (abin P .or t xo yo (.int k x) (.int k y)) = some (.int k (k.wrap (BitVec.ofInt k.bits x ||| BitVec.ofInt k.bits y).toNat)) := by cases k <;> rfl
theorem bin_xor : keep (abin P .xor t xo yo (.int k x) (.int k y)) = some (.int k (k.wrap (BitVec.ofInt k.bits x ^^^ BitVec.ofInt k.bits y).toNat)) := by cases k <;> rfl
theorem bin_quo (h : y ≠ 0) : keep (abin P .quo t xo yo (.int k x) (.int k y)) = some (.int k (k.wrap (x.tdiv y))) := by
  have : pureRun P (do eqGuard .quo t xo yo (.int k x) (.int k y); binOp .quo t (.int k x) (.int k y)) = some (.int k (k.wrap (x.tdiv y))) := by
    rw [pureRun_bind]
    simp [binOp, Op.intDiv, h, eqGuard, pureRun_pure]
  unfold abin
  simp [plain, plain1, this, keep]
theorem bin_rem (h : y ≠ 0) : keep (abin P .rem t xo yo (.int k x) (.int k y)) = some (.int k (x.tmod y)) := by
  have : pureRun P (do eqGuard .rem t xo yo (.int k x) (.int k y); binOp .rem t (.int k x) (.int k y)) = some (.int k (x.tmod y)) := by
    rw [pureRun_bind]
    simp [binOp, Op.intDiv, h, eqGuard, pureRun_pure]
  unfold abin
  simp [plain, plain1, this, keep]
theorem bin_shl {k' : IntKind} (h : 0 ≤ y) : keep (abin P .shl t xo yo (.int k x) (.int k' y)) = some (.int k (k.wrap (x * 2 ^ (min y.toNat k.bits)))) := by
  have : pureRun P (do eqGuard .shl t xo yo (.int k x) (.int k' y); binOp .shl t (.int k x) (.int k' y)) = some (.int k (k.wrap (x * 2 ^ (min y.toNat k.bits)))) := by
    have hn : ¬ y < 0 := by omega
    rw [pureRun_bind]
    simp [binOp, Op.shift, hn, eqGuard, pureRun_pure]
  unfold abin
  simp [plain, plain1, this, keep]
theorem bin_shr {k' : IntKind} (h : 0 ≤ y) : keep (abin P .shr t xo yo (.int k x) (.int k' y)) = some (.int k (x.fdiv (2 ^ (min y.toNat k.bits)))) := by
  have : pureRun P (do eqGuard .shr t xo yo (.int k x) (.int k' y); binOp .shr t (.int k x) (.int k' y)) = some (.int k (x.fdiv (2 ^ (min y.toNat k.bits)))) := by
    have hn : ¬ y < 0 := by omega
    rw [pureRun_bind]
    simp [binOp, Op.shift, hn, eqGuard, pureRun_pure]
  unfold abin
  simp [plain, plain1, this, keep]
variable {s u : ByteArray}
theorem bin_eqlS : keep (abin P .eql t xo yo (.string s) (.string u)) = some (.bool (s.toList == u.toList)) := rfl
theorem bin_neqS : keep (abin P .neq t xo yo (.string s) (.string u)) = some (.bool (!(s.toList == u.toList))) := rfl
theorem bin_addS (h : s.size + u.size ≤ 9223372036854775807) : keep (abin P .add t xo yo (.string s) (.string u)) = some (.string (s ++ u)) := by
  have : pureRun P (do eqGuard .add t xo yo (.string s) (.string u); binOp .add t (.string s) (.string u)) = some (.string (s ++ u)) := by
    have h1 : ¬ (((s.size + u.size : Nat) : Int) > IntKind.i64.max) := by
      have : IntKind.i64.max = 9223372036854775807 := by decide
      rw [this]; omega
    rw [pureRun_bind]
    show (Option.some ()).bind (fun _ => pureRun P (Op.stringOp .add s u)) = _
    unfold Op.stringOp
    simp only [h1, if_false]
    rfl
  unfold abin
  simp [plain, plain1, this, keep]
theorem un_not {b : Bool} : aun P .not (.bool b) = some (.bool !b) := rfl
theorem un_neg : aun P .neg (.int k x) = some (.int k (k.wrap (0 - x))) := by cases k <;> rfl
end

abbrev Str := List UInt8
def sB (s : Str) : ByteArray := ⟨s.toArray⟩
theorem sB_size (s : Str) : (sB s).size = s.length := by simp [sB, ByteArray.size]
theorem sB_data (s : Str) : (sB s).data.toList = s := by simp [sB]
theorem sB_get (s : Str) (i : Nat) : (sB s)[i]? = s[i]? := by
  show (ByteArray.mk s.toArray)[i]? = _
  by_cases h : i < s.length
  · rw [getElem?_pos _ _ (by simpa [ByteArray.size] using h), List.getElem?_eq_getElem h]; rfl
  · rw [getElem?_neg _ _ (by simpa [ByteArray.size] using h), List.getElem?_eq_none (by omega)]
theorem sB_toList (s : Str) : (sB s).toList = s := by
  rw [ByteArray.toList_eq]; exact sB_data s
theorem sB_append (s u : Str) : sB s ++ sB u = sB (s ++ u) := by
  apply ByteArray.ext
  rw [ByteArray.data_append]
  simp [sB]
theorem sB_extract (s : Str) (l h : Nat) : (sB s).extract l h = sB ((s.take h).drop l) := by
  apply ByteArray.ext
  rw [ByteArray.data_extract]
  apply Array.toList_inj.1
  simp [sB, List.extract_eq_take_drop, List.drop_take]

abbrev I (n : Int) : Value := .int .i64 n
abbrev U8 (n : UInt8) : Value := .int .u8 n.toNat
abbrev U16 (n : UInt16) : Value := .int .u16 n.toNat
abbrev U32 (n : UInt32) : Value := .int .u32 n.toNat
abbrev U64 (n : UInt64) : Value := .int .u64 n.toNat
abbrev Bo (b : Bool) : Value := .bool b
abbrev S (s : Str) : Value := .string (sB s)
/-- A row of elements, frozen. -/
def SL {α : Type} (s : Nat) (c : α → List Value) (xs : List α) : Value := .iface s (.tuple (xs.flatMap c).toArray)
/-- A pointer to frozen cells. -/
abbrev DP (cs : List Value) : Value := .iface 0 (.tuple cs.toArray)
/-- A slice that may grow; one whose block stays. -/
abbrev GV (n len : Nat) : Value := .slice (some ⟨n, 0, some 1⟩) len len
abbrev FV (n len : Nat) : Value := .slice (some ⟨n, 0, none⟩) len len
abbrev LP (k off : Nat) : Value := .pointer (some ⟨k, off, some 0⟩)
abbrev NP (n off : Nat) : Value := .pointer (some ⟨n, off, none⟩)
abbrev GP (n off len : Nat) : Value := .pointer (some ⟨n, off, some (len + 1)⟩)
abbrev FN (f : FuncId) : Value := .func (.func f) #[] #[]
def c8 (b : UInt8) : List Value := [U8 b]
def cI (n : Int) : List Value := [I n]
def cS (s : Str) : List Value := [S s]
def cB (b : Bool) : List Value := [Bo b]

/-- How elements lie in cells. -/
structure CE {α : Type} (c : α → List Value) (s : Nat) : Prop where
  len : ∀ x, (c x).length = s
  pure : ∀ x, (c x).all pure1 = true
theorem ce8 : CE c8 1 := ⟨fun _ => rfl, fun _ => rfl⟩
theorem ceI : CE cI 1 := ⟨fun _ => rfl, fun _ => rfl⟩
theorem ceS : CE cS 1 := ⟨fun _ => rfl, fun _ => rfl⟩
theorem ceB : CE cB 1 := ⟨fun _ => rfl, fun _ => rfl⟩
/-- Rows of rows. -/
def cL {α : Type} (s : Nat) (c : α → List Value) (xs : List α) : List Value := [SL s c xs]
theorem ceL {α : Type} {s : Nat} {c : α → List Value} : CE (cL s c) 1 := ⟨fun _ => rfl, fun _ => rfl⟩

section
variable {α : Type} {c : α → List Value} {s : Nat}
theorem CE.flat (h : CE c s) (xs : List α) : (xs.flatMap c).length = xs.length * s := by
  induction xs with
  | nil => simp
  | cons x xs ih => simp [h.len, ih, Nat.add_mul]; omega
theorem CE.pures (h : CE c s) (xs : List α) : (xs.flatMap c).all pure1 = true := by
  rw [List.all_eq_true]
  intro v hv
  obtain ⟨x, _, hx⟩ := List.mem_flatMap.1 hv
  exact List.all_eq_true.1 (h.pure x) v hx
theorem CE.drop (h : CE c s) (xs : List α) (k : Nat) : (xs.flatMap c).drop (k * s) = (xs.drop k).flatMap c := by
  induction xs generalizing k with
  | nil => simp
  | cons x xs ih =>
    cases k with
    | zero => simp
    | succ k =>
      rw [List.flatMap_cons, List.drop_append, h.len, Nat.add_mul, Nat.one_mul, Nat.add_sub_cancel, ih]
      have : ((c x).drop (k * s + s)) = [] := List.drop_eq_nil_of_le (by rw [h.len]; omega)
      rw [this]; simp
theorem CE.take (h : CE c s) (xs : List α) (k : Nat) : (xs.flatMap c).take (k * s) = (xs.take k).flatMap c := by
  induction xs generalizing k with
  | nil => simp
  | cons x xs ih =>
    cases k with
    | zero => simp
    | succ k =>
      rw [List.flatMap_cons, List.take_append, h.len, Nat.add_mul, Nat.one_mul, Nat.add_sub_cancel, ih]
      have : ((c x).take (k * s + s)) = c x := List.take_of_length_le (by rw [h.len]; omega)
      rw [this]; simp
theorem CE.one (h : CE c s) {xs : List α} {k : Nat} {x : α} (hk : xs[k]? = some x) : ((xs.flatMap c).drop (k * s)).take s = c x := by
  have hlt := lookup_lt hk
  rw [h.drop, List.drop_eq_getElem_cons hlt, List.flatMap_cons, List.take_append, h.len, Nat.sub_self, List.take_zero, List.append_nil, List.take_of_length_le (by rw [h.len]; exact Nat.le_refl _)]
  rw [List.getElem?_eq_getElem hlt] at hk
  rw [Option.some.inj hk]
theorem CE.set (h : CE c s) {xs : List α} {k : Nat} (hk : k < xs.length) (y : α) : spl (xs.flatMap c) (k * s) (c y) = (xs.set k y).flatMap c := by
  unfold spl
  rw [h.take, h.len]
  have : k * s + s = (k + 1) * s := by rw [Nat.add_mul]; omega
  rw [this, h.drop, List.set_eq_take_append_cons_drop, if_pos hk]
  simp
theorem pure_SL (xs : List α) : pureV (SL s c xs) = true := rfl
end

/-! ## What the models are made of -/
def w64 (n : Int) : Int := IntKind.i64.wrap n
theorem w64_id {n : Int} (h0 : -9223372036854775808 ≤ n) (h1 : n ≤ 9223372036854775807) : w64 n = n := wrap_i64 h0 h1
def getI {α : Type} (xs : List α) (i : Int) : Option α := if 0 ≤ i then xs[i.toNat]? else none
def setI {α : Type} (xs : List α) (i : Int) (y : α) : Option (List α) := if 0 ≤ i ∧ i < xs.length then some (xs.set i.toNat y) else none
def slL {α : Type} (xs : List α) (l h : Int) : Option (List α) := if 0 ≤ l ∧ l ≤ h ∧ h ≤ xs.length then some ((xs.take h.toNat).drop l.toNat) else none
def addS (s u : Str) : Option Str := if s.length + u.length ≤ 9223372036854775807 then some (s ++ u) else none
def appL {α : Type} (b : Nat) (xs ys : List α) : Option (List α) := if (2 * (xs.length + ys.length) + 192) * b ≤ 281474976710656 then some (xs ++ ys) else none
def makeL {α : Type} (b : Nat) (n : Int) (z : α) : Option (List α) := if 0 ≤ n ∧ n ≤ 9223372036854775807 ∧ (b : Int) * n ≤ 281474976710656 then some (List.replicate n.toNat z) else none
def quoI (x y : Int) : Option Int := if y = 0 then none else some (w64 (x.tdiv y))
def remI (x y : Int) : Option Int := if y = 0 then none else some (x.tmod y)
def shlI (x y : Int) : Option Int := if 0 ≤ y then some (w64 (x * 2 ^ (min y.toNat 64))) else none
def shrI (x y : Int) : Option Int := if 0 ≤ y then some (x.fdiv (2 ^ (min y.toNat 64))) else none
def andI (x y : Int) : Int := w64 (BitVec.ofInt 64 x &&& BitVec.ofInt 64 y).toNat
def orI (x y : Int) : Int := w64 (BitVec.ofInt 64 x ||| BitVec.ofInt 64 y).toNat
/-- What is done just if a guard holds. -/
def gd {α : Type} [Inhabited α] (g : Bool) (o : Option α) : Option α := if g = true then o else some default
theorem gd_of {α : Type} [Inhabited α] {g : Bool} {o : Option α} {x : α} (h : g = true) (e : gd g o = some x) : o = some x := by unfold gd at e; rw [if_pos h] at e; exact e
theorem bindS {α β : Type} {o : Option α} {f : α → Option β} {r : β} (h : o.bind f = some r) : ∃ x, o = some x ∧ f x = some r := by
  cases o with
  | none => cases h
  | some x => exact ⟨x, rfl, h⟩
theorem condT {α : Type} {b : Bool} {x y : α} (h : b = true) : cond b x y = x := by rw [h]; rfl
theorem condF {α : Type} {b : Bool} {x y : α} (h : b = false) : cond b x y = y := by rw [h]; rfl
theorem boT {b : Bool} (h : b = true) : Bo b = .bool true := by rw [h]
theorem boF {b : Bool} (h : b = false) : Bo b = .bool false := by rw [h]

theorem getI_some {α : Type} {xs : List α} {i : Int} {x : α} (h : getI xs i = some x) : 0 ≤ i ∧ xs[i.toNat]? = some x := by
  unfold getI at h
  split at h
  · exact ⟨‹_›, h⟩
  · cases h

/-! ## Steps on typed values -/
section
variable {P : Program} {t : TypeId} {xo yo : Operand} {x y : Int}
theorem addI_ok : keep (abin P .add t xo yo (I x) (I y)) = some (I (w64 (x + y))) := bin_add
theorem subI_ok : keep (abin P .sub t xo yo (I x) (I y)) = some (I (w64 (x - y))) := bin_sub
theorem mulI_ok : keep (abin P .mul t xo yo (I x) (I y)) = some (I (w64 (x * y))) := bin_mul
theorem eqlI_ok : keep (abin P .eql t xo yo (I x) (I y)) = some (Bo (x == y)) := bin_eql
theorem neqI_ok : keep (abin P .neq t xo yo (I x) (I y)) = some (Bo (x != y)) := bin_neq
theorem lssI_ok : keep (abin P .lss t xo yo (I x) (I y)) = some (Bo (decide (x < y))) := bin_lss
theorem leqI_ok : keep (abin P .leq t xo yo (I x) (I y)) = some (Bo (decide (x ≤ y))) := bin_leq
theorem gtrI_ok : keep (abin P .gtr t xo yo (I x) (I y)) = some (Bo (decide (x > y))) := bin_gtr
theorem geqI_ok : keep (abin P .geq t xo yo (I x) (I y)) = some (Bo (decide (x ≥ y))) := bin_geq
theorem andI_ok : keep (abin P .and t xo yo (I x) (I y)) = some (I (andI x y)) := bin_and
theorem orI_ok : keep (abin P .or t xo yo (I x) (I y)) = some (I (orI x y)) := bin_or
theorem quoI_ok {z : Int} (h : quoI x y = some z) : keep (abin P .quo t xo yo (I x) (I y)) = some (I z) := by
  unfold quoI at h
  split at h
  · cases h
  · rename_i hy; cases h; exact bin_quo hy
theorem remI_ok {z : Int} (h : remI x y = some z) : keep (abin P .rem t xo yo (I x) (I y)) = some (I z) := by
  unfold remI at h
  split at h
  · cases h
  · rename_i hy; cases h; exact bin_rem hy
theorem shlI_ok {k : IntKind} {z : Int} (h : shlI x y = some z) : keep (abin P .shl t xo yo (I x) (.int k y)) = some (I z) := by
  unfold shlI at h
  split at h
  · rename_i hy; cases h; exact bin_shl hy
  · cases h
theorem shrI_ok {k : IntKind} {z : Int} (h : shrI x y = some z) : keep (abin P .shr t xo yo (I x) (.int k y)) = some (I z) := by
  unfold shrI at h
  split at h
  · rename_i hy; cases h; exact bin_shr hy
  · cases h
theorem notB_ok {b : Bool} : aun P .not (Bo b) = some (Bo !b) := rfl
theorem pr_und {u : TypeDesc} (h : und P t = some u) : pureRun P (underlying t) = some u := by
  unfold und at h
  simp [underlying, pureRun_bind, program, pureRun, pureRun_pure, h]
  done
theorem eqIn_bool (d : Nat) {a b : Bool} (hu : und P t = some .bool) : pureRun P (Op.equalIn (d + 1) t (.bool a) (.bool b)) = some (a == b) := by
  simp [Op.equalIn, pureRun_bind, pureRun_pure, pr_und hu]
theorem eqIn_int (d : Nat) {k : IntKind} {a b : Int} (hu : und P t = some (.int k)) : pureRun P (Op.equalIn (d + 1) t (.int k a) (.int k b)) = some (a == b) := by
  simp [Op.equalIn, pureRun_bind, pureRun_pure, pr_und hu]
theorem eqIn_str (d : Nat) {a b : ByteArray} (hu : und P t = some .string) : pureRun P (Op.equalIn (d + 1) t (.string a) (.string b)) = some (a == b) := by
  simp [Op.equalIn, pureRun_bind, pureRun_pure, pr_und hu]
theorem eqlB_ok {a b : Bool} (hu : und P t = some .bool) : keep (abin P .eql t xo yo (Bo a) (Bo b)) = some (Bo (a == b)) := by
  have h : pureRun P (do eqGuard .eql t xo yo (Bo a) (Bo b); binOp .eql t (Bo a) (Bo b)) = some (Bo (a == b)) := by
    show pureRun P (do let r ← Op.equal t (Value.bool a) (Value.bool b); pure (Value.bool r) : Sem Value) = _
    rw [pureRun_bind, equal_eq, eqIn_bool 9999 hu]; rfl
  unfold abin
  simp [plain, plain1, h, keep]
theorem neqB_ok {a b : Bool} (hu : und P t = some .bool) : keep (abin P .neq t xo yo (Bo a) (Bo b)) = some (Bo (a != b)) := by
  have h : pureRun P (do eqGuard .neq t xo yo (Bo a) (Bo b); binOp .neq t (Bo a) (Bo b)) = some (Bo (a != b)) := by
    show pureRun P (do let r ← Op.equal t (Value.bool a) (Value.bool b); pure (Value.bool !r) : Sem Value) = _
    rw [pureRun_bind, equal_eq, eqIn_bool 9999 hu]; rfl
  unfold abin
  simp [plain, plain1, h, keep]
variable {s u : Str}
theorem eqlS_ok : keep (abin P .eql t xo yo (S s) (S u)) = some (Bo (s == u)) := by
  rw [bin_eqlS, sB_toList, sB_toList]
theorem neqS_ok : keep (abin P .neq t xo yo (S s) (S u)) = some (Bo (s != u)) := by
  rw [bin_neqS, sB_toList, sB_toList]; rfl
theorem addS_ok {z : Str} (h : addS s u = some z) : keep (abin P .add t xo yo (S s) (S u)) = some (S z) := by
  unfold addS at h
  split at h
  · rename_i hl
    cases h
    rw [bin_addS (by rw [sB_size, sB_size]; exact hl), sB_append]
  · cases h

/-! ### Small numbers -/
theorem wrap_u8 {n : Int} : IntKind.u8.wrap n = ((UInt8.ofInt n).toNat : Int) := by
  simp only [IntKind.wrap, IntKind.bits, IntKind.signed, Bool.false_and, Bool.false_eq_true, if_false, UInt8.ofInt, UInt8.toNat_ofNat']
  have : (2 : Int) ^ 8 = 256 := by decide
  have h2 : (2 : Nat) ^ 8 = 256 := by decide
  rw [this, h2]
  omega
theorem wrap_u16 {n : Int} : IntKind.u16.wrap n = ((UInt16.ofInt n).toNat : Int) := by
  simp only [IntKind.wrap, IntKind.bits, IntKind.signed, Bool.false_and, Bool.false_eq_true, if_false, UInt16.ofInt, UInt16.toNat_ofNat']
  have : (2 : Int) ^ 16 = 65536 := by decide
  have h2 : (2 : Nat) ^ 16 = 65536 := by decide
  rw [this, h2]
  omega
theorem wrap_u32 {n : Int} : IntKind.u32.wrap n = ((UInt32.ofInt n).toNat : Int) := by
  simp only [IntKind.wrap, IntKind.bits, IntKind.signed, Bool.false_and, Bool.false_eq_true, if_false, UInt32.ofInt, UInt32.toNat_ofNat']
  have : (2 : Int) ^ 32 = 4294967296 := by decide
  have h2 : (2 : Nat) ^ 32 = 4294967296 := by decide
  rw [this, h2]
  omega

/-! ### Numbers of 8, 16 and 32 bits -/
section
variable {a b : UInt8} {c d : UInt32} {e f : UInt16}
theorem eq8 : ((a.toNat : Int) == (b.toNat : Int)) = (a == b) := by
  rw [Bool.eq_iff_iff]; simp only [beq_iff_eq, Int.natCast_inj]
  exact ⟨fun h => UInt8.toNat_inj.1 h, fun h => by rw [h]⟩
theorem eql8_ok : keep (abin P .eql t xo yo (U8 a) (U8 b)) = some (Bo (a == b)) := by rw [bin_eql, eq8]
theorem neq8_ok : keep (abin P .neq t xo yo (U8 a) (U8 b)) = some (Bo (a != b)) := by
  rw [bin_neq]; show some (Value.bool (!((a.toNat : Int) == (b.toNat : Int)))) = _; rw [eq8]; rfl
theorem lss8_ok : keep (abin P .lss t xo yo (U8 a) (U8 b)) = some (Bo (decide (a < b))) := by
  rw [bin_lss]; congr 2; rw [decide_eq_decide, UInt8.lt_iff_toNat_lt]; omega
theorem leq8_ok : keep (abin P .leq t xo yo (U8 a) (U8 b)) = some (Bo (decide (a ≤ b))) := by
  rw [bin_leq]; congr 2; rw [decide_eq_decide, UInt8.le_iff_toNat_le]; omega
theorem gtr8_ok : keep (abin P .gtr t xo yo (U8 a) (U8 b)) = some (Bo (decide (a > b))) := by
  rw [bin_gtr]; congr 2; rw [decide_eq_decide, gt_iff_lt, gt_iff_lt, UInt8.lt_iff_toNat_lt]; omega
theorem geq8_ok : keep (abin P .geq t xo yo (U8 a) (U8 b)) = some (Bo (decide (a ≥ b))) := by
  rw [bin_geq]; congr 2; rw [decide_eq_decide, ge_iff_le, ge_iff_le, UInt8.le_iff_toNat_le]; omega
theorem add8_ok : keep (abin P .add t xo yo (U8 a) (U8 b)) = some (U8 (a + b)) := by
  rw [bin_add, wrap_u8]; congr 2
  rw [UInt8.toNat_add, UInt8.ofInt, UInt8.toNat_ofNat']; omega
theorem add32_ok : keep (abin P .add t xo yo (U32 c) (U32 d)) = some (U32 (c + d)) := by
  rw [bin_add, wrap_u32]; congr 2
  rw [UInt32.toNat_add, UInt32.ofInt, UInt32.toNat_ofNat']; omega
theorem sub32_ok : keep (abin P .sub t xo yo (U32 c) (U32 d)) = some (U32 (c - d)) := by
  rw [bin_sub, wrap_u32]; congr 2
  rw [UInt32.toNat_sub, UInt32.ofInt, UInt32.toNat_ofNat']
  have := c.toNat_lt; have := d.toNat_lt
  omega
theorem mul32_ok : keep (abin P .mul t xo yo (U32 c) (U32 d)) = some (U32 (c * d)) := by
  rw [bin_mul, wrap_u32]; congr 2
  rw [UInt32.toNat_mul, UInt32.ofInt, UInt32.toNat_ofNat', ← Int.natCast_mul]; omega
theorem bv8 (n : Nat) : BitVec.ofInt 8 (n : Int) = BitVec.ofNat 8 n := by simp [BitVec.ofInt_natCast]
theorem wrap8_nat {n : Nat} (h : n < 256) : IntKind.u8.wrap (n : Int) = n := by
  rw [wrap_u8, UInt8.ofInt, UInt8.toNat_ofNat']; omega
theorem wrap32_nat {n : Nat} (h : n < 4294967296) : IntKind.u32.wrap (n : Int) = n := by
  rw [wrap_u32, UInt32.ofInt, UInt32.toNat_ofNat']; omega
theorem xor8_ok : keep (abin P .xor t xo yo (U8 a) (U8 b)) = some (U8 (a ^^^ b)) := by
  rw [bin_xor]
  show some (Value.int .u8 (IntKind.u8.wrap ((BitVec.ofInt 8 (a.toNat : Int) ^^^ BitVec.ofInt 8 (b.toNat : Int)).toNat : Int))) = some (Value.int .u8 ((a ^^^ b).toNat : Int))
  rw [wrap8_nat (BitVec.isLt _), BitVec.ofInt_natCast, BitVec.ofInt_natCast, BitVec.toNat_xor, UInt8.toNat_xor]
  have := a.toNat_lt; have := b.toNat_lt
  simp [BitVec.toNat_ofNat, Nat.mod_eq_of_lt this, Nat.mod_eq_of_lt (show a.toNat < 2 ^ 8 by omega)]
theorem and8_ok : keep (abin P .and t xo yo (U8 a) (U8 b)) = some (U8 (a &&& b)) := by
  rw [bin_and]
  show some (Value.int .u8 (IntKind.u8.wrap ((BitVec.ofInt 8 (a.toNat : Int) &&& BitVec.ofInt 8 (b.toNat : Int)).toNat : Int))) = some (Value.int .u8 ((a &&& b).toNat : Int))
  rw [wrap8_nat (BitVec.isLt _), BitVec.ofInt_natCast, BitVec.ofInt_natCast, BitVec.toNat_and, UInt8.toNat_and]
  have := a.toNat_lt; have := b.toNat_lt
  simp [BitVec.toNat_ofNat, Nat.mod_eq_of_lt this, Nat.mod_eq_of_lt (show a.toNat < 2 ^ 8 by omega)]
theorem or32_ok : keep (abin P .or t xo yo (U32 c) (U32 d)) = some (U32 (c ||| d)) := by
  rw [bin_or]
  show some (Value.int .u32 (IntKind.u32.wrap ((BitVec.ofInt 32 (c.toNat : Int) ||| BitVec.ofInt 32 (d.toNat : Int)).toNat : Int))) = some (Value.int .u32 ((c ||| d).toNat : Int))
  rw [wrap32_nat (BitVec.isLt _), BitVec.ofInt_natCast, BitVec.ofInt_natCast, BitVec.toNat_or, UInt32.toNat_or]
  have := c.toNat_lt; have := d.toNat_lt
  simp [BitVec.toNat_ofNat, Nat.mod_eq_of_lt this, Nat.mod_eq_of_lt (show c.toNat < 2 ^ 32 by omega)]
def rem8 (a b : UInt8) : Option UInt8 := if b = 0 then none else some (a % b)
def quo8 (a b : UInt8) : Option UInt8 := if b = 0 then none else some (a / b)
def rem16 (a b : UInt16) : Option UInt16 := if b = 0 then none else some (a % b)
theorem rem8_ok {z : UInt8} (h : rem8 a b = some z) : keep (abin P .rem t xo yo (U8 a) (U8 b)) = some (U8 z) := by
  unfold rem8 at h
  split at h
  · cases h
  · rename_i hb
    cases h
    have : (b.toNat : Int) ≠ 0 := fun e => hb (UInt8.toNat_inj.1 (by simpa using e))
    rw [bin_rem this]
    show _ = some (Value.int .u8 ((a % b).toNat : Int))
    rw [UInt8.toNat_mod]; rfl
theorem quo8_ok {z : UInt8} (h : quo8 a b = some z) : keep (abin P .quo t xo yo (U8 a) (U8 b)) = some (U8 z) := by
  unfold quo8 at h
  split at h
  · cases h
  · rename_i hb
    cases h
    have : (b.toNat : Int) ≠ 0 := fun e => hb (UInt8.toNat_inj.1 (by simpa using e))
    have h2 : ((a.toNat : Int).tdiv b.toNat) = ((a.toNat / b.toNat : Nat) : Int) := rfl
    have h3 : a.toNat / b.toNat < 256 := Nat.lt_of_le_of_lt (Nat.div_le_self _ _) a.toNat_lt
    rw [bin_quo this]
    show _ = some (Value.int .u8 ((a / b).toNat : Int))
    rw [UInt8.toNat_div, h2, wrap8_nat h3]
theorem rem16_ok {z : UInt16} (h : rem16 e f = some z) : keep (abin P .rem t xo yo (U16 e) (U16 f)) = some (U16 z) := by
  unfold rem16 at h
  split at h
  · cases h
  · rename_i hb
    cases h
    have : (f.toNat : Int) ≠ 0 := fun e => hb (UInt16.toNat_inj.1 (by simpa using e))
    rw [bin_rem this]
    show _ = some (Value.int .u16 ((e % f).toNat : Int))
    rw [UInt16.toNat_mod]; rfl
def shl32 (c : UInt32) (y : Int) : Option UInt32 := if 0 ≤ y then some (UInt32.ofNat (c.toNat * 2 ^ (min y.toNat 32))) else none
theorem shl32_ok {k : IntKind} {z : UInt32} (h : shl32 c y = some z) : keep (abin P .shl t xo yo (U32 c) (.int k y)) = some (U32 z) := by
  unfold shl32 at h
  split at h
  · rename_i hy
    cases h
    rw [bin_shl hy]
    show some (Value.int .u32 (IntKind.u32.wrap ((c.toNat : Int) * 2 ^ (min y.toNat 32)))) = _
    rw [wrap_u32]; congr 3
    have : ((c.toNat : Int) * 2 ^ (min y.toNat 32)) = ((c.toNat * 2 ^ (min y.toNat 32) : Nat) : Int) := by rw [Int.natCast_mul, Int.natCast_pow]; rfl
    rw [this, UInt32.ofInt, UInt32.toNat_ofNat', UInt32.toNat_ofNat']; omega
  · cases h
def shr8 (a : UInt8) (y : Int) : Option UInt8 := if 0 ≤ y then some (UInt8.ofNat (a.toNat / 2 ^ (min y.toNat 8))) else none
theorem shr8_ok {k : IntKind} {z : UInt8} (h : shr8 a y = some z) : keep (abin P .shr t xo yo (U8 a) (.int k y)) = some (U8 z) := by
  unfold shr8 at h
  split at h
  · rename_i hy
    cases h
    rw [bin_shr hy]
    show some (Value.int .u8 (((a.toNat : Int)).fdiv (2 ^ (min y.toNat 8)))) = _
    congr 2
    have h1 : (2 : Int) ^ (min y.toNat 8) = ((2 ^ (min y.toNat 8) : Nat) : Int) := by rw [Int.natCast_pow]; rfl
    have h2 : ((a.toNat : Int)).fdiv ((2 ^ (min y.toNat 8) : Nat) : Int) = ((a.toNat / 2 ^ (min y.toNat 8) : Nat) : Int) := by
      rw [Int.fdiv_eq_ediv_of_nonneg _ (Int.natCast_nonneg _)]; rfl
    have h3 : a.toNat / 2 ^ (min y.toNat 8) < 256 := Nat.lt_of_le_of_lt (Nat.div_le_self _ _) a.toNat_lt
    rw [h1, h2, UInt8.toNat_ofNat', Nat.mod_eq_of_lt h3]
  · cases h
end
end

section
variable {P : Program} {n0 b0 : Nat} {Tm : List (Nat × Value)} {Lo : List (List Value)} {He : AH} {v : Value} {x y : Operand} {d : Option Tmp} {ty : TypeId} {pos : String} {af : Array Edge} {g : Option (Nat × Bool)}
  {α : Type} {c : α → List Value} {s : Nat} {xs ys zs : List α} {e : α}
/-! ### Conversions of numbers -/
theorem tx_64_8 {src dst : TypeId} {ds : TypeDesc} {n : Int} (hs : und P src = some ds) (hd : und P dst = some (.int .u8)) (hx : ev Tm x = I n) : AExec P ⟨d, .convert src dst x, ty, pos, af, g⟩ ⟨n0, b0, Tm, Lo, He⟩ (U8 (UInt8.ofInt n)) Lo He := by
  have := ex_convInt (n0 := n0) (b0 := b0) (Lo := Lo) (He := He) (d := d) (ty := ty) (pos := pos) (af := af) (g := g) hs hd hx
  rwa [wrap_u8] at this
theorem tx_64_32 {src dst : TypeId} {ds : TypeDesc} {n : Int} (hs : und P src = some ds) (hd : und P dst = some (.int .u32)) (hx : ev Tm x = I n) : AExec P ⟨d, .convert src dst x, ty, pos, af, g⟩ ⟨n0, b0, Tm, Lo, He⟩ (U32 (UInt32.ofInt n)) Lo He := by
  have := ex_convInt (n0 := n0) (b0 := b0) (Lo := Lo) (He := He) (d := d) (ty := ty) (pos := pos) (af := af) (g := g) hs hd hx
  rwa [wrap_u32] at this
theorem tx_8_64 {src dst : TypeId} {ds : TypeDesc} {n : UInt8} (hs : und P src = some ds) (hd : und P dst = some (.int .i64)) (hx : ev Tm x = U8 n) : AExec P ⟨d, .convert src dst x, ty, pos, af, g⟩ ⟨n0, b0, Tm, Lo, He⟩ (I n.toNat) Lo He := by
  have := ex_convInt (n0 := n0) (b0 := b0) (Lo := Lo) (He := He) (d := d) (ty := ty) (pos := pos) (af := af) (g := g) hs hd hx
  rwa [wrap_i64 (by omega) (by have := n.toNat_lt; omega)] at this
theorem tx_16_64 {src dst : TypeId} {ds : TypeDesc} {n : UInt16} (hs : und P src = some ds) (hd : und P dst = some (.int .i64)) (hx : ev Tm x = U16 n) : AExec P ⟨d, .convert src dst x, ty, pos, af, g⟩ ⟨n0, b0, Tm, Lo, He⟩ (I n.toNat) Lo He := by
  have := ex_convInt (n0 := n0) (b0 := b0) (Lo := Lo) (He := He) (d := d) (ty := ty) (pos := pos) (af := af) (g := g) hs hd hx
  rwa [wrap_i64 (by omega) (by have := n.toNat_lt; omega)] at this
theorem tx_32_64 {src dst : TypeId} {ds : TypeDesc} {n : UInt32} (hs : und P src = some ds) (hd : und P dst = some (.int .i64)) (hx : ev Tm x = U32 n) : AExec P ⟨d, .convert src dst x, ty, pos, af, g⟩ ⟨n0, b0, Tm, Lo, He⟩ (I n.toNat) Lo He := by
  have := ex_convInt (n0 := n0) (b0 := b0) (Lo := Lo) (He := He) (d := d) (ty := ty) (pos := pos) (af := af) (g := g) hs hd hx
  rwa [wrap_i64 (by omega) (by have := n.toNat_lt; omega)] at this
theorem tx_8_32 {src dst : TypeId} {ds : TypeDesc} {n : UInt8} (hs : und P src = some ds) (hd : und P dst = some (.int .u32)) (hx : ev Tm x = U8 n) : AExec P ⟨d, .convert src dst x, ty, pos, af, g⟩ ⟨n0, b0, Tm, Lo, He⟩ (U32 n.toUInt32) Lo He := by
  have := ex_convInt (n0 := n0) (b0 := b0) (Lo := Lo) (He := He) (d := d) (ty := ty) (pos := pos) (af := af) (g := g) hs hd hx
  rwa [wrap32_nat (by have := n.toNat_lt; omega)] at this
/-! ### Bytes and texts -/
theorem strOf_sB (bs : Str) : strOf (bs.map fun b => (b.toNat : Int)) = sB bs := by
  unfold strOf sB
  congr 2
  rw [List.map_map]
  conv => rhs; rw [← List.map_id bs]
  refine List.map_congr_left fun b _ => ?_
  simp
theorem flat8 (bs : Str) : bs.flatMap c8 = (bs.map fun b => (b.toNat : Int)).map (Value.int .u8) := by
  induction bs with
  | nil => rfl
  | cons b bs ih => rw [List.flatMap_cons, ih]; rfl
theorem bcells_sB (bs : Str) : bcells (sB bs) = bs.flatMap c8 := by
  rw [flat8]; unfold bcells; rw [sB_data, List.map_map]; rfl
theorem tx_bsD {src dst e : TypeId} {bs : Str} (hs : und P src = some (.slice e)) (hd : und P dst = some .string) (he : und P e = some (.int .u8)) (hx : ev Tm x = SL 1 c8 bs) : AExec P ⟨d, .convert src dst x, ty, pos, af, g⟩ ⟨n0, b0, Tm, Lo, He⟩ (S bs) Lo He := by
  have := ex_bytesStrD (n0 := n0) (b0 := b0) (Lo := Lo) (He := He) (d := d) (ty := ty) (pos := pos) (af := af) (g := g) (ns := bs.map fun b => (b.toNat : Int)) hs hd he hx (by rw [← flat8])
  rwa [strOf_sB] at this
theorem tx_bsF {src dst e : TypeId} {m n : Nat} {bs : Str} (hs : und P src = some (.slice e)) (hd : und P dst = some .string) (he : und P e = some (.int .u8)) (hx : ev Tm x = FV m n) (hb : He.get m = some ⟨1, bs.flatMap c8, false⟩) (hn : n = bs.length) : AExec P ⟨d, .convert src dst x, ty, pos, af, g⟩ ⟨n0, b0, Tm, Lo, He⟩ (S bs) Lo He := by
  subst hn
  have hl := ce8.flat bs
  have := ex_bytesStrF (n0 := n0) (b0 := b0) (Lo := Lo) (He := He) (d := d) (ty := ty) (pos := pos) (af := af) (g := g) (ns := bs.map fun b => (b.toNat : Int)) hs hd he hx hb rfl rfl (by simp only; omega) (by
    simp only [List.drop_zero]; rw [List.take_of_length_le (by omega), flat8])
  rwa [strOf_sB] at this
theorem tx_bsG {src dst e : TypeId} {m n : Nat} {bs : Str} (hs : und P src = some (.slice e)) (hd : und P dst = some .string) (he : und P e = some (.int .u8)) (hx : ev Tm x = GV m n) (hb : He.get m = some ⟨1, bs.flatMap c8, true⟩) (hn : n = bs.length) : AExec P ⟨d, .convert src dst x, ty, pos, af, g⟩ ⟨n0, b0, Tm, Lo, He⟩ (S bs) Lo He := by
  subst hn
  have hl := ce8.flat bs
  have := ex_bytesStrG (n0 := n0) (b0 := b0) (Lo := Lo) (He := He) (d := d) (ty := ty) (pos := pos) (af := af) (g := g) (ns := bs.map fun b => (b.toNat : Int)) hs hd he hx hb rfl rfl (by simp only; omega) (by simp only [flat8])
  rwa [strOf_sB] at this
theorem tx_sbD {src dst e : TypeId} {ds : TypeDesc} {bs : Str} (hs : und P src = some ds) (hd : und P dst = some (.slice e)) (he : und P e = some (.int .u8)) (hx : ev Tm x = S bs) : AExec P ⟨d, .convert src dst x, ty, pos, af, g⟩ ⟨n0, b0, Tm, Lo, He⟩ (SL 1 c8 bs) Lo He := by
  have := ex_strBytesD (n0 := n0) (b0 := b0) (Lo := Lo) (He := He) (d := d) (ty := ty) (pos := pos) (af := af) (g := g) hs hd he hx
  rwa [bcells_sB] at this
theorem tx_sbG {src dst e : TypeId} {ds : TypeDesc} {bs : Str} {k : Nat} {H' : AH} (hs : und P src = some ds) (hd : und P dst = some (.slice e)) (he : und P e = some (.int .u8)) (hx : ev Tm x = S bs) (hk : He.next = k) (hH : He.alloc ⟨1, bs.flatMap c8, true⟩ = H') :
    AExec P ⟨d, .convert src dst x, ty, pos, af, g⟩ ⟨n0, b0, Tm, Lo, He⟩ (GV k bs.length) Lo H' := by
  subst hk; subst hH
  have := ex_strBytes (n0 := n0) (b0 := b0) (Lo := Lo) (He := He) (d := d) (ty := ty) (pos := pos) (af := af) (g := g) hs hd he hx
  rwa [bcells_sB, sB_size] at this

/-! ### Rows -/
theorem tx_lenS {t : TypeId} {u : Str} (hu : und P t = some .string) (hx : ev Tm x = S u) : AExec P ⟨d, .call ⟨.builtin .len, #[x], #[t]⟩, ty, pos, af, g⟩ ⟨n0, b0, Tm, Lo, He⟩ (I u.length) Lo He := ex_lenS hu hx (sB_size u)
theorem tx_lenD {t e : TypeId} (hc : CE c (s + 1)) (hu : und P t = some (.slice e)) (hx : ev Tm x = SL (s + 1) c xs) : AExec P ⟨d, .call ⟨.builtin .len, #[x], #[t]⟩, ty, pos, af, g⟩ ⟨n0, b0, Tm, Lo, He⟩ (I xs.length) Lo He :=
  ex_lenD hu hx (by rw [List.size_toArray, hc.flat])
theorem tx_idxS {t : TypeId} {u : Str} {k : IntKind} {i : Int} {b : UInt8} (hu : und P t = some .string) (hx : ev Tm x = S u) (hy : ev Tm y = .int k i) (h : getI u i = some b) : AExec P ⟨d, .index t x y, ty, pos, af, g⟩ ⟨n0, b0, Tm, Lo, He⟩ (U8 b) Lo He := by
  obtain ⟨h0, h1⟩ := getI_some h
  exact ex_indexS hu hx hy h0 (by rw [sB_get]; exact h1)
theorem tx_idxD {t el : TypeId} {k : IntKind} {i : Int} (hc : CE c (s + 1)) (hu : und P t = some (.slice el)) (hs : sz P el = some (s + 1)) (hx : ev Tm x = SL (s + 1) c xs) (hy : ev Tm y = .int k i) (h : getI xs i = some e) : AExec P ⟨d, .indexAddr t x y, ty, pos, af, g⟩ ⟨n0, b0, Tm, Lo, He⟩ (DP (c e)) Lo He := by
  obtain ⟨h0, h1⟩ := getI_some h
  have hlt := lookup_lt h1
  have hm : (i.toNat + 1) * (s + 1) ≤ xs.length * (s + 1) := Nat.mul_le_mul_right _ hlt
  rw [Nat.add_mul, Nat.one_mul] at hm
  exact ex_indexAddrD hu hs hx hy h0 (by rw [List.size_toArray, hc.flat]; exact hm) (hc.one h1)
theorem tx_idxF {t el : TypeId} {m n : Nat} {k : IntKind} {i : Int} (hc : CE c s) (hu : und P t = some (.slice el)) (hs : sz P el = some s) (hx : ev Tm x = FV m n) (hy : ev Tm y = .int k i) (hn : n = xs.length) (h : getI xs i = some e) : AExec P ⟨d, .indexAddr t x y, ty, pos, af, g⟩ ⟨n0, b0, Tm, Lo, He⟩ (NP m (i.toNat * s)) Lo He := by
  obtain ⟨h0, h1⟩ := getI_some h
  have hlt := lookup_lt h1
  exact ex_indexAddrF hu hs hx hy h0 (by omega) (by omega)
theorem tx_idxG {t el : TypeId} {m n : Nat} {k : IntKind} {i : Int} (hc : CE c s) (hu : und P t = some (.slice el)) (hs : sz P el = some s) (hx : ev Tm x = GV m n) (hy : ev Tm y = .int k i) (hb : He.get m = some ⟨s, xs.flatMap c, true⟩) (hn : n = xs.length) (h : getI xs i = some e) :
    AExec P ⟨d, .indexAddr t x y, ty, pos, af, g⟩ ⟨n0, b0, Tm, Lo, He⟩ (GP m (i.toNat * s) (xs.flatMap c).length) Lo He := by
  obtain ⟨h0, h1⟩ := getI_some h
  have hlt := lookup_lt h1
  exact ex_indexAddrG hu hs hx hy h0 (by omega) hb rfl rfl (by rw [hn]; simp only [hc.flat]) rfl rfl
/-- Loads: of a whole element, or of a part of it. -/
theorem tx_ldD1 {T : TypeId} {ds : TypeDesc} {cs : List Value} (hd : und P T = some ds) (hg : agg? ds = false) (hx : ev Tm x = DP cs) (h : cs[0]? = some v) : AExec P ⟨d, .load T x, ty, pos, af, g⟩ ⟨n0, b0, Tm, Lo, He⟩ v Lo He := ex_loadD hx (part1 hd hg h)
theorem tx_ldDA {T : TypeId} {ds : TypeDesc} {cs vs : List Value} {k : Nat} (hd : und P T = some ds) (hg : agg? ds = true) (hs : sz P T = some k) (hk : 0 < k) (hx : ev Tm x = DP cs) (hl : k ≤ cs.length) (h : cs.take k = vs) : AExec P ⟨d, .load T x, ty, pos, af, g⟩ ⟨n0, b0, Tm, Lo, He⟩ (.agg vs.toArray) Lo He :=
  ex_loadD hx (partA hd hg hs hk (by simpa using hl) (by simpa using h))
theorem tx_ldL1 {T : TypeId} {ds : TypeDesc} {k off : Nat} {cs : List Value} (hd : und P T = some ds) (hg : agg? ds = false) (hx : ev Tm x = LP k off) (hc : Lo[k]? = some cs) (h : cs[off]? = some v) : AExec P ⟨d, .load T x, ty, pos, af, g⟩ ⟨n0, b0, Tm, Lo, He⟩ v Lo He := ex_loadL hx hc (part1 hd hg h)
theorem tx_ldLA {T : TypeId} {ds : TypeDesc} {k off m : Nat} {cs vs : List Value} (hd : und P T = some ds) (hg : agg? ds = true) (hs : sz P T = some m) (hm : 0 < m) (hx : ev Tm x = LP k off) (hc : Lo[k]? = some cs) (hl : Nat.ble (off + m) cs.length = true) (h : (cs.drop off).take m = vs) : AExec P ⟨d, .load T x, ty, pos, af, g⟩ ⟨n0, b0, Tm, Lo, He⟩ (.agg vs.toArray) Lo He :=
  ex_loadL hx hc (partA hd hg hs hm (by rw [Nat.ble_eq] at hl; exact hl) h)
/-- Out of a named block: element i, its part at off. -/
theorem part_elem {T : TypeId} {ds : TypeDesc} {i : Int} {off : Nat} (hc : CE c s) (h : getI xs i = some e) (hd : und P T = some ds) (hg : agg? ds = false) (hoff : off < s) (hv : (c e)[off]? = some v) : Part P T (xs.flatMap c) (i.toNat * s + off) v := by
  obtain ⟨h0, h1⟩ := getI_some h
  refine part1 hd hg ?_
  have := hc.one h1
  rw [← this, List.getElem?_take_of_lt hoff, List.getElem?_drop] at hv
  exact hv
theorem part_elemA {T : TypeId} {ds : TypeDesc} {i : Int} {off m : Nat} {vs : List Value} (hc : CE c s) (h : getI xs i = some e) (hd : und P T = some ds) (hg : agg? ds = true) (hs : sz P T = some m) (hm : 0 < m) (hoff : off + m ≤ s) (hv : ((c e).drop off).take m = vs) : Part P T (xs.flatMap c) (i.toNat * s + off) (.agg vs.toArray) := by
  obtain ⟨h0, h1⟩ := getI_some h
  have hlt := lookup_lt h1
  have hm2 : (i.toNat + 1) * s ≤ xs.length * s := Nat.mul_le_mul_right _ hlt
  rw [Nat.add_mul, Nat.one_mul] at hm2
  refine partA hd hg hs hm (by rw [hc.flat]; omega) ?_
  rw [← hv, ← hc.one h1, List.drop_take, List.take_take, List.drop_drop]
  congr 1; omega
theorem tx_ldF {T : TypeId} {m off : Nat} {cs : List Value} (hx : ev Tm x = NP m off) (hb : He.get m = some ⟨s, cs, false⟩) (hp : Part P T cs off v) : AExec P ⟨d, .load T x, ty, pos, af, g⟩ ⟨n0, b0, Tm, Lo, He⟩ v Lo He := ex_loadF hx hb rfl hp
theorem tx_ldG {T : TypeId} {m off : Nat} {cs : List Value} (hx : ev Tm x = GP m off cs.length) (hb : He.get m = some ⟨s, cs, true⟩) (hp : Part P T cs off v) : AExec P ⟨d, .load T x, ty, pos, af, g⟩ ⟨n0, b0, Tm, Lo, He⟩ v Lo He := ex_loadG hx hb rfl rfl hp
/-- Stores of a whole element. -/
theorem setI_some {i : Int} (h : setI xs i e = some ys) : 0 ≤ i ∧ i.toNat < xs.length ∧ ys = xs.set i.toNat e := by
  unfold setI at h
  split at h
  · rename_i hc; cases h; exact ⟨hc.1, by omega, rfl⟩
  · cases h
theorem setI_len {i : Int} (h : setI xs i e = some ys) : xs.length = ys.length := by
  obtain ⟨_, _, rfl⟩ := setI_some h
  simp
theorem CE.stlen (hc : CE c s) {i : Nat} (h : i < xs.length) : i * s + (c e).length ≤ (xs.flatMap c).length := by
  rw [hc.flat, hc.len]
  have : (i + 1) * s ≤ xs.length * s := Nat.mul_le_mul_right _ h
  rw [Nat.add_mul, Nat.one_mul] at this; exact this
theorem tx_stF {T : TypeId} {m : Nat} {i : Int} {vy : Value} {H' : AH} (hc : CE c (s + 1)) (hs : sz P T = some (s + 1)) (hx : ev Tm x = NP m (i.toNat * (s + 1))) (hy : EV Tm y vy) (hvy : cellsOf vy = some (c e)) (hb : He.get m = some ⟨s + 1, xs.flatMap c, false⟩) (h : setI xs i e = some ys) (hH : He.set m ⟨s + 1, ys.flatMap c, false⟩ = H') :
    AExec P ⟨d, .store T x y, ty, pos, af, g⟩ ⟨n0, b0, Tm, Lo, He⟩ undef Lo H' := by
  obtain ⟨h0, h1, rfl⟩ := setI_some h
  refine ex_storeF hx hy hvy (by rw [hc.len]; exact hs) hb rfl (hc.stlen h1) (hc.pure e) (fun q => by have := hc.len e; rw [q] at this; cases this) ?_
  rw [← hH]; simp only [hc.set h1]
theorem tx_stG {T : TypeId} {m : Nat} {i : Int} {vy : Value} {H' : AH} (hc : CE c (s + 1)) (hs : sz P T = some (s + 1)) (hx : ev Tm x = GP m (i.toNat * (s + 1)) (xs.flatMap c).length) (hy : EV Tm y vy) (hvy : cellsOf vy = some (c e)) (hb : He.get m = some ⟨s + 1, xs.flatMap c, true⟩) (h : setI xs i e = some ys) (hH : He.set m ⟨s + 1, ys.flatMap c, true⟩ = H') :
    AExec P ⟨d, .store T x y, ty, pos, af, g⟩ ⟨n0, b0, Tm, Lo, He⟩ undef Lo H' := by
  obtain ⟨h0, h1, rfl⟩ := setI_some h
  refine ex_storeG hx hy hvy (by rw [hc.len]; exact hs) hb rfl rfl (hc.stlen h1) (hc.pure e) (fun q => by have := hc.len e; rw [q] at this; cases this) ?_
  rw [← hH]; simp only [hc.set h1]

/-! ### Slices of rows -/
theorem slL_some {l h : Int} (k : slL xs l h = some ys) : 0 ≤ l ∧ l.toNat ≤ h.toNat ∧ 0 ≤ h ∧ h.toNat ≤ xs.length ∧ ys = (xs.take h.toNat).drop l.toNat := by
  unfold slL at k
  split at k
  · rename_i hc; cases k; exact ⟨hc.1, by omega, by omega, by omega, rfl⟩
  · cases k
/-- Where a slice begins, and ends: as it is said, or not. -/
def Lo? (T : List (Nat × Value)) (o : Option Operand) (l : Int) : Prop := (o = none ∧ l = 0) ∨ ∃ x k, o = some x ∧ ev T x = .int k l
def Hi? (T : List (Nat × Value)) (o : Option Operand) (n : Nat) (h : Int) : Prop := (o = none ∧ h = n) ∨ ∃ x k, o = some x ∧ ev T x = .int k h
theorem lo0 : Lo? Tm none 0 := .inl ⟨rfl, rfl⟩
theorem loX {k : IntKind} {l : Int} (h : ev Tm x = .int k l) : Lo? Tm (some x) l := .inr ⟨x, k, rfl, h⟩
theorem hiN {n : Nat} : Hi? Tm none n n := .inl ⟨rfl, rfl⟩
theorem hiX {k : IntKind} {n : Nat} {l : Int} (h : ev Tm x = .int k l) : Hi? Tm (some x) n l := .inr ⟨x, k, rfl, h⟩
theorem Lo?.bnd {o : Option Operand} {l : Int} (h : Lo? Tm o l) (h0 : 0 ≤ l) : Bnd (o.map (ev Tm)) 0 l.toNat := by
  rcases h with ⟨rfl, rfl⟩ | ⟨x, k, rfl, h⟩
  · exact .inl ⟨rfl, rfl⟩
  · exact .inr ⟨k, l, by simp [h], h0, rfl⟩
theorem Hi?.bnd {o : Option Operand} {n : Nat} {l : Int} (h : Hi? Tm o n l) (h0 : 0 ≤ l) : Bnd (o.map (ev Tm)) n l.toNat := by
  rcases h with ⟨rfl, rfl⟩ | ⟨x, k, rfl, h⟩
  · exact .inl ⟨rfl, by simp⟩
  · exact .inr ⟨k, l, by simp [h], h0, rfl⟩
theorem tx_slS {t : TypeId} {u z : Str} {lo hi : Option Operand} {l h : Int} (hu : und P t = some .string) (hx : ev Tm x = S u) (hl : Lo? Tm lo l) (hh : Hi? Tm hi u.length h) (k : slL u l h = some z) : AExec P ⟨d, .slice t x lo hi none, ty, pos, af, g⟩ ⟨n0, b0, Tm, Lo, He⟩ (S z) Lo He := by
  obtain ⟨h0, h1, h2, h3, rfl⟩ := slL_some k
  exact ex_sliceS hu hx (hl.bnd h0) (by rw [sB_size]; exact hh.bnd h2) h1 (by rw [sB_size]; exact h3) (by rw [sB_extract])
theorem tx_slD {t el : TypeId} {lo hi : Option Operand} {l h : Int} (hc : CE c (s + 1)) (hu : und P t = some (.slice el)) (hs : sz P el = some (s + 1)) (hx : ev Tm x = SL (s + 1) c xs) (hl : Lo? Tm lo l) (hh : Hi? Tm hi xs.length h) (k : slL xs l h = some ys) : AExec P ⟨d, .slice t x lo hi none, ty, pos, af, g⟩ ⟨n0, b0, Tm, Lo, He⟩ (SL (s + 1) c ys) Lo He := by
  obtain ⟨h0, h1, h2, h3, rfl⟩ := slL_some k
  refine ex_sliceD (n := xs.length) hu hs hx (by rw [List.size_toArray, hc.flat]) (hl.bnd h0) (hh.bnd h2) h1 h3 ?_
  rw [List.toList_toArray, hc.drop, hc.take, List.drop_take]

/-! ### Append -/
theorem appL_some {b : Nat} (k : appL b xs ys = some zs) : room (xs.length + ys.length) b ∧ zs = xs ++ ys := by
  unfold appL at k
  split at k
  · rename_i hc; cases k; exact ⟨hc, rfl⟩
  · cases k
theorem tsrcD {sT xT el e2 : TypeId} (hc : CE c (s + 1)) (hsT : und P sT = some (.slice el)) (hs : sz P el = some (s + 1)) (hu : und P xT = some (.slice e2)) (hy : ev Tm y = SL (s + 1) c ys) : Src P ⟨n0, b0, Tm, Lo, He⟩ sT xT el (s + 1) y (ys.flatMap c) ys.length :=
  srcD hsT hs hu hy (by simp) (by rw [hc.flat])
theorem tsrcF {sT xT el e2 : TypeId} {m n : Nat} (hc : CE c s) (hsT : und P sT = some (.slice el)) (hs : sz P el = some s) (hu : und P xT = some (.slice e2)) (hy : ev Tm y = FV m n) (hb : He.get m = some ⟨s, ys.flatMap c, false⟩) (hn : n = ys.length) : Src P ⟨n0, b0, Tm, Lo, He⟩ sT xT el s y (ys.flatMap c) ys.length := by
  subst hn
  exact srcF hsT hs hu hy hb rfl rfl (by simp only [hc.flat]; omega) (by simp only [List.drop_zero]; rw [List.take_of_length_le (by rw [hc.flat]; exact Nat.le_refl _)])
theorem tsrcG {sT xT el e2 : TypeId} {m n : Nat} (hc : CE c s) (hsT : und P sT = some (.slice el)) (hs : sz P el = some s) (hu : und P xT = some (.slice e2)) (hy : ev Tm y = GV m n) (hb : He.get m = some ⟨s, ys.flatMap c, true⟩) (hn : n = ys.length) : Src P ⟨n0, b0, Tm, Lo, He⟩ sT xT el s y (ys.flatMap c) ys.length := by
  subst hn
  exact srcG hsT hs hu hy hb rfl rfl (by simp only [hc.flat])
theorem tsrcN {sT xT el e2 : TypeId} (hsT : und P sT = some (.slice el)) (hs : sz P el = some s) (hu : und P xT = some (.slice e2)) (hy : ev Tm y = .slice none 0 0) : Src P ⟨n0, b0, Tm, Lo, He⟩ sT xT el s y (([] : List α).flatMap c) ([] : List α).length := srcNil hsT hs hu hy
theorem tsrcS {sT xT el : TypeId} {u : Str} (hsT : und P sT = some (.slice el)) (hs : sz P el = some 1) (hu : und P xT = some .string) (hy : ev Tm y = S u) : Src P ⟨n0, b0, Tm, Lo, He⟩ sT xT el 1 y (u.flatMap c8) u.length := srcS hsT hs hu hy (bcells_sB u) (sB_size u)
theorem tx_appN {sT xT el : TypeId} {b k : Nat} {H' : AH} (he : ElemOk P el s b) (hx : ev Tm x = .slice none 0 0) (hsrc : Src P ⟨n0, b0, Tm, Lo, He⟩ sT xT el s y (ys.flatMap c) ys.length) (h : appL b [] ys = some zs) (hk : He.next = k) (hH : He.alloc ⟨s, zs.flatMap c, true⟩ = H') :
    AExec P ⟨d, .call ⟨.builtin .append, #[x, y], #[sT, xT]⟩, ty, pos, af, g⟩ ⟨n0, b0, Tm, Lo, He⟩ (GV k zs.length) Lo H' := by
  obtain ⟨h1, rfl⟩ := appL_some h
  exact ex_appNone (base := none) (cp := 0) he hx hsrc (by simpa using h1) hk (by simpa using hH)
theorem tx_appZ {sT xT el : TypeId} {b k m : Nat} {H' : AH} (he : ElemOk P el s b) (hx : ev Tm x = FV m 0) (hsrc : Src P ⟨n0, b0, Tm, Lo, He⟩ sT xT el s y (ys.flatMap c) ys.length) (h : appL b [] ys = some zs) (hk : He.next = k) (hH : He.alloc ⟨s, zs.flatMap c, true⟩ = H') :
    AExec P ⟨d, .call ⟨.builtin .append, #[x, y], #[sT, xT]⟩, ty, pos, af, g⟩ ⟨n0, b0, Tm, Lo, He⟩ (GV k zs.length) Lo H' := by
  obtain ⟨h1, rfl⟩ := appL_some h
  exact ex_appZero he hx hsrc (by simpa using h1) hk (by simpa using hH)
theorem tx_appG {sT xT el : TypeId} {b m n : Nat} {H' : AH} (hc : CE c s) (he : ElemOk P el s b) (hx : ev Tm x = GV m n) (hb : He.get m = some ⟨s, xs.flatMap c, true⟩) (hn : n = xs.length) (hsrc : Src P ⟨n0, b0, Tm, Lo, He⟩ sT xT el s y (ys.flatMap c) ys.length) (h : appL b xs ys = some zs) (hH : He.set m ⟨s, zs.flatMap c, true⟩ = H') :
    AExec P ⟨d, .call ⟨.builtin .append, #[x, y], #[sT, xT]⟩, ty, pos, af, g⟩ ⟨n0, b0, Tm, Lo, He⟩ (GV m zs.length) Lo H' := by
  subst hn
  obtain ⟨h1, rfl⟩ := appL_some h
  exact ex_appG he hx hb rfl rfl (by simp only [hc.flat]) hsrc h1 (by simp) (by simpa [List.flatMap_append] using hH)
/-! ### New rows -/
theorem makeL_some {b : Nat} {n : Int} (h : makeL b n e = some ys) : (0 ≤ n ∧ n ≤ n ∧ n ≤ 9223372036854775807 ∧ (b : Int) * n ≤ 281474976710656) ∧ ys = List.replicate n.toNat e := by
  unfold makeL at h
  split at h
  · rename_i hc; cases h; exact ⟨⟨hc.1, Int.le_refl _, hc.2⟩, rfl⟩
  · cases h
theorem zcells_rep (hc : CE c s) (hs : 0 < s) (n : Nat) : zcells (c e) (n * s) = (List.replicate n e).flatMap c := by
  refine List.ext_getElem? fun k => ?_
  have hl1 : (zcells (c e) (n * s)).length = n * s := by simp [zcells]
  have hl2 : ((List.replicate n e).flatMap c).length = n * s := by rw [hc.flat]; simp
  by_cases hk : k < n * s
  · have hq : k / s < n := Nat.div_lt_of_lt_mul (by rw [Nat.mul_comm]; exact hk)
    have hr : k % s < s := Nat.mod_lt _ hs
    have h1 : (zcells (c e) (n * s))[k]? = (c e)[k % s]? := by
      simp only [zcells, List.getElem?_map, List.getElem?_range hk, Option.map_some, hc.len]
      rw [List.getD_eq_getElem?_getD, List.getElem?_eq_getElem (by rw [hc.len]; exact hr)]; rfl
    have h2 := hc.one (xs := List.replicate n e) (k := k / s) (x := e) (by rw [List.getElem?_replicate, if_pos hq])
    rw [h1, ← h2, List.getElem?_take_of_lt hr, List.getElem?_drop]
    congr 1
    have := Nat.div_add_mod k s
    rw [Nat.mul_comm] at this; omega
  · rw [List.getElem?_eq_none (by omega), List.getElem?_eq_none (by omega)]
theorem tx_make {t el : TypeId} {b k : Nat} {z : Value} {kl kc : IntKind} {n : Int} {H' : AH} (hc : CE c s) (hu : und P t = some (.slice el)) (hs : sz P el = some s) (hb : bt P el = some b) (hz : zr P el = some z) (hzc : z.cells.toList = c e) (hzp : (c e).all plain1 = true) (hpos : 0 < s)
    (hx : ev Tm x = .int kl n) (hy : ev Tm y = .int kc n) (h : makeL b n e = some ys) (hk : He.next = k) (hH : He.alloc ⟨s, ys.flatMap c, false⟩ = H') : AExec P ⟨d, .makeSlice t x y, ty, pos, af, g⟩ ⟨n0, b0, Tm, Lo, He⟩ (FV k ys.length) Lo H' := by
  obtain ⟨h1, rfl⟩ := makeL_some h
  have := ex_make (n0 := n0) (b0 := b0) (Lo := Lo) (He := He) (d := d) (ty := ty) (pos := pos) (af := af) (g := g) (zs := (List.replicate n.toNat e).flatMap c) hu hs hb hz (by rw [hzc]; exact hzp) (by rw [← Array.length_toList, hzc, hc.len]) hpos hx hy h1 hk (by rw [hzc]; exact zcells_rep hc hpos _) hH
  simpa using this

/-! ### Freezing -/
theorem fzG {m k t : Nat} {T' : List (Nat × Value)} (hc : CE c (s + 1)) (hx : lk Tm t = some (GV m k)) (hn : k = xs.length) (q : FzT m ⟨s + 1, xs.flatMap c, true⟩ Tm T') : FzT m ⟨s + 1, xs.flatMap c, true⟩ Tm ((t, SL (s + 1) c xs) :: T') := by
  subst hn
  have hl := hc.flat xs
  exact FzT.conv hx rfl (by simp only; omega) (by simp only [List.drop_zero]; rw [List.take_of_length_le (by omega)]) (.inr ⟨rfl, rfl, rfl, by simp only; omega⟩) q
theorem fzF {m k t : Nat} {T' : List (Nat × Value)} (hc : CE c (s + 1)) (hx : lk Tm t = some (FV m k)) (hn : k = xs.length) (q : FzT m ⟨s + 1, xs.flatMap c, false⟩ Tm T') : FzT m ⟨s + 1, xs.flatMap c, false⟩ Tm ((t, SL (s + 1) c xs) :: T') := by
  subst hn
  have hl := hc.flat xs
  exact FzT.conv hx rfl (by simp only; omega) (by simp only [List.drop_zero]; rw [List.take_of_length_le (by omega)]) (.inl ⟨rfl, rfl⟩) q
end
end Go.Fhl
