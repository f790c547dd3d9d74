/-
  A logic over the model, part twenty: more operations on numbers and texts.
-/
import Derived.Test.YtpfbnghalpfoaaaDoorFQ
namespace Go.Fhl
set_option linter.unusedVariables false
set_option linter.unusedSimpArgs false
section
variable {P : Program} {t : TypeId} {xo yo : Operand} {a b : UInt32} {c d : UInt16} {e f : UInt8} {s u : Str} {x y : Int}
theorem eq32 : (((a.toNat : Int) == (b.toNat : Int)) : Bool) = (a == b) := by
  rw [Bool.eq_iff_iff, beq_iff_eq, beq_iff_eq, Int.natCast_inj, UInt32.toNat_inj]
theorem eq16 : (((c.toNat : Int) == (d.toNat : Int)) : Bool) = (c == d) := by
  rw [Bool.eq_iff_iff, beq_iff_eq, beq_iff_eq, Int.natCast_inj, UInt16.toNat_inj]
theorem eql32_ok : keep (abin P .eql t xo yo (U32 a) (U32 b)) = some (Bo (a == b)) := by rw [bin_eql, eq32]
theorem neq32_ok : keep (abin P .neq t xo yo (U32 a) (U32 b)) = some (Bo (a != b)) := by
  rw [bin_neq]; show some (Value.bool (!((a.toNat : Int) == (b.toNat : Int)))) = _; rw [eq32]; rfl
theorem eql16_ok : keep (abin P .eql t xo yo (U16 c) (U16 d)) = some (Bo (c == d)) := by rw [bin_eql, eq16]
theorem neq16_ok : keep (abin P .neq t xo yo (U16 c) (U16 d)) = some (Bo (c != d)) := by
  rw [bin_neq]; show some (Value.bool (!((c.toNat : Int) == (d.toNat : Int)))) = _; rw [eq16]; rfl
theorem lss32_ok : keep (abin P .lss t xo yo (U32 a) (U32 b)) = some (Bo (decide (a < b))) := by
  rw [bin_lss]; congr 2; rw [decide_eq_decide, UInt32.lt_iff_toNat_lt]; omega
theorem gtr32_ok : keep (abin P .gtr t xo yo (U32 a) (U32 b)) = some (Bo (decide (a > b))) := by
  rw [bin_gtr]; congr 2; rw [decide_eq_decide, gt_iff_lt, gt_iff_lt, UInt32.lt_iff_toNat_lt]; omega
theorem lss16_ok : keep (abin P .lss t xo yo (U16 c) (U16 d)) = some (Bo (decide (c < d))) := by
  rw [bin_lss]; congr 2; rw [decide_eq_decide, UInt16.lt_iff_toNat_lt]; omega
theorem gtr16_ok : keep (abin P .gtr t xo yo (U16 c) (U16 d)) = some (Bo (decide (c > d))) := by
  rw [bin_gtr]; congr 2; rw [decide_eq_decide, gt_iff_lt, gt_iff_lt, UInt16.lt_iff_toNat_lt]; omega
def quo32 (a b : UInt32) : Option UInt32 := if b = 0 then none else some (a / b)
theorem quo32_ok {z : UInt32} (h : quo32 a b = some z) : keep (abin P .quo t xo yo (U32 a) (U32 b)) = some (U32 z) := by
  unfold quo32 at h
  split at h
  · cases h
  · rename_i hb
    cases h
    have : (b.toNat : Int) ≠ 0 := fun e => hb (UInt32.toNat_inj.1 (by simpa using e))
    have h2 : ((a.toNat : Int).tdiv b.toNat) = ((a.toNat / b.toNat : Nat) : Int) := rfl
    have hl : a.toNat / b.toNat < 4294967296 := Nat.lt_of_le_of_lt (Nat.div_le_self _ _) a.toNat_lt
    rw [bin_quo this, h2, wrap32_nat hl]
    show _ = some (Value.int .u32 ((a / b).toNat : Int))
    rw [UInt32.toNat_div]
def rem32 (a b : UInt32) : Option UInt32 := if b = 0 then none else some (a % b)
theorem rem32_ok {z : UInt32} (h : rem32 a b = some z) : keep (abin P .rem t xo yo (U32 a) (U32 b)) = some (U32 z) := by
  unfold rem32 at h
  split at h
  · cases h
  · rename_i hb
    cases h
    have : (b.toNat : Int) ≠ 0 := fun e => hb (UInt32.toNat_inj.1 (by simpa using e))
    rw [bin_rem this]
    show _ = some (Value.int .u32 ((a % b).toNat : Int))
    rw [UInt32.toNat_mod]; rfl
/-- One text stands ahead of another one. -/
def ltS (s u : Str) : Bool := Op.bytesLess s u
theorem bin_lssS {s u : ByteArray} : keep (abin P .lss t xo yo (.string s) (.string u)) = some (.bool (Op.bytesLess s.toList u.toList)) := rfl
theorem bin_leqS {s u : ByteArray} : keep (abin P .leq t xo yo (.string s) (.string u)) = some (.bool (Op.bytesLess s.toList u.toList || s.toList == u.toList)) := rfl
theorem bin_gtrS {s u : ByteArray} : keep (abin P .gtr t xo yo (.string s) (.string u)) = some (.bool (!(Op.bytesLess s.toList u.toList || s.toList == u.toList))) := rfl
theorem bin_geqS {s u : ByteArray} : keep (abin P .geq t xo yo (.string s) (.string u)) = some (.bool (!Op.bytesLess s.toList u.toList)) := rfl
theorem lssS_ok : keep (abin P .lss t xo yo (S s) (S u)) = some (Bo (ltS s u)) := by rw [bin_lssS, sB_toList, sB_toList]; rfl
theorem leqS_ok : keep (abin P .leq t xo yo (S s) (S u)) = some (Bo (ltS s u || s == u)) := by rw [bin_leqS, sB_toList, sB_toList]; rfl
theorem gtrS_ok : keep (abin P .gtr t xo yo (S s) (S u)) = some (Bo (!(ltS s u || s == u))) := by rw [bin_gtrS, sB_toList, sB_toList]; rfl
theorem geqS_ok : keep (abin P .geq t xo yo (S s) (S u)) = some (Bo (!ltS s u)) := by rw [bin_geqS, sB_toList, sB_toList]; rfl
end
section
variable {P : Program} {n0 b0 : Nat} {Tm : List (Nat × Value)} {Lo : List (List Value)} {He : AH} {v : Value} {x y : Operand} {d : Option Tmp} {ty : TypeId} {pos : String} {af : Array Edge} {g : Option (Nat × Bool)}
theorem tx_32_8 {src dst : TypeId} {ds : TypeDesc} {n : UInt32} (hs : und P src = some ds) (hd : und P dst = some (.int .u8)) (hx : ev Tm x = U32 n) : AExec P ⟨d, .convert src dst x, ty, pos, af, g⟩ ⟨n0, b0, Tm, Lo, He⟩ (U8 (UInt8.ofInt (n.toNat : Int))) Lo He := by
  have := ex_convInt (n0 := n0) (b0 := b0) (Lo := Lo) (He := He) (d := d) (ty := ty) (pos := pos) (af := af) (g := g) hs hd hx
  rwa [wrap_u8] at this
theorem tx_16_8 {src dst : TypeId} {ds : TypeDesc} {n : UInt16} (hs : und P src = some ds) (hd : und P dst = some (.int .u8)) (hx : ev Tm x = U16 n) : AExec P ⟨d, .convert src dst x, ty, pos, af, g⟩ ⟨n0, b0, Tm, Lo, He⟩ (U8 (UInt8.ofInt (n.toNat : Int))) Lo He := by
  have := ex_convInt (n0 := n0) (b0 := b0) (Lo := Lo) (He := He) (d := d) (ty := ty) (pos := pos) (af := af) (g := g) hs hd hx
  rwa [wrap_u8] at this
end
end Go.Fhl
