/-
  A logic over the model, part nineteen: more functions of the library.
-/
import Derived.Test.YtpfbnghalpfoaaaDoorFR
import Derived.Test.YtpfbnghalpfoaaaDoorFY
import Derived.Lib.Bytealg
namespace Go.Fhl
open Go.RowKit
set_option linter.unusedVariables false
set_option linter.unusedSimpArgs false
/-! ### Guards that are known -/
theorem gT {x : Option Bool} {g : Bool} (h : x = some g) (hc : g = true) : x = some true := by rw [h, hc]
theorem gF {x : Option Bool} {g : Bool} (h : x = some g) (hc : g = false) : x = some false := by rw [h, hc]
theorem pkOrD {c a : Bool} : cond c (Value.bool true) (.bool a) = Value.bool (c || a) := by cases c <;> rfl
theorem pkAndD {c a : Bool} : cond c (Value.bool a) (.bool false) = Value.bool (c && a) := by cases c <;> rfl
theorem pkOrS {c : Bool} {w : Value} (h : (c == false) = false) : cond c (.bool true) w = Value.bool c := by cases c <;> first | rfl | cases h
theorem pkAndS {c : Bool} {w : Value} (h : (c == true) = false) : cond c w (.bool false) = Value.bool c := by cases c <;> first | rfl | cases h
theorem pkOrSN {g c : Bool} {w : Value} (h : (g && (c == false)) = false) (hg : g = true) : cond c (.bool true) w = Value.bool c := by subst hg; cases c <;> first | rfl | cases h
theorem pkAndSN {g c : Bool} {w : Value} (h : (g && (c == true)) = false) (hg : g = true) : cond c w (.bool false) = Value.bool c := by subst hg; cases c <;> first | rfl | cases h
/-- strings.IndexByte. -/
def M_indexByte (s : Str) (c : UInt8) : Option Int := some (Lib.indexByte s c)
theorem ffn_indexByte {P : Program} {f : FuncId}
    (h1 : ∀ (s : ByteArray) (c : Int) (w : World), Calls P f #[.string s, .int .u8 c] w fun e w' => e = .returned (.int .i64 (Lib.indexByte s.data.toList c.toNat.toUInt8)) ∧ w' = w)
    (t0 : Str) (t1 : UInt8) (r : Int) (h : M_indexByte t0 t1 = some r) : FFn P f [S t0, U8 t1] (I r) := by
  cases h
  refine ffn_of_below rfl fun hm w0 U w cargs hr ha => ?_
  rw [args2 (by rfl) (by rfl) ha]
  refine (h1 (sB t0) (t1.toNat : Int) w).mono fun e w' ⟨he, hw⟩ => ⟨?_, hw ▸ Below.refl _ _⟩
  rw [he, sB_data, Int.toNat_natCast]
  have : t1.toNat.toUInt8 = t1 := by simp
  rw [this]
/-- strings.Index, where one byte is looked for. -/
def M_index (s t : Str) : Option Int := match t with | [c] => some (Lib.indexByte s c) | _ => none
theorem ffn_index {P : Program} {f : FuncId}
    (h1 : ∀ (s : ByteArray) (c : UInt8) (w : World), Calls P f #[.string s, .string ⟨#[c]⟩] w fun e w' => e = .returned (.int .i64 (Lib.indexByte s.data.toList c)) ∧ w' = w)
    (t0 : Str) (t1 : Str) (r : Int) (h : M_index t0 t1 = some r) : FFn P f [S t0, S t1] (I r) := by
  unfold M_index at h
  split at h
  · rename_i c
    cases h
    refine ffn_of_below rfl fun hm w0 U w cargs hr ha => ?_
    rw [args2 (by rfl) (by rfl) ha]
    refine (h1 (sB t0) c w).mono fun e w' ⟨he, hw⟩ => ⟨?_, hw ▸ Below.refl _ _⟩
    rw [he, sB_data]
  · cases h
/-- strings.Count, where one byte is counted. -/
def M_count (s t : Str) : Option Int := match t with | [c] => some (Lib.countByte s c : Int) | _ => none
theorem ffn_count {P : Program} {f : FuncId}
    (h1 : ∀ (s : ByteArray) (c : UInt8) (w : World), Calls P f #[.string s, .string ⟨#[c]⟩] w fun e w' => e = .returned (.int .i64 (Lib.countByte s.data.toList c)) ∧ w' = w)
    (t0 : Str) (t1 : Str) (r : Int) (h : M_count t0 t1 = some r) : FFn P f [S t0, S t1] (I r) := by
  unfold M_count at h
  split at h
  · rename_i c
    cases h
    refine ffn_of_below rfl fun hm w0 U w cargs hr ha => ?_
    rw [args2 (by rfl) (by rfl) ha]
    refine (h1 (sB t0) c w).mono fun e w' ⟨he, hw⟩ => ⟨?_, hw ▸ Below.refl _ _⟩
    rw [he, sB_data]
  · cases h
end Go.Fhl
