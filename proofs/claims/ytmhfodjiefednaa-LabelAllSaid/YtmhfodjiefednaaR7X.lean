/- Functions of the library. -/
import Derived.Test.YtmhfodjiefednaaFHd1
import Derived.Test.YtmhfodjiefednaaShelf
set_option maxRecDepth 20000
namespace Go.Proofs
open Go Go.Fhl
noncomputable abbrev M_math_bits_Len (t0 : UInt64) : Option Int := M_bitLen t0
theorem ok_math_bits_Len (t0 : UInt64) (r : Int) (h : M_math_bits_Len t0 = some r) : FFn Try.prog 63 [U64 t0] (I r) := ffn_bitLen Try.bits_Len t0 r h

noncomputable abbrev M_strings_Repeat (t0 : Str) (t1 : Int) : Option Str := M_repeat t0 t1
theorem ok_strings_Repeat (t0 : Str) (t1 : Int) (r : Str) (h : M_strings_Repeat t0 t1 = some r) : FFn Try.prog 84 [S t0, I t1] (S r) := ffn_repeat Try.strings_Repeat t0 t1 r h

noncomputable abbrev M_strings_Join (t0 : List Str) (t1 : Str) : Option Str := M_join t0 t1
theorem ok_strings_Join (t0 : List Str) (t1 : Str) (r : Str) (h : M_strings_Join t0 t1 = some r) : FFn Try.prog 91 [SL 1 cS t0, S t1] (S r) := ffn_join Try.strings_Join_none Try.strings_Join t0 t1 r h
end Go.Proofs
