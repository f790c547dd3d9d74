/- Functions of the library. -/
import Derived.Test.YtpfbnghalpfoaaaGreatDoorFHd1
import Derived.Test.YtpfbnghalpfoaaaGreatDoorShelf
set_option maxRecDepth 20000
namespace Go.Proofs
open Go Go.Fhl
noncomputable abbrev M_strings_Compare (t0 t1 : Str) : Option Int := M_compare t0 t1
theorem ok_strings_Compare (t0 t1 : Str) (r : Int) (h : M_strings_Compare t0 t1 = some r) : FFn Tryz.prog 37 [S t0, S t1] (I r) := ffn_compare Tryz.strings_Compare t0 t1 r h

noncomputable abbrev M_math_bits_Len (t0 : UInt64) : Option Int := M_bitLen t0
theorem ok_math_bits_Len (t0 : UInt64) (r : Int) (h : M_math_bits_Len t0 = some r) : FFn Tryz.prog 51 [U64 t0] (I r) := ffn_bitLen Tryz.bits_Len t0 r h

noncomputable abbrev M_strings_IndexByte (t0 : Str) (t1 : UInt8) : Option Int := M_indexByte t0 t1
theorem ok_strings_IndexByte (t0 : Str) (t1 : UInt8) (r : Int) (h : M_strings_IndexByte t0 t1 = some r) : FFn Tryz.prog 89 [S t0, U8 t1] (I r) := ffn_indexByte Tryz.strings_IndexByte t0 t1 r h
end Go.Proofs
