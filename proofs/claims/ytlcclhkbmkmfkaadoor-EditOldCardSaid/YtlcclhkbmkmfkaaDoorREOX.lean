/- Functions of the library. -/
import Derived.Test.YtlcclhkbmkmfkaaDoorFHd1
import Derived.Test.YtlcclhkbmkmfkaaDoorShelf
set_option maxRecDepth 20000
namespace Go.Proofs
open Go Go.Fhl
noncomputable abbrev M_strings_Compare (t0 t1 : Str) : Option Int := M_compare t0 t1
theorem ok_strings_Compare (t0 t1 : Str) (r : Int) (h : M_strings_Compare t0 t1 = some r) : FFn Tryd.prog 38 [S t0, S t1] (I r) := ffn_compare Tryd.strings_Compare t0 t1 r h

noncomputable abbrev M_math_bits_Len (t0 : UInt64) : Option Int := M_bitLen t0
theorem ok_math_bits_Len (t0 : UInt64) (r : Int) (h : M_math_bits_Len t0 = some r) : FFn Tryd.prog 54 [U64 t0] (I r) := ffn_bitLen Tryd.bits_Len t0 r h

noncomputable abbrev M_strings_explode (t0 : Str) (t1 : Int) : Option (List Str) := none
theorem ok_strings_explode (t0 : Str) (t1 : Int) (r : List Str) (h : M_strings_explode t0 t1 = some r) : FFn Tryd.prog 80 [S t0, I t1] (SL 1 cS r) := by cases h

noncomputable abbrev M_strings_Count (t0 t1 : Str) : Option Int := M_count t0 t1
theorem ok_strings_Count (t0 t1 : Str) (r : Int) (h : M_strings_Count t0 t1 = some r) : FFn Tryd.prog 81 [S t0, S t1] (I r) := ffn_count Tryd.strings_Count_one t0 t1 r h

noncomputable abbrev M_strings_Index (t0 t1 : Str) : Option Int := M_index t0 t1
theorem ok_strings_Index (t0 t1 : Str) (r : Int) (h : M_strings_Index t0 t1 = some r) : FFn Tryd.prog 82 [S t0, S t1] (I r) := ffn_index Tryd.strings_Index_one t0 t1 r h

noncomputable abbrev M_strings_IndexByte (t0 : Str) (t1 : UInt8) : Option Int := M_indexByte t0 t1
theorem ok_strings_IndexByte (t0 : Str) (t1 : UInt8) (r : Int) (h : M_strings_IndexByte t0 t1 = some r) : FFn Tryd.prog 83 [S t0, U8 t1] (I r) := ffn_indexByte Tryd.strings_IndexByte t0 t1 r h
end Go.Proofs
