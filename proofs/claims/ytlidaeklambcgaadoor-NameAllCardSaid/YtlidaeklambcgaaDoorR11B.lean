/- Types of the program, as Lean has them; facts on them. Written by a program. -/
import Derived.Test.YtlidaeklambcgaaDoorFS
import Derived.Test.YtlidaeklambcgaaDoorProg
import Derived.KernelRfl
set_option maxRecDepth 20000
namespace Go.Proofs
open Go Go.Fhl
set_option linter.unusedVariables false
set_option linter.unusedSimpArgs false
structure G_palimpmade_Picks where
  l : (List UInt8)
  n : Int
  deriving DecidableEq, Inhabited
def c_palimpmade_Picks (x : G_palimpmade_Picks) : List Value := [(SL 1 c8 x.l)] ++ ([(I x.n)])
theorem ce_palimpmade_Picks : CE c_palimpmade_Picks 2 := ⟨fun x => rfl, fun x => rfl⟩
theorem b_9 : bt Tryd.prog 9 = some 16 := by kernel_rfl
theorem e_9 : ElemOk Tryd.prog 9 1 16 := ⟨by kernel_rfl, by decide, by decide, ⟨(Value.string ByteArray.empty), by kernel_rfl, rfl⟩⟩
theorem en_10 : enterable Tryd.prog 10 = true := by kernel_rfl
theorem en_11 : enterable Tryd.prog 11 = true := by kernel_rfl
theorem en_12 : enterable Tryd.prog 12 = true := by kernel_rfl
theorem en_13 : enterable Tryd.prog 13 = true := by kernel_rfl
theorem en_14 : enterable Tryd.prog 14 = true := by kernel_rfl
theorem en_15 : enterable Tryd.prog 15 = true := by kernel_rfl
theorem en_16 : enterable Tryd.prog 16 = true := by kernel_rfl
theorem en_17 : enterable Tryd.prog 17 = true := by kernel_rfl
theorem en_18 : enterable Tryd.prog 18 = true := by kernel_rfl
theorem en_19 : enterable Tryd.prog 19 = true := by kernel_rfl
theorem en_20 : enterable Tryd.prog 20 = true := by kernel_rfl
theorem en_21 : enterable Tryd.prog 21 = true := by kernel_rfl
theorem en_25 : enterable Tryd.prog 25 = true := by kernel_rfl
theorem en_26 : enterable Tryd.prog 26 = true := by kernel_rfl
theorem en_27 : enterable Tryd.prog 27 = true := by kernel_rfl
theorem en_7 : enterable Tryd.prog 7 = true := by kernel_rfl
theorem en_8 : enterable Tryd.prog 8 = true := by kernel_rfl
theorem en_9 : enterable Tryd.prog 9 = true := by kernel_rfl
theorem mo : Tryd.prog.follows .mixedOrders = true := by kernel_rfl
theorem s_22 : sz Tryd.prog 22 = some 1 := by kernel_rfl
theorem s_3 : sz Tryd.prog 3 = some 1 := by kernel_rfl
theorem s_5 : sz Tryd.prog 5 = some 1 := by kernel_rfl
theorem s_9 : sz Tryd.prog 9 = some 1 := by kernel_rfl
theorem z_9 : zr Tryd.prog 9 = some (Value.string ByteArray.empty) := by kernel_rfl

end Go.Proofs
