/- Types of the program, as Lean has them; facts on them. Written by a program. -/
import Derived.Test.YtmhfodjiefednaaFHd1
import Derived.Test.YtmhfodjiefednaaGA
import Derived.Test.YtmhfodjiefednaaGB
import Derived.Test.YtmhfodjiefednaaGC
import Derived.Test.YtmhfodjiefednaaProg
import Derived.KernelRfl
set_option maxRecDepth 20000
namespace Go.Proofs
open Go Go.Fhl
set_option linter.unusedVariables false
set_option linter.unusedSimpArgs false
structure GPt where
  Addr : Int
  Birth : Int
  Sum : (A4 UInt32)
  deriving DecidableEq, Inhabited
def cPt (x : GPt) : List Value := [(I x.Addr)] ++ ([(I x.Birth)] ++ ((cA4 c32) x.Sum))
theorem ce_api_Ptr : CE cPt 6 := ⟨fun x => rfl, fun x => rfl⟩
structure GUb where
  Txg : Int
  Guid : Int
  Seat : Int
  Root : GPt
  deriving DecidableEq, Inhabited
def cUb (x : GUb) : List Value := [(I x.Txg)] ++ ([(I x.Guid)] ++ ([(I x.Seat)] ++ (cPt x.Root)))
theorem ce_api_Uber : CE cUb 9 := ⟨fun x => rfl, fun x => rfl⟩
structure G_uber_root where
  Uber : GUb
  deriving DecidableEq, Inhabited
def c_uber_root (x : G_uber_root) : List Value := cUb x.Uber
structure G_ptr_pointer where
  Ptr : GPt
  deriving DecidableEq, Inhabited
def c_ptr_pointer (x : G_ptr_pointer) : List Value := cPt x.Ptr
structure GPu where
  At : Int
  B : Str
  deriving DecidableEq, Inhabited
def cPu (x : GPu) : List Value := [(I x.At)] ++ ([(S x.B)])
theorem ce_api_Put : CE cPu 2 := ⟨fun x => rfl, fun x => rfl⟩
structure GDv where
  Last : (List Str)
  Wait : (List GPu)
  Lies : Int
  Arm : Int
  Down : Bool
  deriving DecidableEq, Inhabited
def cDv (x : GDv) : List Value := [(SL 1 cS x.Last)] ++ ([(SL 2 cPu x.Wait)] ++ ([(I x.Lies)] ++ ([(I x.Arm)] ++ ([(Bo x.Down)]))))
theorem ce_api_Dev : CE cDv 5 := ⟨fun x => rfl, fun x => rfl⟩
theorem b_3 : bt Try.prog 3 = some 8 := by kernel_rfl
theorem b_5 : bt Try.prog 5 = some 1 := by kernel_rfl
theorem e_3 : ElemOk Try.prog 3 1 8 := ⟨by kernel_rfl, by decide, by decide, ⟨(Value.int .i64 0), by kernel_rfl, rfl⟩⟩
theorem e_35 : ElemOk Try.prog 35 6 32 := ⟨by kernel_rfl, by decide, by decide, ⟨(Value.agg #[(Value.int .i64 0), (Value.int .i64 0), (Value.int .u32 0), (Value.int .u32 0), (Value.int .u32 0), (Value.int .u32 0)]), by kernel_rfl, rfl⟩⟩
theorem e_37 : ElemOk Try.prog 37 9 56 := ⟨by kernel_rfl, by decide, by decide, ⟨(Value.agg #[(Value.int .i64 0), (Value.int .i64 0), (Value.int .i64 0), (Value.int .i64 0), (Value.int .i64 0), (Value.int .u32 0), (Value.int .u32 0), (Value.int .u32 0), (Value.int .u32 0)]), by kernel_rfl, rfl⟩⟩
theorem e_44 : ElemOk Try.prog 44 2 24 := ⟨by kernel_rfl, by decide, by decide, ⟨(Value.agg #[(Value.int .i64 0), (Value.string ByteArray.empty)]), by kernel_rfl, rfl⟩⟩
theorem e_5 : ElemOk Try.prog 5 1 1 := ⟨by kernel_rfl, by decide, by decide, ⟨(Value.int .u8 0), by kernel_rfl, rfl⟩⟩
theorem e_9 : ElemOk Try.prog 9 1 16 := ⟨by kernel_rfl, by decide, by decide, ⟨(Value.string ByteArray.empty), by kernel_rfl, rfl⟩⟩
theorem en_10 : enterable Try.prog 10 = true := by kernel_rfl
theorem en_11 : enterable Try.prog 11 = true := by kernel_rfl
theorem en_12 : enterable Try.prog 12 = true := by kernel_rfl
theorem en_13 : enterable Try.prog 13 = true := by kernel_rfl
theorem en_14 : enterable Try.prog 14 = true := by kernel_rfl
theorem en_15 : enterable Try.prog 15 = true := by kernel_rfl
theorem en_16 : enterable Try.prog 16 = true := by kernel_rfl
theorem en_17 : enterable Try.prog 17 = true := by kernel_rfl
theorem en_18 : enterable Try.prog 18 = true := by kernel_rfl
theorem en_19 : enterable Try.prog 19 = true := by kernel_rfl
theorem en_20 : enterable Try.prog 20 = true := by kernel_rfl
theorem en_21 : enterable Try.prog 21 = true := by kernel_rfl
theorem en_22 : enterable Try.prog 22 = true := by kernel_rfl
theorem en_23 : enterable Try.prog 23 = true := by kernel_rfl
theorem en_24 : enterable Try.prog 24 = true := by kernel_rfl
theorem en_25 : enterable Try.prog 25 = true := by kernel_rfl
theorem en_26 : enterable Try.prog 26 = true := by kernel_rfl
theorem en_27 : enterable Try.prog 27 = true := by kernel_rfl
theorem en_28 : enterable Try.prog 28 = true := by kernel_rfl
theorem en_29 : enterable Try.prog 29 = true := by kernel_rfl
theorem en_30 : enterable Try.prog 30 = true := by kernel_rfl
theorem en_31 : enterable Try.prog 31 = true := by kernel_rfl
theorem en_32 : enterable Try.prog 32 = true := by kernel_rfl
theorem en_33 : enterable Try.prog 33 = true := by kernel_rfl
theorem en_34 : enterable Try.prog 34 = true := by kernel_rfl
theorem en_35 : enterable Try.prog 35 = true := by kernel_rfl
theorem en_36 : enterable Try.prog 36 = true := by kernel_rfl
theorem en_37 : enterable Try.prog 37 = true := by kernel_rfl
theorem en_38 : enterable Try.prog 38 = true := by kernel_rfl
theorem en_39 : enterable Try.prog 39 = true := by kernel_rfl
theorem en_40 : enterable Try.prog 40 = true := by kernel_rfl
theorem en_41 : enterable Try.prog 41 = true := by kernel_rfl
theorem en_42 : enterable Try.prog 42 = true := by kernel_rfl
theorem en_43 : enterable Try.prog 43 = true := by kernel_rfl
theorem en_44 : enterable Try.prog 44 = true := by kernel_rfl
theorem en_45 : enterable Try.prog 45 = true := by kernel_rfl
theorem en_46 : enterable Try.prog 46 = true := by kernel_rfl
theorem en_47 : enterable Try.prog 47 = true := by kernel_rfl
theorem en_48 : enterable Try.prog 48 = true := by kernel_rfl
theorem en_49 : enterable Try.prog 49 = true := by kernel_rfl
theorem en_50 : enterable Try.prog 50 = true := by kernel_rfl
theorem en_51 : enterable Try.prog 51 = true := by kernel_rfl
theorem en_52 : enterable Try.prog 52 = true := by kernel_rfl
theorem en_53 : enterable Try.prog 53 = true := by kernel_rfl
theorem en_54 : enterable Try.prog 54 = true := by kernel_rfl
theorem en_57 : enterable Try.prog 57 = true := by kernel_rfl
theorem en_58 : enterable Try.prog 58 = true := by kernel_rfl
theorem en_59 : enterable Try.prog 59 = true := by kernel_rfl
theorem en_60 : enterable Try.prog 60 = true := by kernel_rfl
theorem en_61 : enterable Try.prog 61 = true := by kernel_rfl
theorem en_62 : enterable Try.prog 62 = true := by kernel_rfl
theorem en_63 : enterable Try.prog 63 = true := by kernel_rfl
theorem en_64 : enterable Try.prog 64 = true := by kernel_rfl
theorem en_65 : enterable Try.prog 65 = true := by kernel_rfl
theorem en_66 : enterable Try.prog 66 = true := by kernel_rfl
theorem en_67 : enterable Try.prog 67 = true := by kernel_rfl
theorem en_68 : enterable Try.prog 68 = true := by kernel_rfl
theorem en_69 : enterable Try.prog 69 = true := by kernel_rfl
theorem en_71 : enterable Try.prog 71 = true := by kernel_rfl
theorem en_72 : enterable Try.prog 72 = true := by kernel_rfl
theorem en_73 : enterable Try.prog 73 = true := by kernel_rfl
theorem en_83 : enterable Try.prog 83 = true := by kernel_rfl
theorem en_84 : enterable Try.prog 84 = true := by kernel_rfl
theorem en_85 : enterable Try.prog 85 = true := by kernel_rfl
theorem en_9 : enterable Try.prog 9 = true := by kernel_rfl
theorem en_91 : enterable Try.prog 91 = true := by kernel_rfl
theorem mo : Try.prog.follows .mixedOrders = true := by kernel_rfl
theorem s_105 : sz Try.prog 105 = some 6 := by kernel_rfl
theorem s_26 : sz Try.prog 26 = some 1 := by kernel_rfl
theorem s_27 : sz Try.prog 27 = some 1 := by kernel_rfl
theorem s_29 : sz Try.prog 29 = some 5 := by kernel_rfl
theorem s_3 : sz Try.prog 3 = some 1 := by kernel_rfl
theorem s_31 : sz Try.prog 31 = some 1 := by kernel_rfl
theorem s_33 : sz Try.prog 33 = some 4 := by kernel_rfl
theorem s_35 : sz Try.prog 35 = some 6 := by kernel_rfl
theorem s_37 : sz Try.prog 37 = some 9 := by kernel_rfl
theorem s_39 : sz Try.prog 39 = some 4 := by kernel_rfl
theorem s_4 : sz Try.prog 4 = some 1 := by kernel_rfl
theorem s_44 : sz Try.prog 44 = some 2 := by kernel_rfl
theorem s_5 : sz Try.prog 5 = some 1 := by kernel_rfl
theorem s_83 : sz Try.prog 83 = some 9 := by kernel_rfl
theorem s_9 : sz Try.prog 9 = some 1 := by kernel_rfl
theorem z_105 : zr Try.prog 105 = some (Value.agg #[(Value.int .i64 0), (Value.int .i64 0), (Value.int .u32 0), (Value.int .u32 0), (Value.int .u32 0), (Value.int .u32 0)]) := by kernel_rfl
theorem z_29 : zr Try.prog 29 = some (Value.agg #[(Value.slice none 0 0), (Value.slice none 0 0), (Value.int .i64 0), (Value.int .i64 0), (Value.bool false)]) := by kernel_rfl
theorem z_3 : zr Try.prog 3 = some (Value.int .i64 0) := by kernel_rfl
theorem z_33 : zr Try.prog 33 = some (Value.agg #[(Value.int .u32 0), (Value.int .u32 0), (Value.int .u32 0), (Value.int .u32 0)]) := by kernel_rfl
theorem z_35 : zr Try.prog 35 = some (Value.agg #[(Value.int .i64 0), (Value.int .i64 0), (Value.int .u32 0), (Value.int .u32 0), (Value.int .u32 0), (Value.int .u32 0)]) := by kernel_rfl
theorem z_37 : zr Try.prog 37 = some (Value.agg #[(Value.int .i64 0), (Value.int .i64 0), (Value.int .i64 0), (Value.int .i64 0), (Value.int .i64 0), (Value.int .u32 0), (Value.int .u32 0), (Value.int .u32 0), (Value.int .u32 0)]) := by kernel_rfl
theorem z_44 : zr Try.prog 44 = some (Value.agg #[(Value.int .i64 0), (Value.string ByteArray.empty)]) := by kernel_rfl
theorem z_5 : zr Try.prog 5 = some (Value.int .u8 0) := by kernel_rfl
theorem z_83 : zr Try.prog 83 = some (Value.agg #[(Value.int .i64 0), (Value.int .i64 0), (Value.int .i64 0), (Value.int .i64 0), (Value.int .i64 0), (Value.int .u32 0), (Value.int .u32 0), (Value.int .u32 0), (Value.int .u32 0)]) := by kernel_rfl
theorem eqt_33 {d : Nat} {a b : (A4 UInt32)} : EqT Try.prog (d + 2) 33 (.agg ((cA4 c32) a).toArray) (.agg ((cA4 c32) b).toArray) (decide (a = b)) := by
  obtain ⟨a0, a1, a2, a3⟩ := a
  obtain ⟨b0, b1, b2, b3⟩ := b
  have h := eqt_array (P := Try.prog) (d := d + 1) (xs := ((cA4 c32) ⟨a0, a1, a2, a3⟩).toArray) (ys := ((cA4 c32) ⟨b0, b1, b2, b3⟩).toArray) Try.underlying33 s_31 (eqa_cons (vx := (U32 a0)) (vy := (U32 b0)) (by kernel_rfl) (by kernel_rfl) (eqt_U32 Try.underlying31) (eqa_cons (vx := (U32 a1)) (vy := (U32 b1)) (by kernel_rfl) (by kernel_rfl) (eqt_U32 Try.underlying31) (eqa_cons (vx := (U32 a2)) (vy := (U32 b2)) (by kernel_rfl) (by kernel_rfl) (eqt_U32 Try.underlying31) (eqa_cons (vx := (U32 a3)) (vy := (U32 b3)) (by kernel_rfl) (by kernel_rfl) (eqt_U32 Try.underlying31) eqa_nil))))
  have e : (decide (a0 = b0) && (decide (a1 = b1) && (decide (a2 = b2) && (decide (a3 = b3) && (true))))) = decide ((A4.mk a0 a1 a2 a3) = (A4.mk b0 b1 b2 b3)) := by
    rw [Bool.eq_iff_iff]; simp [and_assoc]
  rw [e] at h; exact h
theorem eqt_35 {d : Nat} {a b : GPt} : EqT Try.prog (d + 3) 35 (.agg (cPt a).toArray) (.agg (cPt b).toArray) (decide (a = b)) := by
  obtain ⟨a0, a1, a2⟩ := a
  obtain ⟨b0, b1, b2⟩ := b
  have h := eqt_struct (P := Try.prog) (d := d + 2) (xs := (cPt ⟨a0, a1, a2⟩).toArray) (ys := (cPt ⟨b0, b1, b2⟩).toArray) Try.underlying35 (by kernel_rfl) (eqf_cons (vx := (I a0)) (vy := (I b0)) (by decide) (by kernel_rfl) (by kernel_rfl) (eqt_I Try.underlying3) (eqf_cons (vx := (I a1)) (vy := (I b1)) (by decide) (by kernel_rfl) (by kernel_rfl) (eqt_I Try.underlying3) (eqf_cons (vx := (Value.agg ((cA4 c32) a2).toArray)) (vy := (Value.agg ((cA4 c32) b2).toArray)) (by decide) (by kernel_rfl) (by kernel_rfl) eqt_33 eqf_nil)))
  have e : (decide (a0 = b0) && (decide (a1 = b1) && (decide (a2 = b2) && (true)))) = decide ((GPt.mk a0 a1 a2) = (GPt.mk b0 b1 b2)) := by
    rw [Bool.eq_iff_iff]; simp [and_assoc]
  rw [e] at h; exact h
theorem eql_35 {xo yo : Operand} {a b : GPt} : keep (abin Try.prog .eql 35 xo yo (.agg (cPt a).toArray) (.agg (cPt b).toArray)) = some (Bo (decide (a = b))) :=
  eql_of rfl rfl (by kernel_rfl) (eqt_35 (d := 9997))
theorem neq_35 {xo yo : Operand} {a b : GPt} : keep (abin Try.prog .neq 35 xo yo (.agg (cPt a).toArray) (.agg (cPt b).toArray)) = some (Bo (!decide (a = b))) :=
  neq_of rfl rfl (by kernel_rfl) (eqt_35 (d := 9997))
theorem eqt_37 {d : Nat} {a b : GUb} : EqT Try.prog (d + 4) 37 (.agg (cUb a).toArray) (.agg (cUb b).toArray) (decide (a = b)) := by
  obtain ⟨a0, a1, a2, a3⟩ := a
  obtain ⟨b0, b1, b2, b3⟩ := b
  have h := eqt_struct (P := Try.prog) (d := d + 3) (xs := (cUb ⟨a0, a1, a2, a3⟩).toArray) (ys := (cUb ⟨b0, b1, b2, b3⟩).toArray) Try.underlying37 (by kernel_rfl) (eqf_cons (vx := (I a0)) (vy := (I b0)) (by decide) (by kernel_rfl) (by kernel_rfl) (eqt_I Try.underlying3) (eqf_cons (vx := (I a1)) (vy := (I b1)) (by decide) (by kernel_rfl) (by kernel_rfl) (eqt_I Try.underlying3) (eqf_cons (vx := (I a2)) (vy := (I b2)) (by decide) (by kernel_rfl) (by kernel_rfl) (eqt_I Try.underlying3) (eqf_cons (vx := (Value.agg (cPt a3).toArray)) (vy := (Value.agg (cPt b3).toArray)) (by decide) (by kernel_rfl) (by kernel_rfl) eqt_35 eqf_nil))))
  have e : (decide (a0 = b0) && (decide (a1 = b1) && (decide (a2 = b2) && (decide (a3 = b3) && (true))))) = decide ((GUb.mk a0 a1 a2 a3) = (GUb.mk b0 b1 b2 b3)) := by
    rw [Bool.eq_iff_iff]; simp [and_assoc]
  rw [e] at h; exact h
theorem eql_37 {xo yo : Operand} {a b : GUb} : keep (abin Try.prog .eql 37 xo yo (.agg (cUb a).toArray) (.agg (cUb b).toArray)) = some (Bo (decide (a = b))) :=
  eql_of rfl rfl (by kernel_rfl) (eqt_37 (d := 9996))
theorem neq_37 {xo yo : Operand} {a b : GUb} : keep (abin Try.prog .neq 37 xo yo (.agg (cUb a).toArray) (.agg (cUb b).toArray)) = some (Bo (!decide (a = b))) :=
  neq_of rfl rfl (by kernel_rfl) (eqt_37 (d := 9996))
theorem eqt_44 {d : Nat} {a b : GPu} : EqT Try.prog (d + 2) 44 (.agg (cPu a).toArray) (.agg (cPu b).toArray) (decide (a = b)) := by
  obtain ⟨a0, a1⟩ := a
  obtain ⟨b0, b1⟩ := b
  have h := eqt_struct (P := Try.prog) (d := d + 1) (xs := (cPu ⟨a0, a1⟩).toArray) (ys := (cPu ⟨b0, b1⟩).toArray) Try.underlying44 (by kernel_rfl) (eqf_cons (vx := (I a0)) (vy := (I b0)) (by decide) (by kernel_rfl) (by kernel_rfl) (eqt_I Try.underlying3) (eqf_cons (vx := (S a1)) (vy := (S b1)) (by decide) (by kernel_rfl) (by kernel_rfl) (eqt_S Try.underlying9) eqf_nil))
  have e : (decide (a0 = b0) && (decide (a1 = b1) && (true))) = decide ((GPu.mk a0 a1) = (GPu.mk b0 b1)) := by
    rw [Bool.eq_iff_iff]; simp [and_assoc]
  rw [e] at h; exact h
theorem neq_44 {xo yo : Operand} {a b : GPu} : keep (abin Try.prog .neq 44 xo yo (.agg (cPu a).toArray) (.agg (cPu b).toArray)) = some (Bo (!decide (a = b))) :=
  neq_of rfl rfl (by kernel_rfl) (eqt_44 (d := 9998))
end Go.Proofs
