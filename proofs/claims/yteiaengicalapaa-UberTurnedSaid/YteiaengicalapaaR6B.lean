/- Types of the program, as Lean has them; facts on them. Written by a program. -/
import Derived.Test.YteiaengicalapaaFQ
import Derived.Test.YteiaengicalapaaProg
import Derived.KernelRfl
set_option maxRecDepth 20000
namespace Go.Proofs
open Go Go.Fhl
set_option linter.unusedVariables false
set_option linter.unusedSimpArgs false
structure G_api_Ptr where
  Addr : Int
  Birth : Int
  Sum : (A4 UInt32)
  deriving DecidableEq, Inhabited
def c_api_Ptr (x : G_api_Ptr) : List Value := [(I x.Addr)] ++ ([(I x.Birth)] ++ ((cA4 c32) x.Sum))
theorem ce_api_Ptr : CE c_api_Ptr 6 := ⟨fun x => rfl, fun x => rfl⟩
structure G_api_Uber where
  Txg : Int
  Guid : Int
  Seat : Int
  Root : G_api_Ptr
  deriving DecidableEq, Inhabited
def c_api_Uber (x : G_api_Uber) : List Value := [(I x.Txg)] ++ ([(I x.Guid)] ++ ([(I x.Seat)] ++ (c_api_Ptr x.Root)))
theorem ce_api_Uber : CE c_api_Uber 9 := ⟨fun x => rfl, fun x => rfl⟩
structure G_uber_root where
  Uber : G_api_Uber
  deriving DecidableEq, Inhabited
def c_uber_root (x : G_uber_root) : List Value := c_api_Uber x.Uber
theorem ce_uber_root : CE c_uber_root 9 := ⟨fun x => rfl, fun x => rfl⟩
structure G_ptr_pointer where
  Ptr : G_api_Ptr
  deriving DecidableEq, Inhabited
def c_ptr_pointer (x : G_ptr_pointer) : List Value := c_api_Ptr x.Ptr
theorem ce_ptr_pointer : CE c_ptr_pointer 6 := ⟨fun x => rfl, fun x => rfl⟩
theorem b_5 : bt Try.prog 5 = some 1 := by kernel_rfl
theorem e_26 : ElemOk Try.prog 26 6 32 := ⟨by kernel_rfl, by decide, by decide, ⟨(Value.agg #[(Value.int .i64 0), (Value.int .i64 0), (Value.int .u32 0), (Value.int .u32 0), (Value.int .u32 0), (Value.int .u32 0)]), by kernel_rfl, rfl⟩⟩
theorem e_3 : ElemOk Try.prog 3 1 8 := ⟨by kernel_rfl, by decide, by decide, ⟨(Value.int .i64 0), by kernel_rfl, rfl⟩⟩
theorem e_5 : ElemOk Try.prog 5 1 1 := ⟨by kernel_rfl, by decide, by decide, ⟨(Value.int .u8 0), by kernel_rfl, rfl⟩⟩
theorem en_10 : enterable Try.prog 10 = true := by kernel_rfl
theorem en_11 : enterable Try.prog 11 = true := by kernel_rfl
theorem en_12 : enterable Try.prog 12 = true := by kernel_rfl
theorem en_13 : enterable Try.prog 13 = true := by kernel_rfl
theorem en_14 : enterable Try.prog 14 = true := by kernel_rfl
theorem en_15 : enterable Try.prog 15 = true := by kernel_rfl
theorem en_16 : enterable Try.prog 16 = true := by kernel_rfl
theorem en_17 : enterable Try.prog 17 = true := by kernel_rfl
theorem en_18 : enterable Try.prog 18 = true := by kernel_rfl
theorem en_19 : enterable Try.prog 19 = true := by kernel_rfl
theorem en_20 : enterable Try.prog 20 = true := by kernel_rfl
theorem en_21 : enterable Try.prog 21 = true := by kernel_rfl
theorem en_22 : enterable Try.prog 22 = true := by kernel_rfl
theorem en_23 : enterable Try.prog 23 = true := by kernel_rfl
theorem en_24 : enterable Try.prog 24 = true := by kernel_rfl
theorem en_25 : enterable Try.prog 25 = true := by kernel_rfl
theorem en_26 : enterable Try.prog 26 = true := by kernel_rfl
theorem en_27 : enterable Try.prog 27 = true := by kernel_rfl
theorem en_28 : enterable Try.prog 28 = true := by kernel_rfl
theorem en_29 : enterable Try.prog 29 = true := by kernel_rfl
theorem en_30 : enterable Try.prog 30 = true := by kernel_rfl
theorem en_31 : enterable Try.prog 31 = true := by kernel_rfl
theorem en_32 : enterable Try.prog 32 = true := by kernel_rfl
theorem en_33 : enterable Try.prog 33 = true := by kernel_rfl
theorem en_34 : enterable Try.prog 34 = true := by kernel_rfl
theorem en_35 : enterable Try.prog 35 = true := by kernel_rfl
theorem en_36 : enterable Try.prog 36 = true := by kernel_rfl
theorem en_37 : enterable Try.prog 37 = true := by kernel_rfl
theorem en_38 : enterable Try.prog 38 = true := by kernel_rfl
theorem en_39 : enterable Try.prog 39 = true := by kernel_rfl
theorem en_40 : enterable Try.prog 40 = true := by kernel_rfl
theorem en_41 : enterable Try.prog 41 = true := by kernel_rfl
theorem en_42 : enterable Try.prog 42 = true := by kernel_rfl
theorem en_43 : enterable Try.prog 43 = true := by kernel_rfl
theorem en_8 : enterable Try.prog 8 = true := by kernel_rfl
theorem en_9 : enterable Try.prog 9 = true := by kernel_rfl
theorem mo : Try.prog.follows .mixedOrders = true := by kernel_rfl
theorem s_22 : sz Try.prog 22 = some 1 := by kernel_rfl
theorem s_24 : sz Try.prog 24 = some 4 := by kernel_rfl
theorem s_26 : sz Try.prog 26 = some 6 := by kernel_rfl
theorem s_28 : sz Try.prog 28 = some 9 := by kernel_rfl
theorem s_29 : sz Try.prog 29 = some 1 := by kernel_rfl
theorem s_3 : sz Try.prog 3 = some 1 := by kernel_rfl
theorem s_46 : sz Try.prog 46 = some 9 := by kernel_rfl
theorem s_5 : sz Try.prog 5 = some 1 := by kernel_rfl
theorem s_69 : sz Try.prog 69 = some 6 := by kernel_rfl
theorem s_9 : sz Try.prog 9 = some 1 := by kernel_rfl
theorem z_24 : zr Try.prog 24 = some (Value.agg #[(Value.int .u32 0), (Value.int .u32 0), (Value.int .u32 0), (Value.int .u32 0)]) := by kernel_rfl
theorem z_26 : zr Try.prog 26 = some (Value.agg #[(Value.int .i64 0), (Value.int .i64 0), (Value.int .u32 0), (Value.int .u32 0), (Value.int .u32 0), (Value.int .u32 0)]) := by kernel_rfl
theorem z_28 : zr Try.prog 28 = some (Value.agg #[(Value.int .i64 0), (Value.int .i64 0), (Value.int .i64 0), (Value.int .i64 0), (Value.int .i64 0), (Value.int .u32 0), (Value.int .u32 0), (Value.int .u32 0), (Value.int .u32 0)]) := by kernel_rfl
theorem z_46 : zr Try.prog 46 = some (Value.agg #[(Value.int .i64 0), (Value.int .i64 0), (Value.int .i64 0), (Value.int .i64 0), (Value.int .i64 0), (Value.int .u32 0), (Value.int .u32 0), (Value.int .u32 0), (Value.int .u32 0)]) := by kernel_rfl
theorem z_5 : zr Try.prog 5 = some (Value.int .u8 0) := by kernel_rfl
theorem z_69 : zr Try.prog 69 = some (Value.agg #[(Value.int .i64 0), (Value.int .i64 0), (Value.int .u32 0), (Value.int .u32 0), (Value.int .u32 0), (Value.int .u32 0)]) := by kernel_rfl
theorem eqt_24 {d : Nat} {a b : (A4 UInt32)} : EqT Try.prog (d + 2) 24 (.agg ((cA4 c32) a).toArray) (.agg ((cA4 c32) b).toArray) (decide (a = b)) := by
  obtain ⟨a0, a1, a2, a3⟩ := a
  obtain ⟨b0, b1, b2, b3⟩ := b
  have h := eqt_array (P := Try.prog) (d := d + 1) (xs := ((cA4 c32) ⟨a0, a1, a2, a3⟩).toArray) (ys := ((cA4 c32) ⟨b0, b1, b2, b3⟩).toArray) Try.underlying24 s_22 (eqa_cons (vx := (U32 a0)) (vy := (U32 b0)) (by kernel_rfl) (by kernel_rfl) (eqt_U32 Try.underlying22) (eqa_cons (vx := (U32 a1)) (vy := (U32 b1)) (by kernel_rfl) (by kernel_rfl) (eqt_U32 Try.underlying22) (eqa_cons (vx := (U32 a2)) (vy := (U32 b2)) (by kernel_rfl) (by kernel_rfl) (eqt_U32 Try.underlying22) (eqa_cons (vx := (U32 a3)) (vy := (U32 b3)) (by kernel_rfl) (by kernel_rfl) (eqt_U32 Try.underlying22) eqa_nil))))
  have e : (decide (a0 = b0) && (decide (a1 = b1) && (decide (a2 = b2) && (decide (a3 = b3) && (true))))) = decide ((A4.mk a0 a1 a2 a3) = (A4.mk b0 b1 b2 b3)) := by
    rw [Bool.eq_iff_iff]; simp [and_assoc]
  rw [e] at h; exact h
theorem eqt_26 {d : Nat} {a b : G_api_Ptr} : EqT Try.prog (d + 3) 26 (.agg (c_api_Ptr a).toArray) (.agg (c_api_Ptr b).toArray) (decide (a = b)) := by
  obtain ⟨a0, a1, a2⟩ := a
  obtain ⟨b0, b1, b2⟩ := b
  have h := eqt_struct (P := Try.prog) (d := d + 2) (xs := (c_api_Ptr ⟨a0, a1, a2⟩).toArray) (ys := (c_api_Ptr ⟨b0, b1, b2⟩).toArray) Try.underlying26 (by kernel_rfl) (eqf_cons (vx := (I a0)) (vy := (I b0)) (by decide) (by kernel_rfl) (by kernel_rfl) (eqt_I Try.underlying3) (eqf_cons (vx := (I a1)) (vy := (I b1)) (by decide) (by kernel_rfl) (by kernel_rfl) (eqt_I Try.underlying3) (eqf_cons (vx := (Value.agg ((cA4 c32) a2).toArray)) (vy := (Value.agg ((cA4 c32) b2).toArray)) (by decide) (by kernel_rfl) (by kernel_rfl) eqt_24 eqf_nil)))
  have e : (decide (a0 = b0) && (decide (a1 = b1) && (decide (a2 = b2) && (true)))) = decide ((G_api_Ptr.mk a0 a1 a2) = (G_api_Ptr.mk b0 b1 b2)) := by
    rw [Bool.eq_iff_iff]; simp [and_assoc]
  rw [e] at h; exact h
theorem eql_26 {xo yo : Operand} {a b : G_api_Ptr} : keep (abin Try.prog .eql 26 xo yo (.agg (c_api_Ptr a).toArray) (.agg (c_api_Ptr b).toArray)) = some (Bo (decide (a = b))) :=
  eql_of rfl rfl (by kernel_rfl) (eqt_26 (d := 9997))
theorem neq_26 {xo yo : Operand} {a b : G_api_Ptr} : keep (abin Try.prog .neq 26 xo yo (.agg (c_api_Ptr a).toArray) (.agg (c_api_Ptr b).toArray)) = some (Bo (!decide (a = b))) :=
  neq_of rfl rfl (by kernel_rfl) (eqt_26 (d := 9997))
theorem eqt_28 {d : Nat} {a b : G_api_Uber} : EqT Try.prog (d + 4) 28 (.agg (c_api_Uber a).toArray) (.agg (c_api_Uber b).toArray) (decide (a = b)) := by
  obtain ⟨a0, a1, a2, a3⟩ := a
  obtain ⟨b0, b1, b2, b3⟩ := b
  have h := eqt_struct (P := Try.prog) (d := d + 3) (xs := (c_api_Uber ⟨a0, a1, a2, a3⟩).toArray) (ys := (c_api_Uber ⟨b0, b1, b2, b3⟩).toArray) Try.underlying28 (by kernel_rfl) (eqf_cons (vx := (I a0)) (vy := (I b0)) (by decide) (by kernel_rfl) (by kernel_rfl) (eqt_I Try.underlying3) (eqf_cons (vx := (I a1)) (vy := (I b1)) (by decide) (by kernel_rfl) (by kernel_rfl) (eqt_I Try.underlying3) (eqf_cons (vx := (I a2)) (vy := (I b2)) (by decide) (by kernel_rfl) (by kernel_rfl) (eqt_I Try.underlying3) (eqf_cons (vx := (Value.agg (c_api_Ptr a3).toArray)) (vy := (Value.agg (c_api_Ptr b3).toArray)) (by decide) (by kernel_rfl) (by kernel_rfl) eqt_26 eqf_nil))))
  have e : (decide (a0 = b0) && (decide (a1 = b1) && (decide (a2 = b2) && (decide (a3 = b3) && (true))))) = decide ((G_api_Uber.mk a0 a1 a2 a3) = (G_api_Uber.mk b0 b1 b2 b3)) := by
    rw [Bool.eq_iff_iff]; simp [and_assoc]
  rw [e] at h; exact h
theorem eql_28 {xo yo : Operand} {a b : G_api_Uber} : keep (abin Try.prog .eql 28 xo yo (.agg (c_api_Uber a).toArray) (.agg (c_api_Uber b).toArray)) = some (Bo (decide (a = b))) :=
  eql_of rfl rfl (by kernel_rfl) (eqt_28 (d := 9996))
theorem neq_28 {xo yo : Operand} {a b : G_api_Uber} : keep (abin Try.prog .neq 28 xo yo (.agg (c_api_Uber a).toArray) (.agg (c_api_Uber b).toArray)) = some (Bo (!decide (a = b))) :=
  neq_of rfl rfl (by kernel_rfl) (eqt_28 (d := 9996))
end Go.Proofs
