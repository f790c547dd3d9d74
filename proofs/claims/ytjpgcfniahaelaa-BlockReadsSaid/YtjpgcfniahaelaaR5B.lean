/- Types of the program, as Lean has them; facts on them. Written by a program. -/
import Derived.Test.YtjpgcfniahaelaaFP
import Derived.Test.YtjpgcfniahaelaaProg
import Derived.KernelRfl
set_option maxRecDepth 20000
namespace Go.Proofs
open Go Go.Fhl
set_option linter.unusedVariables false
set_option linter.unusedSimpArgs false
structure G_api_Block where
  Kind : Int
  Birth : Int
  Load : Str
  deriving DecidableEq, Inhabited
def c_api_Block (x : G_api_Block) : List Value := [(I x.Kind)] ++ ([(I x.Birth)] ++ ([(S x.Load)]))
theorem ce_api_Block : CE c_api_Block 3 := ⟨fun x => rfl, fun x => rfl⟩
structure G_block_sector where
  Block : G_api_Block
  deriving DecidableEq, Inhabited
def c_block_sector (x : G_block_sector) : List Value := c_api_Block x.Block
theorem ce_block_sector : CE c_block_sector 3 := ⟨fun x => rfl, fun x => rfl⟩
structure G_block_read where
  sector : G_block_sector
  ok : Bool
  deriving DecidableEq, Inhabited
def c_block_read (x : G_block_read) : List Value := c_block_sector x.sector ++ ([(Bo x.ok)])
theorem ce_block_read : CE c_block_read 4 := ⟨fun x => rfl, fun x => rfl⟩
structure G_api_Put where
  At : Int
  B : Str
  deriving DecidableEq, Inhabited
def c_api_Put (x : G_api_Put) : List Value := [(I x.At)] ++ ([(S x.B)])
theorem ce_api_Put : CE c_api_Put 2 := ⟨fun x => rfl, fun x => rfl⟩
structure G_api_Dev where
  Last : (List Str)
  Wait : (List G_api_Put)
  Lies : Int
  Arm : Int
  Down : Bool
  deriving DecidableEq, Inhabited
def c_api_Dev (x : G_api_Dev) : List Value := [(SL 1 cS x.Last)] ++ ([(SL 2 c_api_Put x.Wait)] ++ ([(I x.Lies)] ++ ([(I x.Arm)] ++ ([(Bo x.Down)]))))
theorem ce_api_Dev : CE c_api_Dev 5 := ⟨fun x => rfl, fun x => rfl⟩
structure G_api_Ptr where
  Addr : Int
  Birth : Int
  Sum : (A4 UInt32)
  deriving DecidableEq, Inhabited
def c_api_Ptr (x : G_api_Ptr) : List Value := [(I x.Addr)] ++ ([(I x.Birth)] ++ ((cA4 c32) x.Sum))
theorem ce_api_Ptr : CE c_api_Ptr 6 := ⟨fun x => rfl, fun x => rfl⟩
theorem b_3 : bt Try.prog 3 = some 8 := by kernel_rfl
theorem b_5 : bt Try.prog 5 = some 1 := by kernel_rfl
theorem e_3 : ElemOk Try.prog 3 1 8 := ⟨by kernel_rfl, by decide, by decide, ⟨(Value.int .i64 0), by kernel_rfl, rfl⟩⟩
theorem e_45 : ElemOk Try.prog 45 2 24 := ⟨by kernel_rfl, by decide, by decide, ⟨(Value.agg #[(Value.int .i64 0), (Value.string ByteArray.empty)]), by kernel_rfl, rfl⟩⟩
theorem e_5 : ElemOk Try.prog 5 1 1 := ⟨by kernel_rfl, by decide, by decide, ⟨(Value.int .u8 0), by kernel_rfl, rfl⟩⟩
theorem e_9 : ElemOk Try.prog 9 1 16 := ⟨by kernel_rfl, by decide, by decide, ⟨(Value.string ByteArray.empty), by kernel_rfl, rfl⟩⟩
theorem en_10 : enterable Try.prog 10 = true := by kernel_rfl
theorem en_11 : enterable Try.prog 11 = true := by kernel_rfl
theorem en_12 : enterable Try.prog 12 = true := by kernel_rfl
theorem en_13 : enterable Try.prog 13 = true := by kernel_rfl
theorem en_14 : enterable Try.prog 14 = true := by kernel_rfl
theorem en_15 : enterable Try.prog 15 = true := by kernel_rfl
theorem en_16 : enterable Try.prog 16 = true := by kernel_rfl
theorem en_17 : enterable Try.prog 17 = true := by kernel_rfl
theorem en_18 : enterable Try.prog 18 = true := by kernel_rfl
theorem en_19 : enterable Try.prog 19 = true := by kernel_rfl
theorem en_20 : enterable Try.prog 20 = true := by kernel_rfl
theorem en_21 : enterable Try.prog 21 = true := by kernel_rfl
theorem en_22 : enterable Try.prog 22 = true := by kernel_rfl
theorem en_23 : enterable Try.prog 23 = true := by kernel_rfl
theorem en_24 : enterable Try.prog 24 = true := by kernel_rfl
theorem en_25 : enterable Try.prog 25 = true := by kernel_rfl
theorem en_26 : enterable Try.prog 26 = true := by kernel_rfl
theorem en_27 : enterable Try.prog 27 = true := by kernel_rfl
theorem en_28 : enterable Try.prog 28 = true := by kernel_rfl
theorem en_29 : enterable Try.prog 29 = true := by kernel_rfl
theorem en_30 : enterable Try.prog 30 = true := by kernel_rfl
theorem en_31 : enterable Try.prog 31 = true := by kernel_rfl
theorem en_32 : enterable Try.prog 32 = true := by kernel_rfl
theorem en_33 : enterable Try.prog 33 = true := by kernel_rfl
theorem en_34 : enterable Try.prog 34 = true := by kernel_rfl
theorem en_35 : enterable Try.prog 35 = true := by kernel_rfl
theorem en_36 : enterable Try.prog 36 = true := by kernel_rfl
theorem en_37 : enterable Try.prog 37 = true := by kernel_rfl
theorem en_38 : enterable Try.prog 38 = true := by kernel_rfl
theorem en_39 : enterable Try.prog 39 = true := by kernel_rfl
theorem en_40 : enterable Try.prog 40 = true := by kernel_rfl
theorem en_41 : enterable Try.prog 41 = true := by kernel_rfl
theorem en_42 : enterable Try.prog 42 = true := by kernel_rfl
theorem en_45 : enterable Try.prog 45 = true := by kernel_rfl
theorem en_46 : enterable Try.prog 46 = true := by kernel_rfl
theorem en_53 : enterable Try.prog 53 = true := by kernel_rfl
theorem en_8 : enterable Try.prog 8 = true := by kernel_rfl
theorem en_9 : enterable Try.prog 9 = true := by kernel_rfl
theorem mo : Try.prog.follows .mixedOrders = true := by kernel_rfl
theorem s_23 : sz Try.prog 23 = some 3 := by kernel_rfl
theorem s_28 : sz Try.prog 28 = some 1 := by kernel_rfl
theorem s_3 : sz Try.prog 3 = some 1 := by kernel_rfl
theorem s_30 : sz Try.prog 30 = some 4 := by kernel_rfl
theorem s_32 : sz Try.prog 32 = some 6 := by kernel_rfl
theorem s_35 : sz Try.prog 35 = some 1 := by kernel_rfl
theorem s_38 : sz Try.prog 38 = some 1 := by kernel_rfl
theorem s_4 : sz Try.prog 4 = some 1 := by kernel_rfl
theorem s_40 : sz Try.prog 40 = some 5 := by kernel_rfl
theorem s_45 : sz Try.prog 45 = some 2 := by kernel_rfl
theorem s_5 : sz Try.prog 5 = some 1 := by kernel_rfl
theorem s_61 : sz Try.prog 61 = some 3 := by kernel_rfl
theorem s_67 : sz Try.prog 67 = some 4 := by kernel_rfl
theorem s_9 : sz Try.prog 9 = some 1 := by kernel_rfl
theorem z_23 : zr Try.prog 23 = some (Value.agg #[(Value.int .i64 0), (Value.int .i64 0), (Value.string ByteArray.empty)]) := by kernel_rfl
theorem z_3 : zr Try.prog 3 = some (Value.int .i64 0) := by kernel_rfl
theorem z_30 : zr Try.prog 30 = some (Value.agg #[(Value.int .u32 0), (Value.int .u32 0), (Value.int .u32 0), (Value.int .u32 0)]) := by kernel_rfl
theorem z_32 : zr Try.prog 32 = some (Value.agg #[(Value.int .i64 0), (Value.int .i64 0), (Value.int .u32 0), (Value.int .u32 0), (Value.int .u32 0), (Value.int .u32 0)]) := by kernel_rfl
theorem z_40 : zr Try.prog 40 = some (Value.agg #[(Value.slice none 0 0), (Value.slice none 0 0), (Value.int .i64 0), (Value.int .i64 0), (Value.bool false)]) := by kernel_rfl
theorem z_45 : zr Try.prog 45 = some (Value.agg #[(Value.int .i64 0), (Value.string ByteArray.empty)]) := by kernel_rfl
theorem z_5 : zr Try.prog 5 = some (Value.int .u8 0) := by kernel_rfl
theorem z_61 : zr Try.prog 61 = some (Value.agg #[(Value.int .i64 0), (Value.int .i64 0), (Value.string ByteArray.empty)]) := by kernel_rfl
theorem z_67 : zr Try.prog 67 = some (Value.agg #[(Value.int .i64 0), (Value.int .i64 0), (Value.string ByteArray.empty), (Value.bool false)]) := by kernel_rfl
theorem eqt_23 {d : Nat} {a b : G_api_Block} : EqT Try.prog (d + 2) 23 (.agg (c_api_Block a).toArray) (.agg (c_api_Block b).toArray) (decide (a = b)) := by
  obtain ⟨a0, a1, a2⟩ := a
  obtain ⟨b0, b1, b2⟩ := b
  have h := eqt_struct (P := Try.prog) (d := d + 1) (xs := (c_api_Block ⟨a0, a1, a2⟩).toArray) (ys := (c_api_Block ⟨b0, b1, b2⟩).toArray) Try.underlying23 (by kernel_rfl) (eqf_cons (vx := (I a0)) (vy := (I b0)) (by decide) (by kernel_rfl) (by kernel_rfl) (eqt_I Try.underlying3) (eqf_cons (vx := (I a1)) (vy := (I b1)) (by decide) (by kernel_rfl) (by kernel_rfl) (eqt_I Try.underlying3) (eqf_cons (vx := (S a2)) (vy := (S b2)) (by decide) (by kernel_rfl) (by kernel_rfl) (eqt_S Try.underlying9) eqf_nil)))
  have e : (decide (a0 = b0) && (decide (a1 = b1) && (decide (a2 = b2) && (true)))) = decide ((G_api_Block.mk a0 a1 a2) = (G_api_Block.mk b0 b1 b2)) := by
    rw [Bool.eq_iff_iff]; simp [and_assoc]
  rw [e] at h; exact h
theorem eql_23 {xo yo : Operand} {a b : G_api_Block} : keep (abin Try.prog .eql 23 xo yo (.agg (c_api_Block a).toArray) (.agg (c_api_Block b).toArray)) = some (Bo (decide (a = b))) :=
  eql_of rfl rfl (by kernel_rfl) (eqt_23 (d := 9998))
theorem neq_23 {xo yo : Operand} {a b : G_api_Block} : keep (abin Try.prog .neq 23 xo yo (.agg (c_api_Block a).toArray) (.agg (c_api_Block b).toArray)) = some (Bo (!decide (a = b))) :=
  neq_of rfl rfl (by kernel_rfl) (eqt_23 (d := 9998))
theorem eqt_30 {d : Nat} {a b : (A4 UInt32)} : EqT Try.prog (d + 2) 30 (.agg ((cA4 c32) a).toArray) (.agg ((cA4 c32) b).toArray) (decide (a = b)) := by
  obtain ⟨a0, a1, a2, a3⟩ := a
  obtain ⟨b0, b1, b2, b3⟩ := b
  have h := eqt_array (P := Try.prog) (d := d + 1) (xs := ((cA4 c32) ⟨a0, a1, a2, a3⟩).toArray) (ys := ((cA4 c32) ⟨b0, b1, b2, b3⟩).toArray) Try.underlying30 s_28 (eqa_cons (vx := (U32 a0)) (vy := (U32 b0)) (by kernel_rfl) (by kernel_rfl) (eqt_U32 Try.underlying28) (eqa_cons (vx := (U32 a1)) (vy := (U32 b1)) (by kernel_rfl) (by kernel_rfl) (eqt_U32 Try.underlying28) (eqa_cons (vx := (U32 a2)) (vy := (U32 b2)) (by kernel_rfl) (by kernel_rfl) (eqt_U32 Try.underlying28) (eqa_cons (vx := (U32 a3)) (vy := (U32 b3)) (by kernel_rfl) (by kernel_rfl) (eqt_U32 Try.underlying28) eqa_nil))))
  have e : (decide (a0 = b0) && (decide (a1 = b1) && (decide (a2 = b2) && (decide (a3 = b3) && (true))))) = decide ((A4.mk a0 a1 a2 a3) = (A4.mk b0 b1 b2 b3)) := by
    rw [Bool.eq_iff_iff]; simp [and_assoc]
  rw [e] at h; exact h
theorem eql_30 {xo yo : Operand} {a b : (A4 UInt32)} : keep (abin Try.prog .eql 30 xo yo (.agg ((cA4 c32) a).toArray) (.agg ((cA4 c32) b).toArray)) = some (Bo (decide (a = b))) :=
  eql_of rfl rfl (by kernel_rfl) (eqt_30 (d := 9998))
theorem neq_30 {xo yo : Operand} {a b : (A4 UInt32)} : keep (abin Try.prog .neq 30 xo yo (.agg ((cA4 c32) a).toArray) (.agg ((cA4 c32) b).toArray)) = some (Bo (!decide (a = b))) :=
  neq_of rfl rfl (by kernel_rfl) (eqt_30 (d := 9998))
theorem eqt_32 {d : Nat} {a b : G_api_Ptr} : EqT Try.prog (d + 3) 32 (.agg (c_api_Ptr a).toArray) (.agg (c_api_Ptr b).toArray) (decide (a = b)) := by
  obtain ⟨a0, a1, a2⟩ := a
  obtain ⟨b0, b1, b2⟩ := b
  have h := eqt_struct (P := Try.prog) (d := d + 2) (xs := (c_api_Ptr ⟨a0, a1, a2⟩).toArray) (ys := (c_api_Ptr ⟨b0, b1, b2⟩).toArray) Try.underlying32 (by kernel_rfl) (eqf_cons (vx := (I a0)) (vy := (I b0)) (by decide) (by kernel_rfl) (by kernel_rfl) (eqt_I Try.underlying3) (eqf_cons (vx := (I a1)) (vy := (I b1)) (by decide) (by kernel_rfl) (by kernel_rfl) (eqt_I Try.underlying3) (eqf_cons (vx := (Value.agg ((cA4 c32) a2).toArray)) (vy := (Value.agg ((cA4 c32) b2).toArray)) (by decide) (by kernel_rfl) (by kernel_rfl) eqt_30 eqf_nil)))
  have e : (decide (a0 = b0) && (decide (a1 = b1) && (decide (a2 = b2) && (true)))) = decide ((G_api_Ptr.mk a0 a1 a2) = (G_api_Ptr.mk b0 b1 b2)) := by
    rw [Bool.eq_iff_iff]; simp [and_assoc]
  rw [e] at h; exact h
theorem eql_32 {xo yo : Operand} {a b : G_api_Ptr} : keep (abin Try.prog .eql 32 xo yo (.agg (c_api_Ptr a).toArray) (.agg (c_api_Ptr b).toArray)) = some (Bo (decide (a = b))) :=
  eql_of rfl rfl (by kernel_rfl) (eqt_32 (d := 9997))
theorem neq_32 {xo yo : Operand} {a b : G_api_Ptr} : keep (abin Try.prog .neq 32 xo yo (.agg (c_api_Ptr a).toArray) (.agg (c_api_Ptr b).toArray)) = some (Bo (!decide (a = b))) :=
  neq_of rfl rfl (by kernel_rfl) (eqt_32 (d := 9997))
end Go.Proofs
