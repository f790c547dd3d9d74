/- Types of the program, as Lean has them; facts on them. Written by a program. -/
import Derived.Test.YtlcclhkbmkmfkaaDoorFHd1
import Derived.Test.YtlcclhkbmkmfkaaDoorGA
import Derived.Test.YtlcclhkbmkmfkaaDoorGB
import Derived.Test.YtlcclhkbmkmfkaaDoorProg
import Derived.KernelRfl
set_option maxRecDepth 20000
namespace Go.Proofs
open Go Go.Fhl
set_option linter.unusedVariables false
set_option linter.unusedSimpArgs false
structure G_api_Node where
  Kind : Int
  Up : Int
  Name : Str
  Body : Str
  Bad : Int
  deriving DecidableEq, Inhabited
def c_api_Node (x : G_api_Node) : List Value := [(I x.Kind)] ++ ([(I x.Up)] ++ ([(S x.Name)] ++ ([(S x.Body)] ++ ([(I x.Bad)]))))
theorem ce_api_Node : CE c_api_Node 5 := ⟨fun x => rfl, fun x => rfl⟩
structure G_walk_files where
  Set : (List G_api_Node)
  deriving DecidableEq, Inhabited
def c_walk_files (x : G_walk_files) : List Value := [(SL 5 c_api_Node x.Set)]
structure G_edit_spot where
  Set : (List G_api_Node)
  up : Int
  name : Str
  deriving DecidableEq, Inhabited
def c_edit_spot (x : G_edit_spot) : List Value := [(SL 5 c_api_Node x.Set)] ++ ([(I x.up)] ++ ([(S x.name)]))
structure G_palimpmade_Picks where
  l : (List UInt8)
  n : Int
  deriving DecidableEq, Inhabited
def c_palimpmade_Picks (x : G_palimpmade_Picks) : List Value := [(SL 1 c8 x.l)] ++ ([(I x.n)])
structure G_api_Step where
  Kind : Int
  ID : Int
  N : Int
  M : Int
  By : Int
  Path : Str
  To : Str
  Text : Str
  Keep : (List Int)
  deriving DecidableEq, Inhabited
def c_api_Step (x : G_api_Step) : List Value := [(I x.Kind)] ++ ([(I x.ID)] ++ ([(I x.N)] ++ ([(I x.M)] ++ ([(I x.By)] ++ ([(S x.Path)] ++ ([(S x.To)] ++ ([(S x.Text)] ++ ([(SL 1 cI x.Keep)]))))))))
theorem b_39 : bt Tryd.prog 39 = some 56 := by kernel_rfl
theorem b_5 : bt Tryd.prog 5 = some 1 := by kernel_rfl
theorem b_9 : bt Tryd.prog 9 = some 16 := by kernel_rfl
theorem e_3 : ElemOk Tryd.prog 3 1 8 := ⟨by kernel_rfl, by decide, by decide, ⟨(Value.int .i64 0), by kernel_rfl, rfl⟩⟩
theorem e_39 : ElemOk Tryd.prog 39 5 56 := ⟨by kernel_rfl, by decide, by decide, ⟨(Value.agg #[(Value.int .i64 0), (Value.int .i64 0), (Value.string ByteArray.empty), (Value.string ByteArray.empty), (Value.int .i64 0)]), by kernel_rfl, rfl⟩⟩
theorem e_9 : ElemOk Tryd.prog 9 1 16 := ⟨by kernel_rfl, by decide, by decide, ⟨(Value.string ByteArray.empty), by kernel_rfl, rfl⟩⟩
theorem en_10 : enterable Tryd.prog 10 = true := by kernel_rfl
theorem en_11 : enterable Tryd.prog 11 = true := by kernel_rfl
theorem en_12 : enterable Tryd.prog 12 = true := by kernel_rfl
theorem en_13 : enterable Tryd.prog 13 = true := by kernel_rfl
theorem en_14 : enterable Tryd.prog 14 = true := by kernel_rfl
theorem en_15 : enterable Tryd.prog 15 = true := by kernel_rfl
theorem en_16 : enterable Tryd.prog 16 = true := by kernel_rfl
theorem en_17 : enterable Tryd.prog 17 = true := by kernel_rfl
theorem en_18 : enterable Tryd.prog 18 = true := by kernel_rfl
theorem en_19 : enterable Tryd.prog 19 = true := by kernel_rfl
theorem en_20 : enterable Tryd.prog 20 = true := by kernel_rfl
theorem en_21 : enterable Tryd.prog 21 = true := by kernel_rfl
theorem en_22 : enterable Tryd.prog 22 = true := by kernel_rfl
theorem en_23 : enterable Tryd.prog 23 = true := by kernel_rfl
theorem en_24 : enterable Tryd.prog 24 = true := by kernel_rfl
theorem en_25 : enterable Tryd.prog 25 = true := by kernel_rfl
theorem en_26 : enterable Tryd.prog 26 = true := by kernel_rfl
theorem en_27 : enterable Tryd.prog 27 = true := by kernel_rfl
theorem en_28 : enterable Tryd.prog 28 = true := by kernel_rfl
theorem en_29 : enterable Tryd.prog 29 = true := by kernel_rfl
theorem en_30 : enterable Tryd.prog 30 = true := by kernel_rfl
theorem en_31 : enterable Tryd.prog 31 = true := by kernel_rfl
theorem en_32 : enterable Tryd.prog 32 = true := by kernel_rfl
theorem en_33 : enterable Tryd.prog 33 = true := by kernel_rfl
theorem en_34 : enterable Tryd.prog 34 = true := by kernel_rfl
theorem en_35 : enterable Tryd.prog 35 = true := by kernel_rfl
theorem en_36 : enterable Tryd.prog 36 = true := by kernel_rfl
theorem en_37 : enterable Tryd.prog 37 = true := by kernel_rfl
theorem en_38 : enterable Tryd.prog 38 = true := by kernel_rfl
theorem en_39 : enterable Tryd.prog 39 = true := by kernel_rfl
theorem en_4 : enterable Tryd.prog 4 = true := by kernel_rfl
theorem en_40 : enterable Tryd.prog 40 = true := by kernel_rfl
theorem en_41 : enterable Tryd.prog 41 = true := by kernel_rfl
theorem en_42 : enterable Tryd.prog 42 = true := by kernel_rfl
theorem en_43 : enterable Tryd.prog 43 = true := by kernel_rfl
theorem en_44 : enterable Tryd.prog 44 = true := by kernel_rfl
theorem en_45 : enterable Tryd.prog 45 = true := by kernel_rfl
theorem en_46 : enterable Tryd.prog 46 = true := by kernel_rfl
theorem en_47 : enterable Tryd.prog 47 = true := by kernel_rfl
theorem en_48 : enterable Tryd.prog 48 = true := by kernel_rfl
theorem en_49 : enterable Tryd.prog 49 = true := by kernel_rfl
theorem en_5 : enterable Tryd.prog 5 = true := by kernel_rfl
theorem en_50 : enterable Tryd.prog 50 = true := by kernel_rfl
theorem en_51 : enterable Tryd.prog 51 = true := by kernel_rfl
theorem en_52 : enterable Tryd.prog 52 = true := by kernel_rfl
theorem en_53 : enterable Tryd.prog 53 = true := by kernel_rfl
theorem en_54 : enterable Tryd.prog 54 = true := by kernel_rfl
theorem en_56 : enterable Tryd.prog 56 = true := by kernel_rfl
theorem en_57 : enterable Tryd.prog 57 = true := by kernel_rfl
theorem en_58 : enterable Tryd.prog 58 = true := by kernel_rfl
theorem en_59 : enterable Tryd.prog 59 = true := by kernel_rfl
theorem en_6 : enterable Tryd.prog 6 = true := by kernel_rfl
theorem en_60 : enterable Tryd.prog 60 = true := by kernel_rfl
theorem en_61 : enterable Tryd.prog 61 = true := by kernel_rfl
theorem en_62 : enterable Tryd.prog 62 = true := by kernel_rfl
theorem en_63 : enterable Tryd.prog 63 = true := by kernel_rfl
theorem en_64 : enterable Tryd.prog 64 = true := by kernel_rfl
theorem en_65 : enterable Tryd.prog 65 = true := by kernel_rfl
theorem en_66 : enterable Tryd.prog 66 = true := by kernel_rfl
theorem en_67 : enterable Tryd.prog 67 = true := by kernel_rfl
theorem en_68 : enterable Tryd.prog 68 = true := by kernel_rfl
theorem en_7 : enterable Tryd.prog 7 = true := by kernel_rfl
theorem en_79 : enterable Tryd.prog 79 = true := by kernel_rfl
theorem en_8 : enterable Tryd.prog 8 = true := by kernel_rfl
theorem en_80 : enterable Tryd.prog 80 = true := by kernel_rfl
theorem en_81 : enterable Tryd.prog 81 = true := by kernel_rfl
theorem en_82 : enterable Tryd.prog 82 = true := by kernel_rfl
theorem en_83 : enterable Tryd.prog 83 = true := by kernel_rfl
theorem en_9 : enterable Tryd.prog 9 = true := by kernel_rfl
theorem mo : Tryd.prog.follows .mixedOrders = true := by kernel_rfl
theorem s_22 : sz Tryd.prog 22 = some 1 := by kernel_rfl
theorem s_25 : sz Tryd.prog 25 = some 1 := by kernel_rfl
theorem s_3 : sz Tryd.prog 3 = some 1 := by kernel_rfl
theorem s_31 : sz Tryd.prog 31 = some 9 := by kernel_rfl
theorem s_39 : sz Tryd.prog 39 = some 5 := by kernel_rfl
theorem s_5 : sz Tryd.prog 5 = some 1 := by kernel_rfl
theorem s_51 : sz Tryd.prog 51 = some 3 := by kernel_rfl
theorem s_71 : sz Tryd.prog 71 = some 1 := by kernel_rfl
theorem s_9 : sz Tryd.prog 9 = some 1 := by kernel_rfl
theorem z_31 : zr Tryd.prog 31 = some (Value.agg #[(Value.int .i64 0), (Value.int .i64 0), (Value.int .i64 0), (Value.int .i64 0), (Value.int .i64 0), (Value.string ByteArray.empty), (Value.string ByteArray.empty), (Value.string ByteArray.empty), (Value.slice none 0 0)]) := by kernel_rfl
theorem z_39 : zr Tryd.prog 39 = some (Value.agg #[(Value.int .i64 0), (Value.int .i64 0), (Value.string ByteArray.empty), (Value.string ByteArray.empty), (Value.int .i64 0)]) := by kernel_rfl
theorem z_5 : zr Tryd.prog 5 = some (Value.int .u8 0) := by kernel_rfl
theorem z_51 : zr Tryd.prog 51 = some (Value.agg #[(Value.slice none 0 0), (Value.int .i64 0), (Value.string ByteArray.empty)]) := by kernel_rfl
theorem z_71 : zr Tryd.prog 71 = some (Value.agg #[(Value.slice none 0 0)]) := by kernel_rfl
theorem z_9 : zr Tryd.prog 9 = some (Value.string ByteArray.empty) := by kernel_rfl
theorem eqt_39 {d : Nat} {a b : G_api_Node} : EqT Tryd.prog (d + 2) 39 (.agg (c_api_Node a).toArray) (.agg (c_api_Node b).toArray) (decide (a = b)) := by
  obtain ⟨a0, a1, a2, a3, a4⟩ := a
  obtain ⟨b0, b1, b2, b3, b4⟩ := b
  have h := eqt_struct (P := Tryd.prog) (d := d + 1) (xs := (c_api_Node ⟨a0, a1, a2, a3, a4⟩).toArray) (ys := (c_api_Node ⟨b0, b1, b2, b3, b4⟩).toArray) Tryd.underlying39 (by kernel_rfl) (eqf_cons (vx := (I a0)) (vy := (I b0)) (by decide) (by kernel_rfl) (by kernel_rfl) (eqt_I Tryd.underlying3) (eqf_cons (vx := (I a1)) (vy := (I b1)) (by decide) (by kernel_rfl) (by kernel_rfl) (eqt_I Tryd.underlying3) (eqf_cons (vx := (S a2)) (vy := (S b2)) (by decide) (by kernel_rfl) (by kernel_rfl) (eqt_S Tryd.underlying9) (eqf_cons (vx := (S a3)) (vy := (S b3)) (by decide) (by kernel_rfl) (by kernel_rfl) (eqt_S Tryd.underlying9) (eqf_cons (vx := (I a4)) (vy := (I b4)) (by decide) (by kernel_rfl) (by kernel_rfl) (eqt_I Tryd.underlying3) eqf_nil)))))
  have e : (decide (a0 = b0) && (decide (a1 = b1) && (decide (a2 = b2) && (decide (a3 = b3) && (decide (a4 = b4) && (true)))))) = decide ((G_api_Node.mk a0 a1 a2 a3 a4) = (G_api_Node.mk b0 b1 b2 b3 b4)) := by
    rw [Bool.eq_iff_iff]; simp [and_assoc]
  rw [e] at h; exact h
theorem neq_39 {xo yo : Operand} {a b : G_api_Node} : keep (abin Tryd.prog .neq 39 xo yo (.agg (c_api_Node a).toArray) (.agg (c_api_Node b).toArray)) = some (Bo (!decide (a = b))) :=
  neq_of rfl rfl (by kernel_rfl) (eqt_39 (d := 9998))
end Go.Proofs
