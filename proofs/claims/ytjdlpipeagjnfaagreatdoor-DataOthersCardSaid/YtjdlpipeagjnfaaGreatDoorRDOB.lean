/- Types of the program, as Lean has them; facts on them. Written by a program. -/
import Derived.Test.YtjdlpipeagjnfaaGreatDoorFHd1
import Derived.Test.YtjdlpipeagjnfaaGreatDoorGA
import Derived.Test.YtjdlpipeagjnfaaGreatDoorGB
import Derived.Test.YtjdlpipeagjnfaaGreatDoorProg
import Derived.KernelRfl
set_option maxRecDepth 20000
namespace Go.Proofs
open Go Go.Fhl
set_option linter.unusedVariables false
set_option linter.unusedSimpArgs false
structure G_api_Node where
  Kind : Int
  Up : Int
  Name : Str
  Body : Str
  Bad : Int
  deriving DecidableEq, Inhabited
def cNd (x : G_api_Node) : List Value := [(I x.Kind)] ++ ([(I x.Up)] ++ ([(S x.Name)] ++ ([(S x.Body)] ++ ([(I x.Bad)]))))
theorem ce_api_Node : CE cNd 5 := ⟨fun x => rfl, fun x => rfl⟩
structure G_walk_files where
  Set : (List G_api_Node)
  deriving DecidableEq, Inhabited
def c_walk_files (x : G_walk_files) : List Value := [(SL 5 cNd x.Set)]
structure G_data_file where
  Node : G_api_Node
  n : Int
  deriving DecidableEq, Inhabited
def c_data_file (x : G_data_file) : List Value := cNd x.Node ++ ([(I x.n)])
structure G_api_Stat where
  Node : Int
  Kind : Int
  Size : Int
  Held : Int
  deriving DecidableEq, Inhabited
def c_api_Stat (x : G_api_Stat) : List Value := [(I x.Node)] ++ ([(I x.Kind)] ++ ([(I x.Size)] ++ ([(I x.Held)])))
structure G_palimpmade_Picks where
  l : (List UInt8)
  n : Int
  deriving DecidableEq, Inhabited
def cPk (x : G_palimpmade_Picks) : List Value := [(SL 1 c8 x.l)] ++ ([(I x.n)])
structure G_api_Step where
  Kind : Int
  ID : Int
  N : Int
  M : Int
  By : Int
  Path : Str
  To : Str
  Text : Str
  Keep : (List Int)
  deriving DecidableEq, Inhabited
def c_api_Step (x : G_api_Step) : List Value := [(I x.Kind)] ++ ([(I x.ID)] ++ ([(I x.N)] ++ ([(I x.M)] ++ ([(I x.By)] ++ ([(S x.Path)] ++ ([(S x.To)] ++ ([(S x.Text)] ++ ([(SL 1 cI x.Keep)]))))))))
theorem b_38 : bt Tryz.prog 38 = some 56 := by kernel_rfl
theorem b_5 : bt Tryz.prog 5 = some 1 := by kernel_rfl
theorem b_9 : bt Tryz.prog 9 = some 16 := by kernel_rfl
theorem e_3 : ElemOk Tryz.prog 3 1 8 := ⟨by kernel_rfl, by decide, by decide, ⟨(Value.int .i64 0), by kernel_rfl, rfl⟩⟩
theorem e_38 : ElemOk Tryz.prog 38 5 56 := ⟨by kernel_rfl, by decide, by decide, ⟨(Value.agg #[(Value.int .i64 0), (Value.int .i64 0), (Value.string ByteArray.empty), (Value.string ByteArray.empty), (Value.int .i64 0)]), by kernel_rfl, rfl⟩⟩
theorem e_9 : ElemOk Tryz.prog 9 1 16 := ⟨by kernel_rfl, by decide, by decide, ⟨(Value.string ByteArray.empty), by kernel_rfl, rfl⟩⟩
theorem en_10 : enterable Tryz.prog 10 = true := by kernel_rfl
theorem en_103 : enterable Tryz.prog 103 = true := by kernel_rfl
theorem en_104 : enterable Tryz.prog 104 = true := by kernel_rfl
theorem en_105 : enterable Tryz.prog 105 = true := by kernel_rfl
theorem en_106 : enterable Tryz.prog 106 = true := by kernel_rfl
theorem en_11 : enterable Tryz.prog 11 = true := by kernel_rfl
theorem en_12 : enterable Tryz.prog 12 = true := by kernel_rfl
theorem en_13 : enterable Tryz.prog 13 = true := by kernel_rfl
theorem en_14 : enterable Tryz.prog 14 = true := by kernel_rfl
theorem en_15 : enterable Tryz.prog 15 = true := by kernel_rfl
theorem en_16 : enterable Tryz.prog 16 = true := by kernel_rfl
theorem en_17 : enterable Tryz.prog 17 = true := by kernel_rfl
theorem en_18 : enterable Tryz.prog 18 = true := by kernel_rfl
theorem en_19 : enterable Tryz.prog 19 = true := by kernel_rfl
theorem en_20 : enterable Tryz.prog 20 = true := by kernel_rfl
theorem en_21 : enterable Tryz.prog 21 = true := by kernel_rfl
theorem en_22 : enterable Tryz.prog 22 = true := by kernel_rfl
theorem en_23 : enterable Tryz.prog 23 = true := by kernel_rfl
theorem en_24 : enterable Tryz.prog 24 = true := by kernel_rfl
theorem en_25 : enterable Tryz.prog 25 = true := by kernel_rfl
theorem en_26 : enterable Tryz.prog 26 = true := by kernel_rfl
theorem en_27 : enterable Tryz.prog 27 = true := by kernel_rfl
theorem en_28 : enterable Tryz.prog 28 = true := by kernel_rfl
theorem en_29 : enterable Tryz.prog 29 = true := by kernel_rfl
theorem en_30 : enterable Tryz.prog 30 = true := by kernel_rfl
theorem en_31 : enterable Tryz.prog 31 = true := by kernel_rfl
theorem en_32 : enterable Tryz.prog 32 = true := by kernel_rfl
theorem en_33 : enterable Tryz.prog 33 = true := by kernel_rfl
theorem en_34 : enterable Tryz.prog 34 = true := by kernel_rfl
theorem en_35 : enterable Tryz.prog 35 = true := by kernel_rfl
theorem en_36 : enterable Tryz.prog 36 = true := by kernel_rfl
theorem en_37 : enterable Tryz.prog 37 = true := by kernel_rfl
theorem en_38 : enterable Tryz.prog 38 = true := by kernel_rfl
theorem en_39 : enterable Tryz.prog 39 = true := by kernel_rfl
theorem en_4 : enterable Tryz.prog 4 = true := by kernel_rfl
theorem en_40 : enterable Tryz.prog 40 = true := by kernel_rfl
theorem en_41 : enterable Tryz.prog 41 = true := by kernel_rfl
theorem en_42 : enterable Tryz.prog 42 = true := by kernel_rfl
theorem en_43 : enterable Tryz.prog 43 = true := by kernel_rfl
theorem en_44 : enterable Tryz.prog 44 = true := by kernel_rfl
theorem en_45 : enterable Tryz.prog 45 = true := by kernel_rfl
theorem en_46 : enterable Tryz.prog 46 = true := by kernel_rfl
theorem en_47 : enterable Tryz.prog 47 = true := by kernel_rfl
theorem en_48 : enterable Tryz.prog 48 = true := by kernel_rfl
theorem en_49 : enterable Tryz.prog 49 = true := by kernel_rfl
theorem en_5 : enterable Tryz.prog 5 = true := by kernel_rfl
theorem en_50 : enterable Tryz.prog 50 = true := by kernel_rfl
theorem en_51 : enterable Tryz.prog 51 = true := by kernel_rfl
theorem en_52 : enterable Tryz.prog 52 = true := by kernel_rfl
theorem en_53 : enterable Tryz.prog 53 = true := by kernel_rfl
theorem en_54 : enterable Tryz.prog 54 = true := by kernel_rfl
theorem en_55 : enterable Tryz.prog 55 = true := by kernel_rfl
theorem en_56 : enterable Tryz.prog 56 = true := by kernel_rfl
theorem en_57 : enterable Tryz.prog 57 = true := by kernel_rfl
theorem en_58 : enterable Tryz.prog 58 = true := by kernel_rfl
theorem en_6 : enterable Tryz.prog 6 = true := by kernel_rfl
theorem en_65 : enterable Tryz.prog 65 = true := by kernel_rfl
theorem en_66 : enterable Tryz.prog 66 = true := by kernel_rfl
theorem en_68 : enterable Tryz.prog 68 = true := by kernel_rfl
theorem en_69 : enterable Tryz.prog 69 = true := by kernel_rfl
theorem en_7 : enterable Tryz.prog 7 = true := by kernel_rfl
theorem en_70 : enterable Tryz.prog 70 = true := by kernel_rfl
theorem en_71 : enterable Tryz.prog 71 = true := by kernel_rfl
theorem en_72 : enterable Tryz.prog 72 = true := by kernel_rfl
theorem en_73 : enterable Tryz.prog 73 = true := by kernel_rfl
theorem en_74 : enterable Tryz.prog 74 = true := by kernel_rfl
theorem en_75 : enterable Tryz.prog 75 = true := by kernel_rfl
theorem en_8 : enterable Tryz.prog 8 = true := by kernel_rfl
theorem en_81 : enterable Tryz.prog 81 = true := by kernel_rfl
theorem en_9 : enterable Tryz.prog 9 = true := by kernel_rfl
theorem en_92 : enterable Tryz.prog 92 = true := by kernel_rfl
theorem en_93 : enterable Tryz.prog 93 = true := by kernel_rfl
theorem en_94 : enterable Tryz.prog 94 = true := by kernel_rfl
theorem en_95 : enterable Tryz.prog 95 = true := by kernel_rfl
theorem mo : Tryz.prog.follows .mixedOrders = true := by kernel_rfl
theorem s_22 : sz Tryz.prog 22 = some 1 := by kernel_rfl
theorem s_25 : sz Tryz.prog 25 = some 1 := by kernel_rfl
theorem s_3 : sz Tryz.prog 3 = some 1 := by kernel_rfl
theorem s_38 : sz Tryz.prog 38 = some 5 := by kernel_rfl
theorem s_45 : sz Tryz.prog 45 = some 4 := by kernel_rfl
theorem s_5 : sz Tryz.prog 5 = some 1 := by kernel_rfl
theorem s_61 : sz Tryz.prog 61 = some 6 := by kernel_rfl
theorem s_79 : sz Tryz.prog 79 = some 9 := by kernel_rfl
theorem s_9 : sz Tryz.prog 9 = some 1 := by kernel_rfl
theorem s_90 : sz Tryz.prog 90 = some 1 := by kernel_rfl
theorem z_38 : zr Tryz.prog 38 = some (Value.agg #[(Value.int .i64 0), (Value.int .i64 0), (Value.string ByteArray.empty), (Value.string ByteArray.empty), (Value.int .i64 0)]) := by kernel_rfl
theorem z_45 : zr Tryz.prog 45 = some (Value.agg #[(Value.int .i64 0), (Value.int .i64 0), (Value.int .i64 0), (Value.int .i64 0)]) := by kernel_rfl
theorem z_5 : zr Tryz.prog 5 = some (Value.int .u8 0) := by kernel_rfl
theorem z_61 : zr Tryz.prog 61 = some (Value.agg #[(Value.int .i64 0), (Value.int .i64 0), (Value.string ByteArray.empty), (Value.string ByteArray.empty), (Value.int .i64 0), (Value.int .i64 0)]) := by kernel_rfl
theorem z_79 : zr Tryz.prog 79 = some (Value.agg #[(Value.int .i64 0), (Value.int .i64 0), (Value.int .i64 0), (Value.int .i64 0), (Value.int .i64 0), (Value.string ByteArray.empty), (Value.string ByteArray.empty), (Value.string ByteArray.empty), (Value.slice none 0 0)]) := by kernel_rfl
theorem z_9 : zr Tryz.prog 9 = some (Value.string ByteArray.empty) := by kernel_rfl
theorem eqt_38 {d : Nat} {a b : G_api_Node} : EqT Tryz.prog (d + 2) 38 (.agg (cNd a).toArray) (.agg (cNd b).toArray) (decide (a = b)) := by
  obtain ⟨a0, a1, a2, a3, a4⟩ := a
  obtain ⟨b0, b1, b2, b3, b4⟩ := b
  have h := eqt_struct (P := Tryz.prog) (d := d + 1) (xs := (cNd ⟨a0, a1, a2, a3, a4⟩).toArray) (ys := (cNd ⟨b0, b1, b2, b3, b4⟩).toArray) Tryz.underlying38 (by kernel_rfl) (eqf_cons (vx := (I a0)) (vy := (I b0)) (by decide) (by kernel_rfl) (by kernel_rfl) (eqt_I Tryz.underlying3) (eqf_cons (vx := (I a1)) (vy := (I b1)) (by decide) (by kernel_rfl) (by kernel_rfl) (eqt_I Tryz.underlying3) (eqf_cons (vx := (S a2)) (vy := (S b2)) (by decide) (by kernel_rfl) (by kernel_rfl) (eqt_S Tryz.underlying9) (eqf_cons (vx := (S a3)) (vy := (S b3)) (by decide) (by kernel_rfl) (by kernel_rfl) (eqt_S Tryz.underlying9) (eqf_cons (vx := (I a4)) (vy := (I b4)) (by decide) (by kernel_rfl) (by kernel_rfl) (eqt_I Tryz.underlying3) eqf_nil)))))
  have e : (decide (a0 = b0) && (decide (a1 = b1) && (decide (a2 = b2) && (decide (a3 = b3) && (decide (a4 = b4) && (true)))))) = decide ((G_api_Node.mk a0 a1 a2 a3 a4) = (G_api_Node.mk b0 b1 b2 b3 b4)) := by
    rw [Bool.eq_iff_iff]; simp [and_assoc]
  rw [e] at h; exact h
theorem neq_38 {xo yo : Operand} {a b : G_api_Node} : keep (abin Tryz.prog .neq 38 xo yo (.agg (cNd a).toArray) (.agg (cNd b).toArray)) = some (Bo (!decide (a = b))) :=
  neq_of rfl rfl (by kernel_rfl) (eqt_38 (d := 9998))
theorem eqt_45 {d : Nat} {a b : G_api_Stat} : EqT Tryz.prog (d + 2) 45 (.agg (c_api_Stat a).toArray) (.agg (c_api_Stat b).toArray) (decide (a = b)) := by
  obtain ⟨a0, a1, a2, a3⟩ := a
  obtain ⟨b0, b1, b2, b3⟩ := b
  have h := eqt_struct (P := Tryz.prog) (d := d + 1) (xs := (c_api_Stat ⟨a0, a1, a2, a3⟩).toArray) (ys := (c_api_Stat ⟨b0, b1, b2, b3⟩).toArray) Tryz.underlying45 (by kernel_rfl) (eqf_cons (vx := (I a0)) (vy := (I b0)) (by decide) (by kernel_rfl) (by kernel_rfl) (eqt_I Tryz.underlying3) (eqf_cons (vx := (I a1)) (vy := (I b1)) (by decide) (by kernel_rfl) (by kernel_rfl) (eqt_I Tryz.underlying3) (eqf_cons (vx := (I a2)) (vy := (I b2)) (by decide) (by kernel_rfl) (by kernel_rfl) (eqt_I Tryz.underlying3) (eqf_cons (vx := (I a3)) (vy := (I b3)) (by decide) (by kernel_rfl) (by kernel_rfl) (eqt_I Tryz.underlying3) eqf_nil))))
  have e : (decide (a0 = b0) && (decide (a1 = b1) && (decide (a2 = b2) && (decide (a3 = b3) && (true))))) = decide ((G_api_Stat.mk a0 a1 a2 a3) = (G_api_Stat.mk b0 b1 b2 b3)) := by
    rw [Bool.eq_iff_iff]; simp [and_assoc]
  rw [e] at h; exact h
theorem eql_45 {xo yo : Operand} {a b : G_api_Stat} : keep (abin Tryz.prog .eql 45 xo yo (.agg (c_api_Stat a).toArray) (.agg (c_api_Stat b).toArray)) = some (Bo (decide (a = b))) :=
  eql_of rfl rfl (by kernel_rfl) (eqt_45 (d := 9998))
end Go.Proofs
