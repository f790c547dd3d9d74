/-
  A logic over the model, part twenty-two: rows that are built at names that were laid ahead; more functions of the library.
-/
import Derived.Test.YtpfbnghalpfoaaaDoorFP
import Derived.Lib.BitFns
namespace Go.Fhl
open Go.RowKit
set_option linter.unusedVariables false
set_option linter.unusedSimpArgs false
theorem Rel.allocAny {hm : GM} {lb : LM} {w0 : World} {U : Env} {st : AS} {w : World} {a : Act} (r : Rel hm lb w0 U st w a) (o : Obj) : Rel hm lb w0 U st (w.alloc o) a :=
  { toHRel := r.toHRel.alloc o, defers := r.defers, tsize := r.tsize, base_le := r.base_le, tmps := r.tmps, llen := r.llen, linj := r.linj, lheap := r.lheap,
    loc := fun k cs h => by
      obtain ⟨B, C, e, fz, h1, h2, h3⟩ := r.loc k cs h
      exact ⟨B, C, e, fz, h1, alloc_get_old h2, h3⟩ }
section
variable {P : Program} {n0 b0 : Nat} {Tm : List (Nat × Value)} {Lo : List (List Value)} {He : AH} {v : Value} {x y : Operand} {d : Option Tmp} {ty : TypeId} {pos : String} {af : Array Edge} {g : Option (Nat × Bool)}
/-- A new row at a name that was laid ahead. -/
theorem ex_buildSliceGAt {t e : TypeId} {s len m : Nat} {ps : Array (Nat × Operand)} {qs : List (Nat × Value)} {cells : List Value} {H' : AH} (hu : und P t = some (.slice e)) (hs : sz P e = some s) (hlen : len * s ≤ 16777216) (hpos : 0 < s) (hl0 : 0 < len) (hq : EVp Tm ps.toList qs) (hnt : noTup qs = true)
    (hb : bsCells P e s len qs = some cells) (hpu : cells.all pure1 = true) (hl : cells.length = len * s) (hk : He.get m = some ⟨s, [], true⟩) (hH : He.set m ⟨s, cells, true⟩ = H') :
    AExec P ⟨d, .buildSlice t len ps, ty, pos, af, g⟩ ⟨n0, b0, Tm, Lo, He⟩ (GV m len) Lo H' :=
  .of_value fun hm lb w0 U w a r => by
    subst hH
    obtain ⟨C, h1, h2⟩ := buildSlice_run r hu hs hlen hpos hnt hb (ps' := ps.map fun p => (p.1, a.eval p.2)) (by rw [Array.toList_map]; exact r.EVp hq)
    have hlen := h2.1
    simp at hlen
    have hp : 0 < len * s := Nat.mul_pos hl0 hpos
    obtain ⟨i, g1, g2, g3, g4, _, _⟩ := r.blk m _ hk
    have g4' := (g4 rfl).1
    have h := r.reBlk (i' := ⟨w.heap.size, C.size, s, true, cells.length⟩) (b' := ⟨s, cells, true⟩) (w' := World.alloc w (.cells C e (0, 0))) hk g1
      (.inr ⟨g3, rfl, g2.symm, by rw [g4']; simp only [List.length_nil]; omega⟩) rfl rfl (fun _ => ⟨rfl, hpos⟩) hpu rfl rfl rfl (by simp) (fun B _ hB => alloc_get_lt hB) (.inr ⟨Nat.le_refl _, by simp⟩)
      ⟨C, e, (0, 0), alloc_get_new w _, rfl, by simp only; omega, Free.zero _, fun k v hk => by
        obtain ⟨v', h3, h4⟩ := h2.get hk
        exact ⟨v', by simpa using h3, h4.repl (List.all_eq_true.1 hpu v (List.mem_of_getElem? hk)) fun _ _ _ q => q⟩⟩
    refine ⟨_, lb, _, .slice (some ⟨w.heap.size, 0, none⟩) len len, by simp [execOp, h1], h.1, LM.le_refl _, h.2, .of_sr rfl ⟨_, some ⟨w.heap.size, 0, none⟩, len, GM.put_same, rfl, rfl, ?_, fun _ => ⟨Nat.le_refl _, fun _ => rfl, ?_⟩⟩⟩
    · simp only; omega
    · simp only; omega
/-- A row of nothing: at whatever name. -/
theorem tx_bs0At {t e : TypeId} {s m : Nat} {cells : List Value} (hu : und P t = some (.slice e)) (hs : sz P e = some s) (hpos : 0 < s) (hb : bsCells P e s 0 [] = some []) (hk : He.get m = some ⟨s, cells, true⟩) :
    AExec P ⟨d, .buildSlice t 0 #[], ty, pos, af, g⟩ ⟨n0, b0, Tm, Lo, He⟩ (GV m 0) Lo He :=
  .of_value fun hm lb w0 U w a r => by
    obtain ⟨C, h1, h2⟩ := buildSlice_run r (ps' := #[]) hu hs (by omega) hpos rfl hb ⟨rfl, fun i x y h => by simp at h⟩
    obtain ⟨i, g1, g2, g3, g4, _, _⟩ := r.blk m _ hk
    refine ⟨hm, lb, w.alloc (.cells C e), .slice (some ⟨w.heap.size, 0, none⟩) 0 0, by simp [execOp, h1], GM.le_refl _, LM.le_refl _, r.allocAny _, .of_sr rfl ⟨_, some ⟨w.heap.size, 0, none⟩, 0, g1, g3, rfl, by simp, fun _ => ⟨Nat.le_refl _, fun q => absurd rfl q, by simp⟩⟩⟩
end
theorem wrap_u64 {n : Int} : IntKind.u64.wrap n = ((UInt64.ofInt n).toNat : Int) := by
  simp only [IntKind.wrap, IntKind.bits, IntKind.signed, Bool.false_and, Bool.false_eq_true, if_false, UInt64.ofInt, UInt64.toNat_ofNat']
  have : (2 : Int) ^ 64 = 18446744073709551616 := by decide
  have h2 : (2 : Nat) ^ 64 = 18446744073709551616 := by decide
  rw [this, h2]
  omega
section
variable {P : Program} {n0 b0 : Nat} {Tm : List (Nat × Value)} {Lo : List (List Value)} {He : AH} {x : Operand} {d : Option Tmp} {ty : TypeId} {pos : String} {af : Array Edge} {g : Option (Nat × Bool)}
theorem tx_64_u64 {src dst : TypeId} {ds : TypeDesc} {n : Int} (hs : und P src = some ds) (hd : und P dst = some (.int .u64)) (hx : ev Tm x = I n) : AExec P ⟨d, .convert src dst x, ty, pos, af, g⟩ ⟨n0, b0, Tm, Lo, He⟩ (U64 (UInt64.ofInt n)) Lo He := by
  have := ex_convInt (n0 := n0) (b0 := b0) (Lo := Lo) (He := He) (d := d) (ty := ty) (pos := pos) (af := af) (g := g) hs hd hx
  rwa [wrap_u64] at this
end
/-- The boxes, in other words. -/
theorem arun_locs {P : Program} {ops : Array Oper} {Q : Exit → AS → Prop} {i n b : Nat} {l : List Oper} {T : List (Nat × Value)} {L L' : List (List Value)} {H : AH} (hL : L = L') (h : ARun P ops i l Q ⟨n, b, T, L', H⟩) : ARun P ops i l Q ⟨n, b, T, L, H⟩ := hL ▸ h
theorem awp_knRL {P : Program} {Q : Exit → AS → Prop} {c : Code} {st st' s0 : AS} (ts : List Nat) (k m : Nat) (T' : List (Nat × Value)) (L' : List (List Value)) (h : AWp P c (fun e s => e = .normal ∧ s = s0) st) (ho : okKeep s0 ts k m = true) (he : s0.keep ts k m = st') (hT : ReT st'.tmps T') (hL : st'.locs = L') (q : Q .normal ⟨st'.n, st'.base, T', L', st'.heap⟩) : AWp P c Q st :=
  awp_knR ts k m T' h ho he hT (hL ▸ q)
/-- strings.Compare. -/
def M_compare (s u : Str) : Option Int := some (Lib.compareBytes s u)
theorem ffn_compare {P : Program} {f : FuncId}
    (h1 : ∀ (s u : ByteArray) (w : World), Calls P f #[.string s, .string u] w fun e w' => e = .returned (.int .i64 (Lib.compareBytes s.data.toList u.data.toList)) ∧ w' = w)
    (t0 t1 : Str) (r : Int) (h : M_compare t0 t1 = some r) : FFn P f [S t0, S t1] (I r) := by
  cases h
  refine ffn_of_below rfl fun hm w0 U w cargs hr ha => ?_
  rw [args2 (by rfl) (by rfl) ha]
  refine (h1 (sB t0) (sB t1) w).mono fun e w' ⟨he, hw⟩ => ⟨?_, hw ▸ Below.refl _ _⟩
  rw [he, sB_data, sB_data]
/-- bits.Len. -/
def M_bitLen (x : UInt64) : Option Int := some (Lib.bitLen x.toNat : Int)
theorem args1' {hm : GM} {x : Value} {cs : Array Value} (hx : plain x = true) (h : L2 (VR hm []) [x] cs.toList) : cs = #[x] := by
  obtain ⟨c1, t1', e1, a1, ha1⟩ := h.cons_inv
  have e3 := ha1.nil_inv
  apply Array.toList_inj.1; rw [e1, e3, a1.plain hx]
theorem ffn_bitLen {P : Program} {f : FuncId}
    (h1 : ∀ (x : Int) (w : World), 0 ≤ x → x ≤ 18446744073709551615 → Calls P f #[.int .u64 x] w fun e w' => e = .returned (.int .i64 (Lib.bitLen x.toNat)) ∧ w' = w)
    (t0 : UInt64) (r : Int) (h : M_bitLen t0 = some r) : FFn P f [U64 t0] (I r) := by
  cases h
  refine ffn_of_below rfl fun hm w0 U w cargs hr ha => ?_
  rw [args1' (by rfl) ha]
  have := t0.toNat_lt
  refine (h1 (t0.toNat : Int) w (by omega) (by omega)).mono fun e w' ⟨he, hw⟩ => ⟨?_, hw ▸ Below.refl _ _⟩
  rw [he, Int.toNat_natCast]
end Go.Fhl
