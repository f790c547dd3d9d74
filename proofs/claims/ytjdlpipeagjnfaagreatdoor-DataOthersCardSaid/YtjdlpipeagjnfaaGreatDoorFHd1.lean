/-
  A logic over the model, in one text.
-/
import Derived.Test.YtjdlpipeagjnfaaGreatDoorFHc1
import Derived.Below
import Derived.Lib.Join
import Derived.Lib.Repeat
import Derived.Lib.Bytealg
import Derived.Lib.BitFns
/-
  A logic over the model, part seventeen: functions of the library.
-/
namespace Go.Fhl
open Go.RowKit
set_option linter.unusedVariables false
set_option linter.unusedSimpArgs false
theorem HRel.below {hm : GM} {w0 : World} {U : Env} {w w' : World} (r : HRel hm w0 U AH.empty w) (h : Below w.heap.size w w') : HRel hm w0 U AH.empty w' where
  os := h.os.trans r.os
  tape := h.tape.trans r.tape
  output := h.output.trans r.output
  size := Nat.le_trans r.size h.size
  prot := fun B hB => by
    obtain ⟨h1, h2⟩ := r.prot B hB
    exact ⟨h1, (h.block B (r.ult hB)).trans h2⟩
  protz := r.protz
  fresh := r.fresh
  frz := fun B k v hz => by
    obtain ⟨h1, C, e, fz, v', h2, h3, h4⟩ := r.frz B k v hz
    exact ⟨h1, C, e, fz, v', (h.block B (r.fz_lt hz)).trans h2, h3, h4⟩
  blk := fun n b hb => by cases hb
  inj := fun n b n' b' i i' hb => by cases hb
/-- A function whose answer is plain, and that leaves what is there. -/
theorem ffn_of_below {P : Program} {f : FuncId} {args : List Value} {v : Value} (hv : plain v = true)
    (h : ∀ (hm : GM) (w0 : World) (U : Env) (w : World) (cargs : Array Value), HRel hm w0 U AH.empty w → L2 (VR hm []) args cargs.toList → Calls P f cargs w fun e w' => e = .returned v ∧ Below w.heap.size w w') : FFn P f args v := by
  intro hm w0 U w cargs hr ha
  refine (h hm w0 U w cargs hr ha).mono fun e w' ⟨h1, h2⟩ => ?_
  exact ⟨hm, v, v, AH.empty, h1, GM.leb_refl _ _, Nat.le_refl _, hr.below h2, .of_plain hv, rfl⟩
/-- strings.Join. -/
def joinS (xs : List Str) (sep : Str) : Str := Lib.join xs sep
def M_join (xs : List Str) (sep : Str) : Option Str := if xs.length ≤ 140737488355328 ∧ (joinS xs sep).length ≤ 140737488355328 then some (joinS xs sep) else none
/-- Two arguments that are plain. -/
theorem args2 {hm : GM} {x y : Value} {cargs : Array Value} (hx : plain x = true) (hy : plain y = true) (ha : L2 (VR hm []) [x, y] cargs.toList) : cargs = #[x, y] := by
  obtain ⟨c1, t1', e1, a1, ha1⟩ := ha.cons_inv
  obtain ⟨c2, t2', e2, a2, ha2⟩ := ha1.cons_inv
  have e3 := ha2.nil_inv
  apply Array.toList_inj.1; rw [e1, e2, e3, a1.plain hx, a2.plain hy]
/-- strings.Repeat. -/
def M_repeat (s : Str) (c : Int) : Option Str := if 0 ≤ c ∧ c ≤ 9223372036854775807 ∧ s.length * c.toNat ≤ 140737488355328 then some (Lib.repeatL s c.toNat) else none
theorem ffn_repeat {P : Program} {f : FuncId}
    (h1 : ∀ (s : ByteArray) (c : Nat) (w : World) (hc : c ≤ 9223372036854775807) (hlen : s.size * c ≤ 140737488355328), Calls P f #[.string s, .int .i64 c] w fun e w' => e = .returned (.string ⟨(Lib.repeatL s.data.toList c).toArray⟩) ∧ Below w.heap.size w w')
    (t0 : Str) (t1 : Int) (r : Str) (h : M_repeat t0 t1 = some r) : FFn P f [S t0, I t1] (S r) := by
  unfold M_repeat at h
  split at h
  · rename_i hc
    cases h
    refine ffn_of_below rfl fun hm w0 U w cargs hr ha => ?_
    rw [args2 (by rfl) (by rfl) ha]
    obtain ⟨c, rfl⟩ : ∃ c : Nat, t1 = c := ⟨t1.toNat, by omega⟩
    have := h1 (sB t0) c w (by omega) (by rw [sB_size]; simpa using hc.2.2)
    rw [sB_data] at this
    rw [Int.toNat_natCast]
    exact this
  · cases h
end Go.Fhl

/-
  A logic over the model, part nineteen: more functions of the library.
-/
namespace Go.Fhl
open Go.RowKit
set_option linter.unusedVariables false
set_option linter.unusedSimpArgs false
/-! ### Guards that are known -/
theorem gT {x : Option Bool} {g : Bool} (h : x = some g) (hc : g = true) : x = some true := by rw [h, hc]
theorem gF {x : Option Bool} {g : Bool} (h : x = some g) (hc : g = false) : x = some false := by rw [h, hc]
theorem pkAndD {c a : Bool} : cond c (Value.bool a) (.bool false) = Value.bool (c && a) := by cases c <;> rfl
theorem pkAndS {c : Bool} {w : Value} (h : (c == true) = false) : cond c w (.bool false) = Value.bool c := by cases c <;> first | rfl | cases h
/-- strings.IndexByte. -/
def M_indexByte (s : Str) (c : UInt8) : Option Int := some (Lib.indexByte s c)
theorem ffn_indexByte {P : Program} {f : FuncId}
    (h1 : ∀ (s : ByteArray) (c : Int) (w : World), Calls P f #[.string s, .int .u8 c] w fun e w' => e = .returned (.int .i64 (Lib.indexByte s.data.toList c.toNat.toUInt8)) ∧ w' = w)
    (t0 : Str) (t1 : UInt8) (r : Int) (h : M_indexByte t0 t1 = some r) : FFn P f [S t0, U8 t1] (I r) := by
  cases h
  refine ffn_of_below rfl fun hm w0 U w cargs hr ha => ?_
  rw [args2 (by rfl) (by rfl) ha]
  refine (h1 (sB t0) (t1.toNat : Int) w).mono fun e w' ⟨he, hw⟩ => ⟨?_, hw ▸ Below.refl _ _⟩
  rw [he, sB_data, Int.toNat_natCast]
  have : t1.toNat.toUInt8 = t1 := by simp
  rw [this]
/-- strings.Index, where one byte is looked for. -/
def M_index (s t : Str) : Option Int := match t with | [c] => some (Lib.indexByte s c) | _ => none
theorem ffn_index {P : Program} {f : FuncId}
    (h1 : ∀ (s : ByteArray) (c : UInt8) (w : World), Calls P f #[.string s, .string ⟨#[c]⟩] w fun e w' => e = .returned (.int .i64 (Lib.indexByte s.data.toList c)) ∧ w' = w)
    (t0 : Str) (t1 : Str) (r : Int) (h : M_index t0 t1 = some r) : FFn P f [S t0, S t1] (I r) := by
  unfold M_index at h
  split at h
  · rename_i c
    cases h
    refine ffn_of_below rfl fun hm w0 U w cargs hr ha => ?_
    rw [args2 (by rfl) (by rfl) ha]
    refine (h1 (sB t0) c w).mono fun e w' ⟨he, hw⟩ => ⟨?_, hw ▸ Below.refl _ _⟩
    rw [he, sB_data]
  · cases h
/-- strings.Count, where one byte is counted. -/
def M_count (s t : Str) : Option Int := match t with | [c] => some (Lib.countByte s c : Int) | _ => none
theorem ffn_count {P : Program} {f : FuncId}
    (h1 : ∀ (s : ByteArray) (c : UInt8) (w : World), Calls P f #[.string s, .string ⟨#[c]⟩] w fun e w' => e = .returned (.int .i64 (Lib.countByte s.data.toList c)) ∧ w' = w)
    (t0 : Str) (t1 : Str) (r : Int) (h : M_count t0 t1 = some r) : FFn P f [S t0, S t1] (I r) := by
  unfold M_count at h
  split at h
  · rename_i c
    cases h
    refine ffn_of_below rfl fun hm w0 U w cargs hr ha => ?_
    rw [args2 (by rfl) (by rfl) ha]
    refine (h1 (sB t0) c w).mono fun e w' ⟨he, hw⟩ => ⟨?_, hw ▸ Below.refl _ _⟩
    rw [he, sB_data]
  · cases h
end Go.Fhl

/-
  A logic over the model, continued: boxes of the frame that hold a slice that grows. Nothing of any program stands here.
-/
namespace Go.Fhl
set_option linter.unusedVariables false
set_option linter.unusedSimpArgs false
section
variable {α : Type} {c : α → List Value} {s : Nat} {xs : List α}
end
section
variable {P : Program} {ops : Array Oper} {Q : Exit → AS → Prop} {i n b : Nat} {l : List Oper} {T : List (Nat × Value)} {L L' : List (List Value)} {H : AH}
end
end Go.Fhl

/-
  A logic over the model, continued: parts of elements, frozen boxes, closures, parts of rows, copies. Nothing of any program stands here.
-/
namespace Go.Fhl
set_option linter.unusedVariables false
set_option linter.unusedSimpArgs false
section
variable {α : Type} {c : α → List Value} {s : Nat} {xs ys : List α} {e e' : α}
/-! ## Parts of elements -/
theorem spl_elem (hc : CE c s) {k off : Nat} {vs : List Value} (hk : xs[k]? = some e) (hl : off + vs.length ≤ s) (hv : spl (c e) off vs = c e') : spl (xs.flatMap c) (k * s + off) vs = (xs.set k e').flatMap c := by
  have hlt := lookup_lt hk
  have hm : (k + 1) * s ≤ xs.length * s := Nat.mul_le_mul_right _ hlt
  rw [Nat.add_mul, Nat.one_mul] at hm
  have hfl := hc.flat xs
  have hone := hc.one hk
  have hel := hc.len e
  have hel' := hc.len e'
  rw [← hc.set hlt e']
  refine List.ext_getElem? fun i => ?_
  rw [spl_get (by omega), spl_get (by omega), hel']
  have hin : ∀ j, j < s → (c e')[j]? = if j < off then (xs.flatMap c)[k * s + j]? else if j < off + vs.length then vs[j - off]? else (xs.flatMap c)[k * s + j]? := fun j hj => by
    rw [← hv, spl_get (by omega)]
    have : (c e)[j]? = (xs.flatMap c)[k * s + j]? := by rw [← hone, List.getElem?_take_of_lt hj, List.getElem?_drop]
    rw [this]
  by_cases a : i < k * s
  · rw [if_pos (by omega), if_pos a]
  · rw [if_neg (c := i < k * s) a]
    by_cases b : i < k * s + s
    · rw [if_pos (c := i < k * s + s) b, hin _ (by omega)]
      have e1 : k * s + (i - k * s) = i := by omega
      rw [e1]
      by_cases d : i < k * s + off
      · rw [if_pos d, if_pos (c := i - k * s < off) (by omega)]
      · rw [if_neg d, if_neg (c := i - k * s < off) (by omega)]
        by_cases f : i < k * s + off + vs.length
        · rw [if_pos f, if_pos (c := i - k * s < off + vs.length) (by omega)]; congr 1; omega
        · rw [if_neg f, if_neg (c := i - k * s < off + vs.length) (by omega)]
    · rw [if_neg (c := i < k * s + s) b, if_neg (by omega), if_neg (by omega)]
variable {P : Program} {n0 b0 : Nat} {Tm : List (Nat × Value)} {Lo : List (List Value)} {He : AH} {v : Value} {x y : Operand} {d : Option Tmp} {ty : TypeId} {pos : String} {af : Array Edge} {g : Option (Nat × Bool)}
theorem tx_stFp {T : TypeId} {m off q : Nat} {i : Int} {vy : Value} {vs : List Value} {H' : AH} (hc : CE c (s + 1)) (hs : sz P T = some vs.length) (hx : ev Tm x = NP m q) (hq : q = i.toNat * (s + 1) + off) (hy : EV Tm y vy) (hvy : cellsOf vy = some vs) (hb : He.get m = some ⟨s + 1, xs.flatMap c, false⟩) (hg : getI xs i = some e)
    (hl : off + vs.length ≤ s + 1) (hv : spl (c e) off vs = c e') (hp : vs.all pure1 = true) (hne : vs ≠ []) (h : setI xs i e' = some ys) (hH : He.set m ⟨s + 1, ys.flatMap c, false⟩ = H') :
    AExec P ⟨d, .store T x y, ty, pos, af, g⟩ ⟨n0, b0, Tm, Lo, He⟩ undef Lo H' := by
  subst hq
  obtain ⟨h0, h1, rfl⟩ := setI_some h
  obtain ⟨_, g1⟩ := getI_some hg
  have hm : (i.toNat + 1) * (s + 1) ≤ xs.length * (s + 1) := Nat.mul_le_mul_right _ h1
  rw [Nat.add_mul, Nat.one_mul] at hm
  refine ex_storeF hx hy hvy hs hb rfl (by simp only [hc.flat]; omega) hp hne ?_
  rw [← hH]; simp only [spl_elem hc g1 hl hv]
/-! ## A box that is never written again -/
theorem ex_boxD {T : TypeId} {vx : Value} {cs : List Value} (hx : EV Tm x vx) (hcs : cellsOf vx = some cs) (hp : cs.all pure1 = true) : AExec P ⟨d, .box T x, ty, pos, af, g⟩ ⟨n0, b0, Tm, Lo, He⟩ (DP cs) Lo He :=
  .of_value fun hm lb w0 U w a r => by
    have hr := cells_rel (r.EV hx) hcs
    obtain ⟨hm', h3, h4, h5⟩ := r.newDeep (a.eval x).cells T (0, 0) cs hp (fun k v hk => by
      obtain ⟨v', h3, h4⟩ := hr.get hk
      exact ⟨v', by simpa using h3, h4.repl (List.all_eq_true.1 hp v (List.mem_of_getElem? hk)) fun _ _ _ q => q⟩)
    refine ⟨hm', lb, _, .pointer (some ⟨w.heap.size, 0, none⟩), ?_, h3, LM.le_refl _, h4, .of_sr rfl ⟨_, 0, rfl, fun j c hj => by rw [Nat.zero_add]; exact h5 j c (by simpa using hj)⟩⟩
    simp [execOp, Instr.box, newVar, newRow]
end

/-! ## A named block that is a box: frozen -/
def FzP (n : Nat) (b : Blk) (v v' : Value) : Prop := v' = v ∨ ∃ off, v = NP n off ∧ v' = DP (b.cells.drop off)
def FzPT (n : Nat) (b : Blk) (T T' : List (Nat × Value)) : Prop := ∀ t v', lk T' t = some v' → ∃ v, lk T t = some v ∧ FzP n b v v'
theorem FzPT.nil {n : Nat} {b : Blk} {T : List (Nat × Value)} : FzPT n b T [] := fun t v h => by simp [lk] at h
theorem FzPT.keep {n : Nat} {b : Blk} {T T' : List (Nat × Value)} {t : Nat} {v : Value} (h : lk T t = some v) (k : FzPT n b T T') : FzPT n b T ((t, v) :: T') := by
  intro u v' hu
  rcases lk_push hu with ⟨rfl, rfl⟩ | ⟨h1, h2⟩
  · exact ⟨_, h, .inl rfl⟩
  · exact k u v' h2
theorem FzPT.conv {n : Nat} {b : Blk} {T T' : List (Nat × Value)} {t off : Nat} {cs : List Value} (h : lk T t = some (NP n off)) (hcs : b.cells.drop off = cs) (k : FzPT n b T T') : FzPT n b T ((t, DP cs) :: T') := by
  intro u v' hu
  rcases lk_push hu with ⟨rfl, rfl⟩ | ⟨h1, h2⟩
  · exact ⟨_, h, .inr ⟨off, rfl, by rw [hcs]⟩⟩
  · exact k u v' h2
section
variable {P : Program} {ops : Array Oper} {Q : Exit → AS → Prop} {i n b : Nat} {l : List Oper} {T T' : List (Nat × Value)} {L : List (List Value)} {H : AH}
end

/-! ## Closures that are handed on -/
def pureA : Value → Bool
  | .func _ f cs => f.isEmpty && cs.toList.all pure1
  | v => pureV v
theorem PR.pureP {hm hm' : GM} {lb lb' : LM} {x v : Value} (h : pure1 x = true) (hf : ∀ B k v, hm.fz B k = some v → hm'.fz B k = some v) (e : PR hm lb x v) : PR hm' lb' x v := by
  cases x <;> first | (simp [pure1] at h; done) | exact e | skip
  case pointer a => cases a <;> first | exact e | (simp [pure1] at h; done)
  case iface t x => cases x <;> first | (simp [pure1] at h; done) | exact DeepR.mono hf e
theorem VR.pureA {hm hm' : GM} {lb lb' : LM} {x v : Value} (h : pureA x = true) (hf : ∀ B k v, hm.fz B k = some v → hm'.fz B k = some v) (e : VR hm lb x v) : VR hm' lb' x v := by
  by_cases q : ∃ f a cs, x = .func f a cs
  · obtain ⟨f, a, cs, rfl⟩ := q
    obtain ⟨c', h1, h2, h3⟩ := e.sr rfl
    simp only [Fhl.pureA, Bool.and_eq_true] at h
    exact .of_sr rfl ⟨c', h1, h2, h3.mono fun x y hx z => z.pureP (List.all_eq_true.1 h.2 x hx) hf⟩
  · have hp : pureV x = true := by
      cases x <;> first | exact h | exact absurd ⟨_, _, _, rfl⟩ q
    exact VR.pure hp hf e
/-- An argument as the callee names it: the caller's block n is its block 0. -/
def RnP (n : Nat) (x x' : Value) : Prop := (pure1 x = true ∧ x' = x) ∨ ∃ off, x = NP n off ∧ x' = NP 0 off
def RnM (n : Nat) (x x' : Value) : Prop :=
  (pureV x = true ∧ x' = x) ∨ (∃ off, x = NP n off ∧ x' = NP 0 off) ∨ (∃ len, x = GV n len ∧ x' = GV 0 len) ∨ (∃ len, x = FV n len ∧ x' = FV 0 len) ∨ ∃ g cs cs', x = .func g #[] cs ∧ x' = .func g #[] cs' ∧ L2 (RnP n) cs.toList cs'.toList
theorem RnM.vr {hm : GM} {lb : LM} {n : Nat} {i : Info} (hi : hm.map n = some i) {x x' v : Value} (h : RnM n x x') (e : VR hm lb x v) : VR (hm.only i) [] x' v := by
  have h0 : (hm.only i).map 0 = some i := by simp [GM.only]
  rcases h with ⟨h1, rfl⟩ | ⟨off, rfl, rfl⟩ | ⟨len, rfl, rfl⟩ | ⟨len, rfl, rfl⟩ | ⟨g, cs, cs', rfl, rfl, h2⟩
  · exact VR.pure (hm := hm) h1 (fun _ _ _ z => z) e
  · obtain ⟨c, ⟨i', k1, k2, k3⟩, rfl⟩ := e.sr rfl
    simp only at k1
    rw [hi] at k1; cases k1
    exact .of_sr rfl ⟨c, ⟨i, h0, k2, k3⟩, rfl⟩
  · obtain ⟨i', p, c, k1, k2⟩ := e.sr rfl
    simp only at k1
    rw [hi] at k1; cases k1
    exact .of_sr rfl ⟨i, p, c, h0, k2⟩
  · obtain ⟨i', o, k1, k2⟩ := e.sr rfl
    simp only at k1
    rw [hi] at k1; cases k1
    exact .of_sr rfl ⟨i, o, h0, k2⟩
  · obtain ⟨c', h3, h4, h5⟩ := e.sr rfl
    refine .of_sr rfl ⟨c', h3, h4, h2.1.symm.trans h5.1, fun k x' y hx' hy => ?_⟩
    have hk : k < cs.toList.length := by rw [h2.1]; exact lookup_lt hx'
    have hx := List.getElem?_eq_getElem hk
    have hv := h5.2 k _ _ hx hy
    rcases h2.2 k _ _ hx hx' with ⟨q1, rfl⟩ | ⟨off, q1, rfl⟩
    · exact PR.pureP (hm := hm) (lb := lb) q1 (fun _ _ _ z => z) hv
    · rw [q1] at hv
      obtain ⟨c, ⟨i', k1, k2, k3⟩, rfl⟩ := hv
      simp only at k1
      rw [hi] at k1; cases k1
      exact ⟨c, ⟨i, h0, k2, k3⟩, rfl⟩
section
variable {P : Program} {n0 b0 : Nat} {Tm : List (Nat × Value)} {Lo : List (List Value)} {He : AH} {f : Operand} {args : Array Operand} {ts : Array TypeId} {d : Option Tmp} {ty : TypeId} {pos : String} {af : Array Edge} {gd : Option (Nat × Bool)}
/-- A call of a function of values and closures alone. -/
theorem ex_callA {g : FuncId} {cap : Array Value} {vs : List Value} {v : Value} (hf : ev Tm f = .func (.func g) #[] cap) (hg : enterable P g = true) (ha : CArgs Tm args cap vs) (hp : vs.all pureA = true) (hc : FFn P g vs v) (hv : pureV v = true) :
    AExec P ⟨d, .call ⟨.value f, args, ts⟩, ty, pos, af, gd⟩ ⟨n0, b0, Tm, Lo, He⟩ v Lo He := by
  intro hm lb w0 U w a Q r
  obtain ⟨cargs, hrun, hargs⟩ := call_run (d := d) (ts := ts) (ty := ty) (pos := pos) (af := af) (gd := gd) r hf hg ha
  have hargs' : L2 (VR hm.bare []) vs cargs.toList := hargs.mono fun x y hx q => VR.pureA (hm := hm) (List.all_eq_true.1 hp x hx) (fun _ _ _ z => z) q
  unfold Oper.wp
  rw [hrun]
  refine (hc hm.bare w (hideU hm w) w cargs r.hide hargs').mono fun e w' q => ?_
  obtain ⟨hm', v', cv, H', rfl, q2, q3, q4, q5, rfl⟩ := q
  obtain ⟨h1, h2⟩ := r.unhide q2.fz q4
  exact ⟨_, lb, cv, h1, LM.le_refl _, rfl, VR.pure (hm := hm') hv (fun _ _ _ z => z) q5, h2⟩
/-- A call of a function that is handed one named block. -/
theorem ex_callM {g : FuncId} {cap : Array Value} {vs vs' : List Value} {v : Value} {n : Nat} {b b' : Blk} {H' : AH} (hf : ev Tm f = .func (.func g) #[] cap) (hg : enterable P g = true) (ha : CArgs Tm args cap vs) (hb : He.get n = some b) (hrn : L2 (RnM n) vs vs')
    (hc : AFn P g vs' ⟨1, [(0, b)]⟩ fun x H' => x = v ∧ H'.get 0 = some b') (hv : pureV v = true) (hH : He.set n b' = H') : AExec P ⟨d, .call ⟨.value f, args, ts⟩, ty, pos, af, gd⟩ ⟨n0, b0, Tm, Lo, He⟩ v Lo H' := by
  intro hm lb w0 U w a Q r
  subst hH
  obtain ⟨cargs, hrun, hargs⟩ := call_run (d := d) (ts := ts) (ty := ty) (pos := pos) (af := af) (gd := gd) r hf hg ha
  obtain ⟨i, g1, g2, g3, _⟩ := r.blk n b hb
  have hargs' : L2 (VR (hm.only i) []) vs' cargs.toList := by
    refine ⟨hrn.1.symm.trans hargs.1, fun k x' y hx' hy => ?_⟩
    have hk : k < vs.length := by rw [hrn.1]; exact lookup_lt hx'
    have hx := List.getElem?_eq_getElem hk
    exact (hrn.2 k _ _ hx hx').vr g1 (hargs.2 k _ _ hx hy)
  unfold Oper.wp
  rw [hrun]
  refine (hc (hm.only i) w (oneU hm w i) w cargs (r.enter1 hb g1) hargs').mono fun e w' q => ?_
  obtain ⟨hm', v', cv, H', rfl, q2, q3, q4, q5, rfl, q7⟩ := q
  obtain ⟨i', h0, h1, h2⟩ := r.back1 hb g1 q2 q4 q7
  exact ⟨_, lb, cv, h1, LM.le_refl _, rfl, VR.pure (hm := hm') hv (fun _ _ _ z => z) q5, h2⟩
end
/-- A row that is as long as it was. -/
def withLen {α ρ : Type} (xs : List α) (o : Option (ρ × List α)) : Option (ρ × List α) := o.bind fun p => if p.2.length = xs.length then some p else none
theorem withLen_of {α ρ : Type} {xs : List α} {o : Option (ρ × List α)} {p : ρ × List α} (h : withLen xs o = some p) : o = some p := by
  unfold withLen at h
  cases o with
  | none => cases h
  | some q =>
    change (if q.2.length = xs.length then some q else none) = some p at h
    split at h
    · exact h
    · cases h
theorem withLen_len {α ρ : Type} {xs : List α} {o : Option (ρ × List α)} {p : ρ × List α} (h : withLen xs o = some p) : xs.length = p.2.length := by
  unfold withLen at h
  cases o with
  | none => cases h
  | some q =>
    change (if q.2.length = xs.length then some q else none) = some p at h
    split at h
    · rename_i e; cases h; exact e.symm
    · cases h
end Go.Fhl

/-
  A logic over the model, continued: what hangs on whether a row is nil; copies of texts into rows of bytes. Nothing of any program stands here.
-/
namespace Go.Fhl
set_option linter.unusedVariables false
set_option linter.unusedSimpArgs false
section
variable {P : Program} {ops : Array Oper} {Q : Exit → AS → Prop} {i n b d : Nat} {o : Oper} {l : List Oper} {T : List (Nat × Value)} {L : List (List Value)} {H : AH}
/-- A step whose value the state does not tell: one of a family. -/
theorem arun_stepE {β : Type} (F : β → Value) (hp : β → Prop) (hd : o.dst = some d) (hn : Nat.blt d n = true) (hg : awanted ops T o = some true)
    (h : ∀ hm lb w0 U w a, Rel hm lb w0 U ⟨n, b, T, L, H⟩ w a → ∃ x, hp x ∧ ∃ cv, (execOp a.eval o).run P w = .ok (.value cv) w ∧ VR hm lb (F x) cv)
    (k : ∀ x, hp x → ARun P ops (i + 1) l Q ⟨n, b, (d, F x) :: T, L, H⟩) : ARun P ops i (o :: l) Q ⟨n, b, T, L, H⟩ := by
  intro hl hm lb w0 U w a r
  have ho : ops[i]? = some o := hl 0 o rfl
  rw [List.length_cons, List.range'_succ, wpOps_cons]
  obtain ⟨x, hx, cv, h1, h2⟩ := h hm lb w0 U w a r
  have hw := awanted_ok r hg
  refine wpOp_mono (K := fun a' w' => a' = a.put o.dst cv ∧ w' = w) (fun a' w' q => ?_) ?_
  · obtain ⟨rfl, rfl⟩ := q
    rw [hd]
    exact k x hx (fun x o' e => by rw [Nat.add_assoc, Nat.add_comm 1 x]; exact hl (x + 1) o' (by simpa using e)) hm lb w0 U _ _ (Rel.push r hn h2)
  · simp only [wpOp, ho, hw, if_true]
    refine .inl ?_
    unfold Oper.wp
    rw [h1]
    exact ⟨rfl, rfl⟩
end
theorem equalIn_slNil {P : Program} {w : World} (k : Nat) {t e : TypeId} {a : Option Addr} {n c m q : Nat} (hu : und P t = some (.slice e)) : (Op.equalIn (k + 1) t (.slice a n c) (.slice none m q)).run P w = .ok a.isNone w := by
  cases a <;> simp [Op.equalIn, run_und hu]
theorem isNil_ok {α : Type} {c : α → List Value} {s : Nat} {xs : List α} {P : Program} {n b : Nat} {T : List (Nat × Value)} {L : List (List Value)} {H : AH} {t e u : TypeId} {x y : Operand} {d : Option Tmp} {ty : TypeId} {pos : String} {af : Array Edge} {g : Option (Nat × Bool)} (hc : CE c (s + 1)) (hu : und P t = some (.slice e)) (hx : ev T x = SL (s + 1) c xs) (hy : ev T y = .slice none 0 0) :
    ∀ hm lb w0 U w a, Rel hm lb w0 U ⟨n, b, T, L, H⟩ w a → ∃ v : Bool, (v = true → xs = []) ∧ ∃ cv, (execOp a.eval ⟨d, .binOp .eql t x y u, ty, pos, af, g⟩).run P w = .ok (.value cv) w ∧ VR hm lb (Bo v) cv := by
  intro hm lb w0 U w a r
  obtain ⟨a0, m, cap, h1, h2, h3, h4⟩ := (r.evEq hx).sr rfl
  have h5 : a.eval y = .slice none 0 0 := (r.evEq hy).sr rfl
  refine ⟨a0.isNone, fun q => ?_, .bool a0.isNone, ?_, .of_sr rfl rfl⟩
  · rcases h4 with h4 | ⟨B, o, rfl, _⟩
    · have := hc.flat xs
      rw [List.toList_toArray] at h4
      rw [h4] at this
      cases xs with
      | nil => rfl
      | cons x xs => simp at this
    · cases q
  · simp only [execOp]
    rw [h1, h5, Sem.run_bind]
    simp only [eqGuard, binOp, equal_eq, Sem.run_bind, equalIn_slNil 9999 hu]
    rfl
theorem clone_nil {α : Type} {b : Nat} {xs r : List α} (h1 : xs = []) (h : (appL b [] xs).bind (fun x => some x) = some r) : r = [] := by
  subst h1
  obtain ⟨x, hx, h⟩ := bindS h
  cases h
  exact (appL_some hx).2

/-! ## Copies of texts -/
def copyL (xs : List UInt8) (off : Nat) (u : Str) : List UInt8 := xs.take off ++ (u.take (min u.length (xs.length - off)) ++ xs.drop (off + min u.length (xs.length - off)))
theorem copyL_length (xs : List UInt8) (off : Nat) (u : Str) (h : off ≤ xs.length) : (copyL xs off u).length = xs.length := by
  unfold copyL; simp; omega
theorem copyL_spl (xs : List UInt8) (off : Nat) (u : Str) (h : off ≤ xs.length) : spl (xs.flatMap c8) off ((u.take (min u.length (xs.length - off))).flatMap c8) = (copyL xs off u).flatMap c8 := by
  have h1 := ce8.take xs off
  have h2 := ce8.drop xs (off + min u.length (xs.length - off))
  have h3 := ce8.flat (u.take (min u.length (xs.length - off)))
  simp only [Nat.mul_one] at h1 h2 h3
  unfold spl copyL
  rw [h3, h1, List.flatMap_append, List.flatMap_append, List.append_assoc, List.length_take, Nat.min_eq_left (Nat.min_le_left _ _), h2]
theorem copy_run {P : Program} {w w' : World} {t e : TypeId} {ts : Array TypeId} {ty : TypeId} {p : Option Addr} {len cap : Nat} {u : Str} (ht : ts[0]? = some t) (hu : und P t = some (.slice e)) (hs : sz P e = some 1)
    (hst : (match p with | some a => storeCells a ((u.take (min u.length len)).flatMap c8) | none => pure ()).run P w = .ok () w') :
    (Builtin.copy_ ts ty #[.slice p len cap, S u]).run P w = .ok (goInt ((min u.length len : Nat) : Int)) w' := by
  have hcells : ((sB u).extract 0 (min u.length len)).data.map (fun b => Value.int .u8 b.toNat) = ((u.take (min u.length len)).flatMap c8).toArray := by
    apply Array.toList_inj.1
    rw [← bcells_sB (u.take (min u.length len))]
    have e1 : (sB u).extract 0 (min u.length len) = sB (u.take (min u.length len)) := by
      have := sB_extract u 0 (min u.length len)
      simpa using this
    rw [e1]
    unfold bcells; simp
  have hmin : Nat.min (sB u).size len = min u.length len := by rw [sB_size]
  unfold Builtin.copy_
  simp only [ht]
  simp only [List.getElem?_toArray, List.getElem?_cons_zero, List.getElem?_cons_succ, Sem.run_bind, run_und hu, Result.andThen_ok, Builtin.lenOf, Sem.run_pure, hmin, run_sizeOf hs, Builtin.firstCells, hcells]
  cases p with
  | none => simp at hst; subst hst; simp
  | some a => simp only at hst; simp [hst]
theorem ups_same {α : Type} {l : List (Nat × α)} {n : Nat} {y : α} (h : lk l n = some y) : ups l n y = l := by
  induction l with
  | nil => cases h
  | cons p l ih =>
    obtain ⟨m, x⟩ := p
    by_cases q : m = n
    · subst q
      rw [lk_cons_self] at h; cases h
      simp [ups, beq_self]
    · rw [lk_cons_ne q] at h
      simp only [ups, beq_ne q, cond_false, ih h]
theorem storeCells_nil {P : Program} {w : World} (a : Addr) : (storeCells a []).run P w = .ok () w := rfl
section
variable {P : Program} {n0 b0 : Nat} {Tm : List (Nat × Value)} {Lo : List (List Value)} {He : AH} {x y : Operand} {d : Option Tmp} {ty : TypeId} {pos : String} {af : Array Edge} {g : Option (Nat × Bool)}
theorem goInt_vr {hm : GM} {lb : LM} {n : Nat} : VR hm lb (I (n : Int)) (goInt (n : Int)) := .of_sr rfl rfl
/-- A text copied into a row whose block stays. -/
theorem tx_copyF {t1 t2 e : TypeId} {m n : Nat} {xs : List UInt8} {u : Str} {H' : AH} (hu : und P t1 = some (.slice e)) (hs : sz P e = some 1) (hx : ev Tm x = FV m n) (hb : He.get m = some ⟨1, xs.flatMap c8, false⟩) (hn : n = xs.length) (hy : ev Tm y = S u) (hH : He.set m ⟨1, (copyL xs 0 u).flatMap c8, false⟩ = H') :
    AExec P ⟨d, .call ⟨.builtin .copy, #[x, y], #[t1, t2]⟩, ty, pos, af, g⟩ ⟨n0, b0, Tm, Lo, He⟩ (I ((min u.length xs.length : Nat) : Int)) Lo H' :=
  .of_value fun hm lb w0 U w a r => by
    subst hn; subst hH
    obtain ⟨i, o, k1, k2, k3, k4, k5, k6⟩ := (r.evEq hx).sr rfl
    have hy' : a.eval y = S u := (r.evEq hy).sr rfl
    have hspl := copyL_spl xs 0 u (Nat.zero_le _)
    simp only [Nat.sub_zero] at hspl
    by_cases q : min u.length xs.length = 0
    · refine ⟨hm, lb, w, _, ?_, GM.le_refl _, LM.le_refl _, ?_, goInt_vr⟩
      · have := copy_run (P := P) (w := w) (w' := w) (t := t1) (ts := #[t1, t2]) (ty := ty) (p := some ⟨i.blk, o, none⟩) (len := xs.length) (cap := xs.length) (u := u) rfl hu hs (by rw [q]; exact storeCells_nil _)
        simp [execOp, resolve, invoke, builtin, k3, hy', this]
      · have : copyL xs 0 u = xs := by unfold copyL; simp only [Nat.sub_zero]; rw [q]; simp
        rw [this]
        have : He.set m ⟨1, xs.flatMap c8, false⟩ = He := by unfold AH.set; rw [ups_same hb]
        rw [this]; exact r
    · have hlen := ce8.flat (u.take (min u.length xs.length))
      have hfl := ce8.flat xs
      have h1 : VR hm lb (NP m 0) (.pointer (some ⟨i.blk, o, none⟩)) := .of_sr rfl ⟨_, ⟨i, k1, k2, by rw [k5 (by omega)]⟩, rfl⟩
      obtain ⟨c, hc, hcx⟩ := h1.sr rfl
      cases hcx
      obtain ⟨hm', w', g1, g2, g3⟩ := write_blk (P := P) (vs := (u.take (min u.length xs.length)).flatMap c8) (vs' := (u.take (min u.length xs.length)).flatMap c8) r hb (by simp only; rw [hlen, List.length_take]; omega) (ce8.pures _) (.inl ⟨rfl, rfl⟩) hc
        (L2.of_plain (by rw [List.all_eq_true]; intro v hv; obtain ⟨z, _, hz⟩ := List.mem_flatMap.1 hv; simp [c8] at hz; subst hz; rfl)) (fun e => by rw [e] at hlen; simp at hlen; omega)
      refine ⟨hm', lb, w', _, ?_, g2, LM.le_refl _, ?_, goInt_vr⟩
      · have := copy_run (P := P) (w := w) (w' := w') (t := t1) (ts := #[t1, t2]) (ty := ty) (p := some ⟨i.blk, o, none⟩) (len := xs.length) (cap := xs.length) (u := u) rfl hu hs g1
        simp [execOp, resolve, invoke, builtin, k3, hy', this]
      · simp only [hspl] at g3; exact g3
/-- A part of a row that may grow, to be written. -/
abbrev SUB (n off len K : Nat) : Value := .slice (some ⟨n, off, some 2⟩) len K
theorem tx_copyS {t1 t2 e : TypeId} {m off n K : Nat} {xs : List UInt8} {u : Str} {H' : AH} (hu : und P t1 = some (.slice e)) (hs : sz P e = some 1) (hx : ev Tm x = SUB m off n K) (hb : He.get m = some ⟨1, xs.flatMap c8, true⟩) (hK : K = xs.length) (hn : off + n = xs.length) (hy : ev Tm y = S u) (hH : He.set m ⟨1, (copyL xs off u).flatMap c8, true⟩ = H') :
    AExec P ⟨d, .call ⟨.builtin .copy, #[x, y], #[t1, t2]⟩, ty, pos, af, g⟩ ⟨n0, b0, Tm, Lo, He⟩ (I ((min u.length n : Nat) : Int)) Lo H' :=
  .of_value fun hm lb w0 U w a r => by
    subst hK; subst hH
    obtain ⟨i, p, cap', k1, k2, k3, k4, k5⟩ := (r.evEq hx).sr rfl
    have hy' : a.eval y = S u := (r.evEq hy).sr rfl
    have hspl := copyL_spl xs off u (by omega)
    have hno : xs.length - off = n := by omega
    rw [hno] at hspl
    by_cases q : min u.length n = 0
    · refine ⟨hm, lb, w, _, ?_, GM.le_refl _, LM.le_refl _, ?_, goInt_vr⟩
      · have := copy_run (P := P) (w := w) (w' := w) (t := t1) (ts := #[t1, t2]) (ty := ty) (p := p) (len := n) (cap := cap') (u := u) rfl hu hs (by rw [q]; cases p <;> first | rfl | exact storeCells_nil _)
        simp [execOp, resolve, invoke, builtin, k3, hy', this]
      · have : copyL xs off u = xs := by unfold copyL; rw [hno, q]; simp
        rw [this]
        have : He.set m ⟨1, xs.flatMap c8, true⟩ = He := by unfold AH.set; rw [ups_same hb]
        rw [this]; exact r
    · have hlen := ce8.flat (u.take (min u.length n))
      have hfl := ce8.flat xs
      obtain ⟨i', q1, q2, q3, q4, _⟩ := r.blk m _ hb
      simp only at k1
      rw [k1] at q1; cases q1
      have hil : i.len = xs.length := by rw [(q4 rfl).1]; simp only; omega
      have hp := k5 hil (by omega)
      subst hp
      have hc : ARel hm lb ⟨m, off, some ((xs.flatMap c8).length + 1)⟩ ⟨i.blk, off, none⟩ := ⟨i, k1, k2, by omega, rfl, fun _ => rfl⟩
      obtain ⟨hm', w', g1, g2, g3⟩ := write_blk (P := P) (vs := (u.take (min u.length n)).flatMap c8) (vs' := (u.take (min u.length n)).flatMap c8) r hb (by simp only; rw [hlen, List.length_take]; omega) (ce8.pures _) (.inr ⟨rfl, rfl⟩) hc
        (L2.of_plain (by rw [List.all_eq_true]; intro v hv; obtain ⟨z, _, hz⟩ := List.mem_flatMap.1 hv; simp [c8] at hz; subst hz; rfl)) (fun e => by rw [e] at hlen; simp at hlen; omega)
      refine ⟨hm', lb, w', _, ?_, g2, LM.le_refl _, ?_, goInt_vr⟩
      · have := copy_run (P := P) (w := w) (w' := w') (t := t1) (ts := #[t1, t2]) (ty := ty) (p := some ⟨i.blk, off, none⟩) (len := n) (cap := cap') (u := u) rfl hu hs g1
        simp [execOp, resolve, invoke, builtin, k3, hy', this]
      · simp only [hspl] at g3; exact g3
theorem tx_subG {t e : TypeId} {lo : Option Operand} {l : Int} {m n : Nat} {xs : List UInt8} (hu : und P t = some (.slice e)) (hs : sz P e = some 1) (hx : ev Tm x = GV m n) (hb : He.get m = some ⟨1, xs.flatMap c8, true⟩) (hn : n = xs.length) (hl : Lo? Tm lo l) (h0 : 0 ≤ l ∧ l ≤ xs.length) :
    AExec P ⟨d, .slice t x lo none none, ty, pos, af, g⟩ ⟨n0, b0, Tm, Lo, He⟩ (SUB m l.toNat (xs.length - l.toNat) xs.length) Lo He :=
  .of_read fun hm lb w0 U w a r => by
    subst hn
    obtain ⟨i, p, cap', k1, k2, k3, k4, k5⟩ := (r.evEq hx).sr rfl
    simp only at k1
    obtain ⟨i', q1, q2, q3, q4, _⟩ := r.blk m _ hb
    rw [k1] at q1; cases q1
    have hfl := ce8.flat xs
    have hil : i.len = xs.length := by rw [(q4 rfl).1]; simp only; omega
    rw [q2] at k5
    simp only [Nat.mul_one] at k5
    obtain ⟨c1, c2, c3⟩ := k5 hil
    have bl := bnd_rel (hl.bnd h0.1) (optR_map r lo)
    have hrun := run_bounds (P := P) (w := w) (isSlice := true) (len := xs.length) (cap := cap') (l := l.toNat) (h := xs.length) (m := cap') (lo := lo.map a.eval) (hi := none) (mx := none) (.inl ⟨rfl, rfl⟩) (.inl ⟨rfl, rfl⟩)
      (bl.imp (fun q => q) (fun ⟨k, i, q1, q2, q3⟩ => ⟨k, i, q1, q2, q3, by omega⟩))
    refine ⟨.slice (if cap' - l.toNat = 0 then p else p.map (·.add (l.toNat * 1))) (xs.length - l.toNat) (cap' - l.toNat), ?_, .of_sr rfl ⟨i, _, _, k1, k2, rfl, by omega, fun _ hne => ?_⟩⟩
    · simp only [execOp, Option.map_none, Instr.sliceAt, Sem.run_bind, run_und hu, Result.andThen_ok, k3, Instr.slice, hrun, run_sizeOf hs]
      by_cases hml : cap' = l.toNat
      · simp [hml]
      · have : ¬ cap' - l.toNat = 0 := by omega
        cases p <;> simp [this, hml]
    · have : ¬ cap' - l.toNat = 0 := by omega
      rw [if_neg this, c2 (by omega)]
      simp [add_none]
def inS (n : Nat) (l : Int) : Option Unit := if 0 ≤ l ∧ l ≤ n then some () else none
theorem inS_ok {n : Nat} {l : Int} {z : Unit} (h : inS n l = some z) : 0 ≤ l ∧ l ≤ n := by
  unfold inS at h
  split at h
  · assumption
  · cases h
end
end Go.Fhl

/-
  A logic over the model, continued: blocks lent to a callee that only reads; functions that hand out a new row. Nothing of any program stands here.
-/
namespace Go.Fhl
set_option linter.unusedVariables false
set_option linter.unusedSimpArgs false
/-- What a caller knows stays, when all that was there stays. -/
theorem HRel.ext {hm : GM} {w0 : World} {U : Env} {H : AH} {w w' : World} (r : HRel hm w0 U H w) (h1 : w'.os = w.os) (h2 : w'.tape = w.tape) (h3 : w'.output = w.output) (h4 : w.heap.size ≤ w'.heap.size) (h5 : ∀ B, B < w.heap.size → w'.heap[B]? = w.heap[B]?) : HRel hm w0 U H w' where
  os := h1.trans r.os
  tape := h2.trans r.tape
  output := h3.trans r.output
  size := Nat.le_trans r.size h4
  prot := fun B hB => ⟨(r.prot B hB).1, (h5 B (r.ult hB)).trans (r.prot B hB).2⟩
  protz := r.protz
  fresh := r.fresh
  frz := fun B k v hz => by
    obtain ⟨g1, C, e, fz, v', g2, g3, g4⟩ := r.frz B k v hz
    exact ⟨g1, C, e, fz, v', (h5 B (r.fz_lt hz)).trans g2, g3, g4⟩
  blk := fun n b hb => by
    obtain ⟨i, g1, g2, g3, g4, gp, g5⟩ := r.blk n b hb
    refine ⟨i, g1, g2, g3, g4, gp, g5.imp id ?_⟩
    rintro ⟨C, e, fz, k1, k2, k3, k4, k5, k6, k7⟩
    exact ⟨C, e, fz, (h5 _ (lt_of_get k1)).trans k1, k2, k3, k4, k5, k6, k7⟩
  inj := r.inj
theorem Rel.ext {hm : GM} {lb : LM} {w0 : World} {U : Env} {st : AS} {w w' : World} {a : Act} (r : Rel hm lb w0 U st w a) (h1 : w'.os = w.os) (h2 : w'.tape = w.tape) (h3 : w'.output = w.output) (h4 : w.heap.size ≤ w'.heap.size) (h5 : ∀ B, B < w.heap.size → w'.heap[B]? = w.heap[B]?) : Rel hm lb w0 U st w' a :=
  r.frame (GM.le_refl _) (r.toHRel.ext h1 h2 h3 h4 h5) (Nat.le_refl _) (fun k B hk => ⟨h5 B (r.loc_lt hk), r.loc_fz hk⟩) (fun k B m c j hk hc hj hs => r.lheap k B m c j hk hc hj hs)
/-- What is the same under any names: plain ones, and tuples of them. -/
def plainT : Value → Bool
  | .tuple vs => vs.toList.all plain1 && !vs.isEmpty
  | v => plain v
theorem VR.plainT {hm hm' : GM} {lb lb' : LM} {x v : Value} (h : Fhl.plainT x = true) (e : VR hm lb x v) : VR hm' lb' x v := by
  by_cases q : ∃ vs, x = .tuple vs
  · obtain ⟨vs, rfl⟩ := q
    simp only [Fhl.plainT, Bool.and_eq_true, Bool.not_eq_true', Array.isEmpty_eq_false_iff] at h
    rcases e with e | ⟨e, e2⟩ | ⟨vs', rfl, h2⟩
    · exact absurd e h.2
    · subst e; simp [plain1] at h
    · refine .inr (.inr ⟨vs', rfl, h2.mono fun x y hx z => ?_⟩)
      have hp := List.all_eq_true.1 h.1 x hx
      exact .of_sr (plain_one hp) (by rw [(z.sr (plain_one hp)).plain hp]; exact SR.of_plain hp)
  · have hp : Fhl.plain x = true := by
      cases x <;> first | exact h | exact absurd ⟨_, rfl⟩ q
    rw [e.plain hp]; exact .of_plain hp
/-- An argument as the callee sees it: what is lent is frozen there. -/
def FzA (n : Nat) (b : Blk) (x x' : Value) : Prop :=
  x' = x ∨ Fz n b x x' ∨ FzP n b x x' ∨ (∃ cs cs', x = .agg cs ∧ x' = .agg cs' ∧ L2 (Fz n b) cs.toList cs'.toList) ∨ ∃ g cs cs', x = .func g #[] cs ∧ x' = .func g #[] cs' ∧ L2 (FzP n b) cs.toList cs'.toList
theorem FzP.pr {hm hm' : GM} {lb : LM} {n : Nat} {b : Blk} {i : Info} (hi : hm.map n = some i) (hle : hm.le hm') (hnew : ∀ j c, b.cells[j]? = some c → hm'.fz i.blk j = some c) {v v' cv : Value} (h : FzP n b v v') (e : PR hm lb v cv) : PR hm' lb v' cv := by
  rcases h with rfl | ⟨off, rfl, rfl⟩
  · exact e.mono hle (LM.le_refl _)
  · obtain ⟨p, ⟨i', q1, q2, q3⟩, rfl⟩ := e
    simp only at q1 q3
    rw [hi] at q1; cases q1
    exact ⟨_, off, by rw [q3], fun j c hj => hnew _ c (by simpa using hj)⟩
theorem FzA.vr {hm : GM} {lb : LM} {w0 : World} {U : Env} {st : AS} {w : World} {a : Act} (r : Rel hm lb w0 U st w a) {n : Nat} {b : Blk} {i : Info} (hb : st.heap.get n = some b) (hi : hm.map n = some i) {hm' : GM} (hle : hm.le hm') (hnew : ∀ j c, b.cells[j]? = some c → hm'.fz i.blk j = some c)
    {x x' v : Value} (h : FzA n b x x') (e : VR hm lb x v) : VR hm' lb x' v := by
  have fzv : ∀ x x' v, Fz n b x x' → VR hm lb x v → VR hm' lb x' v := fun x x' v h e => by
    rcases h.one with rfl | ⟨o1, o2⟩
    · exact e.mono hle (LM.le_refl _)
    · exact .of_sr o2 (h.sr r hb hi hle hnew (e.sr o1))
  rcases h with rfl | h | h | ⟨cs, cs', rfl, rfl, h⟩ | ⟨g, cs, cs', rfl, rfl, h⟩
  · exact e.mono hle (LM.le_refl _)
  · exact fzv _ _ _ h e
  · rcases h with rfl | ⟨off, rfl, rfl⟩
    · exact e.mono hle (LM.le_refl _)
    · obtain ⟨p, ⟨i', q1, q2, q3⟩, rfl⟩ := e.sr rfl
      simp only at q1 q3
      rw [hi] at q1; cases q1
      exact .of_sr rfl ⟨_, off, by rw [q3], fun j c hj => hnew _ c (by simpa using hj)⟩
  · obtain ⟨ds, rfl, h2⟩ := e
    refine ⟨ds, rfl, h.1.symm.trans h2.1, fun k y z hy hz => ?_⟩
    have hk : k < cs.toList.length := by rw [h.1]; exact lookup_lt hy
    have hx := List.getElem?_eq_getElem hk
    exact (h.2 k _ _ hx hy).sr r hb hi hle hnew (h2.2 k _ _ hx hz)
  · obtain ⟨c', h3, h4, h5⟩ := e.sr rfl
    refine .of_sr rfl ⟨c', h3, h4, h.1.symm.trans h5.1, fun k y z hy hz => ?_⟩
    have hk : k < cs.toList.length := by rw [h.1]; exact lookup_lt hy
    have hx := List.getElem?_eq_getElem hk
    exact (h.2 k _ _ hx hy).pr hi hle hnew (h5.2 k _ _ hx hz)
section
variable {P : Program} {n0 b0 : Nat} {Tm : List (Nat × Value)} {Lo : List (List Value)} {He : AH} {f : Operand} {args : Array Operand} {ts : Array TypeId} {d : Option Tmp} {ty : TypeId} {pos : String} {af : Array Edge} {gd : Option (Nat × Bool)}
end
/-! ## Functions that hand out a new row -/
def FOw (P : Program) (f : FuncId) (args : List Value) (len : Nat) (b : Blk) : Prop := AFn P f args AH.empty fun v H' => v = GV 0 len ∧ H'.get 0 = some b
def FinO (P : Program) (rs : List ResultVar) (len : Nat) (b : Blk) : Exit → AS → Prop
  | .normal, s | .ret, s => ARes P rs s (GV 0 len) ∧ s.heap.get 0 = some b ∧ Nat.blt 0 s.heap.next = true
  | _, _ => False
theorem FOw.of_body {P : Program} {f : FuncId} {fn : Func} {c : Code} {args : List Value} {n : Nat} {rs : List ResultVar} {T : List (Nat × Value)} {len : Nat} {b : Blk} (hf : P.funcs[f]? = some fn) (hb : fn.body = some c) (hn : fn.ntmps = n) (hl : Nat.ble args.length n = true) (hrs : fn.results.toList = rs) (hT : argsT 0 args = T)
    (h : AWp P c (FinO P rs len b) ⟨n, 0, T, [], ⟨0, []⟩⟩) : FOw P f args len b := by
  subst hn; subst hT; subst hrs
  refine AFn.of_body hf hb (by rw [Nat.ble_eq] at hl; exact hl) (awp_mono h fun e s q => ?_)
  cases e with
  | normal => exact ⟨_, q.1, q.2.2, rfl, q.2.1⟩
  | ret => exact ⟨_, q.1, q.2.2, rfl, q.2.1⟩
  | _ => exact q.elim
section
variable {P : Program} {n0 b0 : Nat} {Tm : List (Nat × Value)} {Lo : List (List Value)} {He : AH} {f : Operand} {args : Array Operand} {ts : Array TypeId} {d : Option Tmp} {ty : TypeId} {pos : String} {af : Array Edge} {gd : Option (Nat × Bool)}
theorem ex_callOw {g : FuncId} {cap : Array Value} {vs : List Value} {k len : Nat} {b : Blk} {H' : AH} (hf : ev Tm f = .func (.func g) #[] cap) (hg : enterable P g = true) (ha : CArgs Tm args cap vs) (hp : vs.all pureA = true) (hc : FOw P g vs len b)
    (hk : He.next = k) (hH : He.alloc b = H') : AExec P ⟨d, .call ⟨.value f, args, ts⟩, ty, pos, af, gd⟩ ⟨n0, b0, Tm, Lo, He⟩ (GV k len) Lo H' := by
  intro hm lb w0 U w a Q r
  subst hk; subst hH
  obtain ⟨cargs, hrun, hargs⟩ := call_run (d := d) (ts := ts) (ty := ty) (pos := pos) (af := af) (gd := gd) r hf hg ha
  have hargs' : L2 (VR hm.bare []) vs cargs.toList := hargs.mono fun x y hx q => VR.pureA (hm := hm) (List.all_eq_true.1 hp x hx) (fun _ _ _ z => z) q
  unfold Oper.wp
  rw [hrun]
  refine (hc hm.bare w (hideU hm w) w cargs r.hide hargs').mono fun e w' q => ?_
  obtain ⟨hm', v', cv, H', rfl, q2, q3, q4, q5, rfl, q7⟩ := q
  obtain ⟨i, g1, h1, h2⟩ := r.unhideNew q2.fz q4 q7
  refine ⟨_, lb, cv, h1, LM.le_refl _, rfl, ?_, h2⟩
  obtain ⟨i', p, c, k1, k2⟩ := q5.sr rfl
  simp only at k1
  rw [g1] at k1; cases k1
  exact .of_sr rfl ⟨i, p, c, GM.put_same, k2⟩
end
end Go.Fhl

/-
  A logic over the model, part twenty-two: rows that are built at names that were laid ahead; more functions of the library.
-/
namespace Go.Fhl
open Go.RowKit
set_option linter.unusedVariables false
set_option linter.unusedSimpArgs false
section
variable {P : Program} {n0 b0 : Nat} {Tm : List (Nat × Value)} {Lo : List (List Value)} {He : AH} {v : Value} {x y : Operand} {d : Option Tmp} {ty : TypeId} {pos : String} {af : Array Edge} {g : Option (Nat × Bool)}
end
theorem wrap_u64 {n : Int} : IntKind.u64.wrap n = ((UInt64.ofInt n).toNat : Int) := by
  simp only [IntKind.wrap, IntKind.bits, IntKind.signed, Bool.false_and, Bool.false_eq_true, if_false, UInt64.ofInt, UInt64.toNat_ofNat']
  have : (2 : Int) ^ 64 = 18446744073709551616 := by decide
  have h2 : (2 : Nat) ^ 64 = 18446744073709551616 := by decide
  rw [this, h2]
  omega
section
variable {P : Program} {n0 b0 : Nat} {Tm : List (Nat × Value)} {Lo : List (List Value)} {He : AH} {x : Operand} {d : Option Tmp} {ty : TypeId} {pos : String} {af : Array Edge} {g : Option (Nat × Bool)}
theorem tx_64_u64 {src dst : TypeId} {ds : TypeDesc} {n : Int} (hs : und P src = some ds) (hd : und P dst = some (.int .u64)) (hx : ev Tm x = I n) : AExec P ⟨d, .convert src dst x, ty, pos, af, g⟩ ⟨n0, b0, Tm, Lo, He⟩ (U64 (UInt64.ofInt n)) Lo He := by
  have := ex_convInt (n0 := n0) (b0 := b0) (Lo := Lo) (He := He) (d := d) (ty := ty) (pos := pos) (af := af) (g := g) hs hd hx
  rwa [wrap_u64] at this
end
/-- strings.Compare. -/
def M_compare (s u : Str) : Option Int := some (Lib.compareBytes s u)
theorem ffn_compare {P : Program} {f : FuncId}
    (h1 : ∀ (s u : ByteArray) (w : World), Calls P f #[.string s, .string u] w fun e w' => e = .returned (.int .i64 (Lib.compareBytes s.data.toList u.data.toList)) ∧ w' = w)
    (t0 t1 : Str) (r : Int) (h : M_compare t0 t1 = some r) : FFn P f [S t0, S t1] (I r) := by
  cases h
  refine ffn_of_below rfl fun hm w0 U w cargs hr ha => ?_
  rw [args2 (by rfl) (by rfl) ha]
  refine (h1 (sB t0) (sB t1) w).mono fun e w' ⟨he, hw⟩ => ⟨?_, hw ▸ Below.refl _ _⟩
  rw [he, sB_data, sB_data]
/-- bits.Len. -/
def M_bitLen (x : UInt64) : Option Int := some (Lib.bitLen x.toNat : Int)
theorem args1' {hm : GM} {x : Value} {cs : Array Value} (hx : plain x = true) (h : L2 (VR hm []) [x] cs.toList) : cs = #[x] := by
  obtain ⟨c1, t1', e1, a1, ha1⟩ := h.cons_inv
  have e3 := ha1.nil_inv
  apply Array.toList_inj.1; rw [e1, e3, a1.plain hx]
theorem ffn_bitLen {P : Program} {f : FuncId}
    (h1 : ∀ (x : Int) (w : World), 0 ≤ x → x ≤ 18446744073709551615 → Calls P f #[.int .u64 x] w fun e w' => e = .returned (.int .i64 (Lib.bitLen x.toNat)) ∧ w' = w)
    (t0 : UInt64) (r : Int) (h : M_bitLen t0 = some r) : FFn P f [U64 t0] (I r) := by
  cases h
  refine ffn_of_below rfl fun hm w0 U w cargs hr ha => ?_
  rw [args1' (by rfl) ha]
  have := t0.toNat_lt
  refine (h1 (t0.toNat : Int) w (by omega) (by omega)).mono fun e w' ⟨he, hw⟩ => ⟨?_, hw ▸ Below.refl _ _⟩
  rw [he, Int.toNat_natCast]
end Go.Fhl
