/-
  A logic over the model, part ten: each operation as a step; calls; functions.
-/
import Derived.Test.YtpfbnghalpfoaaaDoorFI
namespace Go.Fhl
set_option linter.unusedVariables false
set_option linter.unusedSimpArgs false

theorem AExec.of_value {P : Program} {o : Oper} {st : AS} {v : Value} {L : List (List Value)} {H : AH}
    (h : ∀ hm lb w0 U w a, Rel hm lb w0 U st w a → ∃ hm' lb' w' cv, (execOp a.eval o).run P w = .ok (.value cv) w' ∧ hm.le hm' ∧ LM.le lb lb' ∧ Rel hm' lb' w0 U ⟨st.n, st.base, st.tmps, L, H⟩ w' a ∧ VR hm' lb' v cv) : AExec P o st v L H := by
  intro hm lb w0 U w a Q r
  obtain ⟨hm', lb', w', cv, h1, h2, h3, h4, h5⟩ := h hm lb w0 U w a r
  unfold Oper.wp
  rw [h1]
  exact ⟨hm', lb', cv, h2, h3, rfl, h5, h4⟩
theorem AExec.of_skip {P : Program} {o : Oper} {st : AS} {L : List (List Value)} {H : AH}
    (h : ∀ hm lb w0 U w a, Rel hm lb w0 U st w a → ∃ hm' lb' w', (execOp a.eval o).run P w = .ok .skip w' ∧ hm.le hm' ∧ LM.le lb lb' ∧ Rel hm' lb' w0 U ⟨st.n, st.base, st.tmps, L, H⟩ w' a) : AExec P o st undef L H := by
  intro hm lb w0 U w a Q r
  obtain ⟨hm', lb', w', h1, h2, h3, h4⟩ := h hm lb w0 U w a r
  unfold Oper.wp
  rw [h1]
  exact ⟨hm', lb', undef, h2, h3, rfl, VR.undef _, h4⟩
theorem AExec.of_read {P : Program} {o : Oper} {st : AS} {v : Value}
    (h : ∀ hm lb w0 U w a, Rel hm lb w0 U st w a → ∃ cv, (execOp a.eval o).run P w = .ok (.value cv) w ∧ VR hm lb v cv) : AExec P o st v st.locs st.heap :=
  .of_value fun hm lb w0 U w a r => by
    obtain ⟨cv, h1, h2⟩ := h hm lb w0 U w a r
    exact ⟨hm, lb, w, cv, h1, GM.le_refl _, LM.le_refl _, r, h2⟩

/-- An operand stands for a value: its own, or for nil an empty row. -/
def EV (T : List (Nat × Value)) (x : Operand) (v : Value) : Prop := ∀ (hm : GM) (lb : LM) (cv : Value), VR hm lb (ev T x) cv → VR hm lb v cv
theorem eV {T : List (Nat × Value)} {x : Operand} {v : Value} (h : ev T x = v) : EV T x v := fun hm lb cv e => h ▸ e
theorem eN {T : List (Nat × Value)} {x : Operand} {s : Nat} (h : ev T x = .slice none 0 0) : EV T x (.iface (s + 1) (.tuple #[])) := fun hm lb cv e => by
  rw [h] at e
  obtain rfl : cv = _ := e.sr rfl
  exact .of_sr rfl ⟨none, 0, 0, rfl, by simp, Nat.le_refl _, .inl rfl⟩
/-- A row of operands. -/
def EVs (T : List (Nat × Value)) : List Operand → List Value → Prop
  | [], [] => True
  | x :: l, v :: r => EV T x v ∧ EVs T l r
  | _, _ => False
theorem evs_nil {T : List (Nat × Value)} : EVs T [] [] := trivial
theorem evs {T : List (Nat × Value)} {x : Operand} {v : Value} {l : List Operand} {r : List Value} (h : ev T x = v) (k : EVs T l r) : EVs T (x :: l) (v :: r) := ⟨eV h, k⟩
theorem evsN {T : List (Nat × Value)} {x : Operand} {s : Nat} {l : List Operand} {r : List Value} (h : ev T x = .slice none 0 0) (k : EVs T l r) : EVs T (x :: l) (.iface (s + 1) (.tuple #[]) :: r) := ⟨eN h, k⟩
def EVp (T : List (Nat × Value)) : List (Nat × Operand) → List (Nat × Value) → Prop
  | [], [] => True
  | x :: l, v :: r => x.1 = v.1 ∧ EV T x.2 v.2 ∧ EVp T l r
  | _, _ => False
theorem evp_nil {T : List (Nat × Value)} : EVp T [] [] := trivial
theorem evp {T : List (Nat × Value)} {k : Nat} {x : Operand} {v : Value} {l : List (Nat × Operand)} {r : List (Nat × Value)} (h : ev T x = v) (q : EVp T l r) : EVp T ((k, x) :: l) ((k, v) :: r) := ⟨rfl, eV h, q⟩
theorem evpN {T : List (Nat × Value)} {k : Nat} {x : Operand} {s : Nat} {l : List (Nat × Operand)} {r : List (Nat × Value)} (h : ev T x = .slice none 0 0) (q : EVp T l r) : EVp T ((k, x) :: l) ((k, .iface (s + 1) (.tuple #[])) :: r) := ⟨rfl, eN h, q⟩
theorem Rel.EV {hm : GM} {lb : LM} {w0 : World} {U : Env} {st : AS} {w : World} {a : Act} (r : Rel hm lb w0 U st w a) {x : Operand} {v : Value} (h : Fhl.EV st.tmps x v) : VR hm lb v (a.eval x) := h hm lb _ (r.ev x)
theorem Rel.EVs {hm : GM} {lb : LM} {w0 : World} {U : Env} {st : AS} {w : World} {a : Act} (r : Rel hm lb w0 U st w a) : ∀ {l : List Operand} {vs : List Value}, Fhl.EVs st.tmps l vs → L2 (VR hm lb) vs (l.map a.eval)
  | [], [], h => .nil
  | [], _ :: _, h => h.elim
  | _ :: _, [], h => h.elim
  | x :: l, v :: vs, h => .cons (r.EV h.1) (Rel.EVs r h.2)
theorem Rel.EVp {hm : GM} {lb : LM} {w0 : World} {U : Env} {st : AS} {w : World} {a : Act} (r : Rel hm lb w0 U st w a) : ∀ {l : List (Nat × Operand)} {vs : List (Nat × Value)}, Fhl.EVp st.tmps l vs → L2 (fun (x y : Nat × Value) => x.1 = y.1 ∧ VR hm lb x.2 y.2) vs (l.map fun p => (p.1, a.eval p.2))
  | [], [], h => .nil
  | [], _ :: _, h => h.elim
  | _ :: _, [], h => h.elim
  | x :: l, v :: vs, h => .cons ⟨h.1.symm, r.EV h.2.1⟩ (Rel.EVp r h.2.2)

section
variable {P : Program} {n0 b0 : Nat} {Tm : List (Nat × Value)} {Lo : List (List Value)} {He : AH} {v vx vy : Value} {x y c : Operand} {d : Option Tmp} {ty : TypeId} {pos : String} {af : Array Edge} {g : Option (Nat × Bool)}

theorem ex_move (hx : EV Tm x v) : AExec P ⟨d, .move x, ty, pos, af, g⟩ ⟨n0, b0, Tm, Lo, He⟩ v Lo He :=
  .of_read fun hm lb w0 U w a r => ⟨_, by simp only [execOp]; rfl, r.EV hx⟩
theorem ex_assign (hx : EV Tm x v) : AExec P ⟨d, .assign x, ty, pos, af, g⟩ ⟨n0, b0, Tm, Lo, He⟩ v Lo He :=
  .of_read fun hm lb w0 U w a r => ⟨_, by simp only [execOp]; rfl, r.EV hx⟩
theorem ex_pick {t : Bool} (hc : ev Tm c = .bool t) (hv : cond t (ev Tm x) (ev Tm y) = v) : AExec P ⟨d, .pick c x y, ty, pos, af, g⟩ ⟨n0, b0, Tm, Lo, He⟩ v Lo He :=
  .of_read fun hm lb w0 U w a r => by
    have hcc : a.eval c = .bool t := (r.evEq hc).sr rfl
    refine ⟨(if t then a.eval x else a.eval y), by simp [execOp, hcc, asBool], ?_⟩
    rw [← hv]
    cases t
    · exact r.ev y
    · exact r.ev x
theorem ex_bin {op : BinOp} {t u : TypeId} (hx : ev Tm x = vx) (hy : ev Tm y = vy) (h : keep (abin P op t x y vx vy) = some v) : AExec P ⟨d, .binOp op t x y u, ty, pos, af, g⟩ ⟨n0, b0, Tm, Lo, He⟩ v Lo He :=
  .of_read fun hm lb w0 U w a r => by
    obtain ⟨g1, g2⟩ := abin_ok (P := P) (w := w) h (r.evEq hx) (r.evEq hy)
    refine ⟨v, ?_, g2⟩
    simp only [execOp]
    rw [Sem.run_bind, g1]
    simp
theorem ex_ptrNil {op : BinOp} {t e u : TypeId} {p : Addr} {b : Bool} (hu : und P t = some (.pointer e)) (hop : (op = .eql ∧ b = false) ∨ (op = .neq ∧ b = true)) (hx : ev Tm x = .pointer (some p)) (hy : ev Tm y = .pointer none) :
    AExec P ⟨d, .binOp op t x y u, ty, pos, af, g⟩ ⟨n0, b0, Tm, Lo, He⟩ (.bool b) Lo He :=
  .of_read fun hm lb w0 U w a r => by
    refine ⟨.bool b, ?_, .of_sr rfl rfl⟩
    simp only [execOp]
    rw [Sem.run_bind, ptrNil_ok (xo := x) (yo := y) hu hop (r.evEq hx) (r.evEq hy)]
    simp
theorem ex_un {op : UnOp} {t : TypeId} (hx : ev Tm x = vx) (h : aun P op vx = some v) : AExec P ⟨d, .unOp op t x, ty, pos, af, g⟩ ⟨n0, b0, Tm, Lo, He⟩ v Lo He :=
  .of_read fun hm lb w0 U w a r => by
    obtain ⟨g1, g2⟩ := aun_ok (P := P) (w := w) h (r.evEq hx)
    exact ⟨v, by simp [execOp, g1], g2⟩
theorem ex_convInt {src dst : TypeId} {ds : TypeDesc} {k k0 : IntKind} {n : Int} (hs : und P src = some ds) (hd : und P dst = some (.int k)) (hx : ev Tm x = .int k0 n) : AExec P ⟨d, .convert src dst x, ty, pos, af, g⟩ ⟨n0, b0, Tm, Lo, He⟩ (.int k (k.wrap n)) Lo He :=
  .of_read fun hm lb w0 U w a r => ⟨_, by simp [execOp, convInt_ok (w := w) hs hd (r.evEq hx)], .of_sr rfl rfl⟩
theorem ex_convStr {src dst : TypeId} {ds : TypeDesc} {s : ByteArray} (hs : und P src = some ds) (hd : und P dst = some .string) (hx : ev Tm x = .string s) : AExec P ⟨d, .convert src dst x, ty, pos, af, g⟩ ⟨n0, b0, Tm, Lo, He⟩ (.string s) Lo He :=
  .of_read fun hm lb w0 U w a r => ⟨_, by simp [execOp, convStr_ok (w := w) hs hd (r.evEq hx)], .of_sr rfl rfl⟩
theorem ex_bytesStrD {src dst e : TypeId} {ns : List Int} {cs : Array Value} (hs : und P src = some (.slice e)) (hd : und P dst = some .string) (he : und P e = some (.int .u8)) (hx : ev Tm x = .iface 1 (.tuple cs)) (hcs : cs.toList = ns.map (Value.int .u8)) :
    AExec P ⟨d, .convert src dst x, ty, pos, af, g⟩ ⟨n0, b0, Tm, Lo, He⟩ (.string (strOf ns)) Lo He :=
  .of_read fun hm lb w0 U w a r => ⟨_, by simp [execOp, bytesStrD_ok r hs hd he hcs (r.evEq hx)], .of_sr rfl rfl⟩
theorem ex_bytesStrF {src dst e : TypeId} {ns : List Int} {m off n cap : Nat} {b : Blk} (hs : und P src = some (.slice e)) (hd : und P dst = some .string) (he : und P e = some (.int .u8)) (hx : ev Tm x = .slice (some ⟨m, off, none⟩) n cap)
    (hb : He.get m = some b) (hg : b.gro = false) (hez : b.esz = 1) (hl : off + n ≤ b.cells.length) (hcs : (b.cells.drop off).take n = ns.map (Value.int .u8)) : AExec P ⟨d, .convert src dst x, ty, pos, af, g⟩ ⟨n0, b0, Tm, Lo, He⟩ (.string (strOf ns)) Lo He :=
  .of_read fun hm lb w0 U w a r => ⟨_, by simp [execOp, bytesStrF_ok r hs hd he hb hg hez hl hcs (r.evEq hx)], .of_sr rfl rfl⟩
theorem ex_bytesStrG {src dst e : TypeId} {ns : List Int} {m n cap : Nat} {b : Blk} (hs : und P src = some (.slice e)) (hd : und P dst = some .string) (he : und P e = some (.int .u8)) (hx : ev Tm x = .slice (some ⟨m, 0, some 1⟩) n cap)
    (hb : He.get m = some b) (hg : b.gro = true) (hez : b.esz = 1) (hl : n = b.cells.length) (hcs : b.cells = ns.map (Value.int .u8)) : AExec P ⟨d, .convert src dst x, ty, pos, af, g⟩ ⟨n0, b0, Tm, Lo, He⟩ (.string (strOf ns)) Lo He :=
  .of_read fun hm lb w0 U w a r => ⟨_, by simp [execOp, bytesStrG_ok r hs hd he hb hg hez hl hcs (r.evEq hx)], .of_sr rfl rfl⟩
theorem ex_strBytes {src dst e : TypeId} {ds : TypeDesc} {s : ByteArray} (hs : und P src = some ds) (hd : und P dst = some (.slice e)) (he : und P e = some (.int .u8)) (hx : ev Tm x = .string s) :
    AExec P ⟨d, .convert src dst x, ty, pos, af, g⟩ ⟨n0, b0, Tm, Lo, He⟩ (.slice (some ⟨He.next, 0, some 1⟩) s.size s.size) Lo (He.alloc ⟨1, bcells s, true⟩) :=
  .of_value fun hm lb w0 U w a r => by
    obtain ⟨hm', w', cv, h1, h2, h3, h4⟩ := strBytes_ok r hs hd he (r.evEq hx)
    exact ⟨hm', lb, w', cv, by simp [execOp, h1], h2, LM.le_refl _, h3, h4⟩
theorem ex_strBytesD {src dst e : TypeId} {ds : TypeDesc} {s : ByteArray} (hs : und P src = some ds) (hd : und P dst = some (.slice e)) (he : und P e = some (.int .u8)) (hx : ev Tm x = .string s) :
    AExec P ⟨d, .convert src dst x, ty, pos, af, g⟩ ⟨n0, b0, Tm, Lo, He⟩ (.iface 1 (.tuple (bcells s).toArray)) Lo He :=
  .of_value fun hm lb w0 U w a r => by
    obtain ⟨hm', w', cv, h1, h2, h3, h4⟩ := strBytesD_ok r hs hd he (r.evEq hx)
    exact ⟨hm', lb, w', cv, by simp [execOp, h1], h2, LM.le_refl _, h3, h4⟩

/-! ## Lengths -/
theorem ex_lenS {t : TypeId} {s : ByteArray} {n : Nat} (hu : und P t = some .string) (hx : ev Tm x = .string s) (hn : s.size = n) : AExec P ⟨d, .call ⟨.builtin .len, #[x], #[t]⟩, ty, pos, af, g⟩ ⟨n0, b0, Tm, Lo, He⟩ (.int .i64 n) Lo He :=
  .of_read fun hm lb w0 U w a r => ⟨_, by subst hn; simp [execOp, resolve, invoke, builtin, lenS_ok (w := w) (T := ty) (ts := #[t]) hu (r.evEq hx) rfl], .of_sr rfl rfl⟩
theorem ex_lenN {t e : TypeId} {p : Option Addr} {n cp : Nat} (hu : und P t = some (.slice e)) (hx : ev Tm x = .slice p n cp) : AExec P ⟨d, .call ⟨.builtin .len, #[x], #[t]⟩, ty, pos, af, g⟩ ⟨n0, b0, Tm, Lo, He⟩ (.int .i64 n) Lo He :=
  .of_read fun hm lb w0 U w a r => ⟨_, by simp [execOp, resolve, invoke, builtin, lenN_ok (w := w) (T := ty) (ts := #[t]) hu (r.evEq hx) rfl], .of_sr rfl rfl⟩
theorem ex_lenD {t e : TypeId} {s n : Nat} {cs : Array Value} (hu : und P t = some (.slice e)) (hx : ev Tm x = .iface (s + 1) (.tuple cs)) (hn : n * (s + 1) = cs.size) : AExec P ⟨d, .call ⟨.builtin .len, #[x], #[t]⟩, ty, pos, af, g⟩ ⟨n0, b0, Tm, Lo, He⟩ (.int .i64 n) Lo He :=
  .of_read fun hm lb w0 U w a r => ⟨_, by simp [execOp, resolve, invoke, builtin, lenD_ok (w := w) (T := ty) (ts := #[t]) hu hn (r.evEq hx) rfl], .of_sr rfl rfl⟩
theorem ex_lenA {t e : TypeId} {n : Nat} (hu : und P t = some (.array n e)) : AExec P ⟨d, .call ⟨.builtin .len, #[x], #[t]⟩, ty, pos, af, g⟩ ⟨n0, b0, Tm, Lo, He⟩ (.int .i64 n) Lo He :=
  .of_read fun hm lb w0 U w a r => ⟨_, by simp [execOp, resolve, invoke, builtin, lenA_ok (w := w) (T := ty) (ts := #[t]) (cx := a.eval x) hu rfl], .of_sr rfl rfl⟩
theorem ex_min {t1 t2 : TypeId} {k : IntKind} {m n : Int} (hx : ev Tm x = .int k m) (hy : ev Tm y = .int k n) : AExec P ⟨d, .call ⟨.builtin .min, #[x, y], #[t1, t2]⟩, ty, pos, af, g⟩ ⟨n0, b0, Tm, Lo, He⟩ (.int k (min m n)) Lo He :=
  .of_read fun hm lb w0 U w a r => by
    have h1 : a.eval x = .int k m := (r.evEq hx).sr rfl
    have h2 : a.eval y = .int k n := (r.evEq hy).sr rfl
    refine ⟨.int k (min m n), ?_, .of_sr rfl rfl⟩
    have : pureRun P (Builtin.min_ #[t1, t2] ty #[.int k m, .int k n]) = some (.int k (if n < m then n else m)) := by simp [Builtin.min_, Builtin.min2]; rfl
    have e : (if n < m then n else m) = min m n := by
      by_cases q : n < m
      · rw [if_pos q]; omega
      · rw [if_neg q]; omega
    rw [e] at this
    simp [execOp, resolve, invoke, builtin, h1, h2, pureRun_ok this w]
theorem ex_max {t1 t2 : TypeId} {k : IntKind} {m n : Int} (hx : ev Tm x = .int k m) (hy : ev Tm y = .int k n) : AExec P ⟨d, .call ⟨.builtin .max, #[x, y], #[t1, t2]⟩, ty, pos, af, g⟩ ⟨n0, b0, Tm, Lo, He⟩ (.int k (max m n)) Lo He :=
  .of_read fun hm lb w0 U w a r => by
    have h1 : a.eval x = .int k m := (r.evEq hx).sr rfl
    have h2 : a.eval y = .int k n := (r.evEq hy).sr rfl
    refine ⟨.int k (max m n), ?_, .of_sr rfl rfl⟩
    have : pureRun P (Builtin.max_ #[t1, t2] ty #[.int k m, .int k n]) = some (.int k (if n > m then n else m)) := by simp [Builtin.max_, Builtin.max2]; rfl
    have e : (if n > m then n else m) = max m n := by
      by_cases q : n > m
      · rw [if_pos q]; omega
      · rw [if_neg q]; omega
    rw [e] at this
    simp [execOp, resolve, invoke, builtin, h1, h2, pureRun_ok this w]

/-! ## Loads and stores -/
theorem part1 {T : TypeId} {ds : TypeDesc} {cs : List Value} {off : Nat} (hd : und P T = some ds) (hg : agg? ds = false) (h : cs[off]? = some v) : Part P T cs off v := ⟨ds, hd, .inl ⟨hg, h⟩⟩
theorem partA {T : TypeId} {ds : TypeDesc} {cs vs : List Value} {off s : Nat} (hd : und P T = some ds) (hg : agg? ds = true) (hs : sz P T = some s) (hpos : 0 < s) (hle : off + s ≤ cs.length) (h : (cs.drop off).take s = vs) : Part P T cs off (.agg vs.toArray) :=
  ⟨ds, hd, .inr ⟨hg, s, hs, hpos, hle, by rw [h]⟩⟩
theorem ex_loadAt {T : TypeId} {p : Addr} {cs : List Value} (hx : ev Tm x = .pointer (some p)) (hc : CellsAt ⟨n0, b0, Tm, Lo, He⟩ p cs) (hp : Part P T cs p.off v) : AExec P ⟨d, .load T x, ty, pos, af, g⟩ ⟨n0, b0, Tm, Lo, He⟩ v Lo He :=
  .of_read fun hm lb w0 U w a r => by
    obtain ⟨cv, h1, h2⟩ := load_at (P := P) r hc hp (r.evEq hx)
    exact ⟨cv, by simp [execOp, h1], h2⟩
theorem ex_loadL {T : TypeId} {k off : Nat} {cs : List Value} (hx : ev Tm x = .pointer (some ⟨k, off, some 0⟩)) (hc : Lo[k]? = some cs) (hp : Part P T cs off v) : AExec P ⟨d, .load T x, ty, pos, af, g⟩ ⟨n0, b0, Tm, Lo, He⟩ v Lo He :=
  ex_loadAt hx hc hp
theorem ex_loadF {T : TypeId} {m off : Nat} {b : Blk} (hx : ev Tm x = .pointer (some ⟨m, off, none⟩)) (hb : He.get m = some b) (hg : b.gro = false) (hp : Part P T b.cells off v) : AExec P ⟨d, .load T x, ty, pos, af, g⟩ ⟨n0, b0, Tm, Lo, He⟩ v Lo He :=
  ex_loadAt (cs := b.cells) hx ⟨b, hb, hg, rfl⟩ hp
theorem ex_loadG {T : TypeId} {m off k : Nat} {b : Blk} (hx : ev Tm x = .pointer (some ⟨m, off, some (k + 1)⟩)) (hb : He.get m = some b) (hg : b.gro = true) (hk : b.cells.length = k) (hp : Part P T b.cells off v) : AExec P ⟨d, .load T x, ty, pos, af, g⟩ ⟨n0, b0, Tm, Lo, He⟩ v Lo He :=
  ex_loadAt (cs := b.cells) hx ⟨b, hb, hg, rfl, hk⟩ hp
theorem ex_loadD {T : TypeId} {cs : Array Value} (hx : ev Tm x = .iface 0 (.tuple cs)) (hp : Part P T cs.toList 0 v) : AExec P ⟨d, .load T x, ty, pos, af, g⟩ ⟨n0, b0, Tm, Lo, He⟩ v Lo He :=
  .of_read fun hm lb w0 U w a r => by
    obtain ⟨cv, h1, h2⟩ := load_deep (P := P) r hp (r.evEq hx)
    exact ⟨cv, by simp [execOp, h1], h2⟩
theorem ex_nilCheck {p : Addr} (hx : ev Tm x = .pointer (some p)) : AExec P ⟨d, .nilCheck x, ty, pos, af, g⟩ ⟨n0, b0, Tm, Lo, He⟩ (.pointer (some p)) Lo He :=
  .of_read fun hm lb w0 U w a r => by
    obtain ⟨c, h1, h2⟩ := (r.evEq hx).sr rfl
    exact ⟨.pointer (some c), by simp [execOp, h2], .of_sr rfl ⟨c, h1, rfl⟩⟩
theorem ex_nilCheckF {f : FuncId} {cap : Array Value} (hx : ev Tm x = .func (.func f) #[] cap) : AExec P ⟨d, .nilCheck x, ty, pos, af, g⟩ ⟨n0, b0, Tm, Lo, He⟩ (.func (.func f) #[] cap) Lo He :=
  .of_read fun hm lb w0 U w a r => by
    obtain ⟨c', h1, h2, h3⟩ := (r.evEq hx).sr rfl
    exact ⟨.func (.func f) #[] c', by simp [execOp, h1], .of_sr rfl ⟨c', rfl, h2, h3⟩⟩

theorem cells_size {hm : GM} {lb : LM} {v cv : Value} {vs : List Value} (h : VR hm lb v cv) (hc : cellsOf v = some vs) : cv.cells.size = vs.length := by
  have := (cells_rel h hc).1; simp at this; exact this.symm

theorem ex_storeL {T : TypeId} {k off : Nat} {cs vs : List Value} {L' : List (List Value)} (hx : ev Tm x = .pointer (some ⟨k, off, some 0⟩)) (hy : EV Tm y vy) (hvs : cellsOf vy = some vs) (hs : sz P T = some vs.length) (hk : Lo[k]? = some cs) (hl : off + vs.length ≤ cs.length)
    (hL : Lo.set k (spl cs off vs) = L') : AExec P ⟨d, .store T x y, ty, pos, af, g⟩ ⟨n0, b0, Tm, Lo, He⟩ undef L' He :=
  .of_skip fun hm lb w0 U w a r => by
    subst hL
    obtain ⟨c, hc, hcx⟩ := (r.evEq hx).sr rfl
    have hv := cells_rel (r.EV hy) hvs
    obtain ⟨w', h1, h2⟩ := write_loc (P := P) r hk hl hc hv
    exact ⟨hm, lb, w', by simp [execOp, hcx, store_run hs (cells_size (r.EV hy) hvs) h1], GM.le_refl _, LM.le_refl _, h2⟩
theorem ex_storeF {T : TypeId} {m off : Nat} {b : Blk} {vs : List Value} {H' : AH} (hx : ev Tm x = .pointer (some ⟨m, off, none⟩)) (hy : EV Tm y vy) (hvs : cellsOf vy = some vs) (hs : sz P T = some vs.length) (hb : He.get m = some b) (hg : b.gro = false) (hl : off + vs.length ≤ b.cells.length)
    (hp : vs.all pure1 = true) (hne : vs ≠ []) (hH : He.set m { b with cells := spl b.cells off vs } = H') : AExec P ⟨d, .store T x y, ty, pos, af, g⟩ ⟨n0, b0, Tm, Lo, He⟩ undef Lo H' :=
  .of_skip fun hm lb w0 U w a r => by
    subst hH
    obtain ⟨c, hc, hcx⟩ := (r.evEq hx).sr rfl
    have hv := cells_rel (r.EV hy) hvs
    obtain ⟨hm', w', h1, h2, h3⟩ := write_blk (P := P) r hb hl hp (.inl ⟨rfl, hg⟩) hc hv hne
    exact ⟨hm', lb, w', by simp [execOp, hcx, store_run hs (cells_size (r.EV hy) hvs) h1], h2, LM.le_refl _, h3⟩
theorem ex_storeG {T : TypeId} {m off k : Nat} {b : Blk} {vs : List Value} {H' : AH} (hx : ev Tm x = .pointer (some ⟨m, off, some (k + 1)⟩)) (hy : EV Tm y vy) (hvs : cellsOf vy = some vs) (hs : sz P T = some vs.length) (hb : He.get m = some b) (hg : b.gro = true) (hk : b.cells.length = k) (hl : off + vs.length ≤ b.cells.length)
    (hp : vs.all pure1 = true) (hne : vs ≠ []) (hH : He.set m { b with cells := spl b.cells off vs } = H') : AExec P ⟨d, .store T x y, ty, pos, af, g⟩ ⟨n0, b0, Tm, Lo, He⟩ undef Lo H' :=
  .of_skip fun hm lb w0 U w a r => by
    subst hH
    obtain ⟨c, hc, hcx⟩ := (r.evEq hx).sr rfl
    have hv := cells_rel (r.EV hy) hvs
    obtain ⟨hm', w', h1, h2, h3⟩ := write_blk (P := P) r hb hl hp (.inr ⟨hg, by rw [hk]⟩) hc hv hne
    exact ⟨hm', lb, w', by simp [execOp, hcx, store_run hs (cells_size (r.EV hy) hvs) h1], h2, LM.le_refl _, h3⟩

/-! ## Places, parts -/
theorem ex_fieldAddr {t : TypeId} {fs : Array Field} {fd : Field} {p : Addr} {f s : Nat} (hu : und P t = some (.struct fs)) (hf : fs[f]? = some fd) (hs : sz P fd.type = some s) (hpos : s ≠ 0) (hx : ev Tm x = .pointer (some p)) (hv : Value.pointer (some ⟨p.block, p.off + fd.offset, p.spot⟩) = v) :
    AExec P ⟨d, .fieldAddr t x f, ty, pos, af, g⟩ ⟨n0, b0, Tm, Lo, He⟩ v Lo He :=
  .of_read fun hm lb w0 U w a r => by
    obtain ⟨cv, h1, h2⟩ := fieldAddr_ok (P := P) (w := w) hu hf hs hpos (r.evEq hx)
    exact ⟨cv, by simp [execOp, h1], hv ▸ h2⟩
theorem ex_fieldAddrD {t : TypeId} {fs : Array Field} {fd : Field} {cs : Array Value} {vs : List Value} {f s : Nat} (hu : und P t = some (.struct fs)) (hf : fs[f]? = some fd) (hs : sz P fd.type = some s) (hpos : s ≠ 0) (hx : ev Tm x = .iface 0 (.tuple cs)) (hv : cs.toList.drop fd.offset = vs) :
    AExec P ⟨d, .fieldAddr t x f, ty, pos, af, g⟩ ⟨n0, b0, Tm, Lo, He⟩ (.iface 0 (.tuple vs.toArray)) Lo He :=
  .of_read fun hm lb w0 U w a r => by
    obtain ⟨cv, h1, h2⟩ := fieldAddrD_ok (P := P) (w := w) hu hf hs hpos (r.evEq hx)
    exact ⟨cv, by simp [execOp, h1], by rw [← hv]; exact h2⟩
theorem ex_indexAddrA {t e : TypeId} {len s : Nat} {p : Addr} {k : IntKind} {i : Int} (hu : und P t = some (.array len e)) (hs : sz P e = some s) (hx : ev Tm x = .pointer (some p)) (hy : ev Tm y = .int k i) (h0 : 0 ≤ i ∧ i < len) (hv : Value.pointer (some ⟨p.block, p.off + i.toNat * s, p.spot⟩) = v) :
    AExec P ⟨d, .indexAddr t x y, ty, pos, af, g⟩ ⟨n0, b0, Tm, Lo, He⟩ v Lo He :=
  .of_read fun hm lb w0 U w a r => by
    obtain ⟨cv, h1, h2⟩ := indexAddrArr_ok (P := P) (w := w) hu hs h0 (r.evEq hx) (r.evEq hy)
    exact ⟨cv, by simp [execOp, h1], hv ▸ h2⟩
theorem ex_indexAddrAD {t e : TypeId} {len s : Nat} {cs : Array Value} {vs : List Value} {k : IntKind} {i : Int} (hu : und P t = some (.array len e)) (hs : sz P e = some s) (hx : ev Tm x = .iface 0 (.tuple cs)) (hy : ev Tm y = .int k i) (h0 : 0 ≤ i ∧ i < len) (hv : cs.toList.drop (i.toNat * s) = vs) :
    AExec P ⟨d, .indexAddr t x y, ty, pos, af, g⟩ ⟨n0, b0, Tm, Lo, He⟩ (.iface 0 (.tuple vs.toArray)) Lo He :=
  .of_read fun hm lb w0 U w a r => by
    obtain ⟨cv, h1, h2⟩ := indexAddrArrD_ok (P := P) (w := w) hu hs h0 (r.evEq hx) (r.evEq hy)
    exact ⟨cv, by simp [execOp, h1], by rw [← hv]; exact h2⟩
theorem ex_indexAddrD {t e : TypeId} {s : Nat} {cs : Array Value} {vs : List Value} {k : IntKind} {i : Int} (hu : und P t = some (.slice e)) (hs : sz P e = some (s + 1)) (hx : ev Tm x = .iface (s + 1) (.tuple cs)) (hy : ev Tm y = .int k i) (h0 : 0 ≤ i) (h1 : i.toNat * (s + 1) + (s + 1) ≤ cs.size)
    (hv : (cs.toList.drop (i.toNat * (s + 1))).take (s + 1) = vs) : AExec P ⟨d, .indexAddr t x y, ty, pos, af, g⟩ ⟨n0, b0, Tm, Lo, He⟩ (.iface 0 (.tuple vs.toArray)) Lo He :=
  .of_read fun hm lb w0 U w a r => by
    obtain ⟨cv, h1, h2⟩ := indexAddrD_ok (P := P) (w := w) hu hs h0 h1 (r.evEq hx) (r.evEq hy)
    exact ⟨cv, by simp [execOp, h1], by rw [← hv]; exact h2⟩
theorem ex_indexAddrF {t e : TypeId} {s m off len cp : Nat} {k : IntKind} {i : Int} {o' : Nat} (hu : und P t = some (.slice e)) (hs : sz P e = some s) (hx : ev Tm x = .slice (some ⟨m, off, none⟩) len cp) (hy : ev Tm y = .int k i) (h0 : 0 ≤ i) (h1 : i.toNat < len) (ho : off + i.toNat * s = o') :
    AExec P ⟨d, .indexAddr t x y, ty, pos, af, g⟩ ⟨n0, b0, Tm, Lo, He⟩ (.pointer (some ⟨m, o', none⟩)) Lo He :=
  .of_read fun hm lb w0 U w a r => by
    obtain ⟨cv, h1, h2⟩ := indexAddrF_ok (P := P) (w := w) hu hs h0 h1 (r.evEq hx) (r.evEq hy)
    exact ⟨cv, by simp [execOp, h1], ho ▸ h2⟩
theorem ex_indexAddrG {t e : TypeId} {s m len cp : Nat} {b : Blk} {k : IntKind} {i : Int} {o' k' : Nat} (hu : und P t = some (.slice e)) (hs : sz P e = some s) (hx : ev Tm x = .slice (some ⟨m, 0, some 1⟩) len cp) (hy : ev Tm y = .int k i) (h0 : 0 ≤ i) (h1 : i.toNat < len)
    (hb : He.get m = some b) (hg : b.gro = true) (hez : b.esz = s) (hl : len * s = b.cells.length) (ho : i.toNat * s = o') (hk : b.cells.length = k') : AExec P ⟨d, .indexAddr t x y, ty, pos, af, g⟩ ⟨n0, b0, Tm, Lo, He⟩ (.pointer (some ⟨m, o', some (k' + 1)⟩)) Lo He :=
  .of_read fun hm lb w0 U w a r => by
    obtain ⟨cv, h1, h2⟩ := indexAddrG_ok (P := P) r hu hs h0 h1 hb hg hez hl (r.evEq hx) (r.evEq hy)
    exact ⟨cv, by simp [execOp, h1], by rw [← ho, ← hk]; exact h2⟩
theorem ex_field {t : TypeId} {f : Nat} (hx : ev Tm x = vx) (h : afield P t vx f = some v) : AExec P ⟨d, .field t x f, ty, pos, af, g⟩ ⟨n0, b0, Tm, Lo, He⟩ v Lo He :=
  .of_read fun hm lb w0 U w a r => by
    obtain ⟨cv, g1, g2⟩ := afield_ok (P := P) h (r.evEq hx)
    exact ⟨cv, by simp [execOp, g1], g2⟩
theorem ex_index {t : TypeId} (hx : ev Tm x = vx) (hy : ev Tm y = vy) (h : aindexv P t vx vy = some v) : AExec P ⟨d, .index t x y, ty, pos, af, g⟩ ⟨n0, b0, Tm, Lo, He⟩ v Lo He :=
  .of_read fun hm lb w0 U w a r => by
    obtain ⟨cv, g1, g2⟩ := aindexv_ok (P := P) h (r.evEq hx) (r.evEq hy)
    exact ⟨cv, by simp [execOp, g1], g2⟩
theorem ex_indexS {t : TypeId} {s : ByteArray} {k : IntKind} {i : Int} {b : UInt8} (hu : und P t = some .string) (hx : ev Tm x = .string s) (hy : ev Tm y = .int k i) (h0 : 0 ≤ i) (h : s[i.toNat]? = some b) : AExec P ⟨d, .index t x y, ty, pos, af, g⟩ ⟨n0, b0, Tm, Lo, He⟩ (.int .u8 b.toNat) Lo He :=
  ex_index hx hy (by simp [aindexv, hu, h0, h])
theorem ex_extract {i : Nat} (hx : ev Tm x = vx) (h : aextract vx i = some v) : AExec P ⟨d, .extract x i, ty, pos, af, g⟩ ⟨n0, b0, Tm, Lo, He⟩ v Lo He :=
  .of_read fun hm lb w0 U w a r => by
    obtain ⟨cv, g1, g2⟩ := aextract_ok (P := P) h (r.evEq hx)
    exact ⟨cv, by simp [execOp, g1], g2⟩
theorem ex_build {t : TypeId} {ps : Array (Nat × Operand)} {qs : List (Nat × Value)} (hq : EVp Tm ps.toList qs) (h : abuild P t qs = some v) : AExec P ⟨d, .build t ps, ty, pos, af, g⟩ ⟨n0, b0, Tm, Lo, He⟩ v Lo He :=
  .of_read fun hm lb w0 U w a r => by
    obtain ⟨cv, g1, g2⟩ := abuild_ok (P := P) (hm := hm) (lb := lb) (ps' := ps.map fun p => (p.1, a.eval p.2)) h
      (by rw [Array.toList_map]; exact r.EVp hq)
    exact ⟨cv, by simp [execOp, g1], g2⟩

/-! ## New boxes and blocks -/
theorem ex_alloc {T : TypeId} {z : Value} {zs : List Value} {k : Nat} {L' : List (List Value)} (hz : zr P T = some z) (hzs : z.cells.toList = zs) (hp : zs.all plain1 = true) (hk : Lo.length = k) (hL : Lo ++ [zs] = L') : AExec P ⟨d, .alloc T, ty, pos, af, g⟩ ⟨n0, b0, Tm, Lo, He⟩ (.pointer (some ⟨k, 0, some 0⟩)) L' He :=
  .of_value fun hm lb w0 U w a r => by
    subst hzs; subst hk; subst hL
    obtain ⟨lb', w', g1, g2, g3, g4⟩ := newBox_loc (P := P) r (T := T) (C := z.cells) (L2.of_plain hp)
    refine ⟨hm, lb', w', _, ?_, GM.le_refl _, g2, g3, g4⟩
    simp [execOp, Instr.alloc, newVar, run_zero hz, g1]
theorem ex_box {T : TypeId} {cs : List Value} {k : Nat} {L' : List (List Value)} (hx : EV Tm x vx) (hcs : cellsOf vx = some cs) (hk : Lo.length = k) (hL : Lo ++ [cs] = L') : AExec P ⟨d, .box T x, ty, pos, af, g⟩ ⟨n0, b0, Tm, Lo, He⟩ (.pointer (some ⟨k, 0, some 0⟩)) L' He :=
  .of_value fun hm lb w0 U w a r => by
    subst hk; subst hL
    obtain ⟨lb', w', g1, g2, g3, g4⟩ := newBox_loc (P := P) r (T := T) (C := (a.eval x).cells) (cells_rel (r.EV hx) hcs)
    refine ⟨hm, lb', w', _, ?_, GM.le_refl _, g2, g3, g4⟩
    simp [execOp, Instr.box, newVar, g1]
theorem ex_allocH {T : TypeId} {z : Value} {zs : List Value} {k : Nat} {H' : AH} (hz : zr P T = some z) (hzs : z.cells.toList = zs) (hp : zs.all plain1 = true) (hk : He.next = k) (hH : He.alloc ⟨1, zs, false⟩ = H') : AExec P ⟨d, .alloc T, ty, pos, af, g⟩ ⟨n0, b0, Tm, Lo, He⟩ (.pointer (some ⟨k, 0, none⟩)) Lo H' :=
  .of_value fun hm lb w0 U w a r => by
    subst hzs; subst hk; subst hH
    obtain ⟨hm', w', g1, g2, g3, g4⟩ := newBox_heap (P := P) r (T := T) (C := z.cells) (plain_pure hp) (L2.of_plain hp)
    refine ⟨hm', lb, w', _, ?_, g2, LM.le_refl _, g3, g4⟩
    simp [execOp, Instr.alloc, newVar, run_zero hz, g1]
theorem ex_boxH {T : TypeId} {cs : List Value} {k : Nat} {H' : AH} (hx : EV Tm x vx) (hcs : cellsOf vx = some cs) (hp : cs.all pure1 = true) (hk : He.next = k) (hH : He.alloc ⟨1, cs, false⟩ = H') : AExec P ⟨d, .box T x, ty, pos, af, g⟩ ⟨n0, b0, Tm, Lo, He⟩ (.pointer (some ⟨k, 0, none⟩)) Lo H' :=
  .of_value fun hm lb w0 U w a r => by
    subst hk; subst hH
    obtain ⟨hm', w', g1, g2, g3, g4⟩ := newBox_heap (P := P) r (T := T) (C := (a.eval x).cells) hp (cells_rel (r.EV hx) hcs)
    refine ⟨hm', lb, w', _, ?_, g2, LM.le_refl _, g3, g4⟩
    simp [execOp, Instr.box, newVar, g1]
def noTup (ps : List (Nat × Value)) : Bool := ps.all (fun p => !(p.2 matches .tuple _))
theorem ex_buildSlice {t e : TypeId} {s len k : Nat} {ps : Array (Nat × Operand)} {qs : List (Nat × Value)} {cells : List Value} {H' : AH} (hu : und P t = some (.slice e)) (hs : sz P e = some s) (hlen : len * s ≤ 16777216) (hpos : 0 < s) (hq : EVp Tm ps.toList qs) (hnt : noTup qs = true)
    (hb : bsCells P e s len qs = some cells) (hpu : cells.all pure1 = true) (hl : cells.length = len * s) (hk : He.next = k) (hH : He.alloc ⟨s, cells, false⟩ = H') :
    AExec P ⟨d, .buildSlice t len ps, ty, pos, af, g⟩ ⟨n0, b0, Tm, Lo, He⟩ (.slice (some ⟨k, 0, none⟩) len len) Lo H' :=
  .of_value fun hm lb w0 U w a r => by
    subst hk; subst hH
    obtain ⟨hm', w', cv, g1, g2, g3, g4⟩ := buildSlice_ok r hu hs hlen hpos hnt hb hpu hl (ps' := ps.map fun p => (p.1, a.eval p.2)) (by rw [Array.toList_map]; exact r.EVp hq)
    exact ⟨hm', lb, w', cv, by simp [execOp, g1], g2, LM.le_refl _, g3, g4⟩
theorem ex_buildSliceD {t e : TypeId} {s len : Nat} {ps : Array (Nat × Operand)} {qs : List (Nat × Value)} {cells : List Value} (hu : und P t = some (.slice e)) (hs : sz P e = some (s + 1)) (hlen : len * (s + 1) ≤ 16777216) (hq : EVp Tm ps.toList qs) (hnt : noTup qs = true)
    (hb : bsCells P e (s + 1) len qs = some cells) (hpu : cells.all pure1 = true) (hl : cells.length = len * (s + 1)) :
    AExec P ⟨d, .buildSlice t len ps, ty, pos, af, g⟩ ⟨n0, b0, Tm, Lo, He⟩ (.iface (s + 1) (.tuple cells.toArray)) Lo He :=
  .of_value fun hm lb w0 U w a r => by
    obtain ⟨hm', w', cv, g1, g2, g3, g4⟩ := buildSliceD_ok r hu hs hlen hnt hb hpu hl (ps' := ps.map fun p => (p.1, a.eval p.2)) (by rw [Array.toList_map]; exact r.EVp hq)
    exact ⟨hm', lb, w', cv, by simp [execOp, g1], g2, LM.le_refl _, g3, g4⟩
theorem ex_make {t e : TypeId} {s b k : Nat} {z : Value} {kl kc : IntKind} {l m : Int} {zs : List Value} {H' : AH} (hu : und P t = some (.slice e)) (hs : sz P e = some s) (hb : bt P e = some b) (hz : zr P e = some z) (hzp : z.cells.toList.all plain1 = true) (hzs : z.cells.size = s) (hpos : 0 < s)
    (hx : ev Tm x = .int kl l) (hy : ev Tm y = .int kc m) (hc : 0 ≤ l ∧ l ≤ m ∧ m ≤ 9223372036854775807 ∧ (b : Int) * m ≤ 281474976710656) (hk : He.next = k) (hcs : zcells z.cells.toList (m.toNat * s) = zs) (hH : He.alloc ⟨s, zs, false⟩ = H') :
    AExec P ⟨d, .makeSlice t x y, ty, pos, af, g⟩ ⟨n0, b0, Tm, Lo, He⟩ (.slice (some ⟨k, 0, none⟩) l.toNat m.toNat) Lo H' :=
  .of_value fun hm lb w0 U w a r => by
    subst hk; subst hcs; subst hH
    obtain ⟨hm', w', cv, g1, g2, g3, g4⟩ := makeSlice_ok r hu hs hb hz hzp hzs hpos hc (r.evEq hx) (r.evEq hy)
    exact ⟨hm', lb, w', cv, by simp [execOp, g1], g2, LM.le_refl _, g3, g4⟩
theorem prOk_vr {hm : GM} {lb : LM} {x v : Value} (h : (match x with | .slice _ _ _ | .func _ _ _ | .agg _ | .tuple _ => false | .iface _ (.tuple _) => true | .iface _ _ => false | _ => true) = true) (e : VR hm lb x v) : PR hm lb x v := by
  have ho : one x = true := by cases x <;> first | rfl | (simp at h; done)
  have hs := e.sr ho
  cases x <;> first | (simp at h; done) | exact hs | skip
  case pointer p => cases p <;> exact hs
  case iface t y => cases y <;> first | (simp at h; done) | exact hs
def prOk : Value → Bool
  | .slice _ _ _ | .func _ _ _ | .agg _ | .tuple _ => false
  | .iface _ (.tuple _) => true
  | .iface _ _ => false
  | _ => true
theorem ex_makeFunc {fn : Fn} {cp : Array Operand} {vs : List Value} (hvs : cp.toList.map (ev Tm) = vs) (hp : vs.all prOk = true) : AExec P ⟨d, .makeFunc fn #[] cp, ty, pos, af, g⟩ ⟨n0, b0, Tm, Lo, He⟩ (.func fn #[] vs.toArray) Lo He :=
  .of_read fun hm lb w0 U w a r => by
    subst hvs
    refine ⟨.func fn #[] (cp.map a.eval), by simp [execOp, Instr.makeFunc], .of_sr rfl ⟨_, rfl, rfl, ?_⟩⟩
    rw [Array.toList_map]
    refine L2.map cp.toList fun x hx => prOk_vr ?_ (r.ev x)
    have := List.all_eq_true.1 hp _ (List.mem_map_of_mem hx)
    unfold prOk at this
    exact this

/-! ## Slices of slices, append -/
theorem bndN {v : Option Value} {dflt n : Nat} (hv : v = none) (hn : n = dflt) : Bnd v dflt n := .inl ⟨hv, hn⟩
theorem bndS {v : Option Value} {dflt n : Nat} {k : IntKind} {i : Int} (hv : v = some (.int k i)) (h0 : 0 ≤ i) (hn : n = i.toNat) : Bnd v dflt n := .inr ⟨k, i, hv, h0, hn⟩
theorem ex_sliceS {t : TypeId} {s : ByteArray} {lo hi : Option Operand} {l h : Nat} (hu : und P t = some .string) (hx : ev Tm x = .string s) (hl : Bnd (lo.map (ev Tm)) 0 l) (hh : Bnd (hi.map (ev Tm)) s.size h) (h1 : l ≤ h) (h2 : h ≤ s.size) (hv : Value.string (s.extract l h) = v) :
    AExec P ⟨d, .slice t x lo hi none, ty, pos, af, g⟩ ⟨n0, b0, Tm, Lo, He⟩ v Lo He :=
  .of_read fun hm lb w0 U w a r => by
    subst hv
    exact ⟨_, by simp [execOp, sliceS_ok (w := w) hu hl hh h1 h2 (r.evEq hx) (optR_map r lo) (optR_map r hi) (cmx := none) trivial], .of_sr rfl rfl⟩
theorem ex_sliceD {t e : TypeId} {s n : Nat} {cs : Array Value} {vs : List Value} {lo hi : Option Operand} {l h : Nat} (hu : und P t = some (.slice e)) (hs : sz P e = some (s + 1)) (hx : ev Tm x = .iface (s + 1) (.tuple cs)) (hn : n * (s + 1) = cs.size) (hl : Bnd (lo.map (ev Tm)) 0 l) (hh : Bnd (hi.map (ev Tm)) n h) (h1 : l ≤ h) (h2 : h ≤ n)
    (hv : (cs.toList.drop (l * (s + 1))).take ((h - l) * (s + 1)) = vs) : AExec P ⟨d, .slice t x lo hi none, ty, pos, af, g⟩ ⟨n0, b0, Tm, Lo, He⟩ (.iface (s + 1) (.tuple vs.toArray)) Lo He :=
  .of_read fun hm lb w0 U w a r => by
    obtain ⟨cv, g1, g2⟩ := sliceD_ok (P := P) (w := w) hu hs hn hl hh h1 h2 (r.evEq hx) (optR_map r lo) (optR_map r hi) (cmx := none) trivial
    exact ⟨cv, by simp [execOp, g1], by rw [← hv]; exact g2⟩

/-- What is appended, for all worlds that the state stands for. -/
def Src (P : Program) (st : AS) (sT xT e : TypeId) (s : Nat) (y : Operand) (new : List Value) (n : Nat) : Prop :=
  ∀ hm lb w0 U w a, Rel hm lb w0 U st w a → SrcOk hm P w sT xT e s (a.eval y) new n
theorem srcNil {sT xT e e2 : TypeId} {s cp : Nat} (hsT : und P sT = some (.slice e)) (hs : sz P e = some s) (hu : und P xT = some (.slice e2)) (hy : ev Tm y = .slice none 0 cp) : Src P ⟨n0, b0, Tm, Lo, He⟩ sT xT e s y [] 0 :=
  fun hm lb w0 U w a r => src_nil hsT hs hu (r.evEq hy)
theorem srcD {sT xT e e2 : TypeId} {s n : Nat} {cs : Array Value} {vs : List Value} (hsT : und P sT = some (.slice e)) (hs : sz P e = some (s + 1)) (hu : und P xT = some (.slice e2)) (hy : ev Tm y = .iface (s + 1) (.tuple cs)) (hcs : cs.toList = vs) (hn : n * (s + 1) = vs.length) : Src P ⟨n0, b0, Tm, Lo, He⟩ sT xT e (s + 1) y vs n :=
  fun hm lb w0 U w a r => hcs ▸ src_deep r hsT hs hu (by rw [hn, ← hcs]; simp) (r.evEq hy)
theorem srcF {sT xT e e2 : TypeId} {s m off n cp : Nat} {b : Blk} {vs : List Value} (hsT : und P sT = some (.slice e)) (hs : sz P e = some s) (hu : und P xT = some (.slice e2)) (hy : ev Tm y = .slice (some ⟨m, off, none⟩) n cp) (hb : He.get m = some b) (hg : b.gro = false) (hez : b.esz = s)
    (hl : off + n * s ≤ b.cells.length) (hvs : (b.cells.drop off).take (n * s) = vs) : Src P ⟨n0, b0, Tm, Lo, He⟩ sT xT e s y vs n :=
  fun hm lb w0 U w a r => hvs ▸ src_fix r hsT hs hu hb hg hez hl (r.evEq hy)
theorem srcG {sT xT e e2 : TypeId} {s m n cp : Nat} {b : Blk} (hsT : und P sT = some (.slice e)) (hs : sz P e = some s) (hu : und P xT = some (.slice e2)) (hy : ev Tm y = .slice (some ⟨m, 0, some 1⟩) n cp) (hb : He.get m = some b) (hg : b.gro = true) (hez : b.esz = s)
    (hl : n * s = b.cells.length) : Src P ⟨n0, b0, Tm, Lo, He⟩ sT xT e s y b.cells n :=
  fun hm lb w0 U w a r => src_gro r hsT hs hu hb hg hez hl (r.evEq hy)
theorem srcS {sT xT e : TypeId} {str : ByteArray} {vs : List Value} {n : Nat} (hsT : und P sT = some (.slice e)) (hs : sz P e = some 1) (hu : und P xT = some .string) (hy : ev Tm y = .string str) (hvs : bcells str = vs) (hn : str.size = n) : Src P ⟨n0, b0, Tm, Lo, He⟩ sT xT e 1 y vs n :=
  fun hm lb w0 U w a r => by subst hvs; subst hn; exact src_str hsT hs hu (r.evEq hy)

/-- Of a type of elements: how long, how many bytes, what is nothing. -/
structure ElemOk (P : Program) (e : TypeId) (s b : Nat) : Prop where
  bt : bt P e = some b
  b1 : 1 ≤ b
  s1 : 1 ≤ s
  zr : ∃ z, zr P e = some z ∧ z.cells.size = s

theorem ex_appNone {sT xT e : TypeId} {s b n k cp : Nat} {base : Option Addr} {new : List Value} {H' : AH} (he : ElemOk P e s b) (hx : ev Tm x = .slice none 0 0) (hsrc : Src P ⟨n0, b0, Tm, Lo, He⟩ sT xT e s y new n) (hroom : room n b) (hk : He.next = k) (hH : He.alloc ⟨s, new, true⟩ = H') :
    AExec P ⟨d, .call ⟨.builtin .append, #[x, y], #[sT, xT]⟩, ty, pos, af, g⟩ ⟨n0, b0, Tm, Lo, He⟩ (.slice (some ⟨k, 0, some 1⟩) n n) Lo H' :=
  .of_value fun hm lb w0 U w a r => by
    subst hk; subst hH
    obtain ⟨z, hz, hzs⟩ := he.zr
    have hxx : a.eval x = .slice none 0 0 := (r.evEq hx).sr rfl
    obtain ⟨hm', w', cv, g1, g2, g3, g4⟩ := app_none (T := ty) (base := none) r he.bt he.b1 hz hzs he.s1 (hsrc hm lb w0 U w a r) hroom
    exact ⟨hm', lb, w', cv, by simp [execOp, resolve, invoke, builtin, hxx, g1], g2, LM.le_refl _, g3, g4⟩
/-- Appended to an empty slice that was built. -/
theorem ex_appZero {sT xT e : TypeId} {s b n k m off : Nat} {new : List Value} {H' : AH} (he : ElemOk P e s b) (hx : ev Tm x = .slice (some ⟨m, off, none⟩) 0 0) (hsrc : Src P ⟨n0, b0, Tm, Lo, He⟩ sT xT e s y new n) (hroom : room n b) (hk : He.next = k) (hH : He.alloc ⟨s, new, true⟩ = H') :
    AExec P ⟨d, .call ⟨.builtin .append, #[x, y], #[sT, xT]⟩, ty, pos, af, g⟩ ⟨n0, b0, Tm, Lo, He⟩ (.slice (some ⟨k, 0, some 1⟩) n n) Lo H' :=
  .of_value fun hm lb w0 U w a r => by
    subst hk; subst hH
    obtain ⟨z, hz, hzs⟩ := he.zr
    obtain ⟨i, o, h1, h2, hxx, _⟩ := (r.evEq hx).sr rfl
    obtain ⟨hm', w', cv, g1, g2, g3, g4⟩ := app_none (T := ty) (base := some ⟨i.blk, o, none⟩) r he.bt he.b1 hz hzs he.s1 (hsrc hm lb w0 U w a r) hroom
    exact ⟨hm', lb, w', cv, by simp [execOp, resolve, invoke, builtin, hxx, g1], g2, LM.le_refl _, g3, g4⟩
theorem ex_appG {sT xT e : TypeId} {s b n m len cp len' : Nat} {blk : Blk} {new : List Value} {H' : AH} (he : ElemOk P e s b) (hx : ev Tm x = .slice (some ⟨m, 0, some 1⟩) len cp) (hblk : He.get m = some blk) (hg : blk.gro = true) (hez : blk.esz = s) (hl : len * s = blk.cells.length)
    (hsrc : Src P ⟨n0, b0, Tm, Lo, He⟩ sT xT e s y new n) (hroom : room (len + n) b) (hlen : len + n = len') (hH : He.set m ⟨s, blk.cells ++ new, true⟩ = H') :
    AExec P ⟨d, .call ⟨.builtin .append, #[x, y], #[sT, xT]⟩, ty, pos, af, g⟩ ⟨n0, b0, Tm, Lo, He⟩ (.slice (some ⟨m, 0, some 1⟩) len' len') Lo H' :=
  .of_value fun hm lb w0 U w a r => by
    subst hlen; subst hH
    obtain ⟨z, hz, hzs⟩ := he.zr
    obtain ⟨hm', w', cv, g1, g2, g3, g4⟩ := app_gro (T := ty) r he.bt he.b1 hz hzs hblk hg hez hl (r.evEq hx) (hsrc hm lb w0 U w a r) hroom
    exact ⟨hm', lb, w', cv, by simp [execOp, resolve, invoke, builtin, g1], g2, LM.le_refl _, g3, g4⟩
theorem ex_appFull {sT xT e : TypeId} {s b n m off len cp k len' : Nat} {blk : Blk} {new old cells : List Value} {H' : AH} (he : ElemOk P e s b) (hx : ev Tm x = .slice (some ⟨m, off, none⟩) len cp) (hblk : He.get m = some blk) (hg : blk.gro = false) (hez : blk.esz = s) (hl : off + len * s ≤ blk.cells.length) (hno : cp < len + n)
    (hsrc : Src P ⟨n0, b0, Tm, Lo, He⟩ sT xT e s y new n) (hroom : room (len + n) b) (hlen : len + n = len') (hk : He.next = k) (hcs : (blk.cells.drop off).take (len * s) ++ new = cells) (hH : He.alloc ⟨s, cells, true⟩ = H') :
    AExec P ⟨d, .call ⟨.builtin .append, #[x, y], #[sT, xT]⟩, ty, pos, af, g⟩ ⟨n0, b0, Tm, Lo, He⟩ (.slice (some ⟨k, 0, some 1⟩) len' len') Lo H' :=
  .of_value fun hm lb w0 U w a r => by
    subst hlen; subst hk; subst hcs; subst hH
    obtain ⟨z, hz, hzs⟩ := he.zr
    obtain ⟨hm', w', cv, g1, g2, g3, g4⟩ := app_full (T := ty) r he.bt he.b1 hz hzs he.s1 hblk hg hez hl (r.evEq hx) hno (hsrc hm lb w0 U w a r) hroom
    exact ⟨hm', lb, w', cv, by simp [execOp, resolve, invoke, builtin, g1], g2, LM.le_refl _, g3, g4⟩
theorem ex_appRoom {sT xT e : TypeId} {s n m off len cp len' : Nat} {blk : Blk} {new cells : List Value} {H' : AH} (hs1 : 1 ≤ s) (hx : ev Tm x = .slice (some ⟨m, off, none⟩) len cp) (hblk : He.get m = some blk) (hg : blk.gro = false) (hez : blk.esz = s) (hfit : len + n ≤ cp) (hl : off + (len + n) * s ≤ blk.cells.length) (hn : 0 < n)
    (hsrc : Src P ⟨n0, b0, Tm, Lo, He⟩ sT xT e s y new n) (hlen : len + n = len') (hcs : spl blk.cells (off + len * s) new = cells) (hH : He.set m { blk with cells := cells } = H') :
    AExec P ⟨d, .call ⟨.builtin .append, #[x, y], #[sT, xT]⟩, ty, pos, af, g⟩ ⟨n0, b0, Tm, Lo, He⟩ (.slice (some ⟨m, off, none⟩) len' cp) Lo H' :=
  .of_value fun hm lb w0 U w a r => by
    subst hlen; subst hcs; subst hH
    obtain ⟨hm', w', cv, g1, g2, g3, g4⟩ := app_room (T := ty) r hblk hg hez hfit hl (r.evEq hx) hn hs1 (hsrc hm lb w0 U w a r)
    exact ⟨hm', lb, w', cv, by simp [execOp, resolve, invoke, builtin, g1], g2, LM.le_refl _, g3, g4⟩
end

/-! ## Calls -/
/-- May the function be entered? -/
def enterable (P : Program) (f : FuncId) : Bool :=
  match P.funcs[f]? with
  | some fn => fn.name != "runtime.NumGoroutine" && fn.body.isSome
  | none => false

theorem run_callFunc {P : Program} {w : World} {f : FuncId} {args : Array Value} (h : enterable P f = true) : (callFunc f args).run P w = .ok (.enter f args) w := by
  unfold enterable at h
  cases hf : P.funcs[f]? with
  | none => simp [hf] at h
  | some fn =>
    simp only [hf, Bool.and_eq_true] at h
    have h1 : (fn.name == "runtime.NumGoroutine") = false := by
      have := h.1
      simpa using this
    have h2 : fn.body.isNone = false := by
      have := h.2
      cases hb : fn.body <;> simp_all
    simp only [callFunc, Sem.run_bind, run_program, Result.andThen_ok, hf, h1, h2, Bool.false_eq_true, if_false, Sem.run_pure]


section
variable {P : Program} {n0 b0 : Nat} {Tm : List (Nat × Value)} {Lo : List (List Value)} {He : AH} {f : Operand} {args : Array Operand} {ts : Array TypeId} {d : Option Tmp} {ty : TypeId} {pos : String} {af : Array Edge} {gd : Option (Nat × Bool)}

theorem PR.vr {hm : GM} {lb : LM} {x v : Value} (h : PR hm lb x v) : VR hm lb x v := by
  cases x <;> first | exact h.elim | exact h | skip
  case pointer p => cases p <;> exact h
  case iface t y => cases y <;> exact h

/-- What a callee is handed: the arguments, and what the closure holds. -/
def CArgs (T : List (Nat × Value)) (args : Array Operand) (cap : Array Value) (vs : List Value) : Prop := ∃ us, EVs T args.toList us ∧ us ++ cap.toList = vs
theorem cargs {T : List (Nat × Value)} {args : Array Operand} {vs : List Value} (h : EVs T args.toList vs) : CArgs T args #[] vs := ⟨vs, h, by simp⟩
theorem cargsC {T : List (Nat × Value)} {args : Array Operand} {cap : Array Value} {us vs : List Value} (h : EVs T args.toList us) (hv : us ++ cap.toList = vs) : CArgs T args cap vs := ⟨us, h, hv⟩
theorem call_run {hm : GM} {lb : LM} {w0 : World} {U : Env} {w : World} {a : Act} (r : Rel hm lb w0 U ⟨n0, b0, Tm, Lo, He⟩ w a) {g : FuncId} {cap : Array Value} {vs : List Value} (hf : ev Tm f = .func (.func g) #[] cap) (hg : enterable P g = true) (ha : CArgs Tm args cap vs) :
    ∃ cargs : Array Value, (execOp a.eval ⟨d, .call ⟨.value f, args, ts⟩, ty, pos, af, gd⟩).run P w = .ok (.enter g cargs) w ∧ L2 (VR hm lb) vs cargs.toList := by
  obtain ⟨cap', h1, h2, h3⟩ := (r.evEq hf).sr rfl
  refine ⟨args.map a.eval ++ cap', ?_, ?_⟩
  · simp only [execOp, resolve, h1, Deferred.ofValue, Sem.run_bind, Sem.run_pure, Result.andThen_ok, invoke]
    rw [Array.empty_append]
    exact run_callFunc hg
  · obtain ⟨us, hu, rfl⟩ := ha
    rw [Array.toList_append, Array.toList_map]
    exact (r.EVs hu).append (h3.mono fun x y _ q => q.vr)

/-- A call of a function of values alone. -/
theorem ex_call0 {g : FuncId} {cap : Array Value} {vs : List Value} {v : Value} (hf : ev Tm f = .func (.func g) #[] cap) (hg : enterable P g = true) (ha : CArgs Tm args cap vs) (hp : vs.all pureV = true) (hc : FFn P g vs v) (hv : pureV v = true) :
    AExec P ⟨d, .call ⟨.value f, args, ts⟩, ty, pos, af, gd⟩ ⟨n0, b0, Tm, Lo, He⟩ v Lo He := by
  intro hm lb w0 U w a Q r
  obtain ⟨cargs, hrun, hargs⟩ := call_run (d := d) (ts := ts) (ty := ty) (pos := pos) (af := af) (gd := gd) r hf hg ha
  have hargs' : L2 (VR hm.bare []) vs cargs.toList := hargs.mono fun x y hx q => VR.pure (hm := hm) (List.all_eq_true.1 hp x hx) (fun _ _ _ z => z) q
  unfold Oper.wp
  rw [hrun]
  refine (hc hm.bare w (hideU hm w) w cargs r.hide hargs').mono fun e w' q => ?_
  obtain ⟨hm', v', cv, H', rfl, q2, q3, q4, q5, rfl⟩ := q
  obtain ⟨h1, h2⟩ := r.unhide q2.fz q4
  exact ⟨_, lb, cv, h1, LM.le_refl _, rfl, VR.pure (hm := hm') hv (fun _ _ _ z => z) q5, h2⟩

/-- An argument as the callee names it. -/
def RnR (n : Nat) (x x' : Value) : Prop := (pureV x = true ∧ x' = x) ∨ ∃ off, x = .pointer (some ⟨n, off, none⟩) ∧ x' = .pointer (some ⟨0, off, none⟩)
/-- A call of a function that is handed a pointer into one named block. -/
theorem ex_call1 {g : FuncId} {cap : Array Value} {vs vs' : List Value} {v : Value} {n : Nat} {b b' : Blk} {H' : AH} (hf : ev Tm f = .func (.func g) #[] cap) (hg : enterable P g = true) (ha : CArgs Tm args cap vs) (hb : He.get n = some b) (hgr : b.gro = false) (hrn : L2 (RnR n) vs vs')
    (hc : AFn P g vs' ⟨1, [(0, b)]⟩ fun x H' => x = v ∧ H'.get 0 = some b') (hv : pureV v = true) (hH : He.set n b' = H') : AExec P ⟨d, .call ⟨.value f, args, ts⟩, ty, pos, af, gd⟩ ⟨n0, b0, Tm, Lo, He⟩ v Lo H' := by
  intro hm lb w0 U w a Q r
  subst hH
  obtain ⟨cargs, hrun, hargs⟩ := call_run (d := d) (ts := ts) (ty := ty) (pos := pos) (af := af) (gd := gd) r hf hg ha
  obtain ⟨i, g1, g2, g3, _⟩ := r.blk n b hb
  have hargs' : L2 (VR (hm.only i) []) vs' cargs.toList := by
    refine ⟨hrn.1.symm.trans hargs.1, fun k x' y hx' hy => ?_⟩
    have hk : k < vs.length := by rw [hrn.1]; exact lookup_lt hx'
    have hx := List.getElem?_eq_getElem hk
    have hv := hargs.2 k _ _ hx hy
    rcases hrn.2 k _ _ hx hx' with ⟨h1, rfl⟩ | ⟨off, h1, rfl⟩
    · exact VR.pure (hm := hm) h1 (fun _ _ _ z => z) hv
    · rw [h1] at hv
      obtain ⟨c, ⟨i', k1, k2, k3⟩, rfl⟩ := hv.sr rfl
      simp only at k1
      rw [g1] at k1; cases k1
      exact .of_sr rfl ⟨c, ⟨i, by simp [GM.only], k2, k3⟩, rfl⟩
  unfold Oper.wp
  rw [hrun]
  refine (hc (hm.only i) w (oneU hm w i) w cargs (r.enter1 hb g1) hargs').mono fun e w' q => ?_
  obtain ⟨hm', v', cv, H', rfl, q2, q3, q4, q5, rfl, q7⟩ := q
  obtain ⟨i', h0, h1, h2⟩ := r.back1 hb g1 q2 q4 q7
  exact ⟨_, lb, cv, h1, LM.le_refl _, rfl, VR.pure (hm := hm') hv (fun _ _ _ z => z) q5, h2⟩

theorem VR.noLoc {hm : GM} {lb : LM} {m : Nat} {v cv : Value} (h : okv m 0 v = true) (e : VR hm lb v cv) (lb' : LM) : VR hm lb' v cv := by
  have h1 := VR.cut h e
  rw [List.take_zero] at h1
  have hle : (hm.cut m).le hm := ⟨(fun n i hi => by
    simp only [GM.cut] at hi
    split at hi
    · exact ⟨i, hi, .inl rfl⟩
    · cases hi), fun _ _ _ q => q⟩
  exact h1.mono hle (LM.nil_le _)

/-- A call of any kind: the callee sees all names. -/
theorem ex_callG {g : FuncId} {cap : Array Value} {vs : List Value} {v : Value} {H' : AH} (hf : ev Tm f = .func (.func g) #[] cap) (hg : enterable P g = true) (ha : CArgs Tm args cap vs) (hp : vs.all (okv He.next 0) = true)
    (hc : AFn P g vs He fun x H2 => x = v ∧ H2 = H') : AExec P ⟨d, .call ⟨.value f, args, ts⟩, ty, pos, af, gd⟩ ⟨n0, b0, Tm, Lo, He⟩ v Lo H' := by
  intro hm lb w0 U w a Q r
  obtain ⟨cargs, hrun, hargs⟩ := call_run (d := d) (ts := ts) (ty := ty) (pos := pos) (af := af) (gd := gd) r hf hg ha
  have hargs' : L2 (VR hm []) vs cargs.toList := hargs.mono fun x y hx q => VR.noLoc (List.all_eq_true.1 hp x hx) q []
  unfold Oper.wp
  rw [hrun]
  refine (hc hm w (callU ⟨n0, b0, Tm, Lo, He⟩ hm w) w cargs r.enter hargs').mono fun e w' q => ?_
  obtain ⟨hm', v', cv, H2, rfl, q2, q3, q4, q5, rfl, rfl⟩ := q
  obtain ⟨h1, h2⟩ := r.back q2 q3 q4
  exact ⟨_, lb, cv, h1, LM.le_refl _, rfl, q5.mono (GM.le_refl _) (LM.nil_le _), h2⟩
end

/-! ## Functions -/
def argsT : Nat → List Value → List (Nat × Value)
  | _, [] => []
  | k, v :: l => (k, v) :: argsT (k + 1) l
theorem lk_argsT {l : List Value} : ∀ {k t : Nat} {v : Value}, lk (argsT k l) t = some v → k ≤ t ∧ l[t - k]? = some v := by
  induction l with
  | nil => intro k t v h; simp [argsT, lk] at h
  | cons x l ih =>
    intro k t v h
    by_cases e : k = t
    · subst e
      rw [show argsT k (x :: l) = (k, x) :: argsT (k + 1) l from rfl, lk_cons_self] at h
      cases h; simp
    · rw [show argsT k (x :: l) = (k, x) :: argsT (k + 1) l from rfl, lk_cons_ne e] at h
      obtain ⟨h1, h2⟩ := ih h
      refine ⟨by omega, ?_⟩
      rw [show t - k = (t - (k + 1)) + 1 from by omega]; simpa using h2

/-- What a function returns, out of its slots and boxes. -/
def RVal (P : Program) (st : AS) : ResultVar → Value → Prop
  | .tmp t, v => t < st.n ∧ EV st.tmps (.tmp t) v
  | .cell t T, v => t < st.n ∧ ∃ p cs, ev st.tmps (.tmp t) = .pointer (some p) ∧ CellsAt st p cs ∧ Part P T cs p.off v
theorem rtmp {P : Program} {n b t : Nat} {T : List (Nat × Value)} {L : List (List Value)} {H : AH} {v : Value} (h : Nat.blt t n = true) (hv : EV T (.tmp t) v) : RVal P ⟨n, b, T, L, H⟩ (.tmp t) v := ⟨blt_lt h, hv⟩
theorem rcellL {P : Program} {n b t k off : Nat} {T : List (Nat × Value)} {L : List (List Value)} {H : AH} {ty : TypeId} {v : Value} {cs : List Value} (h : Nat.blt t n = true) (hv : ev T (.tmp t) = .pointer (some ⟨k, off, some 0⟩)) (hc : L[k]? = some cs) (hp : Part P ty cs off v) : RVal P ⟨n, b, T, L, H⟩ (.cell t ty) v := ⟨blt_lt h, _, cs, hv, hc, hp⟩

def notTuple : Value → Bool | .tuple _ => false | _ => true
def ARes (P : Program) (rs : List ResultVar) (st : AS) (v : Value) : Prop :=
  (∃ x, rs = [x] ∧ RVal P st x v) ∨ (∃ vs, rs.length ≠ 1 ∧ L2 (RVal P st) rs vs ∧ vs.all notTuple = true ∧ v = .tuple vs.toArray)
theorem ares1 {P : Program} {st : AS} {x : ResultVar} {v : Value} (h : RVal P st x v) : ARes P [x] st v := .inl ⟨x, rfl, h⟩
theorem aresN {P : Program} {st : AS} {rs : List ResultVar} {vs : List Value} (hn : Nat.beq rs.length 1 = false) (h : L2 (RVal P st) rs vs) (hv : vs.all notTuple = true) : ARes P rs st (.tuple vs.toArray) :=
  .inr ⟨vs, (fun e => by rw [e] at hn; cases hn), h, hv, rfl⟩

section
variable {hm : GM} {lb : LM} {w0 : World} {U : Env} {st : AS} {w : World} {a : Act} {P : Program}
def res1 (tmps : Array Value) : ResultVar → Sem Value
  | .tmp t => pure (tmps.getD t undef)
  | .cell a t => do loadVar t (← asAddr (tmps.getD a undef))
theorem rval_ok (r : Rel hm lb w0 U st w a) {x : ResultVar} {v : Value} (h : RVal P st x v) : ∃ cv, (res1 a.tmps x).run P w = .ok cv w ∧ VR hm lb v cv := by
  cases x with
  | tmp t =>
    obtain ⟨h1, h2⟩ := h
    exact ⟨a.tmps.getD t undef, by simp [res1], r.EV h2⟩
  | cell t T =>
    obtain ⟨h1, p, cs, h2, h3, h4⟩ := h
    obtain ⟨cv, g1, g2⟩ := load_at (P := P) r h3 h4 (r.evEq h2)
    obtain ⟨c, _, hc⟩ := (r.evEq h2).sr rfl
    refine ⟨cv, ?_, g2⟩
    have hc' : a.tmps.getD t undef = .pointer (some c) := hc
    rw [hc] at g1
    simp only [Instr.loadAt, Instr.sureAddr, Sem.run_bind, Sem.run_pure, Result.andThen_ok] at g1
    simp only [res1, hc', asAddr, Sem.run_bind, Sem.run_pure, Result.andThen_ok, g1]
theorem aresL_ok (r : Rel hm lb w0 U st w a) : ∀ {l : List ResultVar} {vs : List Value}, L2 (RVal P st) l vs → ∃ cvs, (l.mapM (res1 a.tmps)).run P w = .ok cvs w ∧ L2 (VR hm lb) vs cvs
  | [], vs, h => by rw [h.nil_inv]; exact ⟨[], by simp, .nil⟩
  | x :: l, vs, h => by
    obtain ⟨v, vs', rfl, h1, h2⟩ := h.cons_inv
    obtain ⟨cv, h3, h4⟩ := rval_ok r h1
    obtain ⟨cvs, h5, h6⟩ := aresL_ok r h2
    exact ⟨cv :: cvs, by simp [List.mapM_cons, h3, h5], .cons h4 h6⟩
theorem VR.vr1 {v cv : Value} (h : notTuple v = true) (e : VR hm lb v cv) : VR1 hm lb v cv := by
  unfold VR at e
  split at e
  · simp [notTuple] at h
  · exact e
theorem results_eq (fn : Func) (tmps : Array Value) : results fn tmps = (do let vs ← fn.results.mapM (res1 tmps); pure (if h : vs.size = 1 then vs[0] else .tuple vs)) := by
  unfold results
  congr 1
theorem ares_ok (r : Rel hm lb w0 U st w a) {fn : Func} {v : Value} (h : ARes P fn.results.toList st v) : ∃ cv, (results fn a.tmps).run P w = .ok cv w ∧ VR hm lb v cv := by
  rw [results_eq]
  have hmap : ∀ cvs, (fn.results.toList.mapM (res1 a.tmps)).run P w = .ok cvs w → (fn.results.mapM (res1 a.tmps)).run P w = .ok cvs.toArray w := by
    intro cvs hc
    have e := Array.toList_mapM (xs := fn.results) (f := res1 a.tmps)
    rw [← e, Sem.run_map] at hc
    cases hx : (fn.results.mapM (res1 a.tmps)).run P w with
    | ok arr w' =>
      rw [hx] at hc
      simp only [Result.andThen_ok] at hc
      injection hc with h1 h2
      rw [← h1, h2]
    | halt x w' => rw [hx] at hc; simp at hc
  rcases h with ⟨x, hx, hr⟩ | ⟨vs, hn, hvs, hnt, rfl⟩
  · obtain ⟨cv, h1, h2⟩ := rval_ok r hr
    refine ⟨cv, ?_, h2⟩
    have h3 : (fn.results.toList.mapM (res1 a.tmps)).run P w = .ok [cv] w := by rw [hx]; simp [List.mapM_cons, h1]
    rw [Sem.run_bind, hmap _ h3]
    simp
  · obtain ⟨cvs, h1, h2⟩ := aresL_ok (P := P) r hvs
    have hlen : cvs.length ≠ 1 := by
      have e1 := h2.1; have e2 := hvs.1; omega
    refine ⟨.tuple cvs.toArray, ?_, ?_⟩
    · rw [Sem.run_bind, hmap _ h1]
      simp [hlen]
    · refine .inr (.inr ⟨_, rfl, ?_⟩)
      exact ⟨h2.1, fun i x y hx hy => (h2.2 i x y hx hy).vr1 (List.all_eq_true.1 hnt x (List.mem_of_getElem? hx))⟩
end

/-- The end of a function's body. -/
def Fin (P : Program) (fn : Func) (R : Value → AH → Prop) : Exit → AS → Prop
  | .normal, s | .ret, s => ∃ v, ARes P fn.results.toList s v ∧ okv s.heap.next 0 v = true ∧ R v s.heap
  | _, _ => False

theorem AFn.of_body {P : Program} {f : FuncId} {fn : Func} {c : Code} {args : List Value} {H : AH} {R : Value → AH → Prop} (hf : P.funcs[f]? = some fn) (hb : fn.body = some c) (hn : args.length ≤ fn.ntmps)
    (h : AWp P c (Fin P fn R) ⟨fn.ntmps, H.next, argsT 0 args, [], H⟩) : AFn P f args H R := by
  intro hm w0 U w cargs hr ha
  have hlen : args.length = cargs.size := by have := ha.1; simpa using this
  refine calls_of_wp hf hb ?_
  have r : Rel hm [] w0 U ⟨fn.ntmps, H.next, argsT 0 args, [], H⟩ w { tmps := cargs ++ Array.replicate (fn.ntmps - cargs.size) undef, defers := [] } :=
    { toHRel := hr
      defers := rfl
      tsize := by simp; omega
      base_le := Nat.le_refl _
      tmps := fun t v ht => by
        obtain ⟨_, h1⟩ := lk_argsT ht
        rw [Nat.sub_zero] at h1
        obtain ⟨b, h2, h3⟩ := ha.get h1
        refine ⟨b, ?_, h3⟩
        have := lookup_lt h1
        rw [Array.getElem?_append_left (by omega)]; simpa using h2
      llen := rfl
      loc := fun k cs hk => by simp at hk
      linj := fun k k' B h1 => by simp at h1
      lheap := fun k B n b i h1 => by simp at h1 }
  refine wp_mono (h hm [] w0 U w _ r) fun e a' w' q => ?_
  obtain ⟨hm', lb', st', h1, hbase, h2, h3⟩ := q
  have hnx : H.next ≤ st'.heap.next := by have := h2.base_le; rw [hbase] at this; exact this
  cases e with
  | normal =>
    obtain ⟨v, h4, h5, h6⟩ := h3
    obtain ⟨cv, h7, h8⟩ := ares_ok (P := P) h2 h4
    exact ⟨h2.defers, cv, h7, hm', v, cv, st'.heap, rfl, h1, hnx, h2.toHRel, h8.noLoc h5 [], h6⟩
  | ret =>
    obtain ⟨v, h4, h5, h6⟩ := h3
    obtain ⟨cv, h7, h8⟩ := ares_ok (P := P) h2 h4
    exact ⟨h2.defers, cv, h7, hm', v, cv, st'.heap, rfl, h1, hnx, h2.toHRel, h8.noLoc h5 [], h6⟩
  | _ => exact h3.elim

theorem pure_okv1 {m k : Nat} {v : Value} (h : pure1 v = true) : okv1 m k v = true := by
  cases v <;> first | (simp [pure1] at h; done) | rfl | skip
  case pointer p => cases p <;> first | rfl | (simp [pure1] at h; done)
  case slice p l c => cases p <;> first | rfl | (simp [pure1] at h; done)
theorem pure_okv {m k : Nat} {v : Value} (h : pureV v = true) : okv m k v = true := by
  have hall : ∀ l : List Value, l.all pure1 = true → l.all (okv1 m k) = true := fun l hl => by
    rw [List.all_eq_true] at hl ⊢
    exact fun x hx => pure_okv1 (hl x hx)
  unfold pureV at h
  unfold okv
  split at h
  · exact hall _ h
  · rw [List.all_eq_true] at h ⊢
    intro x hx
    have := h x hx
    split at this
    · exact hall _ this
    · cases this
    · rename_i h1 h2
      split
      · exact absurd rfl (h1 _)
      · exact pure_okv1 this
  · rename_i h1 h2
    split
    · exact absurd rfl (h1 _)
    · exact absurd rfl (h2 _)
    · exact pure_okv1 h

/-- The end of a function of values: what it returns. -/
def FinV (P : Program) (rs : List ResultVar) (r : Value) : Exit → AS → Prop
  | .normal, s | .ret, s => ARes P rs s r
  | _, _ => False
theorem FFn.of_body {P : Program} {f : FuncId} {fn : Func} {c : Code} {args : List Value} {n : Nat} {rs : List ResultVar} {T : List (Nat × Value)} {r : Value} (hf : P.funcs[f]? = some fn) (hb : fn.body = some c) (hn : fn.ntmps = n) (hl : Nat.ble args.length n = true) (hrs : fn.results.toList = rs) (hT : argsT 0 args = T)
    (hp : pureV r = true) (h : AWp P c (FinV P rs r) ⟨n, 0, T, [], ⟨0, []⟩⟩) : FFn P f args r := by
  subst hn; subst hT; subst hrs
  refine AFn.of_body hf hb (by rw [Nat.ble_eq] at hl; exact hl) (awp_mono h fun e s q => ?_)
  cases e with
  | normal => exact ⟨r, q, pure_okv hp, rfl⟩
  | ret => exact ⟨r, q, pure_okv hp, rfl⟩
  | _ => exact q.elim

/-- The end of a function that is handed one block. -/
def Fin1 (P : Program) (rs : List ResultVar) (r : Value) (b : Blk) : Exit → AS → Prop
  | .normal, s | .ret, s => ARes P rs s r ∧ s.heap.get 0 = some b
  | _, _ => False
/-- A function that is handed a block, which it may write: as its number 0. -/
def F1n (P : Program) (f : FuncId) (args : List Value) (b : Blk) (r : Value) (b' : Blk) : Prop := AFn P f args ⟨1, [(0, b)]⟩ fun v H' => v = r ∧ H'.get 0 = some b'
theorem F1n.of_body {P : Program} {f : FuncId} {fn : Func} {c : Code} {args : List Value} {n : Nat} {rs : List ResultVar} {T : List (Nat × Value)} {r : Value} {b b' : Blk} (hf : P.funcs[f]? = some fn) (hb : fn.body = some c) (hn : fn.ntmps = n) (hl : Nat.ble args.length n = true) (hrs : fn.results.toList = rs) (hT : argsT 0 args = T)
    (hp : pureV r = true) (h : AWp P c (Fin1 P rs r b') ⟨n, 1, T, [], ⟨1, [(0, b)]⟩⟩) : F1n P f args b r b' := by
  subst hn; subst hT; subst hrs
  refine AFn.of_body hf hb (by rw [Nat.ble_eq] at hl; exact hl) (awp_mono h fun e s q => ?_)
  cases e with
  | normal => exact ⟨r, q.1, pure_okv hp, rfl, q.2⟩
  | ret => exact ⟨r, q.1, pure_okv hp, rfl, q.2⟩
  | _ => exact q.elim

end Go.Fhl
