/-
  The abstract heap logic, part nine: append, and the ways between bytes and strings.
-/
import Derived.Test.YtmafhfnalekgnaaAhlH
import Derived.Laws.BytesArg
namespace Go.Ahl
set_option linter.unusedVariables false

section
variable {hm : HM} {lb : LM} {w0 : World} {U : Env} {st : AS} {w : World} {a : Act} {P : Program}

def room (need b : Nat) : Prop := (2 * need + 192) * b ≤ 281474976710656
instance (need b : Nat) : Decidable (room need b) := by unfold room; infer_instance

def fresh (st : AS) (s : Nat) (cells : List Value) (need : Nat) : Value × AS :=
  (.slice (some ⟨st.heap.next, 0, some 1⟩) need need, (st.setHeap (st.heap.alloc ⟨s, cells, true⟩)))

def aappend (P : Program) (st : AS) (sT xT : TypeId) (sv x : Value) : Option (Value × AS) :=
  match und P sT with
  | some (.slice e) =>
    match sz P e, bt P e, zr P e with
    | some s, some b, some z =>
      if 1 ≤ b ∧ 1 ≤ s ∧ z.cells.size = s then
        match srcCells P st e s xT x with
        | none => none
        | some (new, n) =>
          match sv with
          | .slice none len cap =>
            if len = 0 ∧ cap = 0 then
              if n = 0 then some (.slice none 0 0, st) else if room n b then some (fresh st s new n) else none
            else none
          | .slice (some p) len cap =>
            match st.heap.get p.block with
            | none => none
            | some blk =>
              if blk.esz = s ∧ p.off + len * s ≤ blk.cells.length then
                if len + n ≤ cap then
                  if n = 0 then some (.slice (some p) len cap, st)
                  else if blk.wr = true ∧ p.off + (len + n) * s ≤ blk.cells.length then
                    some (.slice (some p) (len + n) cap, (st.setHeap (st.heap.set p.block { blk with cells := spl blk.cells (p.off + len * s) new })))
                  else none
                else if room (len + n) b then
                  if p.spot.isNone then some (fresh st s ((blk.cells.drop p.off).take (len * s) ++ new) (len + n))
                  else if blk.wr = true ∧ p.off = 0 ∧ len * s = blk.cells.length then
                    some (fresh (st.setHeap (st.heap.kill p.block)) s (blk.cells ++ new) (len + n))
                  else none
                else none
              else none
          | _ => none
      else none
    | _, _, _ => none
  | _ => none

theorem zeroCells_size {z : Array Value} {n : Nat} : (Builtin.zeroCells z n).size = n * z.size := by simp [Builtin.zeroCells]

/-- The growing end of append: a new row, of what was there and what is appended. -/
theorem grow_ok (r : Rel hm lb w0 U st w a) {e : TypeId} {s n len k newCap : Nat} {old new : List Value} {cold cnew rest : Array Value} {z : Value} (hz : z.cells.size = s)
    (ho : L2 (SR hm []) old cold.toList) (hn : L2 (SR hm []) new cnew.toList) (hol : old.length = len * s) (hnl : new.length = n * s) (hc : len + n ≤ newCap)
    (hr : rest = Builtin.zeroCells z.cells (newCap - (len + n))) :
    ∃ hm' cv, cv = Value.slice (some ⟨w.heap.size, 0, none⟩) (len + n) newCap ∧ hm.le hm' ∧
      Rel hm' lb w0 U (fresh st s (old ++ new) (len + n)).2 (World.alloc { w with drawn := k } (.cells (cold ++ cnew ++ rest) e)) a ∧ VR hm' lb (fresh st s (old ++ new) (len + n)).1 cv := by
  have hcells := ho.append hn
  have hC : (cold ++ cnew ++ rest).size = newCap * s := by
    have h1 := ho.1
    have h2 := hn.1
    simp at h1 h2
    simp [hr, zeroCells_size, hz]
    have : newCap * s = (len + n) * s + (newCap - (len + n)) * s := by rw [← Nat.add_mul]; congr 1; omega
    rw [this, Nat.add_mul]; omega
  refine ⟨_, _, rfl, HM.put_le (r.fresh _ (Nat.le_refl _)), (r.drawn k).newBlk (cold ++ cnew ++ rest) e (0, 0) (Free.zero _) ⟨s, old ++ new, true⟩ rfl ?_ ?_, ?_⟩
  · rw [hC]; simp [hol, hnl, ← Nat.add_mul]; exact Nat.mul_le_mul_right s hc
  · intro i v hi
    obtain ⟨v', h1, h2⟩ := hcells.get hi
    refine ⟨v', ?_, h2⟩
    have hlt : i < (cold ++ cnew).size := by have := lookup_lt h1; simpa using this
    rw [Array.getElem?_append_left hlt, ← Array.getElem?_toList, Array.toList_append]
    exact h1
  · refine .of_sr rfl ⟨_, 0, newCap, put_same, rfl, hc, fun _ => rfl, ?_, hc, fun q => by cases q⟩
    simp only [Nat.zero_add, hC]; exact Nat.le_refl _

theorem aappend_ok (r : Rel hm lb w0 U st w a) {sT xT T : TypeId} {sv x csv cx v : Value} {st' : AS} (h : aappend P st sT xT sv x = some (v, st')) (hs : VR hm lb sv csv) (hx : VR hm lb x cx) :
    ∃ hm' w' cv, (Builtin.append_ #[sT, xT] T #[csv, cx]).run P w = .ok cv w' ∧ hm.le hm' ∧ Rel hm' lb w0 U st' w' a ∧ VR hm' lb v cv := by
  unfold aappend at h
  split at h
  · rename_i e hu
    split at h
    · rename_i s b z hsz hb hz
      split at h
      · rename_i hc
        obtain ⟨c1, c2, c3⟩ := hc
        cases hsrc : srcCells P st e s xT x with
        | none => simp [hsrc] at h
        | some q =>
          obtain ⟨new, n⟩ := q
          simp only [hsrc] at h
          obtain ⟨zeros, cnew, hpre, hnew, hrel, hnl⟩ := srcCells_ok (T := T) r hsrc hx hsz hu
          have hnew0 := hnew w.drawn
          split at h
          · -- nil
            rename_i len cap
            obtain rfl : csv = _ := hs.sr rfl
            split at h
            · rename_i hz0
              obtain ⟨rfl, rfl⟩ := hz0
              split at h
              · rename_i hn0
                subst hn0
                cases h
                refine ⟨hm, w, .slice none 0 0, ?_, HM.le_refl _, r, .of_sr rfl rfl⟩
                rw [hpre, run_appCore_fit (cnew := cnew) (by omega) hnew0]
                simp
              · rename_i hn0
                split at h
                · rename_i hroom
                  cases h
                  obtain ⟨newCap, rest, k, g1, g2, g3⟩ := run_appCore_grow (P := P) (w := w) (e := e) (s := s) (n := n) (sLen := 0) (sCap := 0) (bytes := b) (zeros := zeros) (base := none) (cx := cx) (z := z) (cnew := cnew) (old := #[])
                    (by omega) hb c1 (by simpa [room] using hroom) hz hnew (fun k => by simp [Builtin.firstCells])
                  have hw := grow_ok (k := k) (e := e) r (len := 0) (old := []) (cold := #[]) c3 .nil hrel (by simp) hnl g1 g2
                  obtain ⟨hm', cv, e1, e2, e3, e4⟩ := hw
                  have e5 : (#[] : Array Value) ++ cnew = cnew := by simp
                  rw [e5] at g3 e3
                  rw [List.nil_append, Nat.zero_add] at e3 e4
                  rw [Nat.zero_add] at g3 e1
                  exact ⟨hm', _, cv, by rw [hpre, g3, e1], e2, e3, e4⟩
                · cases h
            · cases h
          · -- a slice
            rename_i p len cap
            obtain ⟨j, o, cap', h1, rfl, h3, h4, h5, h6, h7⟩ := hs.sr rfl
            cases hblk : st.heap.get p.block with
            | none => simp [hblk] at h
            | some blk =>
              simp only [hblk] at h
              obtain ⟨i0, C, e0, fz, g1, g2, g3, g4, g5, g6, g7⟩ := r.blk _ blk hblk
              rw [h1] at g1; cases g1
              split at h
              · rename_i hcond
                obtain ⟨d1, d2⟩ := hcond
                have hes : j.esz = s := by omega
                rw [hes] at h5
                have hoff : 0 < len → o = j.base + p.off := fun q => h4 (by omega)
                have hold : ∀ k, (Builtin.firstCells s len (.slice (some ⟨j.blk, o, none⟩) len cap')).run P { w with drawn := k } = .ok (C.extract o (o + len * s)) { w with drawn := k } := by
                  intro k
                  simp only [Builtin.firstCells]
                  refine run_loadCells' P _ j.blk o C e0 fz (len * s) g2 ?_
                  have : len * s ≤ cap' * s := Nat.mul_le_mul_right s h3
                  omega
                have holdrel : L2 (SR hm []) ((blk.cells.drop p.off).take (len * s)) (C.extract o (o + len * s)).toList := by
                  rcases Nat.eq_zero_or_pos len with q | q
                  · subst q
                    refine ⟨by simp, fun i x y hx hy => by simp at hx⟩
                  · rw [hoff q]
                    exact slice_rel g6 p.off (len * s) d2 (by omega)
                split at h
                · -- there is room
                  rename_i hfit
                  split at h
                  · rename_i hn0
                    subst hn0
                    cases h
                    refine ⟨hm, w, .slice (some ⟨j.blk, o, none⟩) len cap', ?_, HM.le_refl _, r, .of_sr rfl ⟨j, o, cap', h1, rfl, h3, h4, by rw [hes]; exact h5, h6, h7⟩⟩
                    have hcn : cnew.toList = [] := by
                      have h8 : new.length = 0 := by rw [hnl]; simp
                      have h9 := hrel.1
                      exact List.eq_nil_of_length_eq_zero (by omega)
                    rw [hpre, run_appCore_fit (cnew := cnew) (by omega) hnew0]
                    simp [hcn, storeCells]
                  · rename_i hn0
                    split at h
                    · rename_i hw
                      cases h
                      obtain ⟨hbase, hfree, hU⟩ := g7.1 hw.1
                      have ho : o = p.off := by have := h4 (by omega); omega
                      subst ho
                      have hcl := hrel.1
                      have hms : (len + n) * s = len * s + n * s := Nat.add_mul _ _ _
                      have hrun := run_storeCells P j.blk (p.off + len * s) e0 fz cnew.toList 0 w C g2 (by omega) (fun k k1 k2 => hfree k (by omega)) (all_one hrel)
                      have hspl : p.off + len * s + new.length ≤ blk.cells.length := by omega
                      refine ⟨hm, _, .slice (some ⟨j.blk, p.off, none⟩) (len + n) cap', ?_, HM.le_refl _,
                        r.storeBlk hblk h1 hw.1 g2 (arr_spl_size C (p.off + len * s) cnew.toList (by omega)) rfl (by simp only [spl_length hspl]; omega) ?_ rfl,
                        .of_sr rfl ⟨j, p.off, cap', h1, rfl, by omega, fun _ => by omega, by rw [hes]; exact h5, h6, h7⟩⟩
                      · rw [hpre, run_appCore_fit (cnew := cnew) (by omega) hnew0]
                        simp only [add_none, Sem.run_bind, hrun, Result.andThen_ok, Sem.run_pure, Nat.add_zero]
                      · intro k v hk
                        have := spl_rel (R := SR hm []) (off := p.off + len * s) g6 hrel hspl (by omega) k v hk
                        rw [hbase] at this
                        simpa using this
                    · cases h
                · rename_i hfit
                  split at h
                  · rename_i hroom
                    split at h
                    · -- a fixed cap: a new row
                      rename_i hsp
                      cases h
                      have hcap := h7 (by simpa using hsp)
                      obtain ⟨newCap, rest, k, q1, q2, q3⟩ := run_appCore_grow (P := P) (w := w) (e := e) (s := s) (n := n) (sLen := len) (sCap := cap') (bytes := b) (zeros := zeros) (base := some ⟨j.blk, o, none⟩) (cx := cx) (z := z) (cnew := cnew)
                        (by omega) hb c1 hroom hz hnew hold
                      obtain ⟨hm', cv, e1, e2, e3, e4⟩ := grow_ok (k := k) (e := e) r c3 holdrel hrel (by simp; omega) hnl q1 q2
                      exact ⟨hm', _, cv, by rw [hpre, q3, e1], e2, e3, e4⟩
                    · split at h
                      · -- it may grow where it is
                        rename_i hsp hw
                        obtain ⟨w1, w2, w3⟩ := hw
                        cases h
                        obtain ⟨hbase, hfree, hU⟩ := g7.1 w1
                        have hcl := hrel.1
                        have hms : (len + n) * s = len * s + n * s := Nat.add_mul _ _ _
                        rcases Nat.lt_or_ge cap' (len + n) with hq | hq
                        · obtain ⟨newCap, rest, k, q1, q2, q3⟩ := run_appCore_grow (P := P) (w := w) (e := e) (s := s) (n := n) (sLen := len) (sCap := cap') (bytes := b) (zeros := zeros) (base := some ⟨j.blk, o, none⟩) (cx := cx) (z := z) (cnew := cnew)
                            hq hb c1 hroom hz hnew hold
                          have hall : (blk.cells.drop p.off).take (len * s) = blk.cells := by rw [w2, List.drop_zero, w3, List.take_length]
                          rw [hall] at holdrel
                          obtain ⟨hm', cv, e1, e2, e3, e4⟩ := grow_ok (k := k) (e := e) (r.kill p.block) c3 holdrel hrel w3.symm hnl q1 q2
                          exact ⟨hm', _, cv, by rw [hpre, q3, e1], e2, e3, e4⟩
                        · have ho : o = 0 := by have := h4 (by omega); omega
                          subst ho
                          have hcs : cap' * s ≤ j.size := by omega
                          have hns : (len + n) * s ≤ cap' * s := Nat.mul_le_mul_right s hq
                          have hrun := run_storeCells P j.blk (0 + len * s) e0 fz cnew.toList 0 w C g2 (by omega) (fun k k1 k2 => hfree k (by omega)) (all_one hrel)
                          refine ⟨_, _, .slice (some ⟨j.blk, 0, none⟩) (len + n) cap', ?_, HM.put_le (r.fresh _ (Nat.le_refl _)),
                            r.rename (b' := ⟨s, blk.cells ++ new, true⟩) rfl hblk h1 w1 g2 (arr_spl_size C (0 + len * s) cnew.toList (by omega)) d1.symm (by simp; omega) ?_,
                            .of_sr rfl ⟨j, 0, cap', put_same, rfl, by omega, fun _ => by simp only; omega, by rw [hes]; exact h5, by omega, fun q => by cases q⟩⟩
                          · rw [hpre, run_appCore_fit (cnew := cnew) (by omega) hnew0]
                            simp only [add_none, Sem.run_bind, hrun, Result.andThen_ok, Sem.run_pure, Nat.add_zero]
                          · intro k v hk
                            simp only at hk
                            rw [arr_spl_get C (0 + len * s) cnew.toList (by omega)]
                            by_cases u : k < blk.cells.length
                            · rw [List.getElem?_append_left u] at hk
                              rw [if_pos (by omega)]
                              have := g6 k v hk
                              rw [hbase] at this
                              simpa using this
                            · rw [List.getElem?_append_right (by omega)] at hk
                              have hlt := lookup_lt hk
                              rw [if_neg (by omega), if_pos (by omega)]
                              obtain ⟨v', x1, x2⟩ := hrel.get hk
                              exact ⟨v', by rw [show k - (0 + len * s) = k - blk.cells.length from by omega]; exact x1, x2⟩
                      · cases h
                  · cases h
              · cases h
          · cases h
      · cases h
    · cases h
  · cases h

/-! ## Bytes and strings -/
def abytes (s : ByteArray) : List Value := s.data.toList.map fun b => .int .u8 b.toNat
def aStrBytes (st : AS) (s : ByteArray) : Value × AS :=
  (.slice (some ⟨st.heap.next, 0, some 1⟩) s.size s.size, (st.setHeap (st.heap.alloc ⟨1, abytes s, true⟩)))

theorem aStrBytes_ok (r : Rel hm lb w0 U st w a) (e : TypeId) (s : ByteArray) :
    ∃ hm' w' cv, (Conv.stringToBytes e s).run P w = .ok cv w' ∧ hm.le hm' ∧ Rel hm' lb w0 U (aStrBytes st s).2 w' a ∧ VR hm' lb (aStrBytes st s).1 cv ∧ Grows w w' := by
  have hch : ∃ newCap, s.size ≤ newCap ∧ (choose (.appendCap s.size 0 e)).run P w = .ok newCap { w with drawn := w.drawn + 1 } := by
    refine ⟨s.size + w.tape w.drawn (.appendCap s.size 0 e) % (2 ^ 63 - s.size), by omega, ?_⟩
    simp [choose, Sem.run, Question.forced, Question.cut]
  obtain ⟨newCap, h1, h2⟩ := hch
  have hsz : (s.data.map fun b => Value.int .u8 b.toNat).size = s.size := by rw [Array.size_map]; rfl
  generalize hC : (s.data.map fun b => Value.int .u8 b.toNat) ++ Array.replicate (newCap - s.size) (.int .u8 0) = C
  have hCs : C.size = newCap := by rw [← hC, Array.size_append, hsz, Array.size_replicate]; omega
  have hfr : ((World.alloc { w with drawn := w.drawn + 1 } (.cells C e)).freeze ⟨w.heap.size, C.size, none⟩ 1) = World.alloc { w with drawn := w.drawn + 1 } (.cells C e (C.size, C.size + 1)) := by
    unfold World.freeze World.alloc
    simp only [Nat.succ_ne_zero, if_false]
    congr 1
    refine Array.ext_getElem? fun k => ?_
    rw [Array.getElem?_modify]
    by_cases q : w.heap.size = k
    · subst q; simp
    · rw [if_neg q, Array.getElem?_push, Array.getElem?_push]
      have : ¬ k = w.heap.size := fun z => q z.symm
      simp [this]
  have hrun : (Conv.stringToBytes e s).run P w = .ok (.slice (some ⟨w.heap.size, 0, none⟩) s.size newCap) (World.alloc { w with drawn := w.drawn + 1 } (.cells C e (C.size, C.size + 1))) := by
    have hshape : (World.alloc { w with drawn := w.drawn + 1 } (.cells C e)).shape? w.heap.size = some (e, C.size) := by
      have := alloc_get_new { w with drawn := w.drawn + 1 } (.cells C e)
      unfold World.shape?
      have h3 : (World.alloc { w with drawn := w.drawn + 1 } (.cells C e)).heap[w.heap.size]? = some (.cells C e (0, 0)) := this
      rw [h3]
    simp only [Conv.stringToBytes, Sem.run_bind, h2, Result.andThen_ok, newRow, run_newObj, Sem.run_pure, hC, markStringish, World.alloc_eq, run_shape, hshape, run_freeze, hfr]
  refine ⟨_, _, _, hrun, HM.put_le (r.fresh _ (Nat.le_refl _)), (r.drawn _).newBlk C e (C.size, C.size + 1) (fun k k1 k2 => by omega) ⟨1, abytes s, true⟩ rfl ?_ ?_, ?_⟩
  · simp [abytes]; have : s.data.size = s.size := rfl; omega
  · intro k v hk
    refine ⟨v, ?_, ?_⟩
    · have hlt := lookup_lt hk
      simp [abytes] at hlt
      rw [← hC, Array.getElem?_append_left (by simpa using hlt)]
      simp only [abytes, List.getElem?_map, Array.getElem?_toList] at hk
      simpa using hk
    · simp only [abytes, List.getElem?_map, Option.map_eq_some_iff] at hk
      obtain ⟨b, _, rfl⟩ := hk
      exact rfl
  · refine ⟨.of_sr rfl ⟨_, 0, newCap, put_same, rfl, h1, fun _ => rfl, ?_, h1, fun q => by cases q⟩, Grows.alloc_drawn w _ _⟩
    simp [hCs]

def u8s : List Value → Option (List Int)
  | [] => some []
  | .int .u8 n :: r => (u8s r).map (n :: ·)
  | _ => none
theorem u8s_eq : ∀ {l : List Value} {ns : List Int}, u8s l = some ns → l = ns.map (Value.int .u8)
  | [], ns, h => by cases h; rfl
  | v :: l, ns, h => by
    unfold u8s at h
    split at h
    · rename_i h'; cases h'
    · rename_i n r h'
      cases h'
      cases hr : u8s l with
      | none => simp [hr] at h
      | some ms => simp [hr] at h; subst h; rw [u8s_eq hr]; rfl
    · cases h
theorem u8s_map (ns : List Int) : u8s (ns.map (Value.int .u8)) = some ns := by
  induction ns with
  | nil => rfl
  | cons n ns ih => simp [u8s, ih]

def strOf (ns : List Int) : ByteArray := ⟨(ns.map fun n => UInt8.ofNat n.toNat).toArray⟩

def aBytesStr (st : AS) : Value → Option Value
  | .slice none _ _ => some (.string ByteArray.empty)
  | .slice (some p) len _ =>
    match st.heap.get p.block with
    | some b => if b.esz = 1 ∧ p.off + len ≤ b.cells.length then (u8s ((b.cells.drop p.off).take len)).map fun ns => .string (strOf ns) else none
    | none => none
  | _ => none

theorem aBytesStr_ok (r : Rel hm lb w0 U st w a) {x cx v : Value} (h : aBytesStr st x = some v) (hx : VR hm lb x cx) : (∀ w', Grows w w' → (Conv.bytesToString cx).run P w' = .ok v w') ∧ VR hm lb v v := by
  unfold aBytesStr at h
  split at h
  · cases h
    obtain rfl : cx = _ := hx.sr rfl
    exact ⟨fun w' _ => by simp [Conv.bytesToString], .of_sr rfl rfl⟩
  · rename_i p len cap
    cases hb : st.heap.get p.block with
    | none => simp [hb] at h
    | some b =>
      simp only [hb] at h
      split at h
      · rename_i hc
        cases hn : u8s ((b.cells.drop p.off).take len) with
        | none => simp [hn] at h
        | some ns =>
          simp [hn] at h
          subst h
          obtain ⟨j, o, cap', h1, rfl, h3, h4, h5, h6, h7⟩ := hx.sr rfl
          obtain ⟨i0, C, e0, fz, g1, g2, g3, g4, g5, g6, g7⟩ := r.blk _ b hb
          rw [h1] at g1; cases g1
          refine ⟨fun w' hg' => ?_, .of_sr rfl rfl⟩
          have hes : j.esz = 1 := by omega
          rw [hes] at h5
          have hrel : L2 (SR hm []) ((b.cells.drop p.off).take len) (C.extract o (o + len)).toList := by
            rcases Nat.eq_zero_or_pos len with q | q
            · subst q
              refine ⟨by simp, fun i x y hx hy => by simp at hx⟩
            · rw [h4 (by omega)]
              exact slice_rel g6 p.off len hc.2 (by omega)
          rw [u8s_eq hn] at hrel
          have hpl : (ns.map (Value.int .u8)).all plain1 = true := by
            rw [List.all_eq_true]; intro v hv; simp only [List.mem_map] at hv; obtain ⟨_, _, rfl⟩ := hv; rfl
          have heq := hrel.plain hpl
          have hload := run_loadCells' P w' j.blk o C e0 fz len (hg' _ _ g2) (by omega)
          have : C.extract o (o + len) = (ns.map (Value.int .u8)).toArray := by
            apply Array.toList_inj.1; rw [heq]
          rw [this] at hload
          rw [run_bytesToString w' _ len cap' ns hload, foldl_push_bytes]
          have : ByteArray.empty.data = #[] := rfl
          rw [this, Array.empty_append]
          rfl
      · cases h
  · cases h

/-- Conversions that write no memory. -/
def aconv (P : Program) (st : AS) (src dst : TypeId) (x : Value) : Option Value :=
  match und P src, und P dst, x with
  | some _, some (.int k), .int _ n => some (.int k (k.wrap n))
  | some _, some .string, .string s => some (.string s)
  | some (.slice e), some .string, .slice p l c => match und P e with | some (.int .u8) => aBytesStr st (.slice p l c) | _ => none
  | _, _, _ => none

theorem aconv_ok (r : Rel hm lb w0 U st w a) {src dst : TypeId} {x cx v : Value} (h : aconv P st src dst x = some v) (hx : VR hm lb x cx) :
    ∃ cv, (∀ w', Grows w w' → (convert src dst cx).run P w' = .ok cv w') ∧ VR hm lb v cv := by
  unfold aconv at h
  split at h
  · rename_i d k k0 n hs hd
    cases h
    obtain rfl : cx = _ := hx.sr rfl
    refine ⟨_, fun w' _ => ?_, .of_sr rfl rfl⟩
    simp only [convert, Sem.run_bind, run_und hs, run_und hd, Result.andThen_ok, Conv.intToInt, Sem.run_pure]
  · rename_i d s hs hd
    cases h
    obtain rfl : cx = _ := hx.sr rfl
    refine ⟨_, fun w' _ => ?_, .of_sr rfl rfl⟩
    simp only [convert, Sem.run_bind, run_und hs, run_und hd, Result.andThen_ok, Sem.run_pure]
  · rename_i e p l c hs hd
    split at h
    · rename_i he
      obtain ⟨h1, h2⟩ := aBytesStr_ok (P := P) r h hx
      refine ⟨v, fun w' hg => ?_, h2⟩
      have hcx : ∃ p' c', cx = .slice p' l c' := by
        cases p with
        | none => exact ⟨_, _, hx.sr rfl⟩
        | some p => obtain ⟨i, o, cap', _, rfl, _⟩ := hx.sr rfl; exact ⟨_, _, rfl⟩
      obtain ⟨p', c', rfl⟩ := hcx
      rw [run_convert_bytes_string w' src dst e p' l c' hs he hd]
      exact h1 w' hg
    · cases h
  · cases h

/-- A string's bytes, in a new block. -/
def aconvW (P : Program) (st : AS) (src dst : TypeId) (x : Value) : Option (Value × AS) :=
  match und P src, und P dst, x with
  | some _, some (.slice e), .string s => match und P e with | some (.int .u8) => some (aStrBytes st s) | _ => none
  | _, _, _ => none

theorem aconvW_ok (r : Rel hm lb w0 U st w a) {src dst : TypeId} {x cx v : Value} {st' : AS} (h : aconvW P st src dst x = some (v, st')) (hx : VR hm lb x cx) :
    ∃ hm' w' cv, (convert src dst cx).run P w = .ok cv w' ∧ hm.le hm' ∧ Rel hm' lb w0 U st' w' a ∧ VR hm' lb v cv ∧ Grows w w' := by
  unfold aconvW at h
  split at h
  · rename_i d e s hs hd
    obtain rfl : cx = _ := hx.sr rfl
    split at h
    · rename_i he
      cases h
      obtain ⟨hm', w', cv, h1, h2, h3, h4, h5⟩ := aStrBytes_ok (P := P) r e s
      refine ⟨hm', w', cv, ?_, h2, h3, h4, h5⟩
      simp only [convert, Sem.run_bind, run_und hs, run_und hd, Result.andThen_ok, run_und he]
      exact h1
    · cases h
  · cases h
end

end Go.Ahl
