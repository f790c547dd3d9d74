/-
  What a sector holds: what the program's package block and the document's answer come to; their laws.
-/
import Derived.Test.YtjpgcfniahaelaaLd
import Derived.Test.YtjpgcfniahaelaaL2
import Derived.Test.YtjpgcfniahaelaaL3t
set_option maxRecDepth 20000
namespace Go.Proofs
open Go Go.Fhl
set_option linter.unusedVariables false
set_option linter.unusedSimpArgs false
def okB (x : G_api_Block) : Bool := decide (1 ≤ x.Kind ∧ x.Kind ≤ 6 ∧ 1 ≤ x.Birth ∧ x.Birth ≤ 1073741824 ∧ x.Load.length ≤ 249)
def headB (x : G_api_Block) : Str := put3 x.Kind x.Birth (x.Load.length : Int)
def bytesB (x : G_api_Block) : Str := headB x ++ (x.Load ++ zeros (249 - x.Load.length))
def putB (x : G_api_Block) : Str := if okB x = true then bytesB x else []
theorem headB_length (x : G_api_Block) : (headB x).length = 7 := put3_length _ _ _
theorem okB_iff {x : G_api_Block} : okB x = true ↔ 1 ≤ x.Kind ∧ x.Kind ≤ 6 ∧ 1 ≤ x.Birth ∧ x.Birth ≤ 1073741824 ∧ x.Load.length ≤ 249 := decide_eq_true_iff
theorem bytesB_length {x : G_api_Block} (h : okB x = true) : (bytesB x).length = 256 := by
  have := (okB_iff.1 h).2.2.2.2
  unfold bytesB; rw [List.length_append, List.length_append, headB_length, zeros_length]; omega
theorem putB_length (x : G_api_Block) : (putB x).length ≤ 256 := by
  unfold putB
  split
  · rename_i h; rw [bytesB_length h]; omega
  · simp
theorem bmay_eq (x : G_api_Block) : M_block_sector_may ⟨x⟩ = some (okB x) := by
  unfold M_block_sector_may okB
  congr 1
  rw [Bool.eq_iff_iff]
  simp only [Bool.and_eq_true, decide_eq_true_eq]
  omega
theorem rbmay_eq (x : G_api_Block) : M_ref1_MayBlock x = some (okB x) := by
  unfold M_ref1_MayBlock okB M_ref1_num
  rw [gd_some, bind_some']
  congr 1
  rw [Bool.eq_iff_iff]
  simp only [Bool.and_eq_true, decide_eq_true_eq, beq_iff_eq]
  by_cases q : (x.Kind ≥ 1 ∧ x.Kind ≤ 6) ∧ x.Birth ≥ 1
  · rw [if_pos q]
    simp only [Bool.and_eq_true, decide_eq_true_eq]
    omega
  · constructor
    · intro h; exact absurd h.1.1 q
    · intro h; exact absurd ⟨⟨h.1, h.2.1⟩, h.2.2.1⟩ q
theorem fill_eq (x : G_api_Block) (h : okB x = true) : (256 : Int) - ((headB x ++ x.Load).length : Int) = ((249 - x.Load.length : Nat) : Int) := by
  have := (okB_iff.1 h).2.2.2.2
  rw [List.length_append, headB_length]; omega
theorem bbytes_eq (x : G_api_Block) : M_block_sector_bytes ⟨x⟩ = some (putB x) := by
  unfold M_block_sector_bytes putB
  rw [bmay_eq, bind_some']
  cases h : okB x with
  | false => rfl
  | true =>
    have hl := (okB_iff.1 h).2.2.2.2
    have hh := headB_length x
    have hf := fill_eq x h
    rw [Bool.not_true, cond_false, pput3, bind_some']
    change (addS (headB x) x.Load).bind _ = _
    have hw : w64 (256 - ((headB x ++ x.Load).length : Int)) = ((249 - x.Load.length : Nat) : Int) := by rw [hf, w64_id (by omega) (by omega)]
    rw [addS_eq (by omega), bind_some', hw, rep_eq (by omega), bind_some', addS_eq (by rw [zeros_length, List.length_append]; omega), bind_some', List.append_assoc]
    rfl
theorem bput_eq (x : G_api_Block) : M_block_Put x = some (putB x) := by
  unfold M_block_Put; rw [bbytes_eq, bind_some']
theorem bmay_eq' (x : G_api_Block) : M_block_May x = some (okB x) := by
  unfold M_block_May; rw [bmay_eq, bind_some']
theorem rbput_eq (x : G_api_Block) : M_ref1_PutBlock x = some (putB x) := by
  unfold M_ref1_PutBlock putB
  rw [rbmay_eq, bind_some']
  cases h : okB x with
  | false => rfl
  | true =>
    have hl := (okB_iff.1 h).2.2.2.2
    have hh := headB_length x
    have hf := fill_eq x h
    rw [Bool.not_true, cond_false, rput3, bind_some']
    change (addS (headB x) x.Load).bind _ = _
    have hw : w64 (256 - ((headB x ++ x.Load).length : Int)) = ((249 - x.Load.length : Nat) : Int) := by rw [hf, w64_id (by omega) (by omega)]
    rw [addS_eq (by omega), bind_some', hw, noughts_eq (by omega), bind_some', addS_eq (by rw [zeros_length, List.length_append]; omega), bind_some', List.append_assoc]
    rfl
/-! ## Take -/
def loadLen (s : Str) : Nat := (val ((s.drop 5).take 2)).toNat
def blockOf (s : Str) : G_api_Block := ⟨val (s.take 1), val ((s.drop 1).take 4), (s.drop 7).take (loadLen s)⟩
def takeB (s : Str) : Option G_api_Block := if 7 ≤ s.length ∧ loadLen s ≤ (s.drop 7).length ∧ okB (blockOf s) = true ∧ bytesB (blockOf s) = s then some (blockOf s) else none
def bans (o : Option G_api_Block) : G_api_Block × Bool := match o with | none => (⟨0, 0, []⟩, false) | some x => (x, true)
theorem bvals (s : Str) : vals [1, 4, 2] s = [val (s.take 1), val ((s.drop 1).take 4), val ((s.drop 5).take 2)] := by
  simp [vals, List.drop_drop]
theorem loadLen_eq (s : Str) : val ((s.drop 5).take 2) = (loadLen s : Int) := by
  unfold loadLen; rw [Int.toNat_of_nonneg (val_nonneg _)]
theorem bget (a b c : Int) : getI [a, b, c] 0 = some a ∧ getI [a, b, c] 1 = some b ∧ getI [a, b, c] 2 = some c := ⟨rfl, rfl, rfl⟩
theorem takeB_short {s : Str} (h : s.length < 7) : takeB s = none := if_neg fun q => by omega
theorem takeB_long {s : Str} (h : ¬ loadLen s ≤ (s.drop 7).length) : takeB s = none := if_neg fun q => h q.2.1
theorem btaken_eq (s : Str) : M_block_taken s = some ⟨⟨(bans (takeB s)).1⟩, (bans (takeB s)).2⟩ := by
  unfold M_block_taken
  rw [ptake3, bind_some']
  by_cases h1 : s.length < 7
  · rw [if_pos h1, takeB_short h1]; rfl
  · rw [if_neg h1]
    obtain ⟨g1, g2, g3⟩ := bget (val (s.take 1)) (val ((s.drop 1).take 4)) (loadLen s : Int)
    rw [bvals, loadLen_eq]
    simp only [Bool.not_true, show ((false : Bool) == false) = true from rfl, gd_true, g1, g2, g3, bind_some', Bool.false_or]
    by_cases h2 : loadLen s ≤ (s.drop 7).length
    · rw [decide_eq_false (by omega), cond_false, slL_to h2, bind_some']
      change Option.bind (M_block_sector_may ⟨blockOf s⟩) _ = _
      rw [bmay_eq, bind_some']
      change Option.bind (gd _ (M_block_sector_bytes ⟨blockOf s⟩)) _ = _
      rw [bbytes_eq, gd_some, bind_some']
      unfold takeB
      cases h3 : okB (blockOf s) with
      | false =>
        simp only [Bool.not_false, Bool.true_or, cond_true]
        rw [if_neg (c := _ ∧ _) (fun q => by cases q.2.2.1)]
        rfl
      | true =>
        simp only [Bool.not_true, show ((false : Bool) == false) = true from rfl, if_true, Bool.false_or]
        unfold putB
        rw [h3, if_pos rfl]
        by_cases h4 : bytesB (blockOf s) = s
        · rw [h4, bne_self_eq_false, cond_false, if_pos ⟨by omega, h2, by trivial, by trivial⟩]; rfl
        · rw [(bne_iff_ne).2 h4, cond_true, if_neg (fun q => h4 q.2.2.2)]; rfl
    · rw [decide_eq_true (by omega), cond_true, takeB_long h2]; rfl
theorem btake_eq (s : Str) : M_block_Take s = some (bans (takeB s)) := by
  unfold M_block_Take; rw [btaken_eq, bind_some']
theorem rbtake_eq (s : Str) : M_ref1_TakeBlock s = some (bans (takeB s)) := by
  unfold M_ref1_TakeBlock
  rw [rtake3, bind_some']
  by_cases h1 : s.length < 7
  · rw [if_pos h1, takeB_short h1]; rfl
  · rw [if_neg h1]
    obtain ⟨g1, g2, g3⟩ := bget (val (s.take 1)) (val ((s.drop 1).take 4)) (loadLen s : Int)
    rw [bvals, loadLen_eq]
    simp only [Bool.not_true, show ((false : Bool) == false) = true from rfl, gd_true, g1, g2, g3, bind_some', Bool.false_or]
    by_cases h2 : loadLen s ≤ (s.drop 7).length
    · rw [decide_eq_false (by omega), cond_false, slL_to h2, bind_some']
      change Option.bind (gd _ (M_ref1_PutBlock (blockOf s))) _ = _
      rw [rbput_eq, gd_some, bind_some']
      unfold takeB
      by_cases h5 : s.length = 256
      · have h5b : ((s.length : Int) != 256) = false := by rw [h5]; rfl
        rw [h5b]
        simp only [show ((false : Bool) == false) = true from rfl, if_true, Bool.false_or]
        unfold putB
        cases h3 : okB (blockOf s) with
        | false =>
          have : (([] : Str) != s) = true := by rw [bne_iff_ne]; intro e; rw [← e] at h1; simp at h1
          rw [if_neg (by decide), this, cond_true, if_neg (c := _ ∧ _) (fun q => by cases q.2.2.1)]
          rfl
        | true =>
          rw [if_pos rfl]
          by_cases h4 : bytesB (blockOf s) = s
          · rw [h4, bne_self_eq_false, cond_false, if_pos ⟨by omega, h2, by trivial, by trivial⟩]; rfl
          · rw [(bne_iff_ne).2 h4, cond_true, if_neg (fun q => h4 q.2.2.2)]; rfl
      · have h5b : ((s.length : Int) != 256) = true := by rw [bne_iff_ne]; omega
        rw [h5b]
        simp only [Bool.true_or, cond_true]
        rw [if_neg (c := _ ∧ _) (fun q => h5 (by have := bytesB_length q.2.2.1; rw [q.2.2.2] at this; exact this))]
        rfl
    · rw [decide_eq_true (by omega), cond_true, takeB_long h2]; rfl
theorem takeB_some {s : Str} {x : G_api_Block} (h : takeB s = some x) : okB x = true ∧ bytesB x = s := by
  unfold takeB at h
  split at h
  · rename_i q; cases h; exact ⟨q.2.2.1, q.2.2.2⟩
  · cases h
theorem bcut3 (a b c r : Str) (ha : a.length = 1) (hb : b.length = 4) (hc : c.length = 2) :
    let s := (a ++ (b ++ c)) ++ r
    s.take 1 = a ∧ (s.drop 1).take 4 = b ∧ (s.drop 5).take 2 = c ∧ s.drop 7 = r := by
  match a, ha with
  | [a0], _ =>
  match b, hb with
  | [b0, b1, b2, b3], _ =>
  match c, hc with
  | [c0, c1], _ => exact ⟨rfl, rfl, rfl, rfl⟩
theorem b256_1 : (256 : Int) ^ 1 = 256 := by decide
theorem b256_2 : (256 : Int) ^ 2 = 65536 := by decide
theorem b256_4 : (256 : Int) ^ 4 = 4294967296 := by decide
theorem takeB_bytes {x : G_api_Block} (h : okB x = true) : takeB (bytesB x) = some x := by
  obtain ⟨h1, h2, h3, h4, h5⟩ := okB_iff.1 h
  obtain ⟨a1, a2, a3, a4⟩ := bcut3 (be 1 x.Kind) (be 4 x.Birth) (be 2 (x.Load.length : Int)) (x.Load ++ zeros (249 - x.Load.length)) (be_length _ _) (be_length _ _) (be_length _ _)
  change (bytesB x).take 1 = _ at a1
  change ((bytesB x).drop 1).take 4 = _ at a2
  change ((bytesB x).drop 5).take 2 = _ at a3
  change (bytesB x).drop 7 = _ at a4
  have hn : loadLen (bytesB x) = x.Load.length := by
    unfold loadLen; rw [a3, val_be_id (by omega) (by rw [b256_2]; omega), Int.toNat_natCast]
  have hb : blockOf (bytesB x) = x := by
    unfold blockOf
    rw [a1, a2, a4, hn, val_be_id (by omega) (by rw [b256_1]; omega), val_be_id (by omega) (by rw [b256_4]; omega), List.take_left]
  unfold takeB
  rw [hb, hn, a4, if_pos ⟨by rw [bytesB_length h]; omega, by simp, h, rfl⟩]
theorem bytesB_inj {x y : G_api_Block} (hx : okB x = true) (hy : okB y = true) : bytesB x = bytesB y ↔ x = y := by
  constructor
  · intro e
    have a := takeB_bytes hx
    have b := takeB_bytes hy
    rw [e, b] at a; cases a; rfl
  · intro e; rw [e]
theorem takeB_zeros : takeB (zeros 256) = none := by kernel_rfl
/-! ## Read -/
theorem bptr_eq (a : Int) (x : G_api_Block) : M_block_Ptr a x = some ⟨a, x.Birth, sumOf (putB x)⟩ := by
  unfold M_block_Ptr
  have := putB_length x
  rw [bput_eq, bind_some', to_eq _ _ _ (by omega), bind_some']
theorem rbptr_eq (a : Int) (x : G_api_Block) : M_ref1_BlockPtr a x = some ⟨a, x.Birth, sumOf (putB x)⟩ := by
  unfold M_ref1_BlockPtr
  have := putB_length x
  rw [rbput_eq, bind_some', rto_eq _ _ _ (by omega), bind_some']
def readS (s : Str) (p : G_api_Ptr) (k : Int) : Str × Bool :=
  match takeB s with
  | some x => if p.Sum = sumOf s ∧ x.Birth = p.Birth ∧ x.Kind = k then (x.Load, true) else ([], false)
  | none => ([], false)
def readB (d : G_api_Dev) (p : G_api_Ptr) (k : Int) : Str × Bool :=
  if p.Addr < 14 ∨ (devRead d p.Addr).2 = false then ([], false) else readS (devRead d p.Addr).1 p k
theorem bread_eq {d : G_api_Dev} (h : DevOk d) (p : G_api_Ptr) (k : Int) : M_block_Read d p k = some (readB d p k) := by
  unfold M_block_Read readB
  by_cases h1 : p.Addr < 14
  · rw [decide_eq_true h1, cond_true, if_pos (.inl h1)]
  · rw [decide_eq_false h1, cond_false, dread_eq d _ (by have := h.wl; omega), bind_some', btaken_eq, bind_some']
    have hl := devRead_len h p.Addr
    revert hl
    generalize devRead d p.Addr = x
    obtain ⟨s, ok⟩ := x
    intro hl
    simp only at hl ⊢
    cases ok with
    | false => rw [if_pos (.inr rfl)]; rfl
    | true =>
      rw [if_neg (by rintro (q | q); exact h1 q; cases q)]
      simp only [show ((true : Bool) == true) = true from rfl, gd_true, Bool.true_and]
      unfold M_block_read_is readS
      cases ht : takeB s with
      | none => rfl
      | some x =>
        obtain ⟨o1, o2⟩ := takeB_some ht
        simp only [bans, show ((true : Bool) == true) = true from rfl, gd_true, bbytes_eq, bind_some', Bool.true_and]
        have hp : putB x = s := by unfold putB; rw [if_pos o1, o2]
        rw [hp, fits_eq _ _ (by omega), bind_some', bind_some']
        by_cases q : p.Sum = sumOf s ∧ x.Birth = p.Birth ∧ x.Kind = k
        · rw [if_pos q, decide_eq_true q.1, q.2.1, q.2.2]; simp
        · rw [if_neg q]
          have : ((decide (p.Sum = sumOf s) && x.Birth == p.Birth) && x.Kind == k) = false := by
            rw [Bool.eq_false_iff]; intro e
            simp only [Bool.and_eq_true, decide_eq_true_eq, beq_iff_eq] at e
            exact q ⟨e.1.1, e.1.2, e.2⟩
          rw [this, cond_false]
theorem rbread_eq {d : G_api_Dev} (h : DevOk d) (p : G_api_Ptr) (k : Int) : M_ref1_ReadBlock d p k = some (readB d p k) := by
  unfold M_ref1_ReadBlock readB
  rw [rread_eq d _ (by have := h.wl; omega), bind_some']
  have hl := devRead_len h p.Addr
  revert hl
  generalize devRead d p.Addr = x
  obtain ⟨s, ok⟩ := x
  intro hl
  simp only at hl ⊢
  cases ok with
  | false => rw [if_pos (.inr rfl)]; rfl
  | true =>
    by_cases h1 : p.Addr < 14
    · rw [decide_eq_true h1, if_pos (.inl h1)]; rfl
    · rw [decide_eq_false h1, if_neg (by rintro (q | q); exact h1 q; cases q)]
      simp only [Bool.not_true, Bool.or_self, show ((false : Bool) == false) = true from rfl, gd_true, Bool.false_or]
      rw [rsum1_eq s (by omega), bind_some']
      unfold readS
      by_cases q1 : sumOf s = p.Sum
      · rw [decide_eq_true q1, Bool.not_true, cond_false, rbtake_eq, bind_some']
        cases ht : takeB s with
        | none => rfl
        | some x =>
          simp only [bans, Bool.not_true, Bool.false_or]
          by_cases q2 : x.Birth = p.Birth ∧ x.Kind = k
          · rw [if_pos ⟨q1.symm, q2⟩, q2.1, q2.2]; simp
          · rw [if_neg (fun q => q2 q.2)]
            have : ((x.Birth != p.Birth) || (x.Kind != k)) = true := by
              rw [Bool.or_eq_true, bne_iff_ne, bne_iff_ne]
              by_cases a : x.Birth = p.Birth
              · exact .inr fun b => q2 ⟨a, b⟩
              · exact .inl a
            rw [this, cond_true]
      · rw [decide_eq_false q1, Bool.not_false, cond_true]
        cases ht : takeB s with
        | none => rfl
        | some x => simp only; rw [if_neg (fun q => q1 q.1.symm)]
end Go.Proofs
