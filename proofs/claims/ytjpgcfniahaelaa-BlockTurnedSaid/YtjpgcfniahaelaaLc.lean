/-
  The laws of what a sector holds, of the models alone.
-/
import Derived.Test.YtjpgcfniahaelaaLb
set_option maxRecDepth 20000
namespace Go.Proofs
open Go Go.Fhl
set_option linter.unusedVariables false
set_option linter.unusedSimpArgs false
theorem begun5 : M_law5_begun = some true := by kernel_rfl
theorem law_BlockForms : M_law5_BlockForms = some true := by kernel_rfl
theorem beqd {a b : Str} {p : Prop} [Decidable p] (h : a = b ↔ p) : (a == b) = decide p := by
  by_cases q : p
  · rw [decide_eq_true q, h.2 q]; simp
  · rw [decide_eq_false q]; simp; exact fun e => q (h.1 e)
theorem made_ok (k n : UInt8) (l : Str) (hl : l.length ≤ 1000000) : ∃ x, M_law5_made k n l = some x ∧ okB x = true := by
  unfold M_law5_made
  have e1 : rem8 k 6 = some (k % 6) := rfl
  have e2 : (k % 6).toNat < 6 := by
    have : (k % 6).toNat = k.toNat % 6 := UInt8.toNat_mod ..
    omega
  have e3 : min (l.length : Int) 249 = ((min l.length 249 : Nat) : Int) := by omega
  have hn := n.toNat_lt
  rw [e1, bind_some', e3, slL_to (by omega), bind_some']
  refine ⟨_, rfl, ?_⟩
  rw [okB_iff, w64_id (by omega) (by omega), w64_id (by omega) (by omega)]
  simp only [List.length_take]
  omega
theorem putB_ok {x : G_api_Block} (h : okB x = true) : putB x = bytesB x := by unfold putB; rw [if_pos h]
theorem law_BlockBack (t0 t1 : UInt8) (t2 : Str) (t3 t4 : UInt8) (t5 : Str) : M_law5_BlockBack t0 t1 t2 t3 t4 t5 = some true := by
  unfold M_law5_BlockBack
  rw [begun5, bind_some', Bool.not_true, cond_false]
  by_cases h : (t2.length : Int) > 249 ∨ (t5.length : Int) > 249
  · have : (decide ((t2.length : Int) > 249) || decide ((t5.length : Int) > 249)) = true := by simpa using h
    rw [this, cond_true]
  · have : (decide ((t2.length : Int) > 249) || decide ((t5.length : Int) > 249)) = false := by simpa using h
    rw [this, cond_false]
    obtain ⟨x, ex, ox⟩ := made_ok t0 t1 t2 (by omega)
    obtain ⟨y, ey, oy⟩ := made_ok t3 t4 t5 (by omega)
    rw [ex, ey]
    simp only [bind_some', bput_eq, putB_ok ox, putB_ok oy, btake_eq, takeB_bytes ox, bans, bptr_eq, gd_some, bytesB_length ox, beqd (bytesB_inj ox oy), decide_true, beq_self_eq_true, Bool.and_true, Bool.true_and]
    by_cases q : x = y
    · subst q; simp [putB_ok ox]
    · simp [q]
theorem ptr_slot : (14 : Int) ≤ 20 := by decide
/-- One sector is written, into a new device. -/
theorem readB_one {n : Nat} {i : Int} {s : Str} (hi : 14 ≤ i) (hn : i < n) (hs : s.length = 256) (hm : n ≤ 268) (p : G_api_Ptr) (k : Int) (hp : p.Addr = i) :
    readB (wrU ⟨List.replicate n (zeros 256), [], 0, 0, false⟩ [⟨i, s⟩]).1 p k = readS s p k := by
  have hok : okW ⟨List.replicate n (zeros 256), [], 0, 0, false⟩ ⟨i, s⟩ = true := by unfold okW; simp; omega
  have hr : devRead (waits ⟨List.replicate n (zeros 256), [], 0, 0, false⟩ ⟨i, s⟩) i = (s, true) := by
    unfold devRead waits
    rw [if_neg (by simp; omega)]
    simp
  unfold wrU
  rw [if_pos hok]
  unfold wrU readB
  rw [hp, hr, if_neg (by rintro (q | q); omega; cases q)]
theorem readS_sum {s : Str} {p : G_api_Ptr} {k : Int} (h : p.Sum ≠ sumOf s) : readS s p k = ([], false) := by
  unfold readS
  split
  · rw [if_neg (fun q => h q.1)]
  · rfl
theorem readS_ok {x : G_api_Block} {p : G_api_Ptr} (o : okB x = true) (h1 : p.Sum = sumOf (bytesB x)) (h2 : x.Birth = p.Birth) : readS (bytesB x) p x.Kind = (x.Load, true) := by
  unfold readS
  rw [takeB_bytes o]
  simp only
  rw [if_pos (by simp [h1, h2])]
theorem law_BlockTurned (t0 t1 : UInt8) (t2 : Str) (t3 t4 : UInt8) : M_law5_BlockTurned t0 t1 t2 t3 t4 = some true := by
  unfold M_law5_BlockTurned
  rw [begun5, bind_some', Bool.not_true, cond_false]
  by_cases h : (t2.length : Int) > 249 ∨ t4 = 0
  · have : (decide ((t2.length : Int) > 249) || (t4 == 0)) = true := by simpa using h
    rw [this, cond_true]
  · have : (decide ((t2.length : Int) > 249) || (t4 == 0)) = false := by simpa using h
    rw [this, cond_false]
    have h4 : t4 ≠ 0 := fun e => h (.inr e)
    obtain ⟨x, ex, ox⟩ := made_ok t0 t1 t2 (by omega)
    have hk : t3.toNat < (bytesB x).length := by rw [bytesB_length ox]; exact t3.toNat_lt
    obtain ⟨b, hb⟩ : ∃ b, b = (bytesB x).set t3.toNat ((bytesB x)[t3.toNat] ^^^ t4) := ⟨_, rfl⟩
    have hxor : (bytesB x)[t3.toNat] ^^^ t4 ≠ (bytesB x)[t3.toNat] := by
      intro e
      apply h4
      have : (bytesB x)[t3.toNat] ^^^ ((bytesB x)[t3.toNat] ^^^ t4) = (bytesB x)[t3.toNat] ^^^ (bytesB x)[t3.toNat] := by rw [e]
      rwa [← UInt8.xor_assoc, UInt8.xor_self, UInt8.zero_xor] at this
    have hne : b ≠ bytesB x := by
      intro e
      have := congrArg (fun l : Str => l[t3.toNat]?) e
      simp only [hb, List.getElem?_set_self hk, List.getElem?_eq_getElem hk, Option.some.injEq] at this
      exact hxor this
    have hbl : b.length = 256 := by rw [hb, List.length_set, bytesB_length ox]
    have hsum : sumOf (bytesB x) ≠ sumOf b := fun e => by
      have := sum_set hk (by rw [← hb]; exact e.symm)
      exact hxor this.symm
    have hn40 : M_ref1_New 40 = some ⟨List.replicate 40 (zeros 256), [], 0, 0, false⟩ := new_eq (m := 40) (by omega)
    have hlen : (((bytesB x).length : Int) != 256) = false := by rw [bytesB_length ox]; rfl
    rw [ex]
    simp only [bind_some', bput_eq, putB_ok ox, hlen, cond_false, getI_lt hk, setI_nat hk, ← hb, btake_eq, hn40, bptr_eq]
    rw [rwrite_eq rfl rfl (by simp) (by simp), bind_some', bread_eq (wrU_ok (new_ok (by omega)) (by simp)), bind_some', readB_one (n := 40) (i := 20) (by omega) (by decide) hbl (by omega) _ _ rfl, readS_sum (by exact hsum)]
    cases ht : takeB b with
    | none => rfl
    | some y =>
      obtain ⟨o1, o2⟩ := takeB_some ht
      have hxy : ¬ y = x := fun e => hne (by rw [← e, o2])
      simp [bans, hxy, gd_some, bmay_eq', o1, bput_eq, putB_ok o1, o2]
/-! ## All -/
theorem rem6 (x : UInt8) : ∃ y, rem8 x 6 = some y := ⟨_, rfl⟩
section
variable (c1 c2 : Int → Option Bool) (t0 : G_api_Block) (t4 : Str) (t6 : UInt8) (t7 t8 : Int) (x4 : G_api_Block) (x17 : List UInt8) (x18 : Str) (v19 : Int) (x29 : G_api_Dev × Bool) (x30 x31 x32 x34 x36 : G_api_Ptr) (x37 : UInt8)
theorem ba_l3 (v38 : Int) (hd : DevOk x29.1) (p : G_api_Ptr) (hp : getI [x30, x31, x32, ⟨0, 0, ⟨0, 0, 0, 0⟩⟩, x34, x36] v38 = some p) :
    M_law5_BlockAll_l3 c1 c2 t0 t4 t6 t7 t8 x4 x17 x18 v19 x29 x30 x31 x32 x34 x36 x37 v38 fuel 0 = c2 (w64 (v38 + 1)) := by
  have step : ∀ (n j : Nat) (k : Int), j < 3 → getI [x4.Kind, t8, w64 (1 + (x37.toNat : Int))] (j : Int) = some k →
      M_law5_BlockAll_l3 c1 c2 t0 t4 t6 t7 t8 x4 x17 x18 v19 x29 x30 x31 x32 x34 x36 x37 v38 (n + 1) (j : Int) = M_law5_BlockAll_l3 c1 c2 t0 t4 t6 t7 t8 x4 x17 x18 v19 x29 x30 x31 x32 x34 x36 x37 v38 n ((j + 1 : Nat) : Int) := fun n j k hj hk => by
    rw [M_law5_BlockAll_l3, decide_eq_true (by omega), cond_true, hp, hk]
    simp only [bind_some', bread_eq hd, rbread_eq hd, bne_self_eq_false, Bool.or_self, cond_false]
    rw [w64_succ (by omega)]
  have hf : fuel = 4611686018427387900 + 1 + 1 + 1 + 1 := rfl
  have e0 : (0 : Int) = ((0 : Nat) : Int) := rfl
  rw [hf, e0, step _ 0 _ (by omega) rfl, step _ 1 _ (by omega) rfl, step _ 2 _ (by omega) rfl, M_law5_BlockAll_l3, decide_eq_false (by omega), cond_false]
theorem ba_l2 (hd : DevOk x29.1) : M_law5_BlockAll_l2 c1 t0 t4 t6 t7 t8 x4 x17 x18 v19 x29 x30 x31 x32 x34 x36 x37 fuel 0 = c1 (w64 (v19 + 1)) := by
  have step : ∀ (n j : Nat) (p : G_api_Ptr), j < 6 → getI [x30, x31, x32, ⟨0, 0, ⟨0, 0, 0, 0⟩⟩, x34, x36] (j : Int) = some p →
      M_law5_BlockAll_l2 c1 t0 t4 t6 t7 t8 x4 x17 x18 v19 x29 x30 x31 x32 x34 x36 x37 (n + 1) (j : Int) = M_law5_BlockAll_l2 c1 t0 t4 t6 t7 t8 x4 x17 x18 v19 x29 x30 x31 x32 x34 x36 x37 n ((j + 1 : Nat) : Int) := fun n j p hj hp => by
    rw [M_law5_BlockAll_l2, decide_eq_true (by simp; omega), cond_true, ba_l3 _ _ _ _ _ _ _ _ _ _ _ _ _ _ _ _ _ _ _ hd p hp, w64_succ (by omega)]
  have hf : fuel = 4611686018427387897 + 1 + 1 + 1 + 1 + 1 + 1 + 1 := rfl
  have e0 : (0 : Int) = ((0 : Nat) : Int) := rfl
  rw [hf, e0, step _ 0 _ (by omega) rfl, step _ 1 _ (by omega) rfl, step _ 2 _ (by omega) rfl, step _ 3 _ (by omega) rfl, step _ 4 _ (by omega) rfl, step _ 5 _ (by omega) rfl, M_law5_BlockAll_l2, decide_eq_false (by simp), cond_false]
end
theorem ba_l1 (t0 : G_api_Block) (t4 : Str) (t6 : UInt8) (t7 t8 : Int) (x4 : G_api_Block) (x17 : List UInt8) (x18 : Str) (h4 : t4.length ≤ 300) (h17 : x17.length ≤ 300) (h18 : x18.length ≤ 300) :
    M_law5_BlockAll_l1 t0 t4 t6 t7 t8 x4 x17 x18 fuel 0 = some true := by
  have hn40 : M_ref1_New 40 = some ⟨List.replicate 40 (zeros 256), [], 0, 0, false⟩ := new_eq (m := 40) (by omega)
  have step : ∀ (n j : Nat) (s : Str), j < 3 → s.length ≤ 300 → getI [t4, x17, x18] (j : Int) = some s →
      M_law5_BlockAll_l1 t0 t4 t6 t7 t8 x4 x17 x18 (n + 1) (j : Int) = M_law5_BlockAll_l1 t0 t4 t6 t7 t8 x4 x17 x18 n ((j + 1 : Nat) : Int) := fun n j s hj hs hg => by
    obtain ⟨y, hy⟩ := rem6 t6
    rw [M_law5_BlockAll_l1, decide_eq_true (by omega), cond_true, hg]
    simp only [bind_some', btake_eq, rbtake_eq, bne_self_eq_false, decide_true, Bool.not_true, Bool.or_self, cond_false, hn40, rbptr_eq, rto_eq _ _ _ (show s.length ≤ 140737488355328 by omega), hy]
    rw [rwrite_eq rfl rfl (by simp) (by simp), bind_some', ba_l2 _ _ _ _ _ _ _ _ _ _ _ _ _ _ _ _ _ (wrU_ok (new_ok (by omega)) (by simp)), w64_succ (by omega)]
  have hf : fuel = 4611686018427387900 + 1 + 1 + 1 + 1 := rfl
  have e0 : (0 : Int) = ((0 : Nat) : Int) := rfl
  rw [hf, e0, step _ 0 _ (by omega) h4 rfl, step _ 1 _ (by omega) h17 rfl, step _ 2 _ (by omega) h18 rfl, M_law5_BlockAll_l1, decide_eq_false (by omega), cond_false]
theorem law_BlockAll (t0 : G_api_Block) (t1 t2 : UInt8) (t3 t4 : Str) (t5 t6 : UInt8) (t7 t8 : Int) : M_law5_BlockAll t0 t1 t2 t3 t4 t5 t6 t7 t8 = some true := by
  unfold M_law5_BlockAll
  rw [begun5, bind_some', Bool.not_true, cond_false]
  by_cases h : ((t0.Load.length : Int) > 300 ∨ (t3.length : Int) > 260) ∨ (t4.length : Int) > 300
  · have : ((decide ((t0.Load.length : Int) > 300) || decide ((t3.length : Int) > 260)) || decide ((t4.length : Int) > 300)) = true := by simpa using h
    rw [this, cond_true]
  · have : ((decide ((t0.Load.length : Int) > 300) || decide ((t3.length : Int) > 260)) || decide ((t4.length : Int) > 300)) = false := by simpa [not_or] using h
    rw [this, cond_false]
    obtain ⟨x, ex, ox⟩ := made_ok t1 t2 t3 (by omega)
    have hk : t5.toNat < (bytesB x).length := by rw [bytesB_length ox]; exact t5.toNat_lt
    rw [ex]
    simp only [bind_some', bmay_eq', rbmay_eq, bne_self_eq_false, show ((false : Bool) == false) = true from rfl, gd_true, bput_eq, rbput_eq, Bool.or_self, bptr_eq, rbptr_eq, decide_true, Bool.not_true, cond_false, putB_ok ox, getI_lt hk, setI_nat hk]
    have hl := bytesB_length ox
    rw [ba_l1 _ _ _ _ _ _ _ _ (by omega) (by rw [List.length_set]; omega) (by omega)]
/-! ## Reads -/
theorem law_BlockReads (t0 t1 : UInt8) (t2 : Str) (t3 : UInt8) (t4 : Str) (t5 t6 : UInt8) : M_law5_BlockReads t0 t1 t2 t3 t4 t5 t6 = some true := by
  unfold M_law5_BlockReads
  rw [begun5, bind_some', Bool.not_true, cond_false]
  by_cases h : (t2.length : Int) > 249 ∨ (t4.length : Int) > 249
  · have : (decide ((t2.length : Int) > 249) || decide ((t4.length : Int) > 249)) = true := by simpa using h
    rw [this, cond_true]
  · have : (decide ((t2.length : Int) > 249) || decide ((t4.length : Int) > 249)) = false := by simpa using h
    rw [this, cond_false]
    obtain ⟨x, ex, ox⟩ := made_ok t0 t1 t2 (by omega)
    obtain ⟨y, ey, oy⟩ := made_ok t0 t3 t4 (by omega)
    have e20 : rem8 t5 20 = some (t5 % 20) := rfl
    have l20 : (t5 % 20).toNat < 20 := by
      have : (t5 % 20).toNat = t5.toNat % 20 := UInt8.toNat_mod ..
      omega
    have e4 : rem8 t6 4 = some (t6 % 4) := rfl
    obtain ⟨m, hm⟩ : ∃ m : Nat, m = 14 + (t5 % 20).toNat := ⟨_, rfl⟩
    have hw : w64 (14 + ((t5 % 20).toNat : Int)) = (m : Int) := by rw [w64_id (by omega) (by omega)]; omega
    have hn60 : M_ref1_New 60 = some ⟨List.replicate 60 (zeros 256), [], 0, 0, false⟩ := new_eq (m := 60) (by omega)
    have lx := bytesB_length ox
    have ly := bytesB_length oy
    have hz := zeros_length 256
    obtain ⟨L, hL⟩ : ∃ L, L = (List.replicate 60 (zeros 256)).set m (bytesB x) := ⟨_, rfl⟩
    have hLl : L.length = 60 := by rw [hL]; simp
    have hLg : ∀ j, L[j]? = if j = m then some (bytesB x) else if j < 60 then some (zeros 256) else none := fun j => by
      rw [hL, List.getElem?_set]
      by_cases q : m = j
      · subst q; simp; omega
      · rw [if_neg q, if_neg (fun e => q e.symm)]
        by_cases q2 : j < 60
        · rw [if_pos q2, List.getElem?_replicate, if_pos q2]
        · rw [if_neg q2, List.getElem?_replicate, if_neg q2]
    have hLm : L[m]? = some (bytesB x) := by rw [hLg, if_pos rfl]
    have hLs : L[m + 1]? = some (zeros 256) := by rw [hLg, if_neg (by omega), if_pos (by omega)]
    have hLall : ∀ s ∈ L, s.length = 256 := fun s hs => by
      obtain ⟨j, hj⟩ := List.getElem?_of_mem hs
      rw [hLg] at hj
      split at hj
      · cases hj; exact lx
      · split at hj
        · cases hj; exact hz
        · cases hj
    have d2 : DevOk ⟨L, [], 0, 0, false⟩ := ⟨hLall, fun p hp => by simp at hp, by simp only; omega, by simp⟩
    have w1 : M_ref1_Write ⟨List.replicate 60 (zeros 256), [], 0, 0, false⟩ [⟨(m : Int), bytesB x⟩] = some (⟨List.replicate 60 (zeros 256), [⟨(m : Int), bytesB x⟩], 0, 0, false⟩, true) := by
      rw [rwrite_eq rfl rfl (by simp) (by simp), wrU, if_pos (by unfold okW; simp; omega)]; rfl
    have f1 : M_ref1_Flush ⟨List.replicate 60 (zeros 256), [⟨(m : Int), bytesB x⟩], 0, 0, false⟩ = some (⟨L, [], 0, 0, false⟩, true) := by
      rw [rflush_eq rfl rfl (by simp) (by simp)]
      simp only [flushed]
      have : (List.replicate 60 (zeros 256))[(m : Int).toNat]? = some (zeros 256) := by rw [Int.toNat_natCast, List.getElem?_replicate, if_pos (by omega)]
      rw [this]
      simp only
      rw [if_pos ⟨by omega, lx, hz⟩, Int.toNat_natCast, ← hL]
    have w2 : M_ref1_Write ⟨L, [], 0, 0, false⟩ [⟨(m : Int), bytesB y⟩] = some (⟨L, [⟨(m : Int), bytesB y⟩], 0, 0, false⟩, true) := by
      rw [rwrite_eq rfl rfl (by simp) (by simp), wrU, if_pos (by unfold okW; simp; omega)]; rfl
    obtain ⟨T, hT⟩ : ∃ T, T = tornN (howN [((t6 % 4).toNat : Int)] 0) (bytesB x) (bytesB y) := ⟨_, rfl⟩
    have hTl : T.length = 256 := by
      rw [hT]; unfold tornN
      split <;> split <;> simp <;> omega
    have c1 : M_ref1_Crash ⟨L, [⟨(m : Int), bytesB y⟩], 0, 0, false⟩ [((t6 % 4).toNat : Int)] = some ⟨L.set m T, [], 0, 0, false⟩ := by
      rw [rcrash_eq _ _ (by simp) (by simp; omega)]
      simp only [lastG, last1, Int.toNat_natCast, hLm]
      rw [if_pos ⟨by omega, ly, lx⟩, ← hT]
    have d3 : DevOk ⟨L.set m T, [], 0, 0, false⟩ := ⟨fun s hs => by
      rcases List.mem_or_eq_of_mem_set hs with q | q
      · exact hLall s q
      · rw [q]; exact hTl, fun p hp => by simp at hp, by simp; omega, by simp⟩
    have r1 : devRead ⟨L, [], 0, 0, false⟩ (m : Int) = (bytesB x, true) := by
      unfold devRead; rw [if_neg (by simp; omega)]; simp [hLm]
    have r2 : devRead ⟨L, [], 0, 0, false⟩ ((m + 1 : Nat) : Int) = (zeros 256, true) := by
      unfold devRead; rw [if_neg (by simp; omega), Int.toNat_natCast, hLs]; simp
    have r3 : devRead ⟨L.set m T, [], 0, 0, false⟩ (m : Int) = (T, true) := by
      unfold devRead; rw [if_neg (by simp; omega), Int.toNat_natCast, List.getElem?_set_self (by omega)]; simp
    have b1 : readB ⟨L, [], 0, 0, false⟩ ⟨(m : Int), x.Birth, sumOf (bytesB x)⟩ x.Kind = (x.Load, true) := by
      unfold readB; rw [r1, if_neg (by simp; omega), readS_ok ox rfl rfl]
    have b2 : readB ⟨L, [], 0, 0, false⟩ ⟨(m : Int), w64 (x.Birth + 1), sumOf (bytesB x)⟩ x.Kind = ([], false) := by
      unfold readB
      rw [r1, if_neg (by simp; omega)]
      unfold readS
      rw [takeB_bytes ox]
      have := okB_iff.1 ox
      simp only
      rw [if_neg]
      rintro ⟨_, e, _⟩
      rw [w64_id (by omega) (by omega)] at e; omega
    have hw1 : w64 ((m : Int) + 1) = ((m + 1 : Nat) : Int) := w64_succ (by omega)
    have b3 : readB ⟨L, [], 0, 0, false⟩ ⟨((m + 1 : Nat) : Int), x.Birth, sumOf (bytesB x)⟩ x.Kind = ([], false) := by
      unfold readB
      rw [r2, if_neg (by simp; omega)]
      unfold readS
      rw [takeB_zeros]
    have b4 : readB ⟨L.set m T, [], 0, 0, false⟩ ⟨(m : Int), x.Birth, sumOf (bytesB x)⟩ x.Kind = readS T ⟨(m : Int), x.Birth, sumOf (bytesB x)⟩ x.Kind := by
      unfold readB; rw [r3, if_neg (by simp; omega)]
    rw [ex, ey, e20]
    simp only [bind_some', hw, hn60, bput_eq, putB_ok ox, putB_ok oy, w1, f1, bptr_eq, bread_eq d2, b1, b2, hw1, b3, w2, e4, c1, rread_eq ⟨L.set m T, [], 0, 0, false⟩ (m : Int) (by simp), r3, bread_eq d3, b4, rsum1_eq T (by omega), gd_some]
    by_cases q : sumOf T = sumOf (bytesB x)
    · by_cases q2 : T = bytesB x
      · rw [q2, readS_ok ox rfl rfl]; simp
      · have q3 : (T != bytesB x) = true := by rw [bne_iff_ne]; exact q2
        simp [q, q3]
    · have q2 : ¬ T = bytesB x := fun e => q (by rw [e])
      rw [readS_sum (by exact fun e => q e.symm)]
      simp [q, q2]
end Go.Proofs
