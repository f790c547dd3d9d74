/-
  The law NodeLost: for every input the program's law returns true, and what came in reads as it did. No further condition.
-/
import Derived.Test.YtpfbnghalpfoaaaDoorRows
import Derived.Test.YtpfbnghalpfoaaaDoorCards
import Derived.Test.YtpfbnghalpfoaaaDoorTie
import Derived.ChangeVars
import Derived.LaidLaws
import Derived.LaidMore
import Derived.Lay
import Derived.OpenShut
import Derived.Stop.Joined
import Derived.SevenTiedAt
import Derived.Test.YtpfbnghalpfoaaaDoorLW1
import Derived.Test.YtpfbnghalpfoaaaDoorFZ
namespace Go.Proofs.YtpfbnghalpfoaaaDoor.nodeLost
set_option maxRecDepth 20000
open Go.ChangeShapes Go.WideShapes Go.ChangeAt Go.RowKit
open Go.ChangeMaps (open_string shut_string)
open Go.Fhl
set_option linter.unusedVariables false
theorem own : ownKnob Tryd.prog.godebug = none := by kernel_rfl
theorem laidOut : laidOutB Tryd.prog = true := by kernel_rfl
theorem walk {w : World} {base : Nat} {a0 : Option Addr} {len0 cap0 : Nat} {z0 : List Int} (w0 : Go.Fhl.IsRow .u8 w a0 len0 cap0 z0) {v1 : Value} (k1 : Value.okWide Tryd.prog w .any base 41 v1) :
    Calls Tryd.prog 5 #[.slice a0 len0 cap0, v1] w fun e w' => e = .returned (.bool true) ∧ Below w.heap.size w w' := by
  obtain ⟨x0, _, r0⟩ := bytes_in w0
  obtain ⟨cs, rfl, hl⟩ := val_agg (ts := [5, 5, 5, 5, 5, 5, 5]) Tryd.underlying41 rfl (by kernel_rfl) (by kernel_rfl) k1
  obtain ⟨c1_0, l1_0, e1_0, q1_0, hl⟩ := hl.cons_inv
  obtain ⟨n1_0, rfl⟩ := cell_U8 Tryd.underlying5 q1_0
  obtain ⟨c1_1, l1_1, e1_1, q1_1, hl⟩ := hl.cons_inv
  obtain ⟨n1_1, rfl⟩ := cell_U8 Tryd.underlying5 q1_1
  obtain ⟨c1_2, l1_2, e1_2, q1_2, hl⟩ := hl.cons_inv
  obtain ⟨n1_2, rfl⟩ := cell_U8 Tryd.underlying5 q1_2
  obtain ⟨c1_3, l1_3, e1_3, q1_3, hl⟩ := hl.cons_inv
  obtain ⟨n1_3, rfl⟩ := cell_U8 Tryd.underlying5 q1_3
  obtain ⟨c1_4, l1_4, e1_4, q1_4, hl⟩ := hl.cons_inv
  obtain ⟨n1_4, rfl⟩ := cell_U8 Tryd.underlying5 q1_4
  obtain ⟨c1_5, l1_5, e1_5, q1_5, hl⟩ := hl.cons_inv
  obtain ⟨n1_5, rfl⟩ := cell_U8 Tryd.underlying5 q1_5
  obtain ⟨c1_6, l1_6, e1_6, q1_6, hl⟩ := hl.cons_inv
  obtain ⟨n1_6, rfl⟩ := cell_U8 Tryd.underlying5 q1_6
  have ez1 := hl.nil_inv
  subst ez1
  rw [e1_6] at e1_5
  rw [e1_5] at e1_4
  rw [e1_4] at e1_3
  rw [e1_3] at e1_2
  rw [e1_2] at e1_1
  rw [e1_1] at e1_0
  obtain rfl := arr_of e1_0
  exact ffn_below (ok_law12_NodeLost x0 (A7.mk n1_0 n1_1 n1_2 n1_3 n1_4 n1_5 n1_6) true (law_NodeLost x0 (A7.mk n1_0 n1_1 n1_2 n1_3 n1_4 n1_5 n1_6))) (.cons r0 (.cons (.of_plain rfl) .nil))
theorem met (os : Os) (args : Array Value) : laidMetH Tryd.prog Rows.nodeLostRow.laid ((World.laidAll Tryd.prog os Rows.nodeLostRow.laid).forCall (fun _ _ => 0) ⟨#[], args, []⟩).memory := by
  rw [MakeChecks.laidMetH_plain _ _ _ (by kernel_rfl)]; exact laidMet_laidAll _ (by kernel_rfl) (by kernel_rfl)
set_option maxRecDepth 100000 in
theorem lifted (os : Os) (started : os.Started) (H : Type) (enc : TypeId × Value → H) :
    ReturnsInHanded {} Tryd.checked os 5 .any (fun w args => (Rows.nodeLostSpec.pre enc Tryd.prog Tryd.f5 [] false w args ∧ laidMetH Tryd.prog Rows.nodeLostRow.laid w) ∧ sizedMet enc Tryd.prog Tryd.f5 (OpenSpec.ofChange Rows.nodeLostSpec) false w args)
      (Rows.nodeLostSpec.post enc Tryd.prog Tryd.f5 false true false false) := by
  refine returnsInHanded_of_change_and (C := Tryd.checked) (X := fun w _ => laidMetH Tryd.prog Rows.nodeLostRow.laid w) (fun _ _ _ hh h => h.of_heap hh) own started (by kernel_rfl) Tryd.func5
    (ChangeSpec.witness_shaped (enc := enc) (C := Tryd.checked) (os := os) (X := fun w _ => laidMetH Tryd.prog Rows.nodeLostRow.laid w) false (World.laidAll Tryd.prog os Rows.nodeLostRow.laid) #[.slice none 0 0, .agg #[.int .u8 0, .int .u8 0, .int .u8 0, .int .u8 0, .int .u8 0, .int .u8 0, .int .u8 0]] 8 (World.laidAll_os _ _ _) (World.shaped_of_ZipB (by kernel_rfl) (by kernel_rfl)) (by kernel_rfl) (by kernel_rfl) (by kernel_rfl) (met os _)) ?_
  intro W base args ds gs before hval0 hW _ _ hL _
  have hval : ∀ (j : Nat) t v, Tryd.f5.params[j]? = some t → args[j]? = some v → Value.okWide Tryd.prog W .any base t v := hval0
  have hW' := hW
  obtain ⟨p, q, hA0, hV, rfl, hfz, hnd⟩ := hW
  have hA : DataW.TrodAll enc Tryd.prog W 0 (fun _ => true) true Tryd.f5.params.toList args.toList ds p := hA0
  rw [Tryd.params5] at hA hval
  obtain ⟨v0, vs0, d0, ds0, p0, q0, hargs, rfl, rfl, h0, r0⟩ := trodAll_cons hA
  obtain ⟨v1, vs1, d1, ds1, p1, q1, rfl, rfl, rfl, h1, r1⟩ := trodAll_cons r0
  obtain ⟨rfl, rfl, rfl⟩ := trodAll_nil r1
  obtain rfl : args = #[v0, v1] := by cases args; simp_all
  obtain ⟨rfl, rfl⟩ := trodVars_none hV
  have k0 := h0
  have lt0 : ∀ x ∈ p0, x.block < W.heap.size := by obtain ⟨m, hm⟩ := k0; exact DataW.trod_lt m _ _ _ hm
  obtain ⟨a0, len0, cap0, rfl⟩ := okWide_slice Tryd.underlying22 (hval 0 22 v0 rfl rfl)
  obtain ⟨z0, w0⟩ : ∃ zs, Go.Fhl.IsRow .u8 W a0 len0 cap0 zs := by
    obtain ⟨fuel, hf⟩ := h0
    rcases open_ints Tryd.underlying22 Tryd.underlying5 (by kernel_rfl) hf with ⟨hcs, _⟩ | ⟨x, l, c, zs, hcs, _, hl, hm, hz, _, hcell, hwz⟩
    · simp [Value.cells] at hcs
      obtain ⟨rfl, rfl, rfl⟩ := hcs
      exact ⟨[], .inl ⟨rfl, rfl, rfl, rfl⟩⟩
    · simp [Value.cells] at hcs
      obtain ⟨rfl, rfl, rfl⟩ := hcs
      exact ⟨zs, .inr ⟨_, rfl, hl, hm, by simpa using hz, hcell, hwz⟩⟩
  have k1 := h1
  have lt1 : ∀ x ∈ p1, x.block < W.heap.size := by obtain ⟨m, hm⟩ := k1; exact DataW.trod_lt m _ _ _ hm
  clear hA0 hval0
  refine (walk w0 (hval 1 41 _ rfl rfl)).mono fun e W' ⟨he, bel⟩ => ?_
  subst he
  exact ⟨_, rfl, _, _, _, [], _, [], hW', trodAll_mk1 (shut_bool Tryd.underlying4 _), (trodAll_cons_mk (Below.trod laidOut (by kernel_rfl) (of_decide_eq_true (by kernel_rfl)) k0 bel lt0) (trodAll_cons_mk (Below.trod laidOut (by kernel_rfl) (of_decide_eq_true (by kernel_rfl)) k1 bel lt1) trodAll_mk0)), rfl, bel.frame _, fun h => by cases h⟩
theorem over : Rows.nodeLostRow.holds Tryd.pinned (OpenSpec.ofChange Rows.nodeLostSpec) :=
  OpenClaim.holds_of_wide 5 Tryd.f5 rfl rfl rfl rfl rfl rfl rfl ⟨rfl, rfl, rfl, rfl, rfl⟩ rfl rfl rfl rfl rfl (by kernel_rfl) Tryd.func5 (by kernel_rfl)
    (of_decide_eq_true (by kernel_rfl)) (by unfold Func.isWrapper; first | (rw [if_pos (by decide +kernel)]; kernel_rfl) | (rw [if_neg (by decide +kernel)]; exact ⟨rfl, rfl⟩))
    (fun os started H enc _ => lifted os started H enc)
theorem proved : Rows.NodeLostCardSaid :=
  Claim7.holds_tied_plain_at .later [] [.data, .data, .data] true (true, "d878459c5f247dde1c2ec9798006b628be38eefc4a6bc9c8a41ec99f015d7e08") false
    over (fun _ h => by cases h) (by kernel_rfl) (fun _ h => by cases h) nodeLost_row_tie rfl ⟨rfl, rfl⟩ (by kernel_rfl) rfl
    (fun f fn hf hfn => by
      obtain rfl : f = 5 := Option.some.inj ((show Tryd.prog.funcNamed "palimp/palimplaw12.NodeLost" = some 5 by kernel_rfl).symm.trans hf) |>.symm
      obtain rfl : fn = Tryd.f5 := (Option.some.inj (Tryd.func5.symm.trans hfn)).symm
      exact ⟨by kernel_rfl, fun j t ht => by
        rw [Tryd.params5] at ht
        have hm : t ∈ ([22, 41] : List TypeId) := by simpa using Array.mem_of_getElem? ht
        have hall : (([22, 41] : List TypeId).all fun u => !Tryd.prog.wantsStandIn u) = true := by kernel_rfl
        exact (show Tryd.prog.wantsStandIn t = false by simpa using List.all_eq_true.1 hall t hm)⟩)
    (by kernel_rfl)
#print axioms proved
end Go.Proofs.YtpfbnghalpfoaaaDoor.nodeLost
