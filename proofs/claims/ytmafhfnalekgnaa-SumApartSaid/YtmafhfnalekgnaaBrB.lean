import Derived.Test.YtmafhfnalekgnaaSumJ
import Derived.Test.YtmafhfnalekgnaaBr
import Derived.OpenShut
namespace Go.Proofs
open Go Go.Ahl
def toB (zs : List Int) : List UInt8 := zs.map fun z => UInt8.ofNat z.toNat
theorem bytes_in {P : Program} {w : World} {a : Option Addr} {len cap base : Nat} {zs : List Int} {t e : TypeId} (ht : P.underlying t = some (.slice e)) (he : P.underlying e = some (.int .u8))
    (hrow : (a = none ∧ len = 0 ∧ cap = 0 ∧ zs = []) ∨ ∃ x, a = some x ∧ len ≤ cap ∧ cap ≤ maxLen ∧ zs.length = cap ∧ (∀ i, i < zs.length → w.cell? (x.add i) = some (.int .u8 (zs.getD i 0))) ∧ ∀ n ∈ zs, (Lit.int .u8 n).wf = true)
    (hok : Value.okWide P w .any base t (.slice a len cap)) :
    ∃ (H : AH) (hm : HM) (a' : Option Addr) (L : List UInt8), HRel hm w ⟨fun B => B < w.heap.size, w.heap.size⟩ H w ∧ L.length = len ∧ Byts H a' cap L ∧ VR hm [] (.slice a' len cap) (.slice a len cap) := by
  rcases hrow with ⟨rfl, rfl, rfl, rfl⟩ | ⟨x, rfl, h1, h2, h3, h4, h5⟩
  · exact ⟨H0, _, none, [], hrel0 w, rfl, .inl ⟨rfl, rfl, rfl⟩, .of_plain rfl⟩
  · have hh : w.has P .any base x e cap := by
      simp only [Value.okWide, ht, Cell.okWide, Cell.ok] at hok
      exact hok.2.2
    obtain ⟨hs, C, t', fz, hb, hoff⟩ := has_off he hh
    obtain ⟨blk, off, spot⟩ := x
    simp only at hs hb hoff
    subst hs
    have hcell : ∀ i, i < zs.length → C[off + i]? = some (.int .u8 (zs.getD i 0)) := by
      intro i hi
      have := h4 i hi
      rw [Go.WideShapes.add_plain] at this
      simpa [World.cell?, hb] using this
    have hsz : off + zs.length ≤ C.size := by
      by_cases q : zs.length = 0
      · omega
      · have := hcell (zs.length - 1) (by omega)
        have := (Array.getElem?_eq_some_iff.1 this).1
        omega
    have hL : (toB (zs.take len)).length = len := by simp [toB]; omega
    refine ⟨H1 (zs.map (.int .u8)), hm1 blk off C.size, some ⟨0, 0, none⟩, toB (zs.take len), hrel1 w _ hb (by simpa using hsz) ?_ ?_, hL, ?_, ?_⟩
    · intro k v hv
      rw [List.getElem?_map] at hv
      cases hz : zs[k]? with
      | none => rw [hz] at hv; cases hv
      | some z =>
        rw [hz] at hv
        cases hv
        have hk : k < zs.length := (List.getElem?_eq_some_iff.1 hz).1
        rw [hcell k hk]
        simp [List.getD, hz]
    · simp [plain1]
    · refine .inr ⟨⟨0, 0, none⟩, ⟨1, zs.map (.int .u8), false⟩, rfl, by omega, rfl, rfl, ?_, ?_⟩
      · show 0 + _ ≤ (zs.map _).length
        rw [hL, List.length_map]; omega
      · rw [hL]
        show ((zs.map (Value.int .u8)).drop 0).take len = _
        rw [List.drop_zero, ← List.map_take]
        unfold toB
        rw [List.map_map]
        refine List.map_congr_left fun z hz => ?_
        have hr := u8_range (h5 z (List.mem_of_mem_take hz))
        have : (UInt8.ofNat z.toNat).toNat = z.toNat := by
          rw [UInt8.toNat_ofNat']; omega
        show Value.int .u8 z = Value.int .u8 ((UInt8.ofNat z.toNat).toNat : Int)
        rw [this]
        congr 1
        omega
    · refine .of_sr rfl ⟨⟨blk, off, C.size, 1⟩, off, cap, rfl, rfl, h1, fun _ => rfl, ?_, Nat.le_refl _, fun _ => rfl⟩
      simp only; omega
end Go.Proofs
