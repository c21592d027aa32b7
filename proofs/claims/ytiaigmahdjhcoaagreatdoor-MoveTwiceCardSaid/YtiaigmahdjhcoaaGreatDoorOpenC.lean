/-
 Arguments that come in: rows of numbers, with what room they have.
-/
import Derived.Test.YtiaigmahdjhcoaaGreatDoorPkF
import Derived.ChangeSlices
import Derived.WideShapes
namespace Go.Proofs.YtiaigmahdjhcoaaGreatDoor
open Go Go.E Go.ChangeShapes Go.WideShapes Go.ChangeAt Go.RowKit Go.Joins Go.ChangeMaps

set_option maxRecDepth 100000 in
theorem open_ins1 {H : Type} {enc : TypeId × Value → H} {W : World} {b0 base : Nat} {sp : Nat → Bool} {held : Bool} {v : Value} {d : DataW H} {p : List MemPlace} {t e : TypeId} {k : IntKind}
  (ht : Tryz.prog.underlying t = some (.slice e)) (he : Tryz.prog.underlying e = some (.int k)) (hc : Tryz.prog.cellsOf e = 1)
  (hv : Value.okWide Tryz.prog W .any b0 t v) (h : DataW.Trod enc Tryz.prog W base sp held t v d p) : ∃ zs, InS k W v zs ∧ ∀ z ∈ zs, (Lit.int k z).wf = true := by
 obtain ⟨a, len, cap, rfl⟩ := okWide_slice ht hv
 obtain ⟨fuel, hf⟩ := h
 rcases open_ints ht he hc hf with ⟨e1, _⟩ | ⟨a', len', cap', zs, e1, _, hl, hm, hz, _, hcell, hw⟩
 ·have e2 : (Value.slice a len cap) = .slice none 0 0 := by simpa [Value.cells] using e1
  rw [e2]
  exact ⟨[], ⟨by simp, .inl ⟨rfl, rfl⟩⟩, by simp⟩
 ·have e2 : (Value.slice a len cap) = .slice (some a') len' cap' := by simpa [Value.cells] using e1
  rw [e2]
  have hlen : len' ≤ zs.length := by rw [hz]; split <;> omega
  have hmx : maxLen ≤ 9223372036854775807 := by decide
  have htk : (zs.take len').length = len' := by simp; omega
  refine ⟨zs.take len', ⟨by omega, .inr ⟨a', cap', by rw [htk], fun i z hi => ?_⟩⟩, fun z hz => hw z (List.mem_of_mem_take hz)⟩
  have hil : i < len' := by
   have := (List.getElem?_eq_some_iff.1 hi).1
   omega
  rw [List.getElem?_take_of_lt hil] at hi
  rw [hcell i (by omega)]
  simp [List.getD_eq_getElem?_getD, hi]
set_option maxRecDepth 100000 in
theorem open_insC {H : Type} {enc : TypeId × Value → H} {W : World} {b0 base : Nat} {sp : Nat → Bool} {held : Bool} {v : Value} {d : DataW H} {p : List MemPlace} {t e : TypeId} {k : IntKind}
  (ht : Tryz.prog.underlying t = some (.slice e)) (he : Tryz.prog.underlying e = some (.int k)) (hc : Tryz.prog.cellsOf e = 1)
  (hv : Value.okWide Tryz.prog W .any b0 t v) (h : DataW.Trod enc Tryz.prog W base sp held t v d p) : ∃ zs, InS k W v zs ∧ (∀ z ∈ zs, (Lit.int k z).wf = true) ∧ ∃ p c, v = .slice p zs.length c ∧ zs.length ≤ c := by
 obtain ⟨a, len, cap, rfl⟩ := okWide_slice ht hv
 obtain ⟨fuel, hf⟩ := h
 rcases open_ints ht he hc hf with ⟨e1, _⟩ | ⟨a', len', cap', zs, e1, _, hl, hm, hz, _, hcell, hw⟩
 ·have e2 : (Value.slice a len cap) = .slice none 0 0 := by simpa [Value.cells] using e1
  rw [e2]
  exact ⟨[], ⟨by simp, .inl ⟨rfl, rfl⟩⟩, by simp, _, _, rfl, Nat.le_refl _⟩
 ·have e2 : (Value.slice a len cap) = .slice (some a') len' cap' := by simpa [Value.cells] using e1
  rw [e2]
  have hlen : len' ≤ zs.length := by rw [hz]; split <;> omega
  have hmx : maxLen ≤ 9223372036854775807 := by decide
  have htk : (zs.take len').length = len' := by simp; omega
  refine ⟨zs.take len', ⟨by omega, .inr ⟨a', cap', by rw [htk], fun i z hi => ?_⟩⟩, fun z hz => hw z (List.mem_of_mem_take hz), _, _, by rw [htk], by rw [htk]; exact hl⟩
  have hil : i < len' := by
   have := (List.getElem?_eq_some_iff.1 hi).1
   omega
  rw [List.getElem?_take_of_lt hil] at hi
  rw [hcell i (by omega)]
  simp [List.getD_eq_getElem?_getD, hi]
end Go.Proofs.YtiaigmahdjhcoaaGreatDoor
