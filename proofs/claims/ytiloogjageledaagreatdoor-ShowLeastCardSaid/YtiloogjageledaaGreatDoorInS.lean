/-
  A slice of small numbers that a call is handed.
-/
import Derived.Test.YtiloogjageledaaGreatDoorGlob
namespace Go.Proofs.YtiloogjageledaaGreatDoor
open Go Go.E

/-- A row of numbers that came in. -/
def InS (k : IntKind) (w : World) (v : Value) (zs : List Int) : Prop :=
  zs.length ≤ 9223372036854775807 ∧ (v = .slice none 0 0 ∧ zs = [] ∨ ∃ a cap, v = .slice (some a) zs.length cap ∧ ∀ i z, zs[i]? = some z → w.cell? (a.add i) = some (.int k z))
theorem InS.ext {k : IntKind} {w w' : World} {v : Value} {zs : List Int} (h : InS k w v zs) (x : Ext w w') : InS k w' v zs := by
  obtain ⟨h0, h | ⟨a, cap, e, h⟩⟩ := h
  · exact ⟨h0, .inl h⟩
  · exact ⟨h0, .inr ⟨a, cap, e, fun i z hz => cell_ext x (h i z hz)⟩⟩
theorem InS.slice {k : IntKind} {w : World} {v : Value} {zs : List Int} (h : InS k w v zs) : ∃ p c, v = .slice p zs.length c := by
  obtain ⟨h0, ⟨rfl, rfl⟩ | ⟨a, cap, e, h⟩⟩ := h
  · exact ⟨_, _, rfl⟩
  · exact ⟨_, _, e⟩
end Go.Proofs.YtiloogjageledaaGreatDoor
