/-
 PackNil holds for every call that the row describes.
-/
import Derived.Test.YtabjahlbcoigcaaPkC
namespace Go.Proofs.Ytabjahlbcoigcaa
open Go Go.E Go.ChangeShapes Go.WideShapes Go.ChangeAt Go.RowKit Go.ChangeMaps

set_option maxRecDepth 100000 in
theorem packNil_lifted (os : Os) (started : os.Started) (H : Type) (enc : TypeId × Value → H) :
  ReturnsInHanded {} Try.checked os 4 .any (Rows.packNilSpec.pre6 enc Try.prog Try.f4 Rows.packNilRow.domain false)
   (Rows.packNilSpec.post enc Try.prog Try.f4 false true false false) := by
 refine law_lifted0 started (by kernel_rfl) Try.func4 rfl (by
   intro t ht
   rw [Try.params4] at ht
   simp at ht
   rcases ht with rfl <;> exact ⟨by kernel_rfl, of_decide_eq_true (by kernel_rfl)⟩) rfl (fun ds h => by
   match ds, h with
   | [d0], _ => rfl)
  (ChangeSpec.witness6 (enc := enc) (C := Try.checked) false ⟨#[], #[.string ⟨#[]⟩], []⟩ 8 (by kernel_rfl) (by kernel_rfl) (by kernel_rfl) (by kernel_rfl)) ?_
 intro W base args ds p hval hA
 rw [Try.params4] at hA hval
 obtain ⟨v0, d0, rfl, rfl, h0⟩ := trodAll_one hA
 obtain ⟨s0, rfl, -, -, -⟩ := open_string Try.underlying9 (hval 0 _ v0 rfl rfl) h0
 obtain ⟨⟨s0⟩⟩ := s0
 exact PackNil_ret s0 W
theorem packNil_holds : Rows.PackNilSaid :=
 OpenClaim.holds_of_wide 4 Try.f4 rfl rfl rfl rfl rfl rfl rfl ⟨rfl, rfl, rfl, rfl, rfl⟩ rfl rfl rfl rfl rfl (by kernel_rfl) Try.func4 (by kernel_rfl)
  (of_decide_eq_true (by kernel_rfl)) (by unfold Func.isWrapper; first | (rw [if_pos (by decide +kernel)]; kernel_rfl) | (rw [if_neg (by decide +kernel)]; exact ⟨rfl, rfl⟩))
  (fun os started H enc _ => packNil_lifted os started H enc)
#print axioms packNil_holds
end Go.Proofs.Ytabjahlbcoigcaa
