/-
  ParseOrder holds for every call that the row describes.
-/
import Derived.Test.YtfpklhgkndnjjaaDoorClose
import Derived.Test.YtfpklhgkndnjjaaDoorOpenS
import Derived.Test.YtfpklhgkndnjjaaDoorLaw5O
import Derived.Test.YtfpklhgkndnjjaaDoorCards
namespace Go.Proofs.YtfpklhgkndnjjaaDoor
open Go Go.E Go.ChangeShapes Go.WideShapes Go.ChangeAt Go.RowKit Go.Joins Go.ChangeMaps

set_option maxRecDepth 100000 in
theorem parseOrder_lifted (os : Os) (started : os.Started) (H : Type) (enc : TypeId × Value → H) :
    ReturnsInHanded {} Tryd.checked os 12 .any (fun w args => (Rows.parseOrderSpec.pre enc Tryd.prog Tryd.f12 [] false w args ∧ laidMetH Tryd.prog laidL w) ∧ sizedMet enc Tryd.prog Tryd.f12 (OpenSpec.ofChange Rows.parseOrderSpec) false w args)
      (Rows.parseOrderSpec.post enc Tryd.prog Tryd.f12 false true false false) := by
  refine law_lifted started (by kernel_rfl) Tryd.func12 rfl (by
      intro t ht
      rw [Tryd.params12] at ht
      simp at ht
      rcases ht with rfl <;> exact ⟨by kernel_rfl, of_decide_eq_true (by kernel_rfl)⟩) rfl (fun ds h => by
      match ds, h with
      | [d0], _ => rfl)
    (ChangeSpec.witness_shaped (enc := enc) (C := Tryd.checked) (os := os) (X := fun w _ => laidMetH Tryd.prog laidL w) false (World.doorLaid Tryd.prog 62 os) #[.slice none 0 0] 8 rfl (World.shaped_of_RefB (by kernel_rfl) (by kernel_rfl)) (by kernel_rfl) (by kernel_rfl) (by kernel_rfl) (door_met os _)) ?_
  intro W base args ds p g hval hA
  rw [Tryd.params12] at hA hval
  obtain ⟨v0, d0, rfl, rfl, h0⟩ := trodAll_one hA
  obtain ⟨z0, hin0, hz0⟩ := open_ins Tryd.underlying48 Tryd.underlying5 (by kernel_rfl) (hval 0 _ v0 rfl rfl) h0
  have hzb0 : ∀ z ∈ z0, 0 ≤ z ∧ z ≤ 255 := fun z hz => by
    have := hz0 z hz
    simp only [Lit.wf, Bool.and_eq_true, decide_eq_true_eq] at this
    exact this
  have hzb0 : ∀ z ∈ z0, 0 ≤ z ∧ z ≤ 255 := fun z hz => by
    have := hz0 z hz
    simp only [Lit.wf, Bool.and_eq_true, decide_eq_true_eq] at this
    exact this
  exact ParseOrder_ret v0 z0 W g hin0 hzb0

theorem parseOrder_holds : Rows.ParseOrderSaid :=
  OpenClaim.holds_of_wide 12 Tryd.f12 rfl rfl rfl rfl rfl rfl rfl ⟨rfl, rfl, rfl, rfl, rfl⟩ rfl rfl rfl rfl rfl (by kernel_rfl) Tryd.func12 (by kernel_rfl)
    (of_decide_eq_true (by kernel_rfl)) (by unfold Func.isWrapper; first | (rw [if_pos (by decide +kernel)]; kernel_rfl) | (rw [if_neg (by decide +kernel)]; exact ⟨rfl, rfl⟩))
    (fun os started H enc _ => parseOrder_lifted os started H enc)

theorem parseOrder_card : Rows.ParseOrderCardSaid :=
  Claim7.holds_tied_plain_at .later [] Rows.parseOrderCard.laidKinds true Rows.parseOrderCard.stood.harness true
    parseOrder_holds (fun _ h => by cases h) (by kernel_rfl) (fun _ h => by cases h) parseOrder_row_tie rfl ⟨rfl, rfl⟩ (by kernel_rfl) rfl
    (fun f fn hf hfn => by
      obtain rfl : f = 12 := Option.some.inj ((show Tryd.prog.funcNamed "chequer/chequerlaw5.ParseOrder" = some 12 by kernel_rfl).symm.trans hf) |>.symm
      obtain rfl : fn = Tryd.f12 := (Option.some.inj (Tryd.func12.symm.trans hfn)).symm
      exact ⟨by kernel_rfl, fun j t ht => by
        rw [Tryd.params12] at ht
        have ht := List.mem_of_getElem? (by simpa using ht)
        simp at ht
        rcases ht with rfl
        · exact (show Tryd.prog.wantsStandIn 48 = false by kernel_rfl)⟩)
    (by kernel_rfl)
#print axioms parseOrder_card
end Go.Proofs.YtfpklhgkndnjjaaDoor
