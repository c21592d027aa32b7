/-
  LexBlanks holds for every call that the row describes.
-/
import Derived.Test.YtfpklhgkndnjjaaDoorClose
import Derived.Test.YtfpklhgkndnjjaaDoorOpenS
import Derived.Test.YtfpklhgkndnjjaaDoorLaw4B
import Derived.Test.YtfpklhgkndnjjaaDoorCards
namespace Go.Proofs.YtfpklhgkndnjjaaDoor
open Go Go.E Go.ChangeShapes Go.WideShapes Go.ChangeAt Go.RowKit Go.Joins Go.ChangeMaps

set_option maxRecDepth 100000 in
theorem lexBlanks_lifted (os : Os) (started : os.Started) (H : Type) (enc : TypeId × Value → H) :
    ReturnsInHanded {} Tryd.checked os 7 .any (fun w args => (Rows.lexBlanksSpec.pre enc Tryd.prog Tryd.f7 [] false w args ∧ laidMetH Tryd.prog laidL w) ∧ sizedMet enc Tryd.prog Tryd.f7 (OpenSpec.ofChange Rows.lexBlanksSpec) false w args)
      (Rows.lexBlanksSpec.post enc Tryd.prog Tryd.f7 false true false false) := by
  refine law_lifted started (by kernel_rfl) Tryd.func7 rfl (by
      intro t ht
      rw [Tryd.params7] at ht
      simp at ht
      rcases ht with rfl | rfl <;> exact ⟨by kernel_rfl, of_decide_eq_true (by kernel_rfl)⟩) rfl (fun ds h => by
      match ds, h with
      | [d0, d1], _ => rfl)
    (ChangeSpec.witness_shaped (enc := enc) (C := Tryd.checked) (os := os) (X := fun w _ => laidMetH Tryd.prog laidL w) false (World.doorLaid Tryd.prog 62 os) #[str [], .slice none 0 0] 8 rfl (World.shaped_of_RefB (by kernel_rfl) (by kernel_rfl)) (by kernel_rfl) (by kernel_rfl) (by kernel_rfl) (door_met os _)) ?_
  intro W base args ds p g hval hA
  rw [Tryd.params7] at hA hval
  obtain ⟨v0, v1, d0, d1, p0, p1, rfl, rfl, rfl, h0, h1⟩ := trodAll_two hA
  obtain ⟨s0, rfl, -, -, hs0⟩ := open_string Tryd.underlying9 (hval 0 _ v0 rfl rfl) h0
  obtain ⟨z1, hin1, hz1⟩ := open_ins Tryd.underlying48 Tryd.underlying5 (by kernel_rfl) (hval 1 _ v1 rfl rfl) h1
  have hzb1 : ∀ z ∈ z1, 0 ≤ z ∧ z ≤ 255 := fun z hz => by
    have := hz1 z hz
    simp only [Lit.wf, Bool.and_eq_true, decide_eq_true_eq] at this
    exact this
  exact LexBlanks_ret s0.data.toList (bsize_le hs0) v1 z1 W g hin1 hzb1

theorem lexBlanks_holds : Rows.LexBlanksSaid :=
  OpenClaim.holds_of_wide 7 Tryd.f7 rfl rfl rfl rfl rfl rfl rfl ⟨rfl, rfl, rfl, rfl, rfl⟩ rfl rfl rfl rfl rfl (by kernel_rfl) Tryd.func7 (by kernel_rfl)
    (of_decide_eq_true (by kernel_rfl)) (by unfold Func.isWrapper; first | (rw [if_pos (by decide +kernel)]; kernel_rfl) | (rw [if_neg (by decide +kernel)]; exact ⟨rfl, rfl⟩))
    (fun os started H enc _ => lexBlanks_lifted os started H enc)

theorem lexBlanks_card : Rows.LexBlanksCardSaid :=
  Claim7.holds_tied_plain_at .later [] Rows.lexBlanksCard.laidKinds true Rows.lexBlanksCard.stood.harness true
    lexBlanks_holds (fun _ h => by cases h) (by kernel_rfl) (fun _ h => by cases h) lexBlanks_row_tie rfl ⟨rfl, rfl⟩ (by kernel_rfl) rfl
    (fun f fn hf hfn => by
      obtain rfl : f = 7 := Option.some.inj ((show Tryd.prog.funcNamed "chequer/chequerlaw4.LexBlanks" = some 7 by kernel_rfl).symm.trans hf) |>.symm
      obtain rfl : fn = Tryd.f7 := (Option.some.inj (Tryd.func7.symm.trans hfn)).symm
      exact ⟨by kernel_rfl, fun j t ht => by
        rw [Tryd.params7] at ht
        have ht := List.mem_of_getElem? (by simpa using ht)
        simp at ht
        rcases ht with rfl | rfl
        · exact (show Tryd.prog.wantsStandIn 9 = false by kernel_rfl)
        · exact (show Tryd.prog.wantsStandIn 48 = false by kernel_rfl)⟩)
    (by kernel_rfl)
#print axioms lexBlanks_card
end Go.Proofs.YtfpklhgkndnjjaaDoor
