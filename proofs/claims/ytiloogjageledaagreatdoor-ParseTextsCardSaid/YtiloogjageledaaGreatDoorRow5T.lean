/-
  ParseTexts holds for every call that the row describes.
-/
import Derived.Test.YtiloogjageledaaGreatDoorClose
import Derived.Test.YtiloogjageledaaGreatDoorFacts
import Derived.Test.YtiloogjageledaaGreatDoorOpen
import Derived.Test.YtiloogjageledaaGreatDoorLaw5T
import Derived.Test.YtiloogjageledaaGreatDoorCards
namespace Go.Proofs.YtiloogjageledaaGreatDoor
open Go Go.E Go.ChangeShapes Go.WideShapes Go.ChangeAt Go.RowKit Go.Joins Go.ChangeMaps

set_option maxRecDepth 100000 in
theorem parseTexts_lifted (os : Os) (started : os.Started) (H : Type) (enc : TypeId × Value → H) :
    ReturnsInHanded {} Tryz.checked os 3 .any (fun w args => (Rows.parseTextsSpec.pre enc Tryz.prog Tryz.f3 [] false w args ∧ laidMetH Tryz.prog laidL w) ∧ sizedMet enc Tryz.prog Tryz.f3 (OpenSpec.ofChange Rows.parseTextsSpec) false w args)
      (Rows.parseTextsSpec.post enc Tryz.prog Tryz.f3 false true false false) := by
  refine law_lifted started (by kernel_rfl) Tryz.func3 rfl (by
      intro t ht
      rw [Tryz.params3] at ht
      simp at ht
      rcases ht with rfl <;> exact ⟨by kernel_rfl, of_decide_eq_true (by kernel_rfl)⟩) rfl (fun ds h => by
      match ds, h with
      | [d0], _ => rfl)
    (ChangeSpec.witness_shaped (enc := enc) (C := Tryz.checked) (os := os) (X := fun w _ => laidMetH Tryz.prog laidL w) false (World.doorLaid Tryz.prog 62 os) #[str []] 8 rfl (World.shaped_of_RefB (by kernel_rfl) (by kernel_rfl)) (by kernel_rfl) (by kernel_rfl) (by kernel_rfl) (door_met os _)) ?_
  intro W base args ds p g hval hA
  rw [Tryz.params3] at hA hval
  obtain ⟨v0, d0, rfl, rfl, h0⟩ := trodAll_one hA
  obtain ⟨s0, rfl, -, -, hs0⟩ := open_string Tryz.underlying9 (hval 0 _ v0 rfl rfl) h0
  exact ParseTexts_ret s0.data.toList (bsize_le hs0) W g
set_option maxHeartbeats 4000000 in
theorem parseTexts_closed : joinedFacts Tryz.pinned.checked.prog 3 Tryz.f3 Rows.parseTextsSpec Rows.parseTextsRow = true := by
  have h1 : Tryz.pinned.checked.prog.mayEnter = true := mayE
  have h2 : (Tryz.pinned.checked.prog.make == some Rows.parseTextsRow.make) = true := makeE
  have h3 : (Rows.parseTextsRow.lifted == Tryz.pinned.checked.prog.liftsFinal) = true := liftedE
  unfold joinedFacts
  repeat' with_reducible apply andT
  any_goals with_reducible assumption
  all_goals as_aux_lemma => kernel_rfl
theorem parseTexts_goes : false = Rows.parseTextsRow.goesBy Tryz.pinned.checked.prog := by kernel_rfl
theorem parseTexts_named : Tryz.prog.funcNamed "chequer/chequerlaw5.ParseTexts" = some 3 := by kernel_rfl

theorem parseTexts_holds : Rows.ParseTextsSaid :=
  OpenClaim.holds_of_wide 3 Tryz.f3 rfl rfl rfl rfl rfl rfl rfl ⟨rfl, rfl, rfl, rfl, rfl⟩ rfl rfl rfl rfl rfl parseTexts_named Tryz.func3 parseTexts_closed
    (of_decide_eq_true (by kernel_rfl)) (by unfold Func.isWrapper; first | (rw [if_pos (by decide +kernel)]; kernel_rfl) | (rw [if_neg (by decide +kernel)]; exact ⟨rfl, rfl⟩))
    (fun os started H enc _ => parseTexts_lifted os started H enc)

theorem parseTexts_card : Rows.ParseTextsCardSaid :=
  Claim7.holds_tied_plain_at .later [] Rows.parseTextsCard.laidKinds true Rows.parseTextsCard.stood.harness true
    parseTexts_holds (fun _ h => by cases h) (by kernel_rfl) (fun _ h => by cases h) parseTexts_row_tie rfl ⟨rfl, rfl⟩ mainE rfl
    (fun f fn hf hfn => by
      obtain rfl : f = 3 := Option.some.inj (parseTexts_named.symm.trans hf) |>.symm
      obtain rfl : fn = Tryz.f3 := (Option.some.inj (Tryz.func3.symm.trans hfn)).symm
      exact ⟨looksE, fun j t ht => by
        rw [Tryz.params3] at ht
        have ht := List.mem_of_getElem? (by simpa using ht)
        simp at ht
        rcases ht with rfl
        · exact (show Tryz.prog.wantsStandIn 9 = false by kernel_rfl)⟩)
    parseTexts_goes
#print axioms parseTexts_card
end Go.Proofs.YtiloogjageledaaGreatDoor
