/-
  ShowMade holds for every call that the row describes.
-/
import Derived.Test.YtiloogjageledaaGreatDoorClose7
import Derived.Test.YtiloogjageledaaGreatDoorFacts
import Derived.Test.YtiloogjageledaaGreatDoorOpen
import Derived.Test.YtiloogjageledaaGreatDoorOpenS
import Derived.Test.YtiloogjageledaaGreatDoorLaw6M
import Derived.Test.YtiloogjageledaaGreatDoorCards
namespace Go.Proofs.YtiloogjageledaaGreatDoor
open Go Go.E Go.ChangeShapes Go.WideShapes Go.ChangeAt Go.RowKit Go.Joins Go.ChangeMaps

set_option maxRecDepth 100000 in
theorem showMade_lifted (os : Os) (started : os.Started) (H : Type) (enc : TypeId × Value → H) :
    ReturnsInHanded {} Tryz.checked os 7 .any (fun w args => (Rows.showMadeSpec.pre enc Tryz.prog Tryz.f7 [] false w args ∧ laidMetH Tryz.prog laidL w) ∧ sizedMet enc Tryz.prog Tryz.f7 (OpenSpec.ofChange Rows.showMadeSpec) false w args)
      (Rows.showMadeSpec.post enc Tryz.prog Tryz.f7 false true false false) := by
  refine law_lifted started (by kernel_rfl) Tryz.func7 rfl (by
      intro t ht
      rw [Tryz.params7] at ht
      simp at ht
      rcases ht with rfl <;> exact ⟨by kernel_rfl, of_decide_eq_true (by kernel_rfl)⟩) rfl (fun ds h => by
      match ds, h with
      | [d0], _ => rfl)
    (ChangeSpec.witness_shaped (enc := enc) (C := Tryz.checked) (os := os) (X := fun w _ => laidMetH Tryz.prog laidL w) false (World.laidAll Tryz.prog os laidL) #[.slice none 0 0] 8 (World.laidAll_os _ _ _) (World.shaped_of_ZipB (by kernel_rfl) (by kernel_rfl)) (by kernel_rfl) (by kernel_rfl) (by kernel_rfl) (all_met os _)) ?_
  intro W base args ds p g hval hA
  rw [Tryz.params7] at hA hval
  obtain ⟨v0, d0, rfl, rfl, h0⟩ := trodAll_one hA
  obtain ⟨z0, hin0, hz0⟩ := open_ins Tryz.underlying40 Tryz.underlying5 (by kernel_rfl) (hval 0 _ v0 rfl rfl) h0
  have hzb0 : ∀ z ∈ z0, 0 ≤ z ∧ z ≤ 255 := fun z hz => by
    have := hz0 z hz
    simp only [Lit.wf, Bool.and_eq_true, decide_eq_true_eq] at this
    exact this
  exact ShowMade_ret z0 v0 W g hin0 hzb0
set_option maxHeartbeats 4000000 in
theorem showMade_closed : joinedFacts Tryz.pinned.checked.prog 7 Tryz.f7 Rows.showMadeSpec Rows.showMadeRow = true := by
  have h1 : Tryz.pinned.checked.prog.mayEnter = true := mayE
  have h2 : (Tryz.pinned.checked.prog.make == some Rows.showMadeRow.make) = true := makeE
  have h3 : (Rows.showMadeRow.lifted == Tryz.pinned.checked.prog.liftsFinal) = true := liftedE
  unfold joinedFacts
  repeat' with_reducible apply andT
  any_goals with_reducible assumption
  all_goals as_aux_lemma => kernel_rfl
theorem showMade_goes : false = Rows.showMadeRow.goesBy Tryz.pinned.checked.prog := by kernel_rfl
theorem showMade_named : Tryz.prog.funcNamed "chequer/chequerlaw6.ShowMade" = some 7 := by kernel_rfl

theorem showMade_holds : Rows.ShowMadeSaid :=
  OpenClaim.holds_of_wide 7 Tryz.f7 rfl rfl rfl rfl rfl rfl rfl ⟨rfl, rfl, rfl, rfl, rfl⟩ rfl rfl rfl rfl rfl showMade_named Tryz.func7 showMade_closed
    (of_decide_eq_true (by kernel_rfl)) (by unfold Func.isWrapper; first | (rw [if_pos (by decide +kernel)]; kernel_rfl) | (rw [if_neg (by decide +kernel)]; exact ⟨rfl, rfl⟩))
    (fun os started H enc _ => showMade_lifted os started H enc)

theorem showMade_card : Rows.ShowMadeCardSaid :=
  Claim7.holds_tied_plain_at .later [] Rows.showMadeCard.laidKinds true Rows.showMadeCard.stood.harness true
    showMade_holds (fun _ h => by cases h) (by kernel_rfl) (fun _ h => by cases h) showMade_row_tie rfl ⟨rfl, rfl⟩ mainE rfl
    (fun f fn hf hfn => by
      obtain rfl : f = 7 := Option.some.inj (showMade_named.symm.trans hf) |>.symm
      obtain rfl : fn = Tryz.f7 := (Option.some.inj (Tryz.func7.symm.trans hfn)).symm
      exact ⟨looksE, fun j t ht => by
        rw [Tryz.params7] at ht
        have ht := List.mem_of_getElem? (by simpa using ht)
        simp at ht
        rcases ht with rfl
        · exact (show Tryz.prog.wantsStandIn 40 = false by kernel_rfl)⟩)
    showMade_goes
#print axioms showMade_card
end Go.Proofs.YtiloogjageledaaGreatDoor
