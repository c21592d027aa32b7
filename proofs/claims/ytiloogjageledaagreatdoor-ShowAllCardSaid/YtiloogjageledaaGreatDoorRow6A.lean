/-
  ShowAll holds for every call that the row describes.
-/
import Derived.Test.YtiloogjageledaaGreatDoorClose7
import Derived.Test.YtiloogjageledaaGreatDoorFacts
import Derived.Test.YtiloogjageledaaGreatDoorOpen
import Derived.Test.YtiloogjageledaaGreatDoorOpenN
import Derived.Test.YtiloogjageledaaGreatDoorLaw6A
import Derived.Test.YtiloogjageledaaGreatDoorCards
namespace Go.Proofs.YtiloogjageledaaGreatDoor
open Go Go.E Go.ChangeShapes Go.WideShapes Go.ChangeAt Go.RowKit Go.Joins Go.ChangeMaps

set_option maxRecDepth 100000 in
theorem showAll_lifted (os : Os) (started : os.Started) (H : Type) (enc : TypeId × Value → H) :
    ReturnsInHanded {} Tryz.checked os 5 .any (fun w args => (Rows.showAllSpec.pre enc Tryz.prog Tryz.f5 [] false w args ∧ laidMetH Tryz.prog laidL w) ∧ sizedMet enc Tryz.prog Tryz.f5 (OpenSpec.ofChange Rows.showAllSpec) false w args)
      (Rows.showAllSpec.post enc Tryz.prog Tryz.f5 false true false false) := by
  refine law_lifted started (by kernel_rfl) Tryz.func5 rfl (by
      intro t ht
      rw [Tryz.params5] at ht
      simp at ht
      rcases ht with rfl <;> exact ⟨by kernel_rfl, of_decide_eq_true (by kernel_rfl)⟩) rfl (fun ds h => by
      match ds, h with
      | [d0], _ => rfl)
    (ChangeSpec.witness_shaped (enc := enc) (C := Tryz.checked) (os := os) (X := fun w _ => laidMetH Tryz.prog laidL w) false (World.laidAll Tryz.prog os laidL) #[.slice none 0 0] 8 (World.laidAll_os _ _ _) (World.shaped_of_ZipB (by kernel_rfl) (by kernel_rfl)) (by kernel_rfl) (by kernel_rfl) (by kernel_rfl) (all_met os _)) ?_
  intro W base args ds p g hval hA
  rw [Tryz.params5] at hA hval
  obtain ⟨v0, d0, rfl, rfl, h0⟩ := trodAll_one hA
  obtain ⟨l0, hn0⟩ := open_nodes (hval 0 _ v0 rfl rfl) h0
  exact ShowAll_ret l0 v0 W g hn0
set_option maxHeartbeats 4000000 in
theorem showAll_closed : joinedFacts Tryz.pinned.checked.prog 5 Tryz.f5 Rows.showAllSpec Rows.showAllRow = true := by
  have h1 : Tryz.pinned.checked.prog.mayEnter = true := mayE
  have h2 : (Tryz.pinned.checked.prog.make == some Rows.showAllRow.make) = true := makeE
  have h3 : (Rows.showAllRow.lifted == Tryz.pinned.checked.prog.liftsFinal) = true := liftedE
  unfold joinedFacts
  repeat' with_reducible apply andT
  any_goals with_reducible assumption
  all_goals as_aux_lemma => kernel_rfl
theorem showAll_goes : false = Rows.showAllRow.goesBy Tryz.pinned.checked.prog := by kernel_rfl
theorem showAll_named : Tryz.prog.funcNamed "chequer/chequerlaw6.ShowAll" = some 5 := by kernel_rfl

theorem showAll_holds : Rows.ShowAllSaid :=
  OpenClaim.holds_of_wide 5 Tryz.f5 rfl rfl rfl rfl rfl rfl rfl ⟨rfl, rfl, rfl, rfl, rfl⟩ rfl rfl rfl rfl rfl showAll_named Tryz.func5 showAll_closed
    (of_decide_eq_true (by kernel_rfl)) (by unfold Func.isWrapper; first | (rw [if_pos (by decide +kernel)]; kernel_rfl) | (rw [if_neg (by decide +kernel)]; exact ⟨rfl, rfl⟩))
    (fun os started H enc _ => showAll_lifted os started H enc)

theorem showAll_card : Rows.ShowAllCardSaid :=
  Claim7.holds_tied_plain_at .later [] Rows.showAllCard.laidKinds true Rows.showAllCard.stood.harness true
    showAll_holds (fun _ h => by cases h) (by kernel_rfl) (fun _ h => by cases h) showAll_row_tie rfl ⟨rfl, rfl⟩ mainE rfl
    (fun f fn hf hfn => by
      obtain rfl : f = 5 := Option.some.inj (showAll_named.symm.trans hf) |>.symm
      obtain rfl : fn = Tryz.f5 := (Option.some.inj (Tryz.func5.symm.trans hfn)).symm
      exact ⟨looksE, fun j t ht => by
        rw [Tryz.params5] at ht
        have ht := List.mem_of_getElem? (by simpa using ht)
        simp at ht
        rcases ht with rfl
        · exact (show Tryz.prog.wantsStandIn 23 = false by kernel_rfl)⟩)
    showAll_goes
#print axioms showAll_card
end Go.Proofs.YtiloogjageledaaGreatDoor
