/-
  ParseTrees holds for every call that the row describes.
-/
import Derived.Test.YtiloogjageledaaGreatDoorClose
import Derived.Test.YtiloogjageledaaGreatDoorFacts
import Derived.Test.YtiloogjageledaaGreatDoorOpen
import Derived.Test.YtiloogjageledaaGreatDoorOpenN
import Derived.Test.YtiloogjageledaaGreatDoorLaw5T
import Derived.Test.YtiloogjageledaaGreatDoorCards
namespace Go.Proofs.YtiloogjageledaaGreatDoor
open Go Go.E Go.ChangeShapes Go.WideShapes Go.ChangeAt Go.RowKit Go.Joins Go.ChangeMaps

set_option maxRecDepth 100000 in
theorem parseTrees_lifted (os : Os) (started : os.Started) (H : Type) (enc : TypeId × Value → H) :
    ReturnsInHanded {} Tryz.checked os 4 .any (fun w args => (Rows.parseTreesSpec.pre enc Tryz.prog Tryz.f4 [] false w args ∧ laidMetH Tryz.prog laidL w) ∧ sizedMet enc Tryz.prog Tryz.f4 (OpenSpec.ofChange Rows.parseTreesSpec) false w args)
      (Rows.parseTreesSpec.post enc Tryz.prog Tryz.f4 false true false false) := by
  refine law_lifted started (by kernel_rfl) Tryz.func4 rfl (by
      intro t ht
      rw [Tryz.params4] at ht
      simp at ht
      rcases ht with rfl <;> exact ⟨by kernel_rfl, of_decide_eq_true (by kernel_rfl)⟩) rfl (fun ds h => by
      match ds, h with
      | [d0], _ => rfl)
    (ChangeSpec.witness_shaped (enc := enc) (C := Tryz.checked) (os := os) (X := fun w _ => laidMetH Tryz.prog laidL w) false (World.doorLaid Tryz.prog 62 os) #[.slice none 0 0] 8 rfl (World.shaped_of_RefB (by kernel_rfl) (by kernel_rfl)) (by kernel_rfl) (by kernel_rfl) (by kernel_rfl) (door_met os _)) ?_
  intro W base args ds p g hval hA
  rw [Tryz.params4] at hA hval
  obtain ⟨v0, d0, rfl, rfl, h0⟩ := trodAll_one hA
  obtain ⟨l0, hn0⟩ := open_nodes (hval 0 _ v0 rfl rfl) h0
  exact ParseTrees_ret l0 v0 W g hn0
set_option maxHeartbeats 4000000 in
theorem parseTrees_closed : joinedFacts Tryz.pinned.checked.prog 4 Tryz.f4 Rows.parseTreesSpec Rows.parseTreesRow = true := by
  have h1 : Tryz.pinned.checked.prog.mayEnter = true := mayE
  have h2 : (Tryz.pinned.checked.prog.make == some Rows.parseTreesRow.make) = true := makeE
  have h3 : (Rows.parseTreesRow.lifted == Tryz.pinned.checked.prog.liftsFinal) = true := liftedE
  unfold joinedFacts
  repeat' with_reducible apply andT
  any_goals with_reducible assumption
  all_goals as_aux_lemma => kernel_rfl
theorem parseTrees_goes : false = Rows.parseTreesRow.goesBy Tryz.pinned.checked.prog := by kernel_rfl
theorem parseTrees_named : Tryz.prog.funcNamed "chequer/chequerlaw5.ParseTrees" = some 4 := by kernel_rfl

theorem parseTrees_holds : Rows.ParseTreesSaid :=
  OpenClaim.holds_of_wide 4 Tryz.f4 rfl rfl rfl rfl rfl rfl rfl ⟨rfl, rfl, rfl, rfl, rfl⟩ rfl rfl rfl rfl rfl parseTrees_named Tryz.func4 parseTrees_closed
    (of_decide_eq_true (by kernel_rfl)) (by unfold Func.isWrapper; first | (rw [if_pos (by decide +kernel)]; kernel_rfl) | (rw [if_neg (by decide +kernel)]; exact ⟨rfl, rfl⟩))
    (fun os started H enc _ => parseTrees_lifted os started H enc)

theorem parseTrees_card : Rows.ParseTreesCardSaid :=
  Claim7.holds_tied_plain_at .later [] Rows.parseTreesCard.laidKinds true Rows.parseTreesCard.stood.harness true
    parseTrees_holds (fun _ h => by cases h) (by kernel_rfl) (fun _ h => by cases h) parseTrees_row_tie rfl ⟨rfl, rfl⟩ mainE rfl
    (fun f fn hf hfn => by
      obtain rfl : f = 4 := Option.some.inj (parseTrees_named.symm.trans hf) |>.symm
      obtain rfl : fn = Tryz.f4 := (Option.some.inj (Tryz.func4.symm.trans hfn)).symm
      exact ⟨looksE, fun j t ht => by
        rw [Tryz.params4] at ht
        have ht := List.mem_of_getElem? (by simpa using ht)
        simp at ht
        rcases ht with rfl
        · exact (show Tryz.prog.wantsStandIn 23 = false by kernel_rfl)⟩)
    parseTrees_goes
#print axioms parseTrees_card
end Go.Proofs.YtiloogjageledaaGreatDoor
