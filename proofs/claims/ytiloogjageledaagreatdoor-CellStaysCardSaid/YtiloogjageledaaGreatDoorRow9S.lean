/-
  CellStays holds for every call that the row describes.
-/
import Derived.Test.YtiloogjageledaaGreatDoorClose7
import Derived.Test.YtiloogjageledaaGreatDoorFacts
import Derived.Test.YtiloogjageledaaGreatDoorOpen
import Derived.Test.YtiloogjageledaaGreatDoorLaw9S
import Derived.Test.YtiloogjageledaaGreatDoorCards
namespace Go.Proofs.YtiloogjageledaaGreatDoor
open Go Go.E Go.ChangeShapes Go.WideShapes Go.ChangeAt Go.RowKit Go.Joins Go.ChangeMaps

set_option maxRecDepth 100000 in
theorem cellStays_lifted (os : Os) (started : os.Started) (H : Type) (enc : TypeId × Value → H) :
    ReturnsInHanded {} Tryz.checked os 10 .any (fun w args => (Rows.cellStaysSpec.pre enc Tryz.prog Tryz.f10 [] false w args ∧ laidMetH Tryz.prog laidL w) ∧ sizedMet enc Tryz.prog Tryz.f10 (OpenSpec.ofChange Rows.cellStaysSpec) false w args)
      (Rows.cellStaysSpec.post enc Tryz.prog Tryz.f10 false true false false) := by
  refine law_lifted started (by kernel_rfl) Tryz.func10 rfl (by
      intro t ht
      rw [Tryz.params10] at ht
      simp at ht
      rcases ht with rfl <;> exact ⟨by kernel_rfl, of_decide_eq_true (by kernel_rfl)⟩) rfl (fun ds h => by
      match ds, h with
      | [d0], _ => rfl)
    (ChangeSpec.witness_shaped (enc := enc) (C := Tryz.checked) (os := os) (X := fun w _ => laidMetH Tryz.prog laidL w) false (World.laidAll Tryz.prog os laidL) #[str []] 8 (World.laidAll_os _ _ _) (World.shaped_of_ZipB (by kernel_rfl) (by kernel_rfl)) (by kernel_rfl) (by kernel_rfl) (by kernel_rfl) (all_met os _)) ?_
  intro W base args ds p g hval hA
  rw [Tryz.params10] at hA hval
  obtain ⟨v0, d0, rfl, rfl, h0⟩ := trodAll_one hA
  obtain ⟨s0, rfl, -, -, hs0⟩ := open_string Tryz.underlying9 (hval 0 _ v0 rfl rfl) h0
  exact CellStays_ret s0.data.toList (bsize_le hs0) W g
set_option maxHeartbeats 4000000 in
theorem cellStays_closed : joinedFacts Tryz.pinned.checked.prog 10 Tryz.f10 Rows.cellStaysSpec Rows.cellStaysRow = true := by
  have h1 : Tryz.pinned.checked.prog.mayEnter = true := mayE
  have h2 : (Tryz.pinned.checked.prog.make == some Rows.cellStaysRow.make) = true := makeE
  have h3 : (Rows.cellStaysRow.lifted == Tryz.pinned.checked.prog.liftsFinal) = true := liftedE
  unfold joinedFacts
  repeat' with_reducible apply andT
  any_goals with_reducible assumption
  all_goals as_aux_lemma => kernel_rfl
theorem cellStays_goes : false = Rows.cellStaysRow.goesBy Tryz.pinned.checked.prog := by kernel_rfl
theorem cellStays_named : Tryz.prog.funcNamed "chequer/chequerlaw9.CellStays" = some 10 := by kernel_rfl

theorem cellStays_holds : Rows.CellStaysSaid :=
  OpenClaim.holds_of_wide 10 Tryz.f10 rfl rfl rfl rfl rfl rfl rfl ⟨rfl, rfl, rfl, rfl, rfl⟩ rfl rfl rfl rfl rfl cellStays_named Tryz.func10 cellStays_closed
    (of_decide_eq_true (by kernel_rfl)) (by unfold Func.isWrapper; first | (rw [if_pos (by decide +kernel)]; kernel_rfl) | (rw [if_neg (by decide +kernel)]; exact ⟨rfl, rfl⟩))
    (fun os started H enc _ => cellStays_lifted os started H enc)

theorem cellStays_card : Rows.CellStaysCardSaid :=
  Claim7.holds_tied_plain_at .later [] Rows.cellStaysCard.laidKinds true Rows.cellStaysCard.stood.harness true
    cellStays_holds (fun _ h => by cases h) (by kernel_rfl) (fun _ h => by cases h) cellStays_row_tie rfl ⟨rfl, rfl⟩ mainE rfl
    (fun f fn hf hfn => by
      obtain rfl : f = 10 := Option.some.inj (cellStays_named.symm.trans hf) |>.symm
      obtain rfl : fn = Tryz.f10 := (Option.some.inj (Tryz.func10.symm.trans hfn)).symm
      exact ⟨looksE, fun j t ht => by
        rw [Tryz.params10] at ht
        have ht := List.mem_of_getElem? (by simpa using ht)
        simp at ht
        rcases ht with rfl
        · exact (show Tryz.prog.wantsStandIn 9 = false by kernel_rfl)⟩)
    cellStays_goes
#print axioms cellStays_card
end Go.Proofs.YtiloogjageledaaGreatDoor
