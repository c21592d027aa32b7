/-
  ShowLeast holds for every call that the row describes.
-/
import Derived.Test.YtiloogjageledaaGreatDoorClose7
import Derived.Test.YtiloogjageledaaGreatDoorFacts
import Derived.Test.YtiloogjageledaaGreatDoorOpen
import Derived.Test.YtiloogjageledaaGreatDoorOpenS
import Derived.Test.YtiloogjageledaaGreatDoorLaw6L
import Derived.Test.YtiloogjageledaaGreatDoorCards
namespace Go.Proofs.YtiloogjageledaaGreatDoor
open Go Go.E Go.ChangeShapes Go.WideShapes Go.ChangeAt Go.RowKit Go.Joins Go.ChangeMaps

set_option maxRecDepth 100000 in
theorem showLeast_lifted (os : Os) (started : os.Started) (H : Type) (enc : TypeId × Value → H) :
    ReturnsInHanded {} Tryz.checked os 8 .any (fun w args => (Rows.showLeastSpec.pre enc Tryz.prog Tryz.f8 [] false w args ∧ laidMetH Tryz.prog laidL w) ∧ sizedMet enc Tryz.prog Tryz.f8 (OpenSpec.ofChange Rows.showLeastSpec) false w args)
      (Rows.showLeastSpec.post enc Tryz.prog Tryz.f8 false true false false) := by
  refine law_lifted started (by kernel_rfl) Tryz.func8 rfl (by
      intro t ht
      rw [Tryz.params8] at ht
      simp at ht
      rcases ht with rfl | rfl <;> exact ⟨by kernel_rfl, of_decide_eq_true (by kernel_rfl)⟩) rfl (fun ds h => by
      match ds, h with
      | [d0, d1], _ => rfl)
    (ChangeSpec.witness_shaped (enc := enc) (C := Tryz.checked) (os := os) (X := fun w _ => laidMetH Tryz.prog laidL w) false (World.laidAll Tryz.prog os laidL) #[.slice none 0 0, .int .u8 0] 8 (World.laidAll_os _ _ _) (World.shaped_of_ZipB (by kernel_rfl) (by kernel_rfl)) (by kernel_rfl) (by kernel_rfl) (by kernel_rfl) (all_met os _)) ?_
  intro W base args ds p g hval hA
  rw [Tryz.params8] at hA hval
  obtain ⟨v0, v1, d0, d1, p0, p1, rfl, rfl, rfl, h0, h1⟩ := trodAll_two hA
  obtain ⟨z0, hin0, hz0⟩ := open_ins Tryz.underlying40 Tryz.underlying5 (by kernel_rfl) (hval 0 _ v0 rfl rfl) h0
  have hzb0 : ∀ z ∈ z0, 0 ≤ z ∧ z ≤ 255 := fun z hz => by
    have := hz0 z hz
    simp only [Lit.wf, Bool.and_eq_true, decide_eq_true_eq] at this
    exact this
  obtain ⟨n1, rfl, -, -, hn1⟩ := open_int Tryz.underlying5 (hval 1 _ v1 rfl rfl) h1
  simp only [Lit.wf, Bool.and_eq_true, decide_eq_true_eq] at hn1
  have kl1 : IntKind.u8.min = 0 := rfl
  have kh1 : IntKind.u8.max = 255 := rfl
  obtain ⟨hl1, hh1⟩ := hn1
  exact ShowLeast_ret z0 v0 n1 (by omega) (by omega) W g hin0 hzb0
set_option maxHeartbeats 4000000 in
theorem showLeast_closed : joinedFacts Tryz.pinned.checked.prog 8 Tryz.f8 Rows.showLeastSpec Rows.showLeastRow = true := by
  have h1 : Tryz.pinned.checked.prog.mayEnter = true := mayE
  have h2 : (Tryz.pinned.checked.prog.make == some Rows.showLeastRow.make) = true := makeE
  have h3 : (Rows.showLeastRow.lifted == Tryz.pinned.checked.prog.liftsFinal) = true := liftedE
  unfold joinedFacts
  repeat' with_reducible apply andT
  any_goals with_reducible assumption
  all_goals as_aux_lemma => kernel_rfl
theorem showLeast_goes : false = Rows.showLeastRow.goesBy Tryz.pinned.checked.prog := by kernel_rfl
theorem showLeast_named : Tryz.prog.funcNamed "chequer/chequerlaw6.ShowLeast" = some 8 := by kernel_rfl

theorem showLeast_holds : Rows.ShowLeastSaid :=
  OpenClaim.holds_of_wide 8 Tryz.f8 rfl rfl rfl rfl rfl rfl rfl ⟨rfl, rfl, rfl, rfl, rfl⟩ rfl rfl rfl rfl rfl showLeast_named Tryz.func8 showLeast_closed
    (of_decide_eq_true (by kernel_rfl)) (by unfold Func.isWrapper; first | (rw [if_pos (by decide +kernel)]; kernel_rfl) | (rw [if_neg (by decide +kernel)]; exact ⟨rfl, rfl⟩))
    (fun os started H enc _ => showLeast_lifted os started H enc)

theorem showLeast_card : Rows.ShowLeastCardSaid :=
  Claim7.holds_tied_plain_at .later [] Rows.showLeastCard.laidKinds true Rows.showLeastCard.stood.harness true
    showLeast_holds (fun _ h => by cases h) (by kernel_rfl) (fun _ h => by cases h) showLeast_row_tie rfl ⟨rfl, rfl⟩ mainE rfl
    (fun f fn hf hfn => by
      obtain rfl : f = 8 := Option.some.inj (showLeast_named.symm.trans hf) |>.symm
      obtain rfl : fn = Tryz.f8 := (Option.some.inj (Tryz.func8.symm.trans hfn)).symm
      exact ⟨looksE, fun j t ht => by
        rw [Tryz.params8] at ht
        have ht := List.mem_of_getElem? (by simpa using ht)
        simp at ht
        rcases ht with rfl | rfl
        · exact (show Tryz.prog.wantsStandIn 40 = false by kernel_rfl)
        · exact (show Tryz.prog.wantsStandIn 5 = false by kernel_rfl)⟩)
    showLeast_goes
#print axioms showLeast_card
end Go.Proofs.YtiloogjageledaaGreatDoor
