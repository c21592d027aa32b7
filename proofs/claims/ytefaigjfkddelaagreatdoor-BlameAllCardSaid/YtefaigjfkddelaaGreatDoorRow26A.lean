/-
  BlameAll holds for every call that the row describes.
-/
import Derived.Test.YtefaigjfkddelaaGreatDoorPkN
import Derived.Test.YtefaigjfkddelaaGreatDoorPkF
import Derived.Test.YtefaigjfkddelaaGreatDoorPkJ
import Derived.Test.YtefaigjfkddelaaGreatDoorPkP
import Derived.Test.YtefaigjfkddelaaGreatDoorCards
namespace Go.Proofs.YtefaigjfkddelaaGreatDoor
open Go Go.E Go.ChangeShapes Go.WideShapes Go.ChangeAt Go.RowKit Go.Joins Go.ChangeMaps

set_option maxRecDepth 100000 in
theorem blameAll_lifted (os : Os) (started : os.Started) (H : Type) (enc : TypeId × Value → H) :
    ReturnsInHanded {} Tryz.checked os 3 .any (λw args => (Rows.blameAllSpec.pre enc Tryz.prog Tryz.f3 [] false w args ∧ laidMetH Tryz.prog N9 w) ∧ sizedMet enc Tryz.prog Tryz.f3 (OpenSpec.ofChange Rows.blameAllSpec) false w args)
      (Rows.blameAllSpec.post enc Tryz.prog Tryz.f3 false true false false) := by
  refine WF started (by kernel_rfl) Tryz.func3 rfl (by
      intro t ht
      rw [Tryz.params3] at ht
      simp at ht
      rcases ht with rfl | rfl <;> exact ⟨by kernel_rfl, of_decide_eq_true (by kernel_rfl)⟩) rfl (λds h => by
      match ds, h with
      | [d0, d1], _ => rfl)
    (ChangeSpec.witness_shaped (enc := enc) (C := Tryz.checked) (os := os) (X := λw _ => laidMetH Tryz.prog N9 w) false (World.laidAll Tryz.prog os N9) #[.slice none 0 0, .string ⟨#[]⟩] 8 (World.laidAll_os _ _ _) (World.shaped_of_ZipB (by kernel_rfl) (by kernel_rfl)) (by kernel_rfl) (by kernel_rfl) (by kernel_rfl) (X2 os _)) ?_
  intro W base args ds p g a0 hA
  rw [Tryz.params3] at hA a0
  obtain ⟨v0, v1, d0, d1, p0, p1, rfl, rfl, rfl, h0, h1⟩ := trodAll_two hA
  obtain ⟨l0, a2, a1⟩ := WY (a0 0 _ v0 rfl rfl) h0
  obtain ⟨s1, rfl, -, -, a3⟩ := open_string Tryz.underlying9 (a0 1 _ v1 rfl rfl) h1
  exact V8 l0 v0 s1.data.toList W g a2 a1
set_option maxHeartbeats 4000000 in
theorem blameAll_closed : joinedFacts Tryz.pinned.checked.prog 3 Tryz.f3 Rows.blameAllSpec Rows.blameAllRow = true := by
  have h1 : Tryz.pinned.checked.prog.mayEnter = true := Yj
  have h2 : (Tryz.pinned.checked.prog.make == some Rows.blameAllRow.make) = true := XT
  have h3 : (Rows.blameAllRow.lifted == Tryz.pinned.checked.prog.liftsFinal) = true := X4
  unfold joinedFacts
  repeat' with_reducible apply Yi
  any_goals with_reducible assumption
  all_goals as_aux_lemma => kernel_rfl
theorem blameAll_goes : false = Rows.blameAllRow.goesBy Tryz.pinned.checked.prog := by kernel_rfl
theorem blameAll_named : Tryz.prog.funcNamed "chequer/chequerlaw26.BlameAll" = some 3 := by kernel_rfl

theorem blameAll_holds : Rows.BlameAllSaid :=
  OpenClaim.holds_of_wide 3 Tryz.f3 rfl rfl rfl rfl rfl rfl rfl ⟨rfl, rfl, rfl, rfl, rfl⟩ rfl rfl rfl rfl rfl blameAll_named Tryz.func3 blameAll_closed
    (of_decide_eq_true (by kernel_rfl)) (by unfold Func.isWrapper; first | (rw [if_pos (by decide +kernel)]; kernel_rfl) | (rw [if_neg (by decide +kernel)]; exact ⟨rfl, rfl⟩))
    (λos started H enc _ => blameAll_lifted os started H enc)

theorem blameAll_card : Rows.BlameAllCardSaid :=
  Claim7.holds_tied_plain_at .later [] Rows.blameAllCard.laidKinds true Rows.blameAllCard.stood.harness true
    blameAll_holds (λ_ h => by cases h) (by kernel_rfl) (λ_ h => by cases h) blameAll_row_tie rfl ⟨rfl, rfl⟩ XS rfl
    (λf fn hf hfn => by
      obtain rfl : f = 3 := Option.some.inj (blameAll_named.symm.trans hf) |>.symm
      obtain rfl : fn = Tryz.f3 := (Option.some.inj (Tryz.func3.symm.trans hfn)).symm
      exact ⟨XF, λj t ht => by
        rw [Tryz.params3] at ht
        have ht := List.mem_of_getElem? (by simpa using ht)
        simp at ht
        rcases ht with rfl | rfl
        · exact (show Tryz.prog.wantsStandIn 22 = false by kernel_rfl)
        · exact (show Tryz.prog.wantsStandIn 9 = false by kernel_rfl)⟩)
    blameAll_goes
#print axioms blameAll_card
end Go.Proofs.YtefaigjfkddelaaGreatDoor
