/-
 BlameCells holds for every call that the row describes.
-/
import Derived.Test.YtefaigjfkddelaaGreatDoorCkN
import Derived.Test.YtefaigjfkddelaaGreatDoorCkF
import Derived.Test.YtefaigjfkddelaaGreatDoorCkS
import Derived.Test.YtefaigjfkddelaaGreatDoorCards
namespace Go.Proofs.YtefaigjfkddelaaGreatDoor
open Go Go.E Go.ChangeShapes Go.WideShapes Go.ChangeAt Go.RowKit Go.Joins Go.ChangeMaps

set_option maxRecDepth 100000 in
theorem blameCells_lifted (os : Os) (started : os.Started) (H : Type) (enc : TypeId × Value → H) :
  ReturnsInHanded {} Tryz.checked os 6 .any (λw args => (Rows.blameCellsSpec.pre enc Tryz.prog Tryz.f6 [] false w args ∧ laidMetH Tryz.prog HG w) ∧ sizedMet enc Tryz.prog Tryz.f6 (OpenSpec.ofChange Rows.blameCellsSpec) false w args)
   (Rows.blameCellsSpec.post enc Tryz.prog Tryz.f6 false true false false) := by
 refine OV started (by kernel_rfl) Tryz.func6 rfl (by
   intro t ht
   rw [Tryz.params6] at ht
   simp at ht
   rcases ht with rfl <;> exact ⟨by kernel_rfl, of_decide_eq_true (by kernel_rfl)⟩) rfl (λds h => by
   match ds, h with
   | [d0], _ => rfl)
  (ChangeSpec.witness_shaped (enc := enc) (C := Tryz.checked) (os := os) (X := λw _ => laidMetH Tryz.prog HG w) false (World.laidAll Tryz.prog os HG) #[.slice none 0 0] 8 (World.laidAll_os _ _ _) (World.shaped_of_ZipB (by kernel_rfl) (by kernel_rfl)) (by kernel_rfl) (by kernel_rfl) (by kernel_rfl) (Ua os _)) ?_
 intro W base args ds p g a0 hA
 rw [Tryz.params6] at hA a0
 obtain ⟨v0, d0, rfl, rfl, h0⟩ := trodAll_one hA
 obtain ⟨z0, a1, a3⟩ := Rw Tryz.underlying36 Tryz.underlying5 (by kernel_rfl) (a0 0 _ v0 rfl rfl) h0
 have a2 : ∀ z ∈ z0, 0 ≤ z ∧ z ≤ 255 := λz hz => by
  have := a3 z hz
  simp only [Lit.wf, Bool.and_eq_true, decide_eq_true_eq] at this
  exact this
 exact J2 z0 v0 W g a1 a2
set_option maxHeartbeats 4000000 in
theorem blameCells_closed : joinedFacts Tryz.pinned.checked.prog 6 Tryz.f6 Rows.blameCellsSpec Rows.blameCellsRow = true := by
 have h1 : Tryz.pinned.checked.prog.mayEnter = true := Wp
 have h2 : (Tryz.pinned.checked.prog.make == some Rows.blameCellsRow.make) = true := VI
 have h3 : (Rows.blameCellsRow.lifted == Tryz.pinned.checked.prog.liftsFinal) = true := Uv
 unfold joinedFacts
 repeat' with_reducible apply Wk
 any_goals with_reducible assumption
 all_goals as_aux_lemma => kernel_rfl
theorem blameCells_goes : false = Rows.blameCellsRow.goesBy Tryz.pinned.checked.prog := by kernel_rfl
theorem blameCells_named : Tryz.prog.funcNamed "chequer/chequerlaw26.BlameCells" = some 6 := by kernel_rfl

theorem blameCells_holds : Rows.BlameCellsSaid :=
 OpenClaim.holds_of_wide 6 Tryz.f6 rfl rfl rfl rfl rfl rfl rfl ⟨rfl, rfl, rfl, rfl, rfl⟩ rfl rfl rfl rfl rfl blameCells_named Tryz.func6 blameCells_closed
  (of_decide_eq_true (by kernel_rfl)) (by unfold Func.isWrapper; first | (rw [if_pos (by decide +kernel)]; kernel_rfl) | (rw [if_neg (by decide +kernel)]; exact ⟨rfl, rfl⟩))
  (λos started H enc _ => blameCells_lifted os started H enc)

theorem blameCells_card : Rows.BlameCellsCardSaid :=
 Claim7.holds_tied_plain_at .later [] Rows.blameCellsCard.laidKinds true Rows.blameCellsCard.stood.harness true
  blameCells_holds (λ_ h => by cases h) (by kernel_rfl) (λ_ h => by cases h) blameCells_row_tie rfl ⟨rfl, rfl⟩ VH rfl
  (λf fn hf hfn => by
   obtain rfl : f = 6 := Option.some.inj (blameCells_named.symm.trans hf) |>.symm
   obtain rfl : fn = Tryz.f6 := (Option.some.inj (Tryz.func6.symm.trans hfn)).symm
   exact ⟨Vq, λj t ht => by
    rw [Tryz.params6] at ht
    have ht := List.mem_of_getElem? (by simpa using ht)
    simp at ht
    rcases ht with rfl
    ·exact (show Tryz.prog.wantsStandIn 36 = false by kernel_rfl)⟩)
  blameCells_goes
#print axioms blameCells_card
end Go.Proofs.YtefaigjfkddelaaGreatDoor
