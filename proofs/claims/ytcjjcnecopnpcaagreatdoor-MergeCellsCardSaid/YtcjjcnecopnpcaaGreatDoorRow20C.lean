/-
 MergeCells holds for every call that the row describes.
-/
import Derived.Test.YtcjjcnecopnpcaaGreatDoorMxN
import Derived.Test.YtcjjcnecopnpcaaGreatDoorMxF
import Derived.Test.YtcjjcnecopnpcaaGreatDoorMxU
import Derived.Test.YtcjjcnecopnpcaaGreatDoorCards
namespace Go.Proofs.YtcjjcnecopnpcaaGreatDoor
open Go Go.E Go.ChangeShapes Go.WideShapes Go.ChangeAt Go.RowKit Go.Joins Go.ChangeMaps

set_option maxRecDepth 100000 in
theorem mergeCells_lifted(os : Os)(started : os.Started)(H : Type)(enc : TypeId × Value → H) :
  ReturnsInHanded {} Tryz.checked os 7 .any (λw args => (Rows.mergeCellsSpec.pre enc Tryz.prog Tryz.f7 [] false w args ∧ laidMetH Tryz.prog H3 w) ∧ sizedMet enc Tryz.prog Tryz.f7 (OpenSpec.ofChange Rows.mergeCellsSpec) false w args)
   (Rows.mergeCellsSpec.post enc Tryz.prog Tryz.f7 false true false false) := by
 refine MH started AdF Tryz.func7 rfl (by
   intro t ht
   rw[Tryz.params7] at ht
   simp at ht
   rcases ht with rfl <;> exact⟨by kernel_rfl, of_decide_eq_true AdF⟩) rfl (λds h => by
   match ds, h with
   | [d0, d1, d2], _ => rfl)
  (ChangeSpec.witness_shaped (enc := enc) (C := Tryz.checked) (os := os) (X := λw _ => laidMetH Tryz.prog H3 w) false (World.laidAll Tryz.prog os H3) #[.slice none 0 0, .slice none 0 0, .slice none 0 0] 8 (World.laidAll_os _ _ _) (World.shaped_of_ZipB AdF AdF) AdF AdF AdF (TZ os _)) ?_
 intro W base args ds p g a0 hA
 rw[Tryz.params7] at hA a0
 obtain⟨v0, v1, v2, d0, d1, d2, p0, p1, p2, rfl, rfl, rfl, h0, h1, h2⟩ := trodAll_three hA
 obtain⟨z0, a1, aa, p0, c0, rfl, a7⟩ := KO Tryz.underlying38 Tryz.underlying5 AdF (a0 0 _ v0 rfl rfl) h0
 have a2 : ∀ z ∈ z0, 0 ≤ z ∧ z ≤ 255 := λz hz => by
  have := aa z hz
  simp only[Lit.wf, AaY, decide_eq_true_eq] at this
  exact this
 obtain⟨z1, a3, ab, p1, c1, rfl, a8⟩ := KO Tryz.underlying38 Tryz.underlying5 AdF (a0 1 _ v1 rfl rfl) h1
 have a4 : ∀ z ∈ z1, 0 ≤ z ∧ z ≤ 255 := λz hz => by
  have := ab z hz
  simp only[Lit.wf, AaY, decide_eq_true_eq] at this
  exact this
 obtain⟨z2, a5, ac, p2, c2, rfl, a9⟩ := KO Tryz.underlying38 Tryz.underlying5 AdF (a0 2 _ v2 rfl rfl) h2
 have a6 : ∀ z ∈ z2, 0 ≤ z ∧ z ≤ 255 := λz hz => by
  have := ac z hz
  simp only[Lit.wf, AaY, decide_eq_true_eq] at this
  exact this
 exact Ml z0 z1 z2 p0 p1 p2 c0 c1 c2 W g a1 a3 a5 a2 a4 a6
set_option maxHeartbeats 4000000 in
theorem mergeCells_closed : joinedFacts Tryz.pinned.checked.prog 7 Tryz.f7 Rows.mergeCellsSpec Rows.mergeCellsRow = true := by
 have h1 : Tryz.pinned.checked.prog.mayEnter = true := Aa7
 have h2 : (Tryz.pinned.checked.prog.make == some Rows.mergeCellsRow.make) = true := ZB
 have h3 : (Rows.mergeCellsRow.lifted == Tryz.pinned.checked.prog.liftsFinal) = true := Us
 unfold joinedFacts
 repeat' with_reducible apply Aa0
 any_goals with_reducible assumption
 all_goals as_aux_lemma => kernel_rfl
theorem mergeCells_goes : false = Rows.mergeCellsRow.goesBy Tryz.pinned.checked.prog := by kernel_rfl
theorem mergeCells_named : Tryz.prog.funcNamed "chequer/chequerlaw20.MergeCells" = some 7 := by kernel_rfl

theorem mergeCells_holds : Rows.MergeCellsSaid :=
 OpenClaim.holds_of_wide 7 Tryz.f7 rfl rfl rfl rfl rfl rfl rfl ⟨rfl, rfl, rfl, rfl, rfl⟩ rfl rfl rfl rfl rfl mergeCells_named Tryz.func7 mergeCells_closed
  (of_decide_eq_true AdF) (by unfold Func.isWrapper; first | (rw[if_pos Aee]; kernel_rfl) | (rw[if_neg Aee]; exact⟨rfl, rfl⟩))
  (λos started H enc _ => mergeCells_lifted os started H enc)

theorem mergeCells_card : Rows.MergeCellsCardSaid :=
 Claim7.holds_tied_plain_at .later [] Rows.mergeCellsCard.laidKinds true Rows.mergeCellsCard.stood.harness true
  mergeCells_holds (λ_ h => by cases h) AdF (λ_ h => by cases h) mergeCells_row_tie rfl ⟨rfl, rfl⟩ ZA rfl
  (λf fn hf hfn => by
   obtain rfl : f = 7 := Abm (mergeCells_named.symm.trans hf) |>.symm
   obtain rfl : fn = Tryz.f7 := (Abm (Tryz.func7.symm.trans hfn)).symm
   exact⟨X3, λj t ht => by
    rw[Tryz.params7] at ht
    have ht := Abn (by simpa using ht)
    simp at ht
    rcases ht with rfl
    ·exact(show Tryz.prog.wantsStandIn 38 = false by kernel_rfl)⟩)
  mergeCells_goes
#print axioms mergeCells_card
end Go.Proofs.YtcjjcnecopnpcaaGreatDoor
