/-
 MergeAny holds for every call that the row describes.
-/
import Derived.Test.YtcjjcnecopnpcaaGreatDoorMyN
import Derived.Test.YtcjjcnecopnpcaaGreatDoorMyF
import Derived.Test.YtcjjcnecopnpcaaGreatDoorMyJ
import Derived.Test.YtcjjcnecopnpcaaGreatDoorMyY
import Derived.Test.YtcjjcnecopnpcaaGreatDoorCards
namespace Go.Proofs.YtcjjcnecopnpcaaGreatDoor
open Go Go.E Go.ChangeShapes Go.WideShapes Go.ChangeAt Go.RowKit Go.Joins Go.ChangeMaps

set_option maxRecDepth 100000 in
theorem mergeAny_lifted(os : Os)(started : os.Started)(H : Type)(enc : TypeId × Value → H) :
  ReturnsInHanded {} Tryz.checked os 6 .any (λw args => (Rows.mergeAnySpec.pre enc Tryz.prog Tryz.f6 [] false w args ∧ laidMetH Tryz.prog Kt w) ∧ sizedMet enc Tryz.prog Tryz.f6 (OpenSpec.ofChange Rows.mergeAnySpec) false w args)
   (Rows.mergeAnySpec.post enc Tryz.prog Tryz.f6 false true false false) := by
 refine TV started Aec Tryz.func6 rfl (by
   intro t ht
   rw[Tryz.params6] at ht
   simp at ht
   rcases ht with rfl <;> exact⟨by kernel_rfl, of_decide_eq_true Aec⟩) rfl (λds h => by
   match ds, h with
   | [d0, d1], _ => rfl)
  (ChangeSpec.witness_shaped (enc := enc) (C := Tryz.checked) (os := os) (X := λw _ => laidMetH Tryz.prog Kt w) false (World.laidAll Tryz.prog os Kt) #[.agg ⟨[.slice none 0 0]⟩, .agg ⟨[.slice none 0 0]⟩] 8 (World.laidAll_os _ _ _) (World.shaped_of_ZipB Aec Aec) Aec Aec Aec (Ze os _)) ?_
 intro W base args ds p g a0 hA
 rw[Tryz.params6] at hA a0
 obtain⟨v0, v1, d0, d1, p0, p1, rfl, rfl, rfl, h0, h1⟩ := trodAll_two hA
 obtain⟨u0, k0, rfl, a1⟩ := Po (a0 0 _ v0 rfl rfl) h0
 obtain⟨u1, k1, rfl, a2⟩ := Po (a0 1 _ v1 rfl rfl) h1
 exact PM k0 k1 u0 u1 W g a1 a2
set_option maxHeartbeats 4000000 in
theorem mergeAny_closed : joinedFacts Tryz.pinned.checked.prog 6 Tryz.f6 Rows.mergeAnySpec Rows.mergeAnyRow = true := by
 have h1 : Tryz.pinned.checked.prog.mayEnter = true := Abq
 have h2 : (Tryz.pinned.checked.prog.make == some Rows.mergeAnyRow.make) = true := AaR
 have h3 : (Rows.mergeAnyRow.lifted == Tryz.pinned.checked.prog.liftsFinal) = true := Zv
 unfold joinedFacts
 repeat' with_reducible apply Abl
 any_goals with_reducible assumption
 all_goals as_aux_lemma => kernel_rfl
theorem mergeAny_goes : false = Rows.mergeAnyRow.goesBy Tryz.pinned.checked.prog := by kernel_rfl
theorem mergeAny_named : Tryz.prog.funcNamed "chequer/chequerlaw20.MergeAny" = some 6 := by kernel_rfl

theorem mergeAny_holds : Rows.MergeAnySaid :=
 OpenClaim.holds_of_wide 6 Tryz.f6 rfl rfl rfl rfl rfl rfl rfl ⟨rfl, rfl, rfl, rfl, rfl⟩ rfl rfl rfl rfl rfl mergeAny_named Tryz.func6 mergeAny_closed
  (of_decide_eq_true Aec) (by unfold Func.isWrapper; first | (rw[if_pos AeI]; kernel_rfl) | (rw[if_neg AeI]; exact⟨rfl, rfl⟩))
  (λos started H enc _ => mergeAny_lifted os started H enc)

theorem mergeAny_card : Rows.MergeAnyCardSaid :=
 Claim7.holds_tied_plain_at .later [] Rows.mergeAnyCard.laidKinds true Rows.mergeAnyCard.stood.harness true
  mergeAny_holds (λ_ h => by cases h) Aec (λ_ h => by cases h) mergeAny_row_tie rfl ⟨rfl, rfl⟩ AaQ rfl
  (λf fn hf hfn => by
   obtain rfl : f = 6 := Ab9 (mergeAny_named.symm.trans hf) |>.symm
   obtain rfl : fn = Tryz.f6 := (Ab9 (Tryz.func6.symm.trans hfn)).symm
   exact⟨Aas, λj t ht => by
    rw[Tryz.params6] at ht
    have ht := Ab4 (by simpa using ht)
    simp at ht
    rcases ht with rfl
    ·exact(show Tryz.prog.wantsStandIn 24 = false by kernel_rfl)⟩)
  mergeAny_goes
#print axioms mergeAny_card
end Go.Proofs.YtcjjcnecopnpcaaGreatDoor
