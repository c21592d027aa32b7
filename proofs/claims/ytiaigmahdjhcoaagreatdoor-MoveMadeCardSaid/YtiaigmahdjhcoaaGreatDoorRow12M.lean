/-
 MoveMade holds for every call that the row describes.
-/
import Derived.Test.YtiaigmahdjhcoaaGreatDoorPkK
import Derived.Test.YtiaigmahdjhcoaaGreatDoorPkF
import Derived.Test.YtiaigmahdjhcoaaGreatDoorOpenC
import Derived.Test.YtiaigmahdjhcoaaGreatDoorLaw12M
import Derived.Test.YtiaigmahdjhcoaaGreatDoorCards
namespace Go.Proofs.YtiaigmahdjhcoaaGreatDoor
open Go Go.E Go.ChangeShapes Go.WideShapes Go.ChangeAt Go.RowKit Go.Joins Go.ChangeMaps

set_option maxRecDepth 100000 in
theorem moveMade_lifted (os : Os) (started : os.Started) (H : Type) (enc : TypeId × Value → H) :
  ReturnsInHanded {} Tryz.checked os 7 .any (fun w args => (Rows.moveMadeSpec.pre enc Tryz.prog Tryz.f7 [] false w args ∧ laidMetH Tryz.prog laidL w) ∧ sizedMet enc Tryz.prog Tryz.f7 (OpenSpec.ofChange Rows.moveMadeSpec) false w args)
   (Rows.moveMadeSpec.post enc Tryz.prog Tryz.f7 false true false false) := by
 refine law_lifted started (by kernel_rfl) Tryz.func7 rfl (by
   intro t ht
   rw [Tryz.params7] at ht
   simp at ht
   rcases ht with rfl | rfl <;> exact ⟨by kernel_rfl, of_decide_eq_true (by kernel_rfl)⟩) rfl (fun ds h => by
   match ds, h with
   | [d0, d1, d2], _ => rfl)
  (ChangeSpec.witness_shaped (enc := enc) (C := Tryz.checked) (os := os) (X := fun w _ => laidMetH Tryz.prog laidL w) false (World.laidAll Tryz.prog os laidL) #[.slice none 0 0, .slice none 0 0, .int .u8 0] 8 (World.laidAll_os _ _ _) (World.shaped_of_ZipB (by kernel_rfl) (by kernel_rfl)) (by kernel_rfl) (by kernel_rfl) (by kernel_rfl) (all_met os _)) ?_
 intro W base args ds p g hval hA
 rw [Tryz.params7] at hA hval
 obtain ⟨v0, v1, v2, d0, d1, d2, p0, p1, p2, rfl, rfl, rfl, h0, h1, h2⟩ := trodAll_three hA
 obtain ⟨z0, hin0, hz0⟩ := open_ins1 Tryz.underlying22 Tryz.underlying5 (by kernel_rfl) (hval 0 _ v0 rfl rfl) h0
 have hzb0 : ∀ z ∈ z0, 0 ≤ z ∧ z ≤ 255 := fun z hz => by
  have := hz0 z hz
  simp only [Lit.wf, Bool.and_eq_true, decide_eq_true_eq] at this
  exact this
 obtain ⟨z1, hin1, hz1, p1, c1, rfl, hcap⟩ := open_insC Tryz.underlying22 Tryz.underlying5 (by kernel_rfl) (hval 1 _ v1 rfl rfl) h1
 have hzb1 : ∀ z ∈ z1, 0 ≤ z ∧ z ≤ 255 := fun z hz => by
  have := hz1 z hz
  simp only [Lit.wf, Bool.and_eq_true, decide_eq_true_eq] at this
  exact this
 obtain ⟨n2, rfl, -, -, hn2⟩ := open_int Tryz.underlying5 (hval 2 _ v2 rfl rfl) h2
 simp only [Lit.wf, Bool.and_eq_true, decide_eq_true_eq] at hn2
 have kl2 : IntKind.u8.min = 0 := rfl
 have kh2 : IntKind.u8.max = 255 := rfl
 obtain ⟨hl2, hh2⟩ := hn2
 exact MoveMade_ret z0 z1 v0 p1 c1 n2 W g hin0 hzb0 hin1 hcap hzb1 (by omega) (by omega)
set_option maxHeartbeats 4000000 in
theorem moveMade_closed : joinedFacts Tryz.pinned.checked.prog 7 Tryz.f7 Rows.moveMadeSpec Rows.moveMadeRow = true := by
 have h1 : Tryz.pinned.checked.prog.mayEnter = true := mayE
 have h2 : (Tryz.pinned.checked.prog.make == some Rows.moveMadeRow.make) = true := makeE
 have h3 : (Rows.moveMadeRow.lifted == Tryz.pinned.checked.prog.liftsFinal) = true := liftedE
 unfold joinedFacts
 repeat' with_reducible apply andT
 any_goals with_reducible assumption
 all_goals as_aux_lemma => kernel_rfl
theorem moveMade_goes : false = Rows.moveMadeRow.goesBy Tryz.pinned.checked.prog := by kernel_rfl
theorem moveMade_named : Tryz.prog.funcNamed "chequer/chequerlaw12.MoveMade" = some 7 := by kernel_rfl

theorem moveMade_holds : Rows.MoveMadeSaid :=
 OpenClaim.holds_of_wide 7 Tryz.f7 rfl rfl rfl rfl rfl rfl rfl ⟨rfl, rfl, rfl, rfl, rfl⟩ rfl rfl rfl rfl rfl moveMade_named Tryz.func7 moveMade_closed
  (of_decide_eq_true (by kernel_rfl)) (by unfold Func.isWrapper; first | (rw [if_pos (by decide +kernel)]; kernel_rfl) | (rw [if_neg (by decide +kernel)]; exact ⟨rfl, rfl⟩))
  (fun os started H enc _ => moveMade_lifted os started H enc)

theorem moveMade_card : Rows.MoveMadeCardSaid :=
 Claim7.holds_tied_plain_at .later [] Rows.moveMadeCard.laidKinds true Rows.moveMadeCard.stood.harness true
  moveMade_holds (fun _ h => by cases h) (by kernel_rfl) (fun _ h => by cases h) moveMade_row_tie rfl ⟨rfl, rfl⟩ mainE rfl
  (fun f fn hf hfn => by
   obtain rfl : f = 7 := Option.some.inj (moveMade_named.symm.trans hf) |>.symm
   obtain rfl : fn = Tryz.f7 := (Option.some.inj (Tryz.func7.symm.trans hfn)).symm
   exact ⟨looksE, fun j t ht => by
    rw [Tryz.params7] at ht
    have ht := List.mem_of_getElem? (by simpa using ht)
    simp at ht
    rcases ht with rfl | rfl
    ·exact (show Tryz.prog.wantsStandIn 22 = false by kernel_rfl)
    ·exact (show Tryz.prog.wantsStandIn 5 = false by kernel_rfl)⟩)
  moveMade_goes
#print axioms moveMade_card
end Go.Proofs.YtiaigmahdjhcoaaGreatDoor
