/-
 ObjectAll holds for every call that the row describes.
-/
import Derived.Test.YtgdohpcnpgjpaaaGreatDoorPkN
import Derived.Test.YtgdohpcnpgjpaaaGreatDoorPkF
import Derived.Test.YtgdohpcnpgjpaaaGreatDoorPkP
import Derived.Test.YtgdohpcnpgjpaaaGreatDoorPkX
import Derived.Test.YtgdohpcnpgjpaaaGreatDoorCards
namespace Go.Proofs.YtgdohpcnpgjpaaaGreatDoor
open Go Go.E Go.ChangeShapes Go.WideShapes Go.ChangeAt Go.RowKit Go.Joins Go.ChangeMaps

set_option maxRecDepth 100000 in
theorem objectAll_lifted (os : Os) (started : os.Started) (H : Type) (enc : TypeId × Value → H) :
  ReturnsInHanded {} Tryz.checked os 3 .any (fun w args => (Rows.objectAllSpec.pre enc Tryz.prog Tryz.f3 [] false w args ∧ laidMetH Tryz.prog laidL w) ∧ sizedMet enc Tryz.prog Tryz.f3 (OpenSpec.ofChange Rows.objectAllSpec) false w args)
   (Rows.objectAllSpec.post enc Tryz.prog Tryz.f3 false true false false) := by
 refine law_lifted started (by kernel_rfl) Tryz.func3 rfl (by
   intro t ht
   rw [Tryz.params3] at ht
   simp at ht
   rcases ht with rfl | rfl <;> exact ⟨by kernel_rfl, of_decide_eq_true (by kernel_rfl)⟩) rfl (fun ds h => by
   match ds, h with
   | [d0, d1], _ => rfl)
  (ChangeSpec.witness_shaped (enc := enc) (C := Tryz.checked) (os := os) (X := fun w _ => laidMetH Tryz.prog laidL w) false (World.laidAll Tryz.prog os laidL) #[.agg ⟨objZ⟩, .slice none 0 0] 8 (World.laidAll_os _ _ _) (World.shaped_of_ZipB (by kernel_rfl) (by kernel_rfl)) (by kernel_rfl) (by kernel_rfl) (by kernel_rfl) (all_met os _)) ?_
 intro W base args ds p g hval hA
 rw [Tryz.params3] at hA hval
 obtain ⟨v0, v1, d0, d1, p0, p1, rfl, rfl, rfl, h0, h1⟩ := trodAll_two hA
 obtain ⟨cs0, o0, rfl, hO0⟩ := open_object (hval 0 _ v0 rfl rfl) h0
 obtain ⟨z1, hin1, hz1, p1, c1, rfl, hcap1⟩ := open_insC Tryz.underlying26 Tryz.underlying5 (by kernel_rfl) (hval 1 _ v1 rfl rfl) h1
 have hzb1 : ∀ z ∈ z1, 0 ≤ z ∧ z ≤ 255 := fun z hz => by
  have := hz1 z hz
  simp only [Lit.wf, Bool.and_eq_true, decide_eq_true_eq] at this
  exact this
 exact ObjectAll_ret o0 cs0 p1 z1.length c1 (toB z1) W g hO0 ⟨hin1.1, fun hl => ⟨by simp [toB], hcap1, ListR.map (BytesQ.bound (hin1.bytes hzb1 (by omega))) (fun a ha => ha.2) fun _ _ _ _ h => h⟩⟩
set_option maxHeartbeats 4000000 in
theorem objectAll_closed : joinedFacts Tryz.pinned.checked.prog 3 Tryz.f3 Rows.objectAllSpec Rows.objectAllRow = true := by
 have h1 : Tryz.pinned.checked.prog.mayEnter = true := mayE
 have h2 : (Tryz.pinned.checked.prog.make == some Rows.objectAllRow.make) = true := makeE
 have h3 : (Rows.objectAllRow.lifted == Tryz.pinned.checked.prog.liftsFinal) = true := liftedE
 unfold joinedFacts
 repeat' with_reducible apply andT
 any_goals with_reducible assumption
 all_goals as_aux_lemma => kernel_rfl
theorem objectAll_goes : false = Rows.objectAllRow.goesBy Tryz.pinned.checked.prog := by kernel_rfl
theorem objectAll_named : Tryz.prog.funcNamed "chequer/chequerlaw21.ObjectAll" = some 3 := by kernel_rfl

theorem objectAll_holds : Rows.ObjectAllSaid :=
 OpenClaim.holds_of_wide 3 Tryz.f3 rfl rfl rfl rfl rfl rfl rfl ⟨rfl, rfl, rfl, rfl, rfl⟩ rfl rfl rfl rfl rfl objectAll_named Tryz.func3 objectAll_closed
  (of_decide_eq_true (by kernel_rfl)) (by unfold Func.isWrapper; first | (rw [if_pos (by decide +kernel)]; kernel_rfl) | (rw [if_neg (by decide +kernel)]; exact ⟨rfl, rfl⟩))
  (fun os started H enc _ => objectAll_lifted os started H enc)

theorem objectAll_card : Rows.ObjectAllCardSaid :=
 Claim7.holds_tied_plain_at .later [] Rows.objectAllCard.laidKinds true Rows.objectAllCard.stood.harness true
  objectAll_holds (fun _ h => by cases h) (by kernel_rfl) (fun _ h => by cases h) objectAll_row_tie rfl ⟨rfl, rfl⟩ mainE rfl
  (fun f fn hf hfn => by
   obtain rfl : f = 3 := Option.some.inj (objectAll_named.symm.trans hf) |>.symm
   obtain rfl : fn = Tryz.f3 := (Option.some.inj (Tryz.func3.symm.trans hfn)).symm
   exact ⟨looksE, fun j t ht => by
    rw [Tryz.params3] at ht
    have ht := List.mem_of_getElem? (by simpa using ht)
    simp at ht
    rcases ht with rfl | rfl
    ·exact (show Tryz.prog.wantsStandIn 25 = false by kernel_rfl)
    ·exact (show Tryz.prog.wantsStandIn 26 = false by kernel_rfl)⟩)
  objectAll_goes
#print axioms objectAll_card
end Go.Proofs.YtgdohpcnpgjpaaaGreatDoor
