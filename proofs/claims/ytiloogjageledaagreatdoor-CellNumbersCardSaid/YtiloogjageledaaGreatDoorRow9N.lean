/-
  CellNumbers holds for every call that the row describes.
-/
import Derived.Test.YtiloogjageledaaGreatDoorClose7
import Derived.Test.YtiloogjageledaaGreatDoorFacts
import Derived.Test.YtiloogjageledaaGreatDoorOpen
import Derived.Test.YtiloogjageledaaGreatDoorLaw9N
import Derived.Test.YtiloogjageledaaGreatDoorCards
namespace Go.Proofs.YtiloogjageledaaGreatDoor
open Go Go.E Go.ChangeShapes Go.WideShapes Go.ChangeAt Go.RowKit Go.Joins Go.ChangeMaps

set_option maxRecDepth 100000 in
theorem cellNumbers_lifted (os : Os) (started : os.Started) (H : Type) (enc : TypeId × Value → H) :
    ReturnsInHanded {} Tryz.checked os 11 .any (fun w args => (Rows.cellNumbersSpec.pre enc Tryz.prog Tryz.f11 [] false w args ∧ laidMetH Tryz.prog laidL w) ∧ sizedMet enc Tryz.prog Tryz.f11 (OpenSpec.ofChange Rows.cellNumbersSpec) false w args)
      (Rows.cellNumbersSpec.post enc Tryz.prog Tryz.f11 false true false false) := by
  refine law_lifted started (by kernel_rfl) Tryz.func11 rfl (by
      intro t ht
      rw [Tryz.params11] at ht
      simp at ht
      rcases ht with rfl | rfl <;> exact ⟨by kernel_rfl, of_decide_eq_true (by kernel_rfl)⟩) rfl (fun ds h => by
      match ds, h with
      | [d0, d1], _ => rfl)
    (ChangeSpec.witness_shaped (enc := enc) (C := Tryz.checked) (os := os) (X := fun w _ => laidMetH Tryz.prog laidL w) false (World.laidAll Tryz.prog os laidL) #[.int .i64 0, .int .u8 0] 8 (World.laidAll_os _ _ _) (World.shaped_of_ZipB (by kernel_rfl) (by kernel_rfl)) (by kernel_rfl) (by kernel_rfl) (by kernel_rfl) (all_met os _)) ?_
  intro W base args ds p g hval hA
  rw [Tryz.params11] at hA hval
  obtain ⟨v0, v1, d0, d1, p0, p1, rfl, rfl, rfl, h0, h1⟩ := trodAll_two hA
  obtain ⟨n0, rfl, -, -, hn0⟩ := open_int Tryz.underlying2 (hval 0 _ v0 rfl rfl) h0
  simp only [Lit.wf, Bool.and_eq_true, decide_eq_true_eq] at hn0
  have kl0 : IntKind.i64.min = -9223372036854775808 := rfl
  have kh0 : IntKind.i64.max = 9223372036854775807 := rfl
  obtain ⟨hl0, hh0⟩ := hn0
  obtain ⟨n1, rfl, -, -, hn1⟩ := open_int Tryz.underlying5 (hval 1 _ v1 rfl rfl) h1
  simp only [Lit.wf, Bool.and_eq_true, decide_eq_true_eq] at hn1
  have kl1 : IntKind.u8.min = 0 := rfl
  have kh1 : IntKind.u8.max = 255 := rfl
  obtain ⟨hl1, hh1⟩ := hn1
  exact CellNumbers_ret n0 (by omega) (by omega) n1 (by omega) (by omega) W g
set_option maxHeartbeats 4000000 in
theorem cellNumbers_closed : joinedFacts Tryz.pinned.checked.prog 11 Tryz.f11 Rows.cellNumbersSpec Rows.cellNumbersRow = true := by
  have h1 : Tryz.pinned.checked.prog.mayEnter = true := mayE
  have h2 : (Tryz.pinned.checked.prog.make == some Rows.cellNumbersRow.make) = true := makeE
  have h3 : (Rows.cellNumbersRow.lifted == Tryz.pinned.checked.prog.liftsFinal) = true := liftedE
  unfold joinedFacts
  repeat' with_reducible apply andT
  any_goals with_reducible assumption
  all_goals as_aux_lemma => kernel_rfl
theorem cellNumbers_goes : false = Rows.cellNumbersRow.goesBy Tryz.pinned.checked.prog := by kernel_rfl
theorem cellNumbers_named : Tryz.prog.funcNamed "chequer/chequerlaw9.CellNumbers" = some 11 := by kernel_rfl

theorem cellNumbers_holds : Rows.CellNumbersSaid :=
  OpenClaim.holds_of_wide 11 Tryz.f11 rfl rfl rfl rfl rfl rfl rfl ⟨rfl, rfl, rfl, rfl, rfl⟩ rfl rfl rfl rfl rfl cellNumbers_named Tryz.func11 cellNumbers_closed
    (of_decide_eq_true (by kernel_rfl)) (by unfold Func.isWrapper; first | (rw [if_pos (by decide +kernel)]; kernel_rfl) | (rw [if_neg (by decide +kernel)]; exact ⟨rfl, rfl⟩))
    (fun os started H enc _ => cellNumbers_lifted os started H enc)

theorem cellNumbers_card : Rows.CellNumbersCardSaid :=
  Claim7.holds_tied_plain_at .later [] Rows.cellNumbersCard.laidKinds true Rows.cellNumbersCard.stood.harness true
    cellNumbers_holds (fun _ h => by cases h) (by kernel_rfl) (fun _ h => by cases h) cellNumbers_row_tie rfl ⟨rfl, rfl⟩ mainE rfl
    (fun f fn hf hfn => by
      obtain rfl : f = 11 := Option.some.inj (cellNumbers_named.symm.trans hf) |>.symm
      obtain rfl : fn = Tryz.f11 := (Option.some.inj (Tryz.func11.symm.trans hfn)).symm
      exact ⟨looksE, fun j t ht => by
        rw [Tryz.params11] at ht
        have ht := List.mem_of_getElem? (by simpa using ht)
        simp at ht
        rcases ht with rfl | rfl
        · exact (show Tryz.prog.wantsStandIn 2 = false by kernel_rfl)
        · exact (show Tryz.prog.wantsStandIn 5 = false by kernel_rfl)⟩)
    cellNumbers_goes
#print axioms cellNumbers_card
end Go.Proofs.YtiloogjageledaaGreatDoor
