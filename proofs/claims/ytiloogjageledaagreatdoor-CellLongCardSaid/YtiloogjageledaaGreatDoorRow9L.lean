/-
  CellLong holds for every call that the row describes.
-/
import Derived.Test.YtiloogjageledaaGreatDoorClose7
import Derived.Test.YtiloogjageledaaGreatDoorFacts
import Derived.Test.YtiloogjageledaaGreatDoorOpen
import Derived.Test.YtiloogjageledaaGreatDoorLaw9L
import Derived.Test.YtiloogjageledaaGreatDoorCards
namespace Go.Proofs.YtiloogjageledaaGreatDoor
open Go Go.E Go.ChangeShapes Go.WideShapes Go.ChangeAt Go.RowKit Go.Joins Go.ChangeMaps

set_option maxRecDepth 100000 in
theorem cellLong_lifted (os : Os) (started : os.Started) (H : Type) (enc : TypeId × Value → H) :
    ReturnsInHanded {} Tryz.checked os 9 .any (fun w args => (Rows.cellLongSpec.pre enc Tryz.prog Tryz.f9 [] false w args ∧ laidMetH Tryz.prog laidL w) ∧ sizedMet enc Tryz.prog Tryz.f9 (OpenSpec.ofChange Rows.cellLongSpec) false w args)
      (Rows.cellLongSpec.post enc Tryz.prog Tryz.f9 false true false false) := by
  refine law_lifted started (by kernel_rfl) Tryz.func9 rfl (by
      intro t ht
      rw [Tryz.params9] at ht
      simp at ht
      rcases ht with rfl <;> exact ⟨by kernel_rfl, of_decide_eq_true (by kernel_rfl)⟩) rfl (fun ds h => by
      match ds, h with
      | [d0], _ => rfl)
    (ChangeSpec.witness_shaped (enc := enc) (C := Tryz.checked) (os := os) (X := fun w _ => laidMetH Tryz.prog laidL w) false (World.laidAll Tryz.prog os laidL) #[.int .u8 0] 8 (World.laidAll_os _ _ _) (World.shaped_of_ZipB (by kernel_rfl) (by kernel_rfl)) (by kernel_rfl) (by kernel_rfl) (by kernel_rfl) (all_met os _)) ?_
  intro W base args ds p g hval hA
  rw [Tryz.params9] at hA hval
  obtain ⟨v0, d0, rfl, rfl, h0⟩ := trodAll_one hA
  obtain ⟨n0, rfl, -, -, hn0⟩ := open_int Tryz.underlying5 (hval 0 _ v0 rfl rfl) h0
  simp only [Lit.wf, Bool.and_eq_true, decide_eq_true_eq] at hn0
  have kl0 : IntKind.u8.min = 0 := rfl
  have kh0 : IntKind.u8.max = 255 := rfl
  obtain ⟨hl0, hh0⟩ := hn0
  exact CellLong_ret n0 (by omega) (by omega) W g
set_option maxHeartbeats 4000000 in
theorem cellLong_closed : joinedFacts Tryz.pinned.checked.prog 9 Tryz.f9 Rows.cellLongSpec Rows.cellLongRow = true := by
  have h1 : Tryz.pinned.checked.prog.mayEnter = true := mayE
  have h2 : (Tryz.pinned.checked.prog.make == some Rows.cellLongRow.make) = true := makeE
  have h3 : (Rows.cellLongRow.lifted == Tryz.pinned.checked.prog.liftsFinal) = true := liftedE
  unfold joinedFacts
  repeat' with_reducible apply andT
  any_goals with_reducible assumption
  all_goals as_aux_lemma => kernel_rfl
theorem cellLong_goes : false = Rows.cellLongRow.goesBy Tryz.pinned.checked.prog := by kernel_rfl
theorem cellLong_named : Tryz.prog.funcNamed "chequer/chequerlaw9.CellLong" = some 9 := by kernel_rfl

theorem cellLong_holds : Rows.CellLongSaid :=
  OpenClaim.holds_of_wide 9 Tryz.f9 rfl rfl rfl rfl rfl rfl rfl ⟨rfl, rfl, rfl, rfl, rfl⟩ rfl rfl rfl rfl rfl cellLong_named Tryz.func9 cellLong_closed
    (of_decide_eq_true (by kernel_rfl)) (by unfold Func.isWrapper; first | (rw [if_pos (by decide +kernel)]; kernel_rfl) | (rw [if_neg (by decide +kernel)]; exact ⟨rfl, rfl⟩))
    (fun os started H enc _ => cellLong_lifted os started H enc)

theorem cellLong_card : Rows.CellLongCardSaid :=
  Claim7.holds_tied_plain_at .later [] Rows.cellLongCard.laidKinds true Rows.cellLongCard.stood.harness true
    cellLong_holds (fun _ h => by cases h) (by kernel_rfl) (fun _ h => by cases h) cellLong_row_tie rfl ⟨rfl, rfl⟩ mainE rfl
    (fun f fn hf hfn => by
      obtain rfl : f = 9 := Option.some.inj (cellLong_named.symm.trans hf) |>.symm
      obtain rfl : fn = Tryz.f9 := (Option.some.inj (Tryz.func9.symm.trans hfn)).symm
      exact ⟨looksE, fun j t ht => by
        rw [Tryz.params9] at ht
        have ht := List.mem_of_getElem? (by simpa using ht)
        simp at ht
        rcases ht with rfl
        · exact (show Tryz.prog.wantsStandIn 5 = false by kernel_rfl)⟩)
    cellLong_goes
#print axioms cellLong_card
end Go.Proofs.YtiloogjageledaaGreatDoor
