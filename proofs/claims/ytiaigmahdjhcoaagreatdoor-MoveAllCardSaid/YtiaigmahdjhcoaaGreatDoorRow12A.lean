/-
 MoveAll holds for every call that the row describes.
-/
import Derived.Test.YtiaigmahdjhcoaaGreatDoorPkI
import Derived.Test.YtiaigmahdjhcoaaGreatDoorPkF
import Derived.Test.YtiaigmahdjhcoaaGreatDoorLaw12A
import Derived.Test.YtiaigmahdjhcoaaGreatDoorCards
namespace Go.Proofs.YtiaigmahdjhcoaaGreatDoor
open Go Go.E Go.ChangeShapes Go.WideShapes Go.ChangeAt Go.RowKit Go.Joins Go.ChangeMaps

set_option maxRecDepth 100000 in
theorem moveAll_lifted (os : Os) (started : os.Started) (H : Type) (enc : TypeId × Value → H) :
  ReturnsInHanded {} Tryz.checked os 6 .any (fun w args => (Rows.moveAllSpec.pre enc Tryz.prog Tryz.f6 [] false w args ∧ laidMetH Tryz.prog laidL w) ∧ sizedMet enc Tryz.prog Tryz.f6 (OpenSpec.ofChange Rows.moveAllSpec) false w args)
   (Rows.moveAllSpec.post enc Tryz.prog Tryz.f6 false true false false) := by
 refine law_lifted started (by kernel_rfl) Tryz.func6 rfl (by
   intro t ht
   rw [Tryz.params6] at ht
   simp at ht
   rcases ht with rfl | rfl | rfl <;> exact ⟨by kernel_rfl, of_decide_eq_true (by kernel_rfl)⟩) rfl (fun ds h => by
   match ds, h with
   | [d0, d1, d2, d3], _ => rfl)
  (ChangeSpec.witness_shaped (enc := enc) (C := Tryz.checked) (os := os) (X := fun w _ => laidMetH Tryz.prog laidL w) false (World.laidAll Tryz.prog os laidL) #[.slice none 0 0, str [], str [], .slice none 0 0] 8 (World.laidAll_os _ _ _) (World.shaped_of_ZipB (by kernel_rfl) (by kernel_rfl)) (by kernel_rfl) (by kernel_rfl) (by kernel_rfl) (all_met os _)) ?_
 intro W base args ds p g hval hA
 rw [Tryz.params6] at hA hval
 obtain ⟨v0, d0, p0, v1, d1, p1, v2, d2, p2, v3, d3, p3, rfl, rfl, h0, h1, h2, h3⟩ := rowOf_4 hA
 obtain ⟨l0, hn0⟩ := open_nodes (hval 0 _ v0 rfl rfl) h0
 obtain ⟨s1, rfl, -, -, hs1⟩ := open_string Tryz.underlying9 (hval 1 _ v1 rfl rfl) h1
 obtain ⟨s2, rfl, -, -, hs2⟩ := open_string Tryz.underlying9 (hval 2 _ v2 rfl rfl) h2
 obtain ⟨l3, hn3⟩ := open_shifts (hval 3 _ v3 rfl rfl) h3
 exact MoveAll_ret l0 v0 s1.data.toList s2.data.toList l3 v3 (bsize_le hs1) W g hn0 hn3
set_option maxHeartbeats 4000000 in
theorem moveAll_closed : joinedFacts Tryz.pinned.checked.prog 6 Tryz.f6 Rows.moveAllSpec Rows.moveAllRow = true := by
 have h1 : Tryz.pinned.checked.prog.mayEnter = true := mayE
 have h2 : (Tryz.pinned.checked.prog.make == some Rows.moveAllRow.make) = true := makeE
 have h3 : (Rows.moveAllRow.lifted == Tryz.pinned.checked.prog.liftsFinal) = true := liftedE
 unfold joinedFacts
 repeat' with_reducible apply andT
 any_goals with_reducible assumption
 all_goals as_aux_lemma => kernel_rfl
theorem moveAll_goes : false = Rows.moveAllRow.goesBy Tryz.pinned.checked.prog := by kernel_rfl
theorem moveAll_named : Tryz.prog.funcNamed "chequer/chequerlaw12.MoveAll" = some 6 := by kernel_rfl

theorem moveAll_holds : Rows.MoveAllSaid :=
 OpenClaim.holds_of_wide 6 Tryz.f6 rfl rfl rfl rfl rfl rfl rfl ⟨rfl, rfl, rfl, rfl, rfl⟩ rfl rfl rfl rfl rfl moveAll_named Tryz.func6 moveAll_closed
  (of_decide_eq_true (by kernel_rfl)) (by unfold Func.isWrapper; first | (rw [if_pos (by decide +kernel)]; kernel_rfl) | (rw [if_neg (by decide +kernel)]; exact ⟨rfl, rfl⟩))
  (fun os started H enc _ => moveAll_lifted os started H enc)

theorem moveAll_card : Rows.MoveAllCardSaid :=
 Claim7.holds_tied_plain_at .later [] Rows.moveAllCard.laidKinds true Rows.moveAllCard.stood.harness true
  moveAll_holds (fun _ h => by cases h) (by kernel_rfl) (fun _ h => by cases h) moveAll_row_tie rfl ⟨rfl, rfl⟩ mainE rfl
  (fun f fn hf hfn => by
   obtain rfl : f = 6 := Option.some.inj (moveAll_named.symm.trans hf) |>.symm
   obtain rfl : fn = Tryz.f6 := (Option.some.inj (Tryz.func6.symm.trans hfn)).symm
   exact ⟨looksE, fun j t ht => by
    rw [Tryz.params6] at ht
    have ht := List.mem_of_getElem? (by simpa using ht)
    simp at ht
    rcases ht with rfl | rfl | rfl
    ·exact (show Tryz.prog.wantsStandIn 50 = false by kernel_rfl)
    ·exact (show Tryz.prog.wantsStandIn 9 = false by kernel_rfl)
    ·exact (show Tryz.prog.wantsStandIn 51 = false by kernel_rfl)⟩)
  moveAll_goes
#print axioms moveAll_card
end Go.Proofs.YtiaigmahdjhcoaaGreatDoor
