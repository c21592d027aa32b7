/-
 ObjectBounds holds for every call that the row describes.
-/
import Derived.Test.YtgdohpcnpgjpaaaGreatDoorPkN
import Derived.Test.YtgdohpcnpgjpaaaGreatDoorPkF
import Derived.Test.YtgdohpcnpgjpaaaGreatDoorPkY
import Derived.Test.YtgdohpcnpgjpaaaGreatDoorCards
namespace Go.Proofs.YtgdohpcnpgjpaaaGreatDoor
open Go Go.E Go.ChangeShapes Go.WideShapes Go.ChangeAt Go.RowKit Go.Joins Go.ChangeMaps

set_option maxRecDepth 100000 in
theorem objectBounds_lifted (os : Os) (started : os.Started) (H : Type) (enc : TypeId × Value → H) :
  ReturnsInHanded {} Tryz.checked os 5 .any (fun w args => (Rows.objectBoundsSpec.pre enc Tryz.prog Tryz.f5 [] false w args ∧ laidMetH Tryz.prog laidL w) ∧ sizedMet enc Tryz.prog Tryz.f5 (OpenSpec.ofChange Rows.objectBoundsSpec) false w args)
   (Rows.objectBoundsSpec.post enc Tryz.prog Tryz.f5 false true false false) := by
 refine law_lifted started (by kernel_rfl) Tryz.func5 rfl (by
   intro t ht
   rw [Tryz.params5] at ht
   simp at ht
   rcases ht with rfl | rfl <;> exact ⟨by kernel_rfl, of_decide_eq_true (by kernel_rfl)⟩) rfl (fun ds h => by
   match ds, h with
   | [d0, d1, d2], _ => rfl)
  (ChangeSpec.witness_shaped (enc := enc) (C := Tryz.checked) (os := os) (X := fun w _ => laidMetH Tryz.prog laidL w) false (World.laidAll Tryz.prog os laidL) #[.int .u8 0, .int .u8 0, .bool false] 8 (World.laidAll_os _ _ _) (World.shaped_of_ZipB (by kernel_rfl) (by kernel_rfl)) (by kernel_rfl) (by kernel_rfl) (by kernel_rfl) (all_met os _)) ?_
 intro W base args ds p g hval hA
 rw [Tryz.params5] at hA hval
 obtain ⟨v0, v1, v2, d0, d1, d2, p0, p1, p2, rfl, rfl, rfl, h0, h1, h2⟩ := trodAll_three hA
 obtain ⟨n0, rfl, -, -, hn0⟩ := open_int Tryz.underlying5 (hval 0 _ v0 rfl rfl) h0
 simp only [Lit.wf, Bool.and_eq_true, decide_eq_true_eq] at hn0
 have kl0 : IntKind.u8.min = 0 := rfl
 have kh0 : IntKind.u8.max = 255 := rfl
 obtain ⟨hl0, hh0⟩ := hn0
 obtain ⟨n1, rfl, -, -, hn1⟩ := open_int Tryz.underlying5 (hval 1 _ v1 rfl rfl) h1
 simp only [Lit.wf, Bool.and_eq_true, decide_eq_true_eq] at hn1
 have kl1 : IntKind.u8.min = 0 := rfl
 have kh1 : IntKind.u8.max = 255 := rfl
 obtain ⟨hl1, hh1⟩ := hn1
 obtain ⟨b2, rfl, -, -⟩ := open_bool Tryz.underlying4 (hval 2 _ v2 rfl rfl) h2
 obtain ⟨k0, rfl⟩ : ∃ k : Nat, n0 = k := ⟨n0.toNat, by omega⟩
 obtain ⟨k1, rfl⟩ : ∃ k : Nat, n1 = k := ⟨n1.toNat, by omega⟩
 exact ObjectBounds_ret k0 k1 b2 W g (by omega) (by omega)
set_option maxHeartbeats 4000000 in
theorem objectBounds_closed : joinedFacts Tryz.pinned.checked.prog 5 Tryz.f5 Rows.objectBoundsSpec Rows.objectBoundsRow = true := by
 have h1 : Tryz.pinned.checked.prog.mayEnter = true := mayE
 have h2 : (Tryz.pinned.checked.prog.make == some Rows.objectBoundsRow.make) = true := makeE
 have h3 : (Rows.objectBoundsRow.lifted == Tryz.pinned.checked.prog.liftsFinal) = true := liftedE
 unfold joinedFacts
 repeat' with_reducible apply andT
 any_goals with_reducible assumption
 all_goals as_aux_lemma => kernel_rfl
theorem objectBounds_goes : false = Rows.objectBoundsRow.goesBy Tryz.pinned.checked.prog := by kernel_rfl
theorem objectBounds_named : Tryz.prog.funcNamed "chequer/chequerlaw21.ObjectBounds" = some 5 := by kernel_rfl

theorem objectBounds_holds : Rows.ObjectBoundsSaid :=
 OpenClaim.holds_of_wide 5 Tryz.f5 rfl rfl rfl rfl rfl rfl rfl ⟨rfl, rfl, rfl, rfl, rfl⟩ rfl rfl rfl rfl rfl objectBounds_named Tryz.func5 objectBounds_closed
  (of_decide_eq_true (by kernel_rfl)) (by unfold Func.isWrapper; first | (rw [if_pos (by decide +kernel)]; kernel_rfl) | (rw [if_neg (by decide +kernel)]; exact ⟨rfl, rfl⟩))
  (fun os started H enc _ => objectBounds_lifted os started H enc)

theorem objectBounds_card : Rows.ObjectBoundsCardSaid :=
 Claim7.holds_tied_plain_at .later [] Rows.objectBoundsCard.laidKinds true Rows.objectBoundsCard.stood.harness true
  objectBounds_holds (fun _ h => by cases h) (by kernel_rfl) (fun _ h => by cases h) objectBounds_row_tie rfl ⟨rfl, rfl⟩ mainE rfl
  (fun f fn hf hfn => by
   obtain rfl : f = 5 := Option.some.inj (objectBounds_named.symm.trans hf) |>.symm
   obtain rfl : fn = Tryz.f5 := (Option.some.inj (Tryz.func5.symm.trans hfn)).symm
   exact ⟨looksE, fun j t ht => by
    rw [Tryz.params5] at ht
    have ht := List.mem_of_getElem? (by simpa using ht)
    simp at ht
    rcases ht with rfl | rfl
    ·exact (show Tryz.prog.wantsStandIn 5 = false by kernel_rfl)
    ·exact (show Tryz.prog.wantsStandIn 4 = false by kernel_rfl)⟩)
  objectBounds_goes
#print axioms objectBounds_card
end Go.Proofs.YtgdohpcnpgjpaaaGreatDoor
