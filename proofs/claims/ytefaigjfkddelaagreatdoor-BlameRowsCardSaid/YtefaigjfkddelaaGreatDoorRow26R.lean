/-
 BlameRows holds for every call that the row describes.
-/
import Derived.Test.YtefaigjfkddelaaGreatDoorRkN
import Derived.Test.YtefaigjfkddelaaGreatDoorRkF
import Derived.Test.YtefaigjfkddelaaGreatDoorRkS
import Derived.Test.YtefaigjfkddelaaGreatDoorCards
namespace Go.Proofs.YtefaigjfkddelaaGreatDoor
open Go Go.E Go.ChangeShapes Go.WideShapes Go.ChangeAt Go.RowKit Go.Joins Go.ChangeMaps

set_option maxRecDepth 100000 in
theorem blameRows_lifted (os : Os) (started : os.Started) (H : Type) (enc : TypeId × Value → H) :
  ReturnsInHanded {} Tryz.checked os 7 .any (λw args => (Rows.blameRowsSpec.pre enc Tryz.prog Tryz.f7 [] false w args ∧ laidMetH Tryz.prog Js w) ∧ sizedMet enc Tryz.prog Tryz.f7 (OpenSpec.ofChange Rows.blameRowsSpec) false w args)
   (Rows.blameRowsSpec.post enc Tryz.prog Tryz.f7 false true false false) := by
 refine Rr started (by kernel_rfl) Tryz.func7 rfl (by
   intro t ht
   rw [Tryz.params7] at ht
   simp at ht
   rcases ht with rfl <;> exact ⟨by kernel_rfl, of_decide_eq_true (by kernel_rfl)⟩) rfl (λds h => by
   match ds, h with
   | [d0, d1], _ => rfl)
  (ChangeSpec.witness_shaped (enc := enc) (C := Tryz.checked) (os := os) (X := λw _ => laidMetH Tryz.prog Js w) false (World.laidAll Tryz.prog os Js) #[.int .u8 0, .int .u8 0] 8 (World.laidAll_os _ _ _) (World.shaped_of_ZipB (by kernel_rfl) (by kernel_rfl)) (by kernel_rfl) (by kernel_rfl) (by kernel_rfl) (VI os _)) ?_
 intro W base args ds p g a0 hA
 rw [Tryz.params7] at hA a0
 obtain ⟨v0, v1, d0, d1, p0, p1, rfl, rfl, rfl, h0, h1⟩ := trodAll_two hA
 obtain ⟨n0, rfl, -, -, a1⟩ := open_int Tryz.underlying5 (a0 0 _ v0 rfl rfl) h0
 simp only [Lit.wf, Bool.and_eq_true, decide_eq_true_eq] at a1
 have kl0 : IntKind.u8.min = 0 := rfl
 have kh0 : IntKind.u8.max = 255 := rfl
 obtain ⟨a3, a4⟩ := a1
 obtain ⟨n1, rfl, -, -, a2⟩ := open_int Tryz.underlying5 (a0 1 _ v1 rfl rfl) h1
 simp only [Lit.wf, Bool.and_eq_true, decide_eq_true_eq] at a2
 have kl1 : IntKind.u8.min = 0 := rfl
 have kh1 : IntKind.u8.max = 255 := rfl
 obtain ⟨a5, a6⟩ := a2
 obtain ⟨k0, rfl⟩ : ∃ k : Nat, n0 = k := ⟨n0.toNat, by omega⟩
 obtain ⟨k1, rfl⟩ : ∃ k : Nat, n1 = k := ⟨n1.toNat, by omega⟩
 exact Nn k0 k1 W g (by omega) (by omega)
set_option maxHeartbeats 4000000 in
theorem blameRows_closed : joinedFacts Tryz.pinned.checked.prog 7 Tryz.f7 Rows.blameRowsSpec Rows.blameRowsRow = true := by
 have h1 : Tryz.pinned.checked.prog.mayEnter = true := XI
 have h2 : (Tryz.pinned.checked.prog.make == some Rows.blameRowsRow.make) = true := Xs
 have h3 : (Rows.blameRowsRow.lifted == Tryz.pinned.checked.prog.liftsFinal) = true := VZ
 unfold joinedFacts
 repeat' with_reducible apply XG
 any_goals with_reducible assumption
 all_goals as_aux_lemma => kernel_rfl
theorem blameRows_goes : false = Rows.blameRowsRow.goesBy Tryz.pinned.checked.prog := by kernel_rfl
theorem blameRows_named : Tryz.prog.funcNamed "chequer/chequerlaw26.BlameRows" = some 7 := by kernel_rfl

theorem blameRows_holds : Rows.BlameRowsSaid :=
 OpenClaim.holds_of_wide 7 Tryz.f7 rfl rfl rfl rfl rfl rfl rfl ⟨rfl, rfl, rfl, rfl, rfl⟩ rfl rfl rfl rfl rfl blameRows_named Tryz.func7 blameRows_closed
  (of_decide_eq_true (by kernel_rfl)) (by unfold Func.isWrapper; first | (rw [if_pos (by decide +kernel)]; kernel_rfl) | (rw [if_neg (by decide +kernel)]; exact ⟨rfl, rfl⟩))
  (λos started H enc _ => blameRows_lifted os started H enc)

theorem blameRows_card : Rows.BlameRowsCardSaid :=
 Claim7.holds_tied_plain_at .later [] Rows.blameRowsCard.laidKinds true Rows.blameRowsCard.stood.harness true
  blameRows_holds (λ_ h => by cases h) (by kernel_rfl) (λ_ h => by cases h) blameRows_row_tie rfl ⟨rfl, rfl⟩ Xr rfl
  (λf fn hf hfn => by
   obtain rfl : f = 7 := Option.some.inj (blameRows_named.symm.trans hf) |>.symm
   obtain rfl : fn = Tryz.f7 := (Option.some.inj (Tryz.func7.symm.trans hfn)).symm
   exact ⟨WM, λj t ht => by
    rw [Tryz.params7] at ht
    have ht := List.mem_of_getElem? (by simpa using ht)
    simp at ht
    rcases ht with rfl
    ·exact (show Tryz.prog.wantsStandIn 5 = false by kernel_rfl)⟩)
  blameRows_goes
#print axioms blameRows_card
end Go.Proofs.YtefaigjfkddelaaGreatDoor
