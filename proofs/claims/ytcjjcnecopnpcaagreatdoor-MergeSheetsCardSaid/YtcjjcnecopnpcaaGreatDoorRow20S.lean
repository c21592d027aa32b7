/-
 MergeSheets holds for every call that the row describes.
-/
import Derived.Test.YtcjjcnecopnpcaaGreatDoorMxN
import Derived.Test.YtcjjcnecopnpcaaGreatDoorMxF
import Derived.Test.YtcjjcnecopnpcaaGreatDoorMxW
import Derived.Test.YtcjjcnecopnpcaaGreatDoorCards
namespace Go.Proofs.YtcjjcnecopnpcaaGreatDoor
open Go Go.E Go.ChangeShapes Go.WideShapes Go.ChangeAt Go.RowKit Go.Joins Go.ChangeMaps

set_option maxRecDepth 100000 in
theorem mergeSheets_lifted(os : Os)(started : os.Started)(H : Type)(enc : TypeId × Value → H) :
  ReturnsInHanded {} Tryz.checked os 10 .any (λw args => (Rows.mergeSheetsSpec.pre enc Tryz.prog Tryz.f10 [] false w args ∧ laidMetH Tryz.prog H3 w) ∧ sizedMet enc Tryz.prog Tryz.f10 (OpenSpec.ofChange Rows.mergeSheetsSpec) false w args)
   (Rows.mergeSheetsSpec.post enc Tryz.prog Tryz.f10 false true false false) := by
 refine MH started AdF Tryz.func10 rfl (by
   intro t ht
   rw[Tryz.params10] at ht
   simp at ht
   rcases ht with rfl | rfl <;> exact⟨by kernel_rfl, of_decide_eq_true AdF⟩) rfl (λds h => by
   match ds, h with
   | [d0, d1, d2, d3], _ => rfl)
  (ChangeSpec.witness_shaped (enc := enc) (C := Tryz.checked) (os := os) (X := λw _ => laidMetH Tryz.prog H3 w) false (World.laidAll Tryz.prog os H3) #[.bool false, .bool false, .bool false, .int .u8 0] 8 (World.laidAll_os _ _ _) (World.shaped_of_ZipB AdF AdF) AdF AdF AdF (TZ os _)) ?_
 intro W base args ds p g a0 hA
 rw[Tryz.params10] at hA a0
 obtain⟨v0, d0, p0, v1, d1, p1, v2, d2, p2, v3, d3, p3, rfl, rfl, h0, h1, h2, h3⟩ := Zn hA
 obtain⟨b0, rfl, -, -⟩ := open_bool Tryz.underlying4 (a0 0 _ v0 rfl rfl) h0
 obtain⟨b1, rfl, -, -⟩ := open_bool Tryz.underlying4 (a0 1 _ v1 rfl rfl) h1
 obtain⟨b2, rfl, -, -⟩ := open_bool Tryz.underlying4 (a0 2 _ v2 rfl rfl) h2
 obtain⟨n3, rfl, -, -, a1⟩ := open_int Tryz.underlying5 (a0 3 _ v3 rfl rfl) h3
 simp only[Lit.wf, AaY, decide_eq_true_eq] at a1
 have kl3 : IntKind.u8.min = 0 := rfl
 have kh3 : IntKind.u8.max = 255 := rfl
 obtain⟨a2, a3⟩ := a1
 obtain⟨k3, rfl⟩ : ∃ k : Nat, n3 = k := ⟨n3.toNat, by omega⟩
 exact LM b0 b1 b2 k3 W g AdE
set_option maxHeartbeats 4000000 in
theorem mergeSheets_closed : joinedFacts Tryz.pinned.checked.prog 10 Tryz.f10 Rows.mergeSheetsSpec Rows.mergeSheetsRow = true := by
 have h1 : Tryz.pinned.checked.prog.mayEnter = true := Aa7
 have h2 : (Tryz.pinned.checked.prog.make == some Rows.mergeSheetsRow.make) = true := ZB
 have h3 : (Rows.mergeSheetsRow.lifted == Tryz.pinned.checked.prog.liftsFinal) = true := Us
 unfold joinedFacts
 repeat' with_reducible apply Aa0
 any_goals with_reducible assumption
 all_goals as_aux_lemma => kernel_rfl
theorem mergeSheets_goes : false = Rows.mergeSheetsRow.goesBy Tryz.pinned.checked.prog := by kernel_rfl
theorem mergeSheets_named : Tryz.prog.funcNamed "chequer/chequerlaw20.MergeSheets" = some 10 := by kernel_rfl

theorem mergeSheets_holds : Rows.MergeSheetsSaid :=
 OpenClaim.holds_of_wide 10 Tryz.f10 rfl rfl rfl rfl rfl rfl rfl ⟨rfl, rfl, rfl, rfl, rfl⟩ rfl rfl rfl rfl rfl mergeSheets_named Tryz.func10 mergeSheets_closed
  (of_decide_eq_true AdF) (by unfold Func.isWrapper; first | (rw[if_pos Aee]; kernel_rfl) | (rw[if_neg Aee]; exact⟨rfl, rfl⟩))
  (λos started H enc _ => mergeSheets_lifted os started H enc)

theorem mergeSheets_card : Rows.MergeSheetsCardSaid :=
 Claim7.holds_tied_plain_at .later [] Rows.mergeSheetsCard.laidKinds true Rows.mergeSheetsCard.stood.harness true
  mergeSheets_holds (λ_ h => by cases h) AdF (λ_ h => by cases h) mergeSheets_row_tie rfl ⟨rfl, rfl⟩ ZA rfl
  (λf fn hf hfn => by
   obtain rfl : f = 10 := Abm (mergeSheets_named.symm.trans hf) |>.symm
   obtain rfl : fn = Tryz.f10 := (Abm (Tryz.func10.symm.trans hfn)).symm
   exact⟨X3, λj t ht => by
    rw[Tryz.params10] at ht
    have ht := Abn (by simpa using ht)
    simp at ht
    rcases ht with rfl | rfl
    ·exact(show Tryz.prog.wantsStandIn 4 = false by kernel_rfl)
    ·exact(show Tryz.prog.wantsStandIn 5 = false by kernel_rfl)⟩)
  mergeSheets_goes
#print axioms mergeSheets_card
end Go.Proofs.YtcjjcnecopnpcaaGreatDoor
