/-
 MergeGone holds for every call that the row describes.
-/
import Derived.Test.YtcjjcnecopnpcaaGreatDoorMzN
import Derived.Test.YtcjjcnecopnpcaaGreatDoorMzF
import Derived.Test.YtcjjcnecopnpcaaGreatDoorMzW
import Derived.Test.YtcjjcnecopnpcaaGreatDoorCards
namespace Go.Proofs.YtcjjcnecopnpcaaGreatDoor
open Go Go.E Go.ChangeShapes Go.WideShapes Go.ChangeAt Go.RowKit Go.Joins Go.ChangeMaps

set_option maxRecDepth 100000 in
theorem mergeGone_lifted(os : Os)(started : os.Started)(H : Type)(enc : TypeId × Value → H) :
  ReturnsInHanded {} Tryz.checked os 9 .any (λw args => (Rows.mergeGoneSpec.pre enc Tryz.prog Tryz.f9 [] false w args ∧ laidMetH Tryz.prog E2 w) ∧ sizedMet enc Tryz.prog Tryz.f9 (OpenSpec.ofChange Rows.mergeGoneSpec) false w args)
   (Rows.mergeGoneSpec.post enc Tryz.prog Tryz.f9 false true false false) := by
 refine Hm started AdX Tryz.func9 rfl (by
   intro t ht
   rw[Tryz.params9] at ht
   simp at ht
   rcases ht with rfl <;> exact⟨by kernel_rfl, of_decide_eq_true AdX⟩) rfl (λds h => by
   match ds, h with
   | [d0, d1], _ => rfl)
  (ChangeSpec.witness_shaped (enc := enc) (C := Tryz.checked) (os := os) (X := λw _ => laidMetH Tryz.prog E2 w) false (World.laidAll Tryz.prog os E2) #[.int .u8 0, .int .u8 0] 8 (World.laidAll_os _ _ _) (World.shaped_of_ZipB AdX AdX) AdX AdX AdX (LU os _)) ?_
 intro W base args ds p g a0 hA
 rw[Tryz.params9] at hA a0
 obtain⟨v0, v1, d0, d1, p0, p1, rfl, rfl, rfl, h0, h1⟩ := trodAll_two hA
 obtain⟨n0, rfl, -, -, a1⟩ := open_int Tryz.underlying5 (a0 0 _ v0 rfl rfl) h0
 simp only[Lit.wf, AaG, decide_eq_true_eq] at a1
 have kl0 : IntKind.u8.min = 0 := rfl
 have kh0 : IntKind.u8.max = 255 := rfl
 obtain⟨a3, a4⟩ := a1
 obtain⟨n1, rfl, -, -, a2⟩ := open_int Tryz.underlying5 (a0 1 _ v1 rfl rfl) h1
 simp only[Lit.wf, AaG, decide_eq_true_eq] at a2
 have kl1 : IntKind.u8.min = 0 := rfl
 have kh1 : IntKind.u8.max = 255 := rfl
 obtain⟨a5, a6⟩ := a2
 obtain⟨k0, rfl⟩ : ∃ k : Nat, n0 = k := ⟨n0.toNat, by omega⟩
 obtain⟨k1, rfl⟩ : ∃ k : Nat, n1 = k := ⟨n1.toNat, by omega⟩
 exact NM k0 k1 W g AdV AdV
set_option maxHeartbeats 4000000 in
theorem mergeGone_closed : joinedFacts Tryz.pinned.checked.prog 9 Tryz.f9 Rows.mergeGoneSpec Rows.mergeGoneRow = true := by
 have h1 : Tryz.pinned.checked.prog.mayEnter = true := Zn
 have h2 : (Tryz.pinned.checked.prog.make == some Rows.mergeGoneRow.make) = true := Ui
 have h3 : (Rows.mergeGoneRow.lifted == Tryz.pinned.checked.prog.liftsFinal) = true := Ma
 unfold joinedFacts
 repeat' with_reducible apply YR
 any_goals with_reducible assumption
 all_goals as_aux_lemma => kernel_rfl
theorem mergeGone_goes : false = Rows.mergeGoneRow.goesBy Tryz.pinned.checked.prog := by kernel_rfl
theorem mergeGone_named : Tryz.prog.funcNamed "chequer/chequerlaw20.MergeGone" = some 9 := by kernel_rfl

theorem mergeGone_holds : Rows.MergeGoneSaid :=
 OpenClaim.holds_of_wide 9 Tryz.f9 rfl rfl rfl rfl rfl rfl rfl ⟨rfl, rfl, rfl, rfl, rfl⟩ rfl rfl rfl rfl rfl mergeGone_named Tryz.func9 mergeGone_closed
  (of_decide_eq_true AdX) Aen
  (λos started H enc _ => mergeGone_lifted os started H enc)

theorem mergeGone_card : Rows.MergeGoneCardSaid :=
 Claim7.holds_tied_plain_at .later [] Rows.mergeGoneCard.laidKinds true Rows.mergeGoneCard.stood.harness true
  mergeGone_holds (λ_ h => by cases h) AdX (λ_ h => by cases h) mergeGone_row_tie rfl ⟨rfl, rfl⟩ Uh rfl
  (λf fn hf hfn => by
   obtain rfl : f = 9 := Ab9 (mergeGone_named.symm.trans hf) |>.symm
   obtain rfl : fn = Tryz.f9 := (Ab9 (Tryz.func9.symm.trans hfn)).symm
   exact⟨P9, λj t ht => by
    rw[Tryz.params9] at ht
    have ht := Ab7 Afd
    simp at ht
    rcases ht with rfl
    ·exact(show Tryz.prog.wantsStandIn 5 = false by kernel_rfl)⟩)
  mergeGone_goes
#print axioms mergeGone_card
end Go.Proofs.YtcjjcnecopnpcaaGreatDoor
