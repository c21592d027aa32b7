/-
 MergeRefs holds for every call that the row describes.
-/
import Derived.Test.YtcjjcnecopnpcaaGreatDoorMzN
import Derived.Test.YtcjjcnecopnpcaaGreatDoorMzF
import Derived.Test.YtcjjcnecopnpcaaGreatDoorMzX
import Derived.Test.YtcjjcnecopnpcaaGreatDoorCards
namespace Go.Proofs.YtcjjcnecopnpcaaGreatDoor
open Go Go.E Go.ChangeShapes Go.WideShapes Go.ChangeAt Go.RowKit Go.Joins Go.ChangeMaps

set_option maxRecDepth 100000 in
theorem mergeRefs_lifted(os : Os)(started : os.Started)(H : Type)(enc : TypeId × Value → H) :
  ReturnsInHanded {} Tryz.checked os 8 .any (λw args => (Rows.mergeRefsSpec.pre enc Tryz.prog Tryz.f8 [] false w args ∧ laidMetH Tryz.prog E2 w) ∧ sizedMet enc Tryz.prog Tryz.f8 (OpenSpec.ofChange Rows.mergeRefsSpec) false w args)
   (Rows.mergeRefsSpec.post enc Tryz.prog Tryz.f8 false true false false) := by
 refine Hm started AdX Tryz.func8 rfl (by
   intro t ht
   rw[Tryz.params8] at ht
   simp at ht
   rcases ht with rfl | rfl <;> exact⟨by kernel_rfl, of_decide_eq_true AdX⟩) rfl (λds h => by
   match ds, h with
   | [d0, d1, d2, d3], _ => rfl)
  (ChangeSpec.witness_shaped (enc := enc) (C := Tryz.checked) (os := os) (X := λw _ => laidMetH Tryz.prog E2 w) false (World.laidAll Tryz.prog os E2) #[.int .u8 0, .int .u8 0, .int .u8 0, .bool false] 8 (World.laidAll_os _ _ _) (World.shaped_of_ZipB AdX AdX) AdX AdX AdX (LU os _)) ?_
 intro W base args ds p g a0 hA
 rw[Tryz.params8] at hA a0
 obtain⟨v0, d0, p0, v1, d1, p1, v2, d2, p2, v3, d3, p3, rfl, rfl, h0, h1, h2, h3⟩ := Z5 hA
 obtain⟨n0, rfl, -, -, a1⟩ := open_int Tryz.underlying5 (a0 0 _ v0 rfl rfl) h0
 simp only[Lit.wf, AaG, decide_eq_true_eq] at a1
 have kl0 : IntKind.u8.min = 0 := rfl
 have kh0 : IntKind.u8.max = 255 := rfl
 obtain⟨a4, a5⟩ := a1
 obtain⟨n1, rfl, -, -, a2⟩ := open_int Tryz.underlying5 (a0 1 _ v1 rfl rfl) h1
 simp only[Lit.wf, AaG, decide_eq_true_eq] at a2
 have kl1 : IntKind.u8.min = 0 := rfl
 have kh1 : IntKind.u8.max = 255 := rfl
 obtain⟨a6, a7⟩ := a2
 obtain⟨n2, rfl, -, -, a3⟩ := open_int Tryz.underlying5 (a0 2 _ v2 rfl rfl) h2
 simp only[Lit.wf, AaG, decide_eq_true_eq] at a3
 have kl2 : IntKind.u8.min = 0 := rfl
 have kh2 : IntKind.u8.max = 255 := rfl
 obtain⟨a8, a9⟩ := a3
 obtain⟨b3, rfl, -, -⟩ := open_bool Tryz.underlying4 (a0 3 _ v3 rfl rfl) h3
 obtain⟨k0, rfl⟩ : ∃ k : Nat, n0 = k := ⟨n0.toNat, by omega⟩
 obtain⟨k1, rfl⟩ : ∃ k : Nat, n1 = k := ⟨n1.toNat, by omega⟩
 obtain⟨k2, rfl⟩ : ∃ k : Nat, n2 = k := ⟨n2.toNat, by omega⟩
 exact NN k0 k1 k2 b3 W g AdV AdV AdV
set_option maxHeartbeats 4000000 in
theorem mergeRefs_closed : joinedFacts Tryz.pinned.checked.prog 8 Tryz.f8 Rows.mergeRefsSpec Rows.mergeRefsRow = true := by
 have h1 : Tryz.pinned.checked.prog.mayEnter = true := Zn
 have h2 : (Tryz.pinned.checked.prog.make == some Rows.mergeRefsRow.make) = true := Ui
 have h3 : (Rows.mergeRefsRow.lifted == Tryz.pinned.checked.prog.liftsFinal) = true := Ma
 unfold joinedFacts
 repeat' with_reducible apply YR
 any_goals with_reducible assumption
 all_goals as_aux_lemma => kernel_rfl
theorem mergeRefs_goes : false = Rows.mergeRefsRow.goesBy Tryz.pinned.checked.prog := by kernel_rfl
theorem mergeRefs_named : Tryz.prog.funcNamed "chequer/chequerlaw20.MergeRefs" = some 8 := by kernel_rfl

theorem mergeRefs_holds : Rows.MergeRefsSaid :=
 OpenClaim.holds_of_wide 8 Tryz.f8 rfl rfl rfl rfl rfl rfl rfl ⟨rfl, rfl, rfl, rfl, rfl⟩ rfl rfl rfl rfl rfl mergeRefs_named Tryz.func8 mergeRefs_closed
  (of_decide_eq_true AdX) Aen
  (λos started H enc _ => mergeRefs_lifted os started H enc)

theorem mergeRefs_card : Rows.MergeRefsCardSaid :=
 Claim7.holds_tied_plain_at .later [] Rows.mergeRefsCard.laidKinds true Rows.mergeRefsCard.stood.harness true
  mergeRefs_holds (λ_ h => by cases h) AdX (λ_ h => by cases h) mergeRefs_row_tie rfl ⟨rfl, rfl⟩ Uh rfl
  (λf fn hf hfn => by
   obtain rfl : f = 8 := Ab9 (mergeRefs_named.symm.trans hf) |>.symm
   obtain rfl : fn = Tryz.f8 := (Ab9 (Tryz.func8.symm.trans hfn)).symm
   exact⟨P9, λj t ht => by
    rw[Tryz.params8] at ht
    have ht := Ab7 Afd
    simp at ht
    rcases ht with rfl | rfl
    ·exact(show Tryz.prog.wantsStandIn 5 = false by kernel_rfl)
    ·exact(show Tryz.prog.wantsStandIn 4 = false by kernel_rfl)⟩)
  mergeRefs_goes
#print axioms mergeRefs_card
end Go.Proofs.YtcjjcnecopnpcaaGreatDoor
