/-
 MergeRows holds for every call that the row describes.
-/
import Derived.Test.YtcjjcnecopnpcaaGreatDoorMzN
import Derived.Test.YtcjjcnecopnpcaaGreatDoorMzF
import Derived.Test.YtcjjcnecopnpcaaGreatDoorMzV
import Derived.Test.YtcjjcnecopnpcaaGreatDoorCards
namespace Go.Proofs.YtcjjcnecopnpcaaGreatDoor
open Go Go.E Go.ChangeShapes Go.WideShapes Go.ChangeAt Go.RowKit Go.Joins Go.ChangeMaps

set_option maxRecDepth 100000 in
theorem mergeRows_lifted(os : Os)(started : os.Started)(H : Type)(enc : TypeId × Value → H) :
  ReturnsInHanded {} Tryz.checked os 11 .any (λw args => (Rows.mergeRowsSpec.pre enc Tryz.prog Tryz.f11 [] false w args ∧ laidMetH Tryz.prog E2 w) ∧ sizedMet enc Tryz.prog Tryz.f11 (OpenSpec.ofChange Rows.mergeRowsSpec) false w args)
   (Rows.mergeRowsSpec.post enc Tryz.prog Tryz.f11 false true false false) := by
 refine Hm started AdX Tryz.func11 rfl (by
   intro t ht
   rw[Tryz.params11] at ht
   simp at ht
   rcases ht with rfl <;> exact⟨by kernel_rfl, of_decide_eq_true AdX⟩) rfl (λds h => by
   match ds, h with
   | [d0, d1, d2, d3, d4], _ => rfl)
  (ChangeSpec.witness_shaped (enc := enc) (C := Tryz.checked) (os := os) (X := λw _ => laidMetH Tryz.prog E2 w) false (World.laidAll Tryz.prog os E2) #[.int .u8 0, .int .u8 0, .int .u8 0, .int .u8 0, .int .u8 0] 8 (World.laidAll_os _ _ _) (World.shaped_of_ZipB AdX AdX) AdX AdX AdX (LU os _)) ?_
 intro W base args ds p g a0 hA
 rw[Tryz.params11] at hA a0
 obtain⟨v0, d0, p0, v1, d1, p1, v2, d2, p2, v3, d3, p3, v4, d4, p4, rfl, rfl, h0, h1, h2, h3, h4⟩ := Z6 hA
 obtain⟨n0, rfl, -, -, a1⟩ := open_int Tryz.underlying5 (a0 0 _ v0 rfl rfl) h0
 simp only[Lit.wf, AaG, decide_eq_true_eq] at a1
 have kl0 : IntKind.u8.min = 0 := rfl
 have kh0 : IntKind.u8.max = 255 := rfl
 obtain⟨a6, a7⟩ := a1
 obtain⟨n1, rfl, -, -, a2⟩ := open_int Tryz.underlying5 (a0 1 _ v1 rfl rfl) h1
 simp only[Lit.wf, AaG, decide_eq_true_eq] at a2
 have kl1 : IntKind.u8.min = 0 := rfl
 have kh1 : IntKind.u8.max = 255 := rfl
 obtain⟨a8, a9⟩ := a2
 obtain⟨n2, rfl, -, -, a3⟩ := open_int Tryz.underlying5 (a0 2 _ v2 rfl rfl) h2
 simp only[Lit.wf, AaG, decide_eq_true_eq] at a3
 have kl2 : IntKind.u8.min = 0 := rfl
 have kh2 : IntKind.u8.max = 255 := rfl
 obtain⟨aa, ab⟩ := a3
 obtain⟨n3, rfl, -, -, a4⟩ := open_int Tryz.underlying5 (a0 3 _ v3 rfl rfl) h3
 simp only[Lit.wf, AaG, decide_eq_true_eq] at a4
 have kl3 : IntKind.u8.min = 0 := rfl
 have kh3 : IntKind.u8.max = 255 := rfl
 obtain⟨ac, ad⟩ := a4
 obtain⟨n4, rfl, -, -, a5⟩ := open_int Tryz.underlying5 (a0 4 _ v4 rfl rfl) h4
 simp only[Lit.wf, AaG, decide_eq_true_eq] at a5
 have kl4 : IntKind.u8.min = 0 := rfl
 have kh4 : IntKind.u8.max = 255 := rfl
 obtain⟨ae, af⟩ := a5
 obtain⟨k0, rfl⟩ : ∃ k : Nat, n0 = k := ⟨n0.toNat, by omega⟩
 obtain⟨k1, rfl⟩ : ∃ k : Nat, n1 = k := ⟨n1.toNat, by omega⟩
 obtain⟨k2, rfl⟩ : ∃ k : Nat, n2 = k := ⟨n2.toNat, by omega⟩
 obtain⟨k3, rfl⟩ : ∃ k : Nat, n3 = k := ⟨n3.toNat, by omega⟩
 obtain⟨k4, rfl⟩ : ∃ k : Nat, n4 = k := ⟨n4.toNat, by omega⟩
 exact NO k0 k1 k2 k3 k4 W g AdV AdV AdV AdV AdV
set_option maxHeartbeats 4000000 in
theorem mergeRows_closed : joinedFacts Tryz.pinned.checked.prog 11 Tryz.f11 Rows.mergeRowsSpec Rows.mergeRowsRow = true := by
 have h1 : Tryz.pinned.checked.prog.mayEnter = true := Zn
 have h2 : (Tryz.pinned.checked.prog.make == some Rows.mergeRowsRow.make) = true := Ui
 have h3 : (Rows.mergeRowsRow.lifted == Tryz.pinned.checked.prog.liftsFinal) = true := Ma
 unfold joinedFacts
 repeat' with_reducible apply YR
 any_goals with_reducible assumption
 all_goals as_aux_lemma => kernel_rfl
theorem mergeRows_goes : false = Rows.mergeRowsRow.goesBy Tryz.pinned.checked.prog := by kernel_rfl
theorem mergeRows_named : Tryz.prog.funcNamed "chequer/chequerlaw20.MergeRows" = some 11 := by kernel_rfl

theorem mergeRows_holds : Rows.MergeRowsSaid :=
 OpenClaim.holds_of_wide 11 Tryz.f11 rfl rfl rfl rfl rfl rfl rfl ⟨rfl, rfl, rfl, rfl, rfl⟩ rfl rfl rfl rfl rfl mergeRows_named Tryz.func11 mergeRows_closed
  (of_decide_eq_true AdX) Aen
  (λos started H enc _ => mergeRows_lifted os started H enc)

theorem mergeRows_card : Rows.MergeRowsCardSaid :=
 Claim7.holds_tied_plain_at .later [] Rows.mergeRowsCard.laidKinds true Rows.mergeRowsCard.stood.harness true
  mergeRows_holds (λ_ h => by cases h) AdX (λ_ h => by cases h) mergeRows_row_tie rfl ⟨rfl, rfl⟩ Uh rfl
  (λf fn hf hfn => by
   obtain rfl : f = 11 := Ab9 (mergeRows_named.symm.trans hf) |>.symm
   obtain rfl : fn = Tryz.f11 := (Ab9 (Tryz.func11.symm.trans hfn)).symm
   exact⟨P9, λj t ht => by
    rw[Tryz.params11] at ht
    have ht := Ab7 Afd
    simp at ht
    rcases ht with rfl
    ·exact(show Tryz.prog.wantsStandIn 5 = false by kernel_rfl)⟩)
  mergeRows_goes
#print axioms mergeRows_card
end Go.Proofs.YtcjjcnecopnpcaaGreatDoor
