/-
 BlameNobody holds for every call that the row describes.
-/
import Derived.Test.YtefaigjfkddelaaGreatDoorPnN
import Derived.Test.YtefaigjfkddelaaGreatDoorPnF
import Derived.Test.YtefaigjfkddelaaGreatDoorPnY
import Derived.Test.YtefaigjfkddelaaGreatDoorPnS
import Derived.Test.YtefaigjfkddelaaGreatDoorCards
namespace Go.Proofs.YtefaigjfkddelaaGreatDoor
open Go Go.E Go.ChangeShapes Go.WideShapes Go.ChangeAt Go.RowKit Go.Joins Go.ChangeMaps

set_option maxRecDepth 100000 in
theorem blameNobody_lifted(os : Os)(started : os.Started)(H : Type)(enc : TypeId × Value → H) :
  ReturnsInHanded {} Tryz.checked os 5 .any (λw args => (Rows.blameNobodySpec.pre enc Tryz.prog Tryz.f5 [] false w args ∧ laidMetH Tryz.prog Ky w) ∧ sizedMet enc Tryz.prog Tryz.f5 (OpenSpec.ofChange Rows.blameNobodySpec) false w args)
   (Rows.blameNobodySpec.post enc Tryz.prog Tryz.f5 false true false false) := by
 refine Uq started Ae1 Tryz.func5 rfl (by
   intro t ht
   rw[Tryz.params5] at ht
   simp at ht
   rcases ht with rfl | rfl | rfl | rfl <;> exact⟨by kernel_rfl, of_decide_eq_true Ae1⟩) rfl (λds h => by
   match ds, h with
   | [d0, d1, d2, d3, d4], _ => rfl)
  (ChangeSpec.witness_shaped (enc := enc) (C := Tryz.checked) (os := os) (X := λw _ => laidMetH Tryz.prog Ky w) false (World.laidAll Tryz.prog os Ky) #[.slice none 0 0, .slice none 0 0, .int .u8 0, .slice none 0 0, .int .u8 0] 8 (World.laidAll_os _ _ _) (World.shaped_of_ZipB Ae1 Ae1) Ae1 Ae1 Ae1 (Zx os _)) ?_
 intro W base args ds p g a0 hA
 rw[Tryz.params5] at hA a0
 obtain⟨v0, d0, p0, v1, d1, p1, v2, d2, p2, v3, d3, p3, v4, d4, p4, rfl, rfl, h0, h1, h2, h3, h4⟩ := Aai hA
 obtain⟨z0, a4, ac, p0, c0, rfl, a1⟩ := LJ Tryz.underlying36 Tryz.underlying5 Ae1 (a0 0 _ v0 rfl rfl) h0
 have a5 : ∀ z ∈ z0, 0 ≤ z ∧ z ≤ 255 := λz hz => by
  have := ac z hz
  simp only[Lit.wf, Abf, decide_eq_true_eq] at this
  exact this
 obtain⟨z1, a6, ad, p1, c1, rfl, a2⟩ := LJ Tryz.underlying36 Tryz.underlying5 Ae1 (a0 1 _ v1 rfl rfl) h1
 have a7 : ∀ z ∈ z1, 0 ≤ z ∧ z ≤ 255 := λz hz => by
  have := ad z hz
  simp only[Lit.wf, Abf, decide_eq_true_eq] at this
  exact this
 obtain⟨n2, rfl, -, -, aa⟩ := open_int Tryz.underlying5 (a0 2 _ v2 rfl rfl) h2
 simp only[Lit.wf, Abf, decide_eq_true_eq] at aa
 have kl2 : IntKind.u8.min = 0 := rfl
 have kh2 : IntKind.u8.max = 255 := rfl
 obtain⟨af, ag⟩ := aa
 obtain⟨z3, a8, ae, p3, c3, rfl, a3⟩ := LJ Tryz.underlying36 Tryz.underlying5 Ae1 (a0 3 _ v3 rfl rfl) h3
 have a9 : ∀ z ∈ z3, 0 ≤ z ∧ z ≤ 255 := λz hz => by
  have := ae z hz
  simp only[Lit.wf, Abf, decide_eq_true_eq] at this
  exact this
 obtain⟨n4, rfl, -, -, ab⟩ := open_int Tryz.underlying5 (a0 4 _ v4 rfl rfl) h4
 simp only[Lit.wf, Abf, decide_eq_true_eq] at ab
 have kl4 : IntKind.u8.min = 0 := rfl
 have kh4 : IntKind.u8.max = 255 := rfl
 obtain⟨ah, ai⟩ := ab
 obtain⟨m2, rfl⟩ : ∃ m : Nat, n2 = m := ⟨n2.toNat, by omega⟩
 obtain⟨m4, rfl⟩ : ∃ m : Nat, n4 = m := ⟨n4.toNat, by omega⟩
 exact M6 (VV OO) z0 z1 z3 _ _ _ m2 m4 W g ⟨a4, a5, λ_ _ _ e => by obtain⟨-, rfl, rfl⟩ := Acd e; exact a1⟩ ⟨a6, a7, λ_ _ _ e => by obtain⟨-, rfl, rfl⟩ := Acd e; exact a2⟩ ⟨a8, a9, λ_ _ _ e => by obtain⟨-, rfl, rfl⟩ := Acd e; exact a3⟩ Aez Aez
set_option maxHeartbeats 4000000 in
theorem blameNobody_closed : joinedFacts Tryz.pinned.checked.prog 5 Tryz.f5 Rows.blameNobodySpec Rows.blameNobodyRow = true := by
 have h1 : Tryz.pinned.checked.prog.mayEnter = true := AbL
 have h2 : (Tryz.pinned.checked.prog.make == some Rows.blameNobodyRow.make) = true := Abu
 have h3 : (Rows.blameNobodyRow.lifted == Tryz.pinned.checked.prog.liftsFinal) = true := ZN
 unfold joinedFacts
 repeat' with_reducible apply AbJ
 any_goals with_reducible assumption
 all_goals as_aux_lemma => kernel_rfl
theorem blameNobody_goes : false = Rows.blameNobodyRow.goesBy Tryz.pinned.checked.prog := by kernel_rfl
theorem blameNobody_named : Tryz.prog.funcNamed "chequer/chequerlaw26.BlameNobody" = some 5 := by kernel_rfl

theorem blameNobody_holds : Rows.BlameNobodySaid :=
 OpenClaim.holds_of_wide 5 Tryz.f5 rfl rfl rfl rfl rfl rfl rfl ⟨rfl, rfl, rfl, rfl, rfl⟩ rfl rfl rfl rfl rfl blameNobody_named Tryz.func5 blameNobody_closed
  (of_decide_eq_true Ae1) (by unfold Func.isWrapper; first | (rw[if_pos AfO]; kernel_rfl) | (rw[if_neg AfO]; exact⟨rfl, rfl⟩))
  (λos started H enc _ => blameNobody_lifted os started H enc)

theorem blameNobody_card : Rows.BlameNobodyCardSaid :=
 Claim7.holds_tied_plain_at .later [] Rows.blameNobodyCard.laidKinds true Rows.blameNobodyCard.stood.harness true
  blameNobody_holds (λ_ h => by cases h) Ae1 (λ_ h => by cases h) blameNobody_row_tie rfl ⟨rfl, rfl⟩ Abt rfl
  (λf fn hf hfn => by
   obtain rfl : f = 5 := Aa5 (blameNobody_named.symm.trans hf) |>.symm
   obtain rfl : fn = Tryz.f5 := (Aa5 (Tryz.func5.symm.trans hfn)).symm
   exact⟨AaO, λj t ht => by
    rw[Tryz.params5] at ht
    have ht := Aa9 (by simpa using ht)
    simp at ht
    rcases ht with rfl | rfl | rfl | rfl
    ·exact(show Tryz.prog.wantsStandIn 36 = false by kernel_rfl)
    ·exact(show Tryz.prog.wantsStandIn 5 = false by kernel_rfl)
    ·exact(show Tryz.prog.wantsStandIn 36 = false by kernel_rfl)
    ·exact(show Tryz.prog.wantsStandIn 5 = false by kernel_rfl)⟩)
  blameNobody_goes
#print axioms blameNobody_card
end Go.Proofs.YtefaigjfkddelaaGreatDoor
