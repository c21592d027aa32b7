/-
  ParseCalls holds for every call that the row describes.
-/
import Derived.Test.YtfpklhgkndnjjaaDoorClose
import Derived.Test.YtfpklhgkndnjjaaDoorOpen
import Derived.Test.YtfpklhgkndnjjaaDoorLaw5C
import Derived.Test.YtfpklhgkndnjjaaDoorCards
namespace Go.Proofs.YtfpklhgkndnjjaaDoor
open Go Go.E Go.ChangeShapes Go.WideShapes Go.ChangeAt Go.RowKit Go.Joins Go.ChangeMaps

set_option maxRecDepth 100000 in
theorem parseCalls_lifted (os : Os) (started : os.Started) (H : Type) (enc : TypeId × Value → H) :
    ReturnsInHanded {} Tryd.checked os 11 .any (fun w args => (Rows.parseCallsSpec.pre enc Tryd.prog Tryd.f11 [] false w args ∧ laidMetH Tryd.prog laidL w) ∧ sizedMet enc Tryd.prog Tryd.f11 (OpenSpec.ofChange Rows.parseCallsSpec) false w args)
      (Rows.parseCallsSpec.post enc Tryd.prog Tryd.f11 false true false false) := by
  refine law_lifted started (by kernel_rfl) Tryd.func11 rfl (by
      intro t ht
      rw [Tryd.params11] at ht
      simp at ht
      rcases ht with rfl <;> exact ⟨by kernel_rfl, of_decide_eq_true (by kernel_rfl)⟩) rfl (fun ds h => by
      match ds, h with
      | [d0, d1], _ => rfl)
    (ChangeSpec.witness_shaped (enc := enc) (C := Tryd.checked) (os := os) (X := fun w _ => laidMetH Tryd.prog laidL w) false (World.doorLaid Tryd.prog 62 os) #[.int .u8 0, .int .u8 0] 8 rfl (World.shaped_of_RefB (by kernel_rfl) (by kernel_rfl)) (by kernel_rfl) (by kernel_rfl) (by kernel_rfl) (door_met os _)) ?_
  intro W base args ds p g hval hA
  rw [Tryd.params11] at hA hval
  obtain ⟨v0, v1, d0, d1, p0, p1, rfl, rfl, rfl, h0, h1⟩ := trodAll_two hA
  obtain ⟨n0, rfl, -, -, hn0⟩ := open_int Tryd.underlying5 (hval 0 _ v0 rfl rfl) h0
  simp only [Lit.wf, Bool.and_eq_true, decide_eq_true_eq] at hn0
  have kl0 : IntKind.u8.min = 0 := rfl
  have kh0 : IntKind.u8.max = 255 := rfl
  obtain ⟨hl0, hh0⟩ := hn0
  obtain ⟨n1, rfl, -, -, hn1⟩ := open_int Tryd.underlying5 (hval 1 _ v1 rfl rfl) h1
  simp only [Lit.wf, Bool.and_eq_true, decide_eq_true_eq] at hn1
  have kl1 : IntKind.u8.min = 0 := rfl
  have kh1 : IntKind.u8.max = 255 := rfl
  obtain ⟨hl1, hh1⟩ := hn1
  exact ParseCalls_ret n0 n1 (by omega) (by omega) (by omega) (by omega) W g

theorem parseCalls_holds : Rows.ParseCallsSaid :=
  OpenClaim.holds_of_wide 11 Tryd.f11 rfl rfl rfl rfl rfl rfl rfl ⟨rfl, rfl, rfl, rfl, rfl⟩ rfl rfl rfl rfl rfl (by kernel_rfl) Tryd.func11 (by kernel_rfl)
    (of_decide_eq_true (by kernel_rfl)) (by unfold Func.isWrapper; first | (rw [if_pos (by decide +kernel)]; kernel_rfl) | (rw [if_neg (by decide +kernel)]; exact ⟨rfl, rfl⟩))
    (fun os started H enc _ => parseCalls_lifted os started H enc)

theorem parseCalls_card : Rows.ParseCallsCardSaid :=
  Claim7.holds_tied_plain_at .later [] Rows.parseCallsCard.laidKinds true Rows.parseCallsCard.stood.harness true
    parseCalls_holds (fun _ h => by cases h) (by kernel_rfl) (fun _ h => by cases h) parseCalls_row_tie rfl ⟨rfl, rfl⟩ (by kernel_rfl) rfl
    (fun f fn hf hfn => by
      obtain rfl : f = 11 := Option.some.inj ((show Tryd.prog.funcNamed "chequer/chequerlaw5.ParseCalls" = some 11 by kernel_rfl).symm.trans hf) |>.symm
      obtain rfl : fn = Tryd.f11 := (Option.some.inj (Tryd.func11.symm.trans hfn)).symm
      exact ⟨by kernel_rfl, fun j t ht => by
        rw [Tryd.params11] at ht
        have ht := List.mem_of_getElem? (by simpa using ht)
        simp at ht
        rcases ht with rfl
        · exact (show Tryd.prog.wantsStandIn 5 = false by kernel_rfl)⟩)
    (by kernel_rfl)
#print axioms parseCalls_card
end Go.Proofs.YtfpklhgkndnjjaaDoor
