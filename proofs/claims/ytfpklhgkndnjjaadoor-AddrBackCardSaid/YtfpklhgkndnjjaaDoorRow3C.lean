/-
  AddrBack holds for every call that the row describes.
-/
import Derived.Test.YtfpklhgkndnjjaaDoorClose
import Derived.Test.YtfpklhgkndnjjaaDoorOpen
import Derived.Test.YtfpklhgkndnjjaaDoorLaw3C
import Derived.Test.YtfpklhgkndnjjaaDoorCards
namespace Go.Proofs.YtfpklhgkndnjjaaDoor
open Go Go.E Go.ChangeShapes Go.WideShapes Go.ChangeAt Go.RowKit Go.Joins Go.ChangeMaps

set_option maxRecDepth 100000 in
theorem addrBack_lifted (os : Os) (started : os.Started) (H : Type) (enc : TypeId × Value → H) :
    ReturnsInHanded {} Tryd.checked os 4 .any (fun w args => (Rows.addrBackSpec.pre enc Tryd.prog Tryd.f4 [] false w args ∧ laidMetH Tryd.prog laidL w) ∧ sizedMet enc Tryd.prog Tryd.f4 (OpenSpec.ofChange Rows.addrBackSpec) false w args)
      (Rows.addrBackSpec.post enc Tryd.prog Tryd.f4 false true false false) := by
  refine law_lifted started (by kernel_rfl) Tryd.func4 rfl (by
      intro t ht
      rw [Tryd.params4] at ht
      simp at ht
      rcases ht with rfl | rfl <;> exact ⟨by kernel_rfl, of_decide_eq_true (by kernel_rfl)⟩) rfl (fun ds h => by
      match ds, h with
      | [d0, d1, d2, d3, d4, d5], _ => rfl)
    (ChangeSpec.witness_shaped (enc := enc) (C := Tryd.checked) (os := os) (X := fun w _ => laidMetH Tryd.prog laidL w) false (World.doorLaid Tryd.prog 62 os) #[.int .u16 0, .int .u16 0, .int .u16 0, .int .u16 0, .int .u8 0, .int .u8 0] 8 rfl (World.shaped_of_RefB (by kernel_rfl) (by kernel_rfl)) (by kernel_rfl) (by kernel_rfl) (by kernel_rfl) (door_met os _)) ?_
  intro W base args ds p g hval hA
  rw [Tryd.params4] at hA hval
  obtain ⟨v0, d0, p0, v1, d1, p1, v2, d2, p2, v3, d3, p3, v4, d4, p4, v5, d5, p5, rfl, rfl, h0, h1, h2, h3, h4, h5⟩ := rowOf_6 hA
  obtain ⟨n0, rfl, -, -, hn0⟩ := open_int Tryd.underlying34 (hval 0 _ v0 rfl rfl) h0
  simp only [Lit.wf, Bool.and_eq_true, decide_eq_true_eq] at hn0
  have kl0 : IntKind.u16.min = 0 := rfl
  have kh0 : IntKind.u16.max = 65535 := rfl
  obtain ⟨hl0, hh0⟩ := hn0
  obtain ⟨n1, rfl, -, -, hn1⟩ := open_int Tryd.underlying34 (hval 1 _ v1 rfl rfl) h1
  simp only [Lit.wf, Bool.and_eq_true, decide_eq_true_eq] at hn1
  have kl1 : IntKind.u16.min = 0 := rfl
  have kh1 : IntKind.u16.max = 65535 := rfl
  obtain ⟨hl1, hh1⟩ := hn1
  obtain ⟨n2, rfl, -, -, hn2⟩ := open_int Tryd.underlying34 (hval 2 _ v2 rfl rfl) h2
  simp only [Lit.wf, Bool.and_eq_true, decide_eq_true_eq] at hn2
  have kl2 : IntKind.u16.min = 0 := rfl
  have kh2 : IntKind.u16.max = 65535 := rfl
  obtain ⟨hl2, hh2⟩ := hn2
  obtain ⟨n3, rfl, -, -, hn3⟩ := open_int Tryd.underlying34 (hval 3 _ v3 rfl rfl) h3
  simp only [Lit.wf, Bool.and_eq_true, decide_eq_true_eq] at hn3
  have kl3 : IntKind.u16.min = 0 := rfl
  have kh3 : IntKind.u16.max = 65535 := rfl
  obtain ⟨hl3, hh3⟩ := hn3
  obtain ⟨n4, rfl, -, -, hn4⟩ := open_int Tryd.underlying5 (hval 4 _ v4 rfl rfl) h4
  simp only [Lit.wf, Bool.and_eq_true, decide_eq_true_eq] at hn4
  have kl4 : IntKind.u8.min = 0 := rfl
  have kh4 : IntKind.u8.max = 255 := rfl
  obtain ⟨hl4, hh4⟩ := hn4
  obtain ⟨n5, rfl, -, -, hn5⟩ := open_int Tryd.underlying5 (hval 5 _ v5 rfl rfl) h5
  simp only [Lit.wf, Bool.and_eq_true, decide_eq_true_eq] at hn5
  have kl5 : IntKind.u8.min = 0 := rfl
  have kh5 : IntKind.u8.max = 255 := rfl
  obtain ⟨hl5, hh5⟩ := hn5
  exact AddrBack_ret n0 n1 n2 n3 n4 n5 (by omega) (by omega) (by omega) (by omega) (by omega) (by omega) (by omega) (by omega) (by omega) (by omega) (by omega) (by omega) W g

theorem addrBack_holds : Rows.AddrBackSaid :=
  OpenClaim.holds_of_wide 4 Tryd.f4 rfl rfl rfl rfl rfl rfl rfl ⟨rfl, rfl, rfl, rfl, rfl⟩ rfl rfl rfl rfl rfl (by kernel_rfl) Tryd.func4 (by kernel_rfl)
    (of_decide_eq_true (by kernel_rfl)) (by unfold Func.isWrapper; first | (rw [if_pos (by decide +kernel)]; kernel_rfl) | (rw [if_neg (by decide +kernel)]; exact ⟨rfl, rfl⟩))
    (fun os started H enc _ => addrBack_lifted os started H enc)

theorem addrBack_card : Rows.AddrBackCardSaid :=
  Claim7.holds_tied_plain_at .later [] Rows.addrBackCard.laidKinds true Rows.addrBackCard.stood.harness true
    addrBack_holds (fun _ h => by cases h) (by kernel_rfl) (fun _ h => by cases h) addrBack_row_tie rfl ⟨rfl, rfl⟩ (by kernel_rfl) rfl
    (fun f fn hf hfn => by
      obtain rfl : f = 4 := Option.some.inj ((show Tryd.prog.funcNamed "chequer/chequerlaw3.AddrBack" = some 4 by kernel_rfl).symm.trans hf) |>.symm
      obtain rfl : fn = Tryd.f4 := (Option.some.inj (Tryd.func4.symm.trans hfn)).symm
      exact ⟨by kernel_rfl, fun j t ht => by
        rw [Tryd.params4] at ht
        have ht := List.mem_of_getElem? (by simpa using ht)
        simp at ht
        rcases ht with rfl | rfl
        · exact (show Tryd.prog.wantsStandIn 34 = false by kernel_rfl)
        · exact (show Tryd.prog.wantsStandIn 5 = false by kernel_rfl)⟩)
    (by kernel_rfl)
#print axioms addrBack_card
end Go.Proofs.YtfpklhgkndnjjaaDoor
