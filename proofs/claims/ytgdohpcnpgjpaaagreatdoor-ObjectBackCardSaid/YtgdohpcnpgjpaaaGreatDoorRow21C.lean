/-
 ObjectBack holds for every call that the row describes.
-/
import Derived.Test.YtgdohpcnpgjpaaaGreatDoorPkN
import Derived.Test.YtgdohpcnpgjpaaaGreatDoorPkF
import Derived.Test.YtgdohpcnpgjpaaaGreatDoorPkZ
import Derived.Test.YtgdohpcnpgjpaaaGreatDoorCards
namespace Go.Proofs.YtgdohpcnpgjpaaaGreatDoor
open Go Go.E Go.ChangeShapes Go.WideShapes Go.ChangeAt Go.RowKit Go.Joins Go.ChangeMaps

set_option maxRecDepth 100000 in
theorem objectBack_lifted (os : Os) (started : os.Started) (H : Type) (enc : TypeId × Value → H) :
  ReturnsInHanded {} Tryz.checked os 4 .any (fun w args => (Rows.objectBackSpec.pre enc Tryz.prog Tryz.f4 [] false w args ∧ laidMetH Tryz.prog laidL w) ∧ sizedMet enc Tryz.prog Tryz.f4 (OpenSpec.ofChange Rows.objectBackSpec) false w args)
   (Rows.objectBackSpec.post enc Tryz.prog Tryz.f4 false true false false) := by
 refine law_lifted started (by kernel_rfl) Tryz.func4 rfl (by
   intro t ht
   rw [Tryz.params4] at ht
   simp at ht
   rcases ht with rfl | rfl | rfl | rfl <;> exact ⟨by kernel_rfl, of_decide_eq_true (by kernel_rfl)⟩) rfl (fun ds h => by
   match ds, h with
   | [d0, d1, d2, d3, d4], _ => rfl)
  (ChangeSpec.witness_shaped (enc := enc) (C := Tryz.checked) (os := os) (X := fun w _ => laidMetH Tryz.prog laidL w) false (World.laidAll Tryz.prog os laidL) #[.int .u8 0, .slice none 0 0, str [], .slice none 0 0, .slice none 0 0] 8 (World.laidAll_os _ _ _) (World.shaped_of_ZipB (by kernel_rfl) (by kernel_rfl)) (by kernel_rfl) (by kernel_rfl) (by kernel_rfl) (all_met os _)) ?_
 intro W base args ds p g hval hA
 rw [Tryz.params4] at hA hval
 obtain ⟨v0, d0, p0, v1, d1, p1, v2, d2, p2, v3, d3, p3, v4, d4, p4, rfl, rfl, h0, h1, h2, h3, h4⟩ := rowOf_5 hA
 obtain ⟨n0, rfl, -, -, hn0⟩ := open_int Tryz.underlying5 (hval 0 _ v0 rfl rfl) h0
 simp only [Lit.wf, Bool.and_eq_true, decide_eq_true_eq] at hn0
 have kl0 : IntKind.u8.min = 0 := rfl
 have kh0 : IntKind.u8.max = 255 := rfl
 obtain ⟨hl0, hh0⟩ := hn0
 obtain ⟨z1, hin1, hz1, p1, c1, rfl, hcap1⟩ := open_insC Tryz.underlying26 Tryz.underlying5 (by kernel_rfl) (hval 1 _ v1 rfl rfl) h1
 have hzb1 : ∀ z ∈ z1, 0 ≤ z ∧ z ≤ 255 := fun z hz => by
  have := hz1 z hz
  simp only [Lit.wf, Bool.and_eq_true, decide_eq_true_eq] at this
  exact this
 obtain ⟨s2, rfl, -, -, hs2⟩ := open_string Tryz.underlying9 (hval 2 _ v2 rfl rfl) h2
 obtain ⟨z3, hin3, hz3, p3, c3, rfl, hcap3⟩ := open_insC Tryz.underlying26 Tryz.underlying5 (by kernel_rfl) (hval 3 _ v3 rfl rfl) h3
 have hzb3 : ∀ z ∈ z3, 0 ≤ z ∧ z ≤ 255 := fun z hz => by
  have := hz3 z hz
  simp only [Lit.wf, Bool.and_eq_true, decide_eq_true_eq] at this
  exact this
 obtain ⟨z4, hin4, hz4, p4, c4, rfl, hcap4⟩ := open_insC Tryz.underlying26 Tryz.underlying5 (by kernel_rfl) (hval 4 _ v4 rfl rfl) h4
 have hzb4 : ∀ z ∈ z4, 0 ≤ z ∧ z ≤ 255 := fun z hz => by
  have := hz4 z hz
  simp only [Lit.wf, Bool.and_eq_true, decide_eq_true_eq] at this
  exact this
 obtain ⟨k0, rfl⟩ : ∃ k : Nat, n0 = k := ⟨n0.toNat, by omega⟩
 exact ObjectBack_ret k0 (by omega) z1 p1 c1 s2.data.toList p3 p4 z3.length c3 z4.length c4 (toB z3) (toB z4) W g hin1 hzb1 (bsize_le hs2) ⟨hin3.1, fun hl => ⟨by simp [toB], hcap3, ListR.map (BytesQ.bound (hin3.bytes hzb3 (by omega))) (fun a ha => ha.2) fun _ _ _ _ h => h⟩⟩ ⟨hin4.1, fun hl => ⟨by simp [toB], hcap4, ListR.map (BytesQ.bound (hin4.bytes hzb4 (by omega))) (fun a ha => ha.2) fun _ _ _ _ h => h⟩⟩
set_option maxHeartbeats 4000000 in
theorem objectBack_closed : joinedFacts Tryz.pinned.checked.prog 4 Tryz.f4 Rows.objectBackSpec Rows.objectBackRow = true := by
 have h1 : Tryz.pinned.checked.prog.mayEnter = true := mayE
 have h2 : (Tryz.pinned.checked.prog.make == some Rows.objectBackRow.make) = true := makeE
 have h3 : (Rows.objectBackRow.lifted == Tryz.pinned.checked.prog.liftsFinal) = true := liftedE
 unfold joinedFacts
 repeat' with_reducible apply andT
 any_goals with_reducible assumption
 all_goals as_aux_lemma => kernel_rfl
theorem objectBack_goes : false = Rows.objectBackRow.goesBy Tryz.pinned.checked.prog := by kernel_rfl
theorem objectBack_named : Tryz.prog.funcNamed "chequer/chequerlaw21.ObjectBack" = some 4 := by kernel_rfl

theorem objectBack_holds : Rows.ObjectBackSaid :=
 OpenClaim.holds_of_wide 4 Tryz.f4 rfl rfl rfl rfl rfl rfl rfl ⟨rfl, rfl, rfl, rfl, rfl⟩ rfl rfl rfl rfl rfl objectBack_named Tryz.func4 objectBack_closed
  (of_decide_eq_true (by kernel_rfl)) (by unfold Func.isWrapper; first | (rw [if_pos (by decide +kernel)]; kernel_rfl) | (rw [if_neg (by decide +kernel)]; exact ⟨rfl, rfl⟩))
  (fun os started H enc _ => objectBack_lifted os started H enc)

theorem objectBack_card : Rows.ObjectBackCardSaid :=
 Claim7.holds_tied_plain_at .later [] Rows.objectBackCard.laidKinds true Rows.objectBackCard.stood.harness true
  objectBack_holds (fun _ h => by cases h) (by kernel_rfl) (fun _ h => by cases h) objectBack_row_tie rfl ⟨rfl, rfl⟩ mainE rfl
  (fun f fn hf hfn => by
   obtain rfl : f = 4 := Option.some.inj (objectBack_named.symm.trans hf) |>.symm
   obtain rfl : fn = Tryz.f4 := (Option.some.inj (Tryz.func4.symm.trans hfn)).symm
   exact ⟨looksE, fun j t ht => by
    rw [Tryz.params4] at ht
    have ht := List.mem_of_getElem? (by simpa using ht)
    simp at ht
    rcases ht with rfl | rfl | rfl | rfl
    ·exact (show Tryz.prog.wantsStandIn 5 = false by kernel_rfl)
    ·exact (show Tryz.prog.wantsStandIn 26 = false by kernel_rfl)
    ·exact (show Tryz.prog.wantsStandIn 9 = false by kernel_rfl)
    ·exact (show Tryz.prog.wantsStandIn 26 = false by kernel_rfl)⟩)
  objectBack_goes
#print axioms objectBack_card
end Go.Proofs.YtgdohpcnpgjpaaaGreatDoor
