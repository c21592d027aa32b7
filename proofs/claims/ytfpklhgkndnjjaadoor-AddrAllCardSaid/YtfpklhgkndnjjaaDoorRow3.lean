/-
  The rows of layer 3 closed.
-/
import Derived.Test.YtfpklhgkndnjjaaDoorClose
import Derived.Test.YtfpklhgkndnjjaaDoorLaw3
import Derived.Test.YtfpklhgkndnjjaaDoorCards
import Derived.Lib.SmallJoins
namespace Go.Proofs.YtfpklhgkndnjjaaDoor
open Go Go.E Go.ChangeShapes Go.WideShapes Go.ChangeAt Go.RowKit Go.Joins Go.ChangeMaps

theorem bsize_le {b : ByteArray} (h : b.size ≤ maxLen) : b.data.toList.length ≤ 9223372036854775807 := by
  have e : b.data.toList.length = b.size := Array.length_toList
  rw [e]; exact h
theorem str_back (b : ByteArray) : str b.data.toList = .string b := rfl

set_option maxRecDepth 100000 in
/-- A reference that came in. -/
theorem open_ref {H : Type} {enc : TypeId × Value → H} {W : World} {b0 base : Nat} {sp : Nat → Bool} {held : Bool} {v : Value} {d : DataW H} {p : List MemPlace}
    (hv : Value.okWide Tryd.prog W .any b0 23 v) (h : DataW.Trod enc Tryd.prog W base sp held 23 v d p) : ∃ r : RefD, v = refV r := by
  have hu := Tryd.underlying23
  have hC : Tryd.prog.cellsOf 23 = 5 := by kernel_rfl
  obtain ⟨cs, rfl, hsz⟩ := okWide_struct hu hv
  obtain ⟨l⟩ := cs
  match l, hsz.trans hC with
  | [c0, c1, c2, c3, c4], _ =>
    obtain ⟨fuel, hf⟩ := h
    obtain ⟨xs, n, _, hx, _, hlen, hg⟩ := DataW.trod_struct hu hf
    have g0 := hg 0 _ rfl
    have g1 := hg 1 _ rfl
    have g2 := hg 2 _ rfl
    have g3 := hg 3 _ rfl
    have g4 := hg 4 _ rfl
    match xs, hlen with
    | [y0, y1, y2, y3, y4], _ =>
      obtain ⟨s, e0, _, _⟩ := DataW.trod_string Tryd.underlying9 g0
      obtain ⟨x1, e1, _, _⟩ := DataW.trod_int Tryd.underlying3 g1
      obtain ⟨x2, e2, _, _⟩ := DataW.trod_int Tryd.underlying3 g2
      obtain ⟨x3, e3, _⟩ := DataW.trod_bool Tryd.underlying4 g3
      obtain ⟨x4, e4, _⟩ := DataW.trod_bool Tryd.underlying4 g4
      have k1 : Tryd.prog.cellsOf 9 = 1 := by kernel_rfl
      have k2 : Tryd.prog.cellsOf 3 = 1 := by kernel_rfl
      have k3 : Tryd.prog.cellsOf 4 = 1 := by kernel_rfl
      simp [Value.cells, k1, k2, k3] at e0 e1 e2 e3 e4
      exact ⟨⟨s.data.toList, x1, x2, x3, x4⟩, by rw [e0, e1, e2, e3, e4]; rfl⟩

set_option maxRecDepth 100000 in
theorem addrAll_lifted (os : Os) (started : os.Started) (H : Type) (enc : TypeId × Value → H) :
    ReturnsInHanded {} Tryd.checked os 3 .any (fun w args => (Rows.addrAllSpec.pre enc Tryd.prog Tryd.f3 [] false w args ∧ laidMetH Tryd.prog laidL w) ∧ sizedMet enc Tryd.prog Tryd.f3 (OpenSpec.ofChange Rows.addrAllSpec) false w args)
      (Rows.addrAllSpec.post enc Tryd.prog Tryd.f3 false true false false) := by
  refine law_lifted started (by kernel_rfl) Tryd.func3 rfl (by
      intro t ht
      rw [Tryd.params3] at ht
      simp at ht
      rcases ht with rfl | rfl | rfl <;> exact ⟨by kernel_rfl, of_decide_eq_true (by kernel_rfl)⟩) rfl (fun ds h => by
      match ds, h with
      | [d1, d2, d3], _ => rfl)
    (ChangeSpec.witness_shaped (enc := enc) (C := Tryd.checked) (os := os) (X := fun w _ => laidMetH Tryd.prog laidL w) false (World.doorLaid Tryd.prog 62 os) #[str [], .int .i64 0, .agg #[str [], .int .i64 0, .int .i64 0, .bool false, .bool false]] 8 rfl (World.shaped_of_RefB (by kernel_rfl) (by kernel_rfl)) (by kernel_rfl) (by kernel_rfl) (by kernel_rfl) (door_met os _)) ?_
  intro W base args ds p g hval hA
  rw [Tryd.params3] at hA hval
  obtain ⟨v0, v1, v2, d0, d1, d2, p0, p1, p2, rfl, rfl, rfl, h0, h1, h2⟩ := trodAll_three hA
  obtain ⟨s, rfl, -, -, hs⟩ := open_string Tryd.underlying9 (hval 0 _ v0 rfl rfl) h0
  obtain ⟨n, rfl, -, -, hn⟩ := open_int Tryd.underlying3 (hval 1 _ v1 rfl rfl) h1
  obtain ⟨r, rfl⟩ := open_ref (hval 2 _ v2 rfl rfl) h2
  simp only [Lit.wf, Bool.and_eq_true, decide_eq_true_eq] at hn
  obtain ⟨hn0, hn1⟩ := hn
  have k0 : IntKind.i64.min = -9223372036854775808 := rfl
  have k1 : IntKind.i64.max = 9223372036854775807 := rfl
  exact AddrAll_ret s.data.toList n r (bsize_le hs) (by omega) (by omega) W g

theorem addrAll_holds : Rows.AddrAllSaid :=
  OpenClaim.holds_of_wide 3 Tryd.f3 rfl rfl rfl rfl rfl rfl rfl ⟨rfl, rfl, rfl, rfl, rfl⟩ rfl rfl rfl rfl rfl (by kernel_rfl) Tryd.func3 (by kernel_rfl)
    (of_decide_eq_true (by kernel_rfl)) (by unfold Func.isWrapper; first | (rw [if_pos (by decide +kernel)]; kernel_rfl) | (rw [if_neg (by decide +kernel)]; exact ⟨rfl, rfl⟩))
    (fun os started H enc _ => addrAll_lifted os started H enc)

theorem addrAll_card : Rows.AddrAllCardSaid :=
  Claim7.holds_tied_plain_at .later [] [.data, .data, .data, .sentinel, .sentinel] true (true, "c0e2a9c16aaec4d09fbd73cf38509e6da833436406d341c859824a5d2c560447") true
    addrAll_holds (fun _ h => by cases h) (by kernel_rfl) (fun _ h => by cases h) addrAll_row_tie rfl ⟨rfl, rfl⟩ (by kernel_rfl) rfl
    (fun f fn hf hfn => by
      obtain rfl : f = 3 := Option.some.inj ((show Tryd.prog.funcNamed "chequer/chequerlaw3.AddrAll" = some 3 by kernel_rfl).symm.trans hf) |>.symm
      obtain rfl : fn = Tryd.f3 := (Option.some.inj (Tryd.func3.symm.trans hfn)).symm
      exact ⟨by kernel_rfl, fun j t ht => by
        rw [Tryd.params3] at ht
        have ht := List.mem_of_getElem? (by simpa using ht)
        simp at ht
        rcases ht with rfl | rfl | rfl
        · exact (show Tryd.prog.wantsStandIn 9 = false by kernel_rfl)
        · exact (show Tryd.prog.wantsStandIn 3 = false by kernel_rfl)
        · exact (show Tryd.prog.wantsStandIn 23 = false by kernel_rfl)⟩)
    (by kernel_rfl)
#print axioms addrAll_card
end Go.Proofs.YtfpklhgkndnjjaaDoor
