/-
  Arguments that come in: texts, references.
-/
import Derived.Test.YtfpklhgkndnjjaaDoorAddrP
import Derived.Test.YtfpklhgkndnjjaaDoorTab
import Derived.ProofKit
import Derived.Lib.SmallJoins
namespace Go.Proofs.YtfpklhgkndnjjaaDoor
open Go Go.E Go.ChangeShapes Go.WideShapes Go.ChangeAt Go.RowKit Go.Joins Go.ChangeMaps

theorem bsize_le {b : ByteArray} (h : b.size ≤ maxLen) : b.data.toList.length ≤ 9223372036854775807 := by
  have e : b.data.toList.length = b.size := Array.length_toList
  rw [e]; exact h
theorem str_back (b : ByteArray) : str b.data.toList = .string b := rfl

set_option maxRecDepth 100000 in
/-- A reference that came in. -/
theorem open_ref {H : Type} {enc : TypeId × Value → H} {W : World} {b0 base : Nat} {sp : Nat → Bool} {held : Bool} {v : Value} {d : DataW H} {p : List MemPlace}
    (hv : Value.okWide Tryd.prog W .any b0 23 v) (h : DataW.Trod enc Tryd.prog W base sp held 23 v d p) : ∃ r : RefD, v = refV r := by
  have hu := Tryd.underlying23
  have hC : Tryd.prog.cellsOf 23 = 5 := by kernel_rfl
  obtain ⟨cs, rfl, hsz⟩ := okWide_struct hu hv
  obtain ⟨l⟩ := cs
  match l, hsz.trans hC with
  | [c0, c1, c2, c3, c4], _ =>
    obtain ⟨fuel, hf⟩ := h
    obtain ⟨xs, n, _, hx, _, hlen, hg⟩ := DataW.trod_struct hu hf
    have g0 := hg 0 _ rfl
    have g1 := hg 1 _ rfl
    have g2 := hg 2 _ rfl
    have g3 := hg 3 _ rfl
    have g4 := hg 4 _ rfl
    match xs, hlen with
    | [y0, y1, y2, y3, y4], _ =>
      obtain ⟨s, e0, _, _⟩ := DataW.trod_string Tryd.underlying9 g0
      obtain ⟨x1, e1, _, _⟩ := DataW.trod_int Tryd.underlying3 g1
      obtain ⟨x2, e2, _, _⟩ := DataW.trod_int Tryd.underlying3 g2
      obtain ⟨x3, e3, _⟩ := DataW.trod_bool Tryd.underlying4 g3
      obtain ⟨x4, e4, _⟩ := DataW.trod_bool Tryd.underlying4 g4
      have k1 : Tryd.prog.cellsOf 9 = 1 := by kernel_rfl
      have k2 : Tryd.prog.cellsOf 3 = 1 := by kernel_rfl
      have k3 : Tryd.prog.cellsOf 4 = 1 := by kernel_rfl
      simp [Value.cells, k1, k2, k3] at e0 e1 e2 e3 e4
      exact ⟨⟨s.data.toList, x1, x2, x3, x4⟩, by rw [e0, e1, e2, e3, e4]; rfl⟩

end Go.Proofs.YtfpklhgkndnjjaaDoor
