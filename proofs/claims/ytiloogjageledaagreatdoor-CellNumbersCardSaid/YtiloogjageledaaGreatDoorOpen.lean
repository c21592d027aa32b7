/-
  Arguments that come in: texts, references.
-/
import Derived.Test.YtiloogjageledaaGreatDoorAddr
import Derived.Test.YtiloogjageledaaGreatDoorTab
import Derived.ProofKit
import Derived.Lib.SmallJoins
namespace Go.Proofs.YtiloogjageledaaGreatDoor
open Go Go.E Go.ChangeShapes Go.WideShapes Go.ChangeAt Go.RowKit Go.Joins Go.ChangeMaps

theorem rowOf_4 {H : Type} {enc : TypeId × Value → H} {P : Program} {w : World} {base : Nat} {sp : Nat → Bool} {held : Bool} {t0 t1 t2 t3 : TypeId} {args : Array Value} {ds : List (DataW H)} {ps : List MemPlace}
    (h : DataW.TrodAll enc P w base sp held [t0, t1, t2, t3] args.toList ds ps) :
    ∃ v0 d0 p0 v1 d1 p1 v2 d2 p2 v3 d3 p3, args = #[v0, v1, v2, v3] ∧ ds = [d0, d1, d2, d3] ∧ DataW.Trod enc P w base sp held t0 v0 d0 p0 ∧ DataW.Trod enc P w base sp held t1 v1 d1 p1 ∧ DataW.Trod enc P w base sp held t2 v2 d2 p2 ∧ DataW.Trod enc P w base sp held t3 v3 d3 p3 := by
  obtain ⟨l⟩ := args
  obtain ⟨v0, r0, d0, e0, p0, q0, a0, rfl, rfl, h0, k0⟩ := trodAll_cons h
  obtain ⟨v1, r1, d1, e1, p1, q1, a1, rfl, rfl, h1, k1⟩ := trodAll_cons k0
  obtain ⟨v2, r2, d2, e2, p2, q2, a2, rfl, rfl, h2, k2⟩ := trodAll_cons k1
  obtain ⟨v3, r3, d3, e3, p3, q3, a3, rfl, rfl, h3, k3⟩ := trodAll_cons k2
  obtain ⟨rfl, rfl, rfl⟩ := trodAll_nil k3
  subst a3
  subst a2
  subst a1
  simp only at a0
  subst a0
  exact ⟨v0, d0, p0, v1, d1, p1, v2, d2, p2, v3, d3, p3, rfl, rfl, h0, h1, h2, h3⟩

theorem rowOf_5 {H : Type} {enc : TypeId × Value → H} {P : Program} {w : World} {base : Nat} {sp : Nat → Bool} {held : Bool} {t0 t1 t2 t3 t4 : TypeId} {args : Array Value} {ds : List (DataW H)} {ps : List MemPlace}
    (h : DataW.TrodAll enc P w base sp held [t0, t1, t2, t3, t4] args.toList ds ps) :
    ∃ v0 d0 p0 v1 d1 p1 v2 d2 p2 v3 d3 p3 v4 d4 p4, args = #[v0, v1, v2, v3, v4] ∧ ds = [d0, d1, d2, d3, d4] ∧ DataW.Trod enc P w base sp held t0 v0 d0 p0 ∧ DataW.Trod enc P w base sp held t1 v1 d1 p1 ∧ DataW.Trod enc P w base sp held t2 v2 d2 p2 ∧ DataW.Trod enc P w base sp held t3 v3 d3 p3 ∧ DataW.Trod enc P w base sp held t4 v4 d4 p4 := by
  obtain ⟨l⟩ := args
  obtain ⟨v0, r0, d0, e0, p0, q0, a0, rfl, rfl, h0, k0⟩ := trodAll_cons h
  obtain ⟨v1, r1, d1, e1, p1, q1, a1, rfl, rfl, h1, k1⟩ := trodAll_cons k0
  obtain ⟨v2, r2, d2, e2, p2, q2, a2, rfl, rfl, h2, k2⟩ := trodAll_cons k1
  obtain ⟨v3, r3, d3, e3, p3, q3, a3, rfl, rfl, h3, k3⟩ := trodAll_cons k2
  obtain ⟨v4, r4, d4, e4, p4, q4, a4, rfl, rfl, h4, k4⟩ := trodAll_cons k3
  obtain ⟨rfl, rfl, rfl⟩ := trodAll_nil k4
  subst a4
  subst a3
  subst a2
  subst a1
  simp only at a0
  subst a0
  exact ⟨v0, d0, p0, v1, d1, p1, v2, d2, p2, v3, d3, p3, v4, d4, p4, rfl, rfl, h0, h1, h2, h3, h4⟩

theorem rowOf_6 {H : Type} {enc : TypeId × Value → H} {P : Program} {w : World} {base : Nat} {sp : Nat → Bool} {held : Bool} {t0 t1 t2 t3 t4 t5 : TypeId} {args : Array Value} {ds : List (DataW H)} {ps : List MemPlace}
    (h : DataW.TrodAll enc P w base sp held [t0, t1, t2, t3, t4, t5] args.toList ds ps) :
    ∃ v0 d0 p0 v1 d1 p1 v2 d2 p2 v3 d3 p3 v4 d4 p4 v5 d5 p5, args = #[v0, v1, v2, v3, v4, v5] ∧ ds = [d0, d1, d2, d3, d4, d5] ∧ DataW.Trod enc P w base sp held t0 v0 d0 p0 ∧ DataW.Trod enc P w base sp held t1 v1 d1 p1 ∧ DataW.Trod enc P w base sp held t2 v2 d2 p2 ∧ DataW.Trod enc P w base sp held t3 v3 d3 p3 ∧ DataW.Trod enc P w base sp held t4 v4 d4 p4 ∧ DataW.Trod enc P w base sp held t5 v5 d5 p5 := by
  obtain ⟨l⟩ := args
  obtain ⟨v0, r0, d0, e0, p0, q0, a0, rfl, rfl, h0, k0⟩ := trodAll_cons h
  obtain ⟨v1, r1, d1, e1, p1, q1, a1, rfl, rfl, h1, k1⟩ := trodAll_cons k0
  obtain ⟨v2, r2, d2, e2, p2, q2, a2, rfl, rfl, h2, k2⟩ := trodAll_cons k1
  obtain ⟨v3, r3, d3, e3, p3, q3, a3, rfl, rfl, h3, k3⟩ := trodAll_cons k2
  obtain ⟨v4, r4, d4, e4, p4, q4, a4, rfl, rfl, h4, k4⟩ := trodAll_cons k3
  obtain ⟨v5, r5, d5, e5, p5, q5, a5, rfl, rfl, h5, k5⟩ := trodAll_cons k4
  obtain ⟨rfl, rfl, rfl⟩ := trodAll_nil k5
  subst a5
  subst a4
  subst a3
  subst a2
  subst a1
  simp only at a0
  subst a0
  exact ⟨v0, d0, p0, v1, d1, p1, v2, d2, p2, v3, d3, p3, v4, d4, p4, v5, d5, p5, rfl, rfl, h0, h1, h2, h3, h4, h5⟩

theorem bsize_le {b : ByteArray} (h : b.size ≤ maxLen) : b.data.toList.length ≤ 9223372036854775807 := by
  have e : b.data.toList.length = b.size := Array.length_toList
  rw [e]; exact h
theorem str_back (b : ByteArray) : str b.data.toList = .string b := rfl

set_option maxRecDepth 100000 in
/-- A reference that came in. -/
theorem open_ref {H : Type} {enc : TypeId × Value → H} {W : World} {b0 base : Nat} {sp : Nat → Bool} {held : Bool} {v : Value} {d : DataW H} {p : List MemPlace}
    (hv : Value.okWide Tryz.prog W .any b0 35 v) (h : DataW.Trod enc Tryz.prog W base sp held 35 v d p) : ∃ r : RefD, v = refV r := by
  have hu := Tryz.underlying35
  have hC : Tryz.prog.cellsOf 35 = 5 := by kernel_rfl
  obtain ⟨cs, rfl, hsz⟩ := okWide_struct hu hv
  obtain ⟨l⟩ := cs
  match l, hsz.trans hC with
  | [c0, c1, c2, c3, c4], _ =>
    obtain ⟨fuel, hf⟩ := h
    obtain ⟨xs, n, _, hx, _, hlen, hg⟩ := DataW.trod_struct hu hf
    have g0 := hg 0 _ rfl
    have g1 := hg 1 _ rfl
    have g2 := hg 2 _ rfl
    have g3 := hg 3 _ rfl
    have g4 := hg 4 _ rfl
    match xs, hlen with
    | [y0, y1, y2, y3, y4], _ =>
      obtain ⟨s, e0, _, _⟩ := DataW.trod_string Tryz.underlying9 g0
      obtain ⟨x1, e1, _, _⟩ := DataW.trod_int Tryz.underlying3 g1
      obtain ⟨x2, e2, _, _⟩ := DataW.trod_int Tryz.underlying3 g2
      obtain ⟨x3, e3, _⟩ := DataW.trod_bool Tryz.underlying4 g3
      obtain ⟨x4, e4, _⟩ := DataW.trod_bool Tryz.underlying4 g4
      have k1 : Tryz.prog.cellsOf 9 = 1 := by kernel_rfl
      have k2 : Tryz.prog.cellsOf 3 = 1 := by kernel_rfl
      have k3 : Tryz.prog.cellsOf 4 = 1 := by kernel_rfl
      simp [Value.cells, k1, k2, k3] at e0 e1 e2 e3 e4
      exact ⟨⟨s.data.toList, x1, x2, x3, x4⟩, by rw [e0, e1, e2, e3, e4]; rfl⟩

end Go.Proofs.YtiloogjageledaaGreatDoor
