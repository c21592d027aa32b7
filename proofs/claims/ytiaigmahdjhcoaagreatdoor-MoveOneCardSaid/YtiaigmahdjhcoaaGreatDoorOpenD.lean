/-
 Arguments that come in: five of them.
-/
import Derived.Test.YtiaigmahdjhcoaaGreatDoorPkF
import Derived.ChangeSlices
import Derived.WideShapes
namespace Go.Proofs.YtiaigmahdjhcoaaGreatDoor
open Go Go.E Go.ChangeShapes Go.WideShapes Go.ChangeAt Go.RowKit Go.Joins Go.ChangeMaps

theorem rowOf5 {H : Type} {enc : TypeId × Value → H} {P : Program} {w : World} {base : Nat} {sp : Nat → Bool} {held : Bool} {t0 t1 t2 t3 t4 : TypeId} {args : Array Value} {ds : List (DataW H)} {ps : List MemPlace}
  (h : DataW.TrodAll enc P w base sp held [t0, t1, t2, t3, t4] args.toList ds ps) :
  ∃ v0 d0 p0 v1 d1 p1 v2 d2 p2 v3 d3 p3 v4 d4 p4, args = #[v0, v1, v2, v3, v4] ∧ ds = [d0, d1, d2, d3, d4] ∧ DataW.Trod enc P w base sp held t0 v0 d0 p0 ∧ DataW.Trod enc P w base sp held t1 v1 d1 p1 ∧ DataW.Trod enc P w base sp held t2 v2 d2 p2 ∧ DataW.Trod enc P w base sp held t3 v3 d3 p3 ∧ DataW.Trod enc P w base sp held t4 v4 d4 p4 := by
 obtain ⟨l⟩ := args
 obtain ⟨v0, r0, d0, e0, p0, q0, a0, rfl, rfl, h0, k0⟩ := trodAll_cons h
 obtain ⟨v1, r1, d1, e1, p1, q1, a1, rfl, rfl, h1, k1⟩ := trodAll_cons k0
 obtain ⟨v2, r2, d2, e2, p2, q2, a2, rfl, rfl, h2, k2⟩ := trodAll_cons k1
 obtain ⟨v3, r3, d3, e3, p3, q3, a3, rfl, rfl, h3, k3⟩ := trodAll_cons k2
 obtain ⟨v4, r4, d4, e4, p4, q4, a4, rfl, rfl, h4, k4⟩ := trodAll_cons k3
 obtain ⟨rfl, rfl, rfl⟩ := trodAll_nil k4
 subst a4
 subst a3
 subst a2
 subst a1
 simp only at a0
 subst a0
 exact ⟨v0, d0, p0, v1, d1, p1, v2, d2, p2, v3, d3, p3, v4, d4, p4, rfl, rfl, h0, h1, h2, h3, h4⟩
end Go.Proofs.YtiaigmahdjhcoaaGreatDoor
