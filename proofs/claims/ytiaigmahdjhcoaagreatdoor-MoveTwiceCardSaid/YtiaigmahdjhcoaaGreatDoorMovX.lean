/-
 A map that the call has made, its numbers' memory known.
-/
import Derived.Test.YtiaigmahdjhcoaaGreatDoorPkJ
namespace Go.Proofs.YtiaigmahdjhcoaaGreatDoor
open Go Go.E

def Own1 (w0 w : World) (v : Value) (m : MapD) : Prop := Own w w0.heap.size 3 1 v m.to.length (icells m.to) ∧ m.to.length ≤ 1000000
theorem Own1.chg {S : List Nat} {w0 w w' : World} {v : Value} {m : MapD} (h : Own1 w0 w v m) (hc : Chg S w w') (hT : ∀ b ∈ S, ∃ l T, Blk w b l T ∧ T ≠ 3) : Own1 w0 w' v m :=
 ⟨h.1.chg hc (fun b hb hm => by
  obtain ⟨l, T, h1, h2⟩ := hT b hm
  exact h2 (Own.type h.1 hb h1)), h.2⟩
theorem Own1.ext {w0 w w' : World} {v : Value} {m : MapD} (h : Own1 w0 w v m) (x : Ext w w') : Own1 w0 w' v m := ⟨h.1.ext x, h.2⟩
theorem Own1.ints {w0 w : World} {v : Value} {m : MapD} (h : Own1 w0 w v m) : IntsR w v m.to := Own.ints h.1 rfl (by have := h.2; omega)
theorem Own1.one {w0 w : World} {v : Value} {m : MapD} (h : Own1 w0 w v m) : v.oneCell' = true := by
 obtain ⟨p, c, rfl⟩ := h.1.slice
 rfl
theorem MapO.own1 {w0 w1 w : World} {v : Value} {m : MapD} (h : MapO w1 w v m) (hl : w0.heap.size ≤ w1.heap.size) (hb : m.to.length ≤ 1000000) : ∃ p c, v = .agg ⟨[.slice p m.to.length c, .int .i64 m.new]⟩ ∧ Own1 w0 w (.slice p m.to.length c) m := by
 obtain ⟨tv, rfl, ho⟩ := h
 obtain ⟨p, c, rfl⟩ := ho.slice
 exact ⟨p, c, rfl, ho.low hl, hb⟩
end Go.Proofs.YtiaigmahdjhcoaaGreatDoor
