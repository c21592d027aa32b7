/-
  Arguments that come in: rows of nodes.
-/
import Derived.Test.YtiloogjageledaaGreatDoorOpenS
import Derived.Test.YtiloogjageledaaGreatDoorTree
import Derived.Test.YtiloogjageledaaGreatDoorEngF
import Derived.Deep.Slices
namespace Go.Proofs.YtiloogjageledaaGreatDoor
open Go Go.E Go.ChangeShapes Go.WideShapes Go.ChangeAt Go.RowKit Go.Joins Go.ChangeMaps

/-- Nodes that came in, however many. -/
def NodesO (w : World) (v : Value) (l : List NodeD) : Prop :=
  l.length ≤ 9223372036854775807 ∧ (∀ nd ∈ l, nd.num ≤ 9223372036854775807 ∧ -9223372036854775808 ≤ nd.num ∧ nd.text.length ≤ 9223372036854775807 ∧ nd.ref.sheet.length ≤ 9223372036854775807 ∧ nd.to.sheet.length ≤ 9223372036854775807) ∧ (v = .slice none 0 0 ∧ l = [] ∨ ∃ a cap, v = .slice (some a) l.length cap ∧ ∀ i nd, l[i]? = some nd → ∃ kv, InS .i64 w kv nd.kids ∧ ∀ j u, (nvL ⟨nd, kv⟩)[j]? = some u → w.cell? ((a.add (i * 14)).add j) = some u)
theorem NodesO.ext {w w' : World} {v : Value} {l : List NodeD} (h : NodesO w v l) (x : Ext w w') : NodesO w' v l := by
  obtain ⟨h0, h1, h | ⟨a, cap, e, h⟩⟩ := h
  · exact ⟨h0, h1, .inl h⟩
  · exact ⟨h0, h1, .inr ⟨a, cap, e, fun i nd hi => let ⟨kv, hk, hc⟩ := h i nd hi; ⟨kv, hk.ext x, fun j u hj => cell_ext x (hc j u hj)⟩⟩⟩
theorem NodesO.slice {w : World} {v : Value} {l : List NodeD} (h : NodesO w v l) : ∃ p c, v = .slice p l.length c := by
  obtain ⟨h0, h1, ⟨rfl, rfl⟩ | ⟨a, cap, e, h⟩⟩ := h
  · exact ⟨_, _, rfl⟩
  · exact ⟨_, _, e⟩
theorem NodesO.at {w : World} {p : Option Addr} {c : Nat} {l : List NodeD} (h : NodesO w (.slice p l.length c) l) {i : Nat} {nd : NodeD} (hi : l[i]? = some nd) :
    ∃ a kp kc, p = some a ∧ InS .i64 w (.slice kp nd.kids.length kc) nd.kids ∧ ∀ j u, (nvL ⟨nd, .slice kp nd.kids.length kc⟩)[j]? = some u → w.cell? ((a.add (i * 14)).add j) = some u := by
  obtain ⟨h0, h1, ⟨e, e2⟩ | ⟨a, cap, e, h⟩⟩ := h
  · rw [e2] at hi; simp at hi
  · simp only [Value.slice.injEq] at e
    obtain ⟨kv, hk, hc⟩ := h i nd hi
    obtain ⟨kp, kc, rfl⟩ := hk.slice
    exact ⟨a, kp, kc, e.1, hk, hc⟩
/-- Nodes whose fields are not too long. -/
def Fine (nd : NodeD) : Prop := nd.kids.length ≤ 100 ∧ nd.text.length ≤ 500 ∧ nd.ref.sheet.length ≤ 100 ∧ nd.to.sheet.length ≤ 100
theorem fine_short {l : List NodeD} (h : ∀ nd ∈ l, Fine nd) : Short l ∧ ∀ nd ∈ l, nd.kids.length ≤ 100 :=
  ⟨fun nd hn => by obtain ⟨_, h1, h2, h3⟩ := h nd hn; exact ⟨by omega, by omega, by omega⟩, fun nd hn => (h nd hn).1⟩
theorem NodesO.row {w : World} {v : Value} {l : List NodeD} (h : NodesO w v l) (hl : l.length ≤ 100000) (hk : ∀ n ∈ l, n.kids.length ≤ 100000) : NodesR w v l := by
  obtain ⟨_, _, h | ⟨a, cap, e, h⟩⟩ := h
  · exact ⟨hl, .inl h⟩
  · refine ⟨hl, .inr ⟨a, cap, e, fun i nd hi => ?_⟩⟩
    obtain ⟨kv, hk', hc⟩ := h i nd hi
    exact ⟨kv, ⟨by have := hk nd (List.mem_of_getElem? hi); omega, hk'.2⟩, hc⟩

section
variable {H : Type} {enc : TypeId × Value → H} {W : World} {base : Nat} {sp : Nat → Bool} {held : Bool}
set_option maxRecDepth 100000 in
theorem ref_cells {n : Nat} {cs : List Value} {x : DataW H × List MemPlace} (h : DataW.trod enc Tryz.prog W base sp held n 35 cs = some x) : ∃ r : RefD, cs = refL r ∧ r.sheet.length ≤ 9223372036854775807 := by
  have hu := Tryz.underlying35
  have hC : Tryz.prog.cellsOf 35 = 5 := by kernel_rfl
  obtain ⟨xs, n', _, hx, hl, hlen, hg⟩ := DataW.trod_struct hu h
  match cs, hl.trans hC with
  | [c0, c1, c2, c3, c4], _ =>
    have g0 := hg 0 _ rfl
    have g1 := hg 1 _ rfl
    have g2 := hg 2 _ rfl
    have g3 := hg 3 _ rfl
    have g4 := hg 4 _ rfl
    match xs, hlen with
    | [y0, y1, y2, y3, y4], _ =>
      obtain ⟨s, e0, _, hs⟩ := DataW.trod_string Tryz.underlying9 g0
      obtain ⟨x1, e1, _, _⟩ := DataW.trod_int Tryz.underlying3 g1
      obtain ⟨x2, e2, _, _⟩ := DataW.trod_int Tryz.underlying3 g2
      obtain ⟨x3, e3, _⟩ := DataW.trod_bool Tryz.underlying4 g3
      obtain ⟨x4, e4, _⟩ := DataW.trod_bool Tryz.underlying4 g4
      have k1 : Tryz.prog.cellsOf 9 = 1 := by kernel_rfl
      have k2 : Tryz.prog.cellsOf 3 = 1 := by kernel_rfl
      have k3 : Tryz.prog.cellsOf 4 = 1 := by kernel_rfl
      simp [k1, k2, k3] at e0 e1 e2 e3 e4
      exact ⟨⟨s.data.toList, x1, x2, x3, x4⟩, by rw [e0, e1, e2, e3, e4]; rfl, bsize_le hs⟩

theorem ins_cells {n : Nat} {c : Value} {x : DataW H × List MemPlace} (h : DataW.trod enc Tryz.prog W base sp held n 36 [c] = some x) : ∃ zs, InS .i64 W c zs := by
  rcases open_ints Tryz.underlying36 Tryz.underlying3 (by kernel_rfl) h with ⟨e1, _⟩ | ⟨a', len', cap', zs, e1, _, hl, hm, hz, _, hcell, hw⟩
  · have e2 : c = .slice none 0 0 := by simpa using e1
    rw [e2]
    exact ⟨[], ⟨by simp, .inl ⟨rfl, rfl⟩⟩⟩
  · have e2 : c = .slice (some a') len' cap' := by simpa using e1
    rw [e2]
    have hlen : len' ≤ zs.length := by rw [hz]; split <;> omega
    have hmx : maxLen ≤ 9223372036854775807 := by decide
    have htk : (zs.take len').length = len' := by simp; omega
    refine ⟨zs.take len', ⟨by omega, .inr ⟨a', cap', by rw [htk], fun i z hi => ?_⟩⟩⟩
    have hil : i < len' := by
      have := (List.getElem?_eq_some_iff.1 hi).1
      omega
    rw [List.getElem?_take_of_lt hil] at hi
    rw [hcell i (by omega)]
    simp [List.getD_eq_getElem?_getD, hi]

set_option maxRecDepth 100000 in
theorem node_cells {n : Nat} {cs : List Value} {x : DataW H × List MemPlace} (h : DataW.trod enc Tryz.prog W base sp held n 38 cs = some x) : ∃ (nd : NodeD) (kv : Value), cs = nvL ⟨nd, kv⟩ ∧ InS .i64 W kv nd.kids ∧ (nd.num ≤ 9223372036854775807 ∧ -9223372036854775808 ≤ nd.num ∧ nd.text.length ≤ 9223372036854775807 ∧ nd.ref.sheet.length ≤ 9223372036854775807 ∧ nd.to.sheet.length ≤ 9223372036854775807) := by
  have hu := Tryz.underlying38
  have hC : Tryz.prog.cellsOf 38 = 14 := by kernel_rfl
  obtain ⟨xs, n', _, hx, hl, hlen, hg⟩ := DataW.trod_struct hu h
  match cs, hl.trans hC with
  | [c0, c1, c2, c3, c4, c5, c6, c7, c8, c9, c10, c11, c12, c13], _ =>
    have g0 := hg 0 _ rfl
    have g1 := hg 1 _ rfl
    have g2 := hg 2 _ rfl
    have g3 := hg 3 _ rfl
    have g4 := hg 4 _ rfl
    have g5 := hg 5 _ rfl
    match xs, hlen with
    | [y0, y1, y2, y3, y4, y5], _ =>
      have k1 : Tryz.prog.cellsOf 9 = 1 := by kernel_rfl
      have k2 : Tryz.prog.cellsOf 3 = 1 := by kernel_rfl
      have k3 : Tryz.prog.cellsOf 35 = 5 := by kernel_rfl
      have k4 : Tryz.prog.cellsOf 36 = 1 := by kernel_rfl
      obtain ⟨z0, e0, _, _⟩ := DataW.trod_int Tryz.underlying3 g0
      obtain ⟨z1, e1, _, w1⟩ := DataW.trod_int Tryz.underlying3 g1
      obtain ⟨s, e2, _, hs⟩ := DataW.trod_string Tryz.underlying9 g2
      obtain ⟨r3, e3, l3⟩ := ref_cells g3
      obtain ⟨r4, e4, l4⟩ := ref_cells g4
      simp [k1, k2, k3, refL] at e0 e1 e2 e3 e4
      have g5' : DataW.trod enc Tryz.prog W base sp held n' 36 [c13] = some y5 := by
        simpa [k4] using g5
      obtain ⟨zs, hz⟩ := ins_cells g5'
      obtain ⟨a3, b3, d3, f3, i3⟩ := e3
      obtain ⟨a4, b4, d4, f4, i4⟩ := e4
      simp only [Lit.wf, Bool.and_eq_true, decide_eq_true_eq, IntKind.min, IntKind.max, IntKind.signed, IntKind.bits] at w1
      refine ⟨⟨z0, z1, s.data.toList, r3, r4, zs⟩, c13, ?_, hz, ?_⟩
      · rw [e0, e1, e2, a3, b3, d3, f3, i3, a4, b4, d4, f4, i4]; rfl
      · refine ⟨?_, ?_, bsize_le hs, l3, l4⟩ <;> simp at w1 ⊢ <;> omega

instance : Inhabited NodeD := ⟨{ kind := 0 }⟩
set_option maxRecDepth 100000 in
theorem open_nodes {b0 : Nat} {v : Value} {d : DataW H} {p : List MemPlace} (hv : Value.okWide Tryz.prog W .any b0 23 v) (h : DataW.Trod enc Tryz.prog W base sp held 23 v d p) : ∃ l, NodesO W v l := by
  have ht := Tryz.underlying23
  have hC : Tryz.prog.cellsOf 38 = 14 := by kernel_rfl
  have hmx : maxLen ≤ 9223372036854775807 := by decide
  obtain ⟨a, len, cap, rfl⟩ := okWide_slice ht hv
  obtain ⟨fuel, hf⟩ := h
  rcases Go.Deep.open_slice ht hf with ⟨e1, _⟩ | ⟨a', len', cap', m, n, D, Pl, e1, _, hl, hm, hmm, _, hx⟩
  · have e2 : (Value.slice a len cap) = .slice none 0 0 := by simpa [Value.cells] using e1
    rw [e2]
    exact ⟨[], by simp, by simp, .inl ⟨rfl, rfl⟩⟩
  · have e2 : (Value.slice a len cap) = .slice (some a') len' cap' := by simpa [Value.cells] using e1
    rw [e2]
    have hlen : len' ≤ m := by rw [hmm]; split <;> omega
    have key : ∀ i, i < len' → ∃ nd : NodeD, ∃ kv, InS .i64 W kv nd.kids ∧ (nd.num ≤ 9223372036854775807 ∧ -9223372036854775808 ≤ nd.num ∧ nd.text.length ≤ 9223372036854775807 ∧ nd.ref.sheet.length ≤ 9223372036854775807 ∧ nd.to.sheet.length ≤ 9223372036854775807) ∧ ∀ j u, (nvL ⟨nd, kv⟩)[j]? = some u → W.cell? ((a'.add (i * 14)).add j) = some u := by
      intro i hi
      obtain ⟨cs', h1, h2⟩ := hx i (by omega)
      rw [hC] at h1
      obtain ⟨nd, kv, rfl, hk, hb⟩ := node_cells h2
      refine ⟨nd, kv, hk, hb, fun j u hj => ?_⟩
      obtain ⟨_, hlen2, hc⟩ := World.cells?_some h1
      have := (List.getElem?_eq_some_iff.1 hj).1
      rw [hc j (by omega)]
      exact hj
    obtain ⟨N, hN⟩ := Go.Deep.choose_lt key
    refine ⟨(List.range len').map N, by simp; omega, ?_, .inr ⟨a', cap', by simp, fun i nd hi => ?_⟩⟩
    · intro nd hnd
      obtain ⟨i, hi, rfl⟩ := List.mem_map.1 hnd
      obtain ⟨kv, _, hb, _⟩ := hN i (by simpa using hi)
      exact hb
    · have hil : i < len' := by
        have := (List.getElem?_eq_some_iff.1 hi).1
        simpa using this
      have : N i = nd := by simpa [hil] using hi
      subst this
      obtain ⟨kv, hk, _, hc⟩ := hN i hil
      exact ⟨kv, hk, hc⟩
end
end Go.Proofs.YtiloogjageledaaGreatDoor
