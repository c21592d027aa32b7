/-
 Joined by program out of the texts Open OpenS OpenN RShow PShow MadeF Made.
-/
import Derived.Test.YtiaigmahdjhcoaaGreatDoorPkA
import Derived.Test.YtiaigmahdjhcoaaGreatDoorTab
import Derived.ProofKit
import Derived.Lib.SmallJoins
import Derived.Test.YtiaigmahdjhcoaaGreatDoorPkB
import Derived.ChangeSlices
import Derived.WideShapes
import Derived.Test.YtiaigmahdjhcoaaGreatDoorPkE
import Derived.Deep.Slices
import Derived.Test.YtiaigmahdjhcoaaGreatDoorPkC
import Derived.Test.YtiaigmahdjhcoaaGreatDoorPkD
import Derived.Lib.SplitLaws
namespace Go.Proofs.YtiaigmahdjhcoaaGreatDoor
open Go Go.E Go.ChangeShapes Go.WideShapes Go.ChangeAt Go.RowKit Go.Joins Go.ChangeMaps
theorem rowOf_4 {H : Type} {enc : TypeId × Value → H} {P : Program} {w : World} {base : Nat} {sp : Nat → Bool} {held : Bool} {t0 t1 t2 t3 : TypeId} {args : Array Value} {ds : List (DataW H)} {ps : List MemPlace}
  (h : DataW.TrodAll enc P w base sp held [t0, t1, t2, t3] args.toList ds ps) :
  ∃ v0 d0 p0 v1 d1 p1 v2 d2 p2 v3 d3 p3, args = #[v0, v1, v2, v3] ∧ ds = [d0, d1, d2, d3] ∧ DataW.Trod enc P w base sp held t0 v0 d0 p0 ∧ DataW.Trod enc P w base sp held t1 v1 d1 p1 ∧ DataW.Trod enc P w base sp held t2 v2 d2 p2 ∧ DataW.Trod enc P w base sp held t3 v3 d3 p3 := by
 obtain ⟨l⟩ := args
 obtain ⟨v0, r0, d0, e0, p0, q0, a0, rfl, rfl, h0, k0⟩ := trodAll_cons h
 obtain ⟨v1, r1, d1, e1, p1, q1, a1, rfl, rfl, h1, k1⟩ := trodAll_cons k0
 obtain ⟨v2, r2, d2, e2, p2, q2, a2, rfl, rfl, h2, k2⟩ := trodAll_cons k1
 obtain ⟨v3, r3, d3, e3, p3, q3, a3, rfl, rfl, h3, k3⟩ := trodAll_cons k2
 obtain ⟨rfl, rfl, rfl⟩ := trodAll_nil k3
 subst a3
 subst a2
 subst a1
 simp only at a0
 subst a0
 exact ⟨v0, d0, p0, v1, d1, p1, v2, d2, p2, v3, d3, p3, rfl, rfl, h0, h1, h2, h3⟩
theorem bsize_le {b : ByteArray} (h : b.size ≤ maxLen) : b.data.toList.length ≤ 9223372036854775807 := by
 have e : b.data.toList.length = b.size := Array.length_toList
 rw [e]; exact h
end Go.Proofs.YtiaigmahdjhcoaaGreatDoor
namespace Go.Proofs.YtiaigmahdjhcoaaGreatDoor
open Go Go.E Go.ChangeShapes Go.WideShapes Go.ChangeAt Go.RowKit Go.Joins Go.ChangeMaps
end Go.Proofs.YtiaigmahdjhcoaaGreatDoor
namespace Go.Proofs.YtiaigmahdjhcoaaGreatDoor
open Go Go.E Go.ChangeShapes Go.WideShapes Go.ChangeAt Go.RowKit Go.Joins Go.ChangeMaps
def NodesO (w : World) (v : Value) (l : List NodeD) : Prop :=
 l.length ≤ 9223372036854775807 ∧ (∀ nd ∈ l, nd.num ≤ 9223372036854775807 ∧ -9223372036854775808 ≤ nd.num ∧ nd.text.length ≤ 9223372036854775807 ∧ nd.ref.sheet.length ≤ 9223372036854775807 ∧ nd.to.sheet.length ≤ 9223372036854775807) ∧ (v = .slice none 0 0 ∧ l = [] ∨ ∃ a cap, v = .slice (some a) l.length cap ∧ ∀ i nd, l[i]? = some nd → ∃ kv, InS .i64 w kv nd.kids ∧ ∀ j u, (nvL ⟨nd, kv⟩)[j]? = some u → w.cell? ((a.add (i * 14)).add j) = some u)
theorem NodesO.ext {w w' : World} {v : Value} {l : List NodeD} (h : NodesO w v l) (x : Ext w w') : NodesO w' v l := by
 obtain ⟨h0, h1, h | ⟨a, cap, e, h⟩⟩ := h
 ·exact ⟨h0, h1, .inl h⟩
 ·exact ⟨h0, h1, .inr ⟨a, cap, e, fun i nd hi => let ⟨kv, hk, hc⟩ := h i nd hi; ⟨kv, hk.ext x, fun j u hj => cell_ext x (hc j u hj)⟩⟩⟩
theorem NodesO.slice {w : World} {v : Value} {l : List NodeD} (h : NodesO w v l) : ∃ p c, v = .slice p l.length c := by
 obtain ⟨h0, h1, ⟨rfl, rfl⟩ | ⟨a, cap, e, h⟩⟩ := h
 ·exact ⟨_, _, rfl⟩
 ·exact ⟨_, _, e⟩
theorem NodesO.at {w : World} {p : Option Addr} {c : Nat} {l : List NodeD} (h : NodesO w (.slice p l.length c) l) {i : Nat} {nd : NodeD} (hi : l[i]? = some nd) :
  ∃ a kp kc, p = some a ∧ InS .i64 w (.slice kp nd.kids.length kc) nd.kids ∧ ∀ j u, (nvL ⟨nd, .slice kp nd.kids.length kc⟩)[j]? = some u → w.cell? ((a.add (i * 14)).add j) = some u := by
 obtain ⟨h0, h1, ⟨e, e2⟩ | ⟨a, cap, e, h⟩⟩ := h
 ·rw [e2] at hi; simp at hi
 ·simp only [Value.slice.injEq] at e
  obtain ⟨kv, hk, hc⟩ := h i nd hi
  obtain ⟨kp, kc, rfl⟩ := hk.slice
  exact ⟨a, kp, kc, e.1, hk, hc⟩
def Fine (nd : NodeD) : Prop := nd.kids.length ≤ 100 ∧ nd.text.length ≤ 500 ∧ nd.ref.sheet.length ≤ 100 ∧ nd.to.sheet.length ≤ 100
theorem NodesO.row {w : World} {v : Value} {l : List NodeD} (h : NodesO w v l) (hl : l.length ≤ 100000) (hk : ∀ n ∈ l, n.kids.length ≤ 100000) : NodesR w v l := by
 obtain ⟨_, _, h | ⟨a, cap, e, h⟩⟩ := h
 ·exact ⟨hl, .inl h⟩
 ·refine ⟨hl, .inr ⟨a, cap, e, fun i nd hi => ?_⟩⟩
  obtain ⟨kv, hk', hc⟩ := h i nd hi
  exact ⟨kv, ⟨by have := hk nd (List.mem_of_getElem? hi); omega, hk'.2⟩, hc⟩
section
variable {H : Type} {enc : TypeId × Value → H} {W : World} {base : Nat} {sp : Nat → Bool} {held : Bool}
set_option maxRecDepth 100000 in
theorem ref_cells {n : Nat} {cs : List Value} {x : DataW H × List MemPlace} (h : DataW.trod enc Tryz.prog W base sp held n 54 cs = some x) : ∃ r : RefD, cs = refL r ∧ r.sheet.length ≤ 9223372036854775807 := by
 have hu := Tryz.underlying54
 have hC : Tryz.prog.cellsOf 54 = 5 := by kernel_rfl
 obtain ⟨xs, n', _, hx, hl, hlen, hg⟩ := DataW.trod_struct hu h
 match cs, hl.trans hC with
 | [c0, c1, c2, c3, c4], _ =>
  have g0 := hg 0 _ rfl
  have g1 := hg 1 _ rfl
  have g2 := hg 2 _ rfl
  have g3 := hg 3 _ rfl
  have g4 := hg 4 _ rfl
  match xs, hlen with
  | [y0, y1, y2, y3, y4], _ =>
   obtain ⟨s, e0, _, hs⟩ := DataW.trod_string Tryz.underlying9 g0
   obtain ⟨x1, e1, _, _⟩ := DataW.trod_int Tryz.underlying3 g1
   obtain ⟨x2, e2, _, _⟩ := DataW.trod_int Tryz.underlying3 g2
   obtain ⟨x3, e3, _⟩ := DataW.trod_bool Tryz.underlying4 g3
   obtain ⟨x4, e4, _⟩ := DataW.trod_bool Tryz.underlying4 g4
   have k1 : Tryz.prog.cellsOf 9 = 1 := by kernel_rfl
   have k2 : Tryz.prog.cellsOf 3 = 1 := by kernel_rfl
   have k3 : Tryz.prog.cellsOf 4 = 1 := by kernel_rfl
   simp [k1, k2, k3] at e0 e1 e2 e3 e4
   exact ⟨⟨s.data.toList, x1, x2, x3, x4⟩, by rw [e0, e1, e2, e3, e4]; rfl, bsize_le hs⟩
theorem ins_cells {n : Nat} {c : Value} {x : DataW H × List MemPlace} (h : DataW.trod enc Tryz.prog W base sp held n 55 [c] = some x) : ∃ zs, InS .i64 W c zs := by
 rcases open_ints Tryz.underlying55 Tryz.underlying3 (by kernel_rfl) h with ⟨e1, _⟩ | ⟨a', len', cap', zs, e1, _, hl, hm, hz, _, hcell, hw⟩
 ·have e2 : c = .slice none 0 0 := by simpa using e1
  rw [e2]
  exact ⟨[], ⟨by simp, .inl ⟨rfl, rfl⟩⟩⟩
 ·have e2 : c = .slice (some a') len' cap' := by simpa using e1
  rw [e2]
  have hlen : len' ≤ zs.length := by rw [hz]; split <;> omega
  have hmx : maxLen ≤ 9223372036854775807 := by decide
  have htk : (zs.take len').length = len' := by simp; omega
  refine ⟨zs.take len', ⟨by omega, .inr ⟨a', cap', by rw [htk], fun i z hi => ?_⟩⟩⟩
  have hil : i < len' := by
   have := (List.getElem?_eq_some_iff.1 hi).1
   omega
  rw [List.getElem?_take_of_lt hil] at hi
  rw [hcell i (by omega)]
  simp [List.getD_eq_getElem?_getD, hi]
set_option maxRecDepth 100000 in
theorem node_cells {n : Nat} {cs : List Value} {x : DataW H × List MemPlace} (h : DataW.trod enc Tryz.prog W base sp held n 57 cs = some x) : ∃ (nd : NodeD) (kv : Value), cs = nvL ⟨nd, kv⟩ ∧ InS .i64 W kv nd.kids ∧ (nd.num ≤ 9223372036854775807 ∧ -9223372036854775808 ≤ nd.num ∧ nd.text.length ≤ 9223372036854775807 ∧ nd.ref.sheet.length ≤ 9223372036854775807 ∧ nd.to.sheet.length ≤ 9223372036854775807) := by
 have hu := Tryz.underlying57
 have hC : Tryz.prog.cellsOf 57 = 14 := by kernel_rfl
 obtain ⟨xs, n', _, hx, hl, hlen, hg⟩ := DataW.trod_struct hu h
 match cs, hl.trans hC with
 | [c0, c1, c2, c3, c4, c5, c6, c7, c8, c9, c10, c11, c12, c13], _ =>
  have g0 := hg 0 _ rfl
  have g1 := hg 1 _ rfl
  have g2 := hg 2 _ rfl
  have g3 := hg 3 _ rfl
  have g4 := hg 4 _ rfl
  have g5 := hg 5 _ rfl
  match xs, hlen with
  | [y0, y1, y2, y3, y4, y5], _ =>
   have k1 : Tryz.prog.cellsOf 9 = 1 := by kernel_rfl
   have k2 : Tryz.prog.cellsOf 3 = 1 := by kernel_rfl
   have k3 : Tryz.prog.cellsOf 54 = 5 := by kernel_rfl
   have k4 : Tryz.prog.cellsOf 55 = 1 := by kernel_rfl
   obtain ⟨z0, e0, _, _⟩ := DataW.trod_int Tryz.underlying3 g0
   obtain ⟨z1, e1, _, w1⟩ := DataW.trod_int Tryz.underlying3 g1
   obtain ⟨s, e2, _, hs⟩ := DataW.trod_string Tryz.underlying9 g2
   obtain ⟨r3, e3, l3⟩ := ref_cells g3
   obtain ⟨r4, e4, l4⟩ := ref_cells g4
   simp [k1, k2, k3, refL] at e0 e1 e2 e3 e4
   have g5' : DataW.trod enc Tryz.prog W base sp held n' 55 [c13] = some y5 := by
    simpa [k4] using g5
   obtain ⟨zs, hz⟩ := ins_cells g5'
   obtain ⟨a3, b3, d3, f3, i3⟩ := e3
   obtain ⟨a4, b4, d4, f4, i4⟩ := e4
   simp only [Lit.wf, Bool.and_eq_true, decide_eq_true_eq, IntKind.min, IntKind.max, IntKind.signed, IntKind.bits] at w1
   refine ⟨⟨z0, z1, s.data.toList, r3, r4, zs⟩, c13, ?_, hz, ?_⟩
   ·rw [e0, e1, e2, a3, b3, d3, f3, i3, a4, b4, d4, f4, i4]; rfl
   ·refine ⟨?_, ?_, bsize_le hs, l3, l4⟩ <;> simp at w1 ⊢ <;> omega
instance : Inhabited NodeD := ⟨{ kind := 0 }⟩
set_option maxRecDepth 100000 in
theorem open_nodes {b0 : Nat} {v : Value} {d : DataW H} {p : List MemPlace} (hv : Value.okWide Tryz.prog W .any b0 50 v) (h : DataW.Trod enc Tryz.prog W base sp held 50 v d p) : ∃ l, NodesO W v l := by
 have ht := Tryz.underlying50
 have hC : Tryz.prog.cellsOf 57 = 14 := by kernel_rfl
 have hmx : maxLen ≤ 9223372036854775807 := by decide
 obtain ⟨a, len, cap, rfl⟩ := okWide_slice ht hv
 obtain ⟨fuel, hf⟩ := h
 rcases Go.Deep.open_slice ht hf with ⟨e1, _⟩ | ⟨a', len', cap', m, n, D, Pl, e1, _, hl, hm, hmm, _, hx⟩
 ·have e2 : (Value.slice a len cap) = .slice none 0 0 := by simpa [Value.cells] using e1
  rw [e2]
  exact ⟨[], by simp, by simp, .inl ⟨rfl, rfl⟩⟩
 ·have e2 : (Value.slice a len cap) = .slice (some a') len' cap' := by simpa [Value.cells] using e1
  rw [e2]
  have hlen : len' ≤ m := by rw [hmm]; split <;> omega
  have key : ∀ i, i < len' → ∃ nd : NodeD, ∃ kv, InS .i64 W kv nd.kids ∧ (nd.num ≤ 9223372036854775807 ∧ -9223372036854775808 ≤ nd.num ∧ nd.text.length ≤ 9223372036854775807 ∧ nd.ref.sheet.length ≤ 9223372036854775807 ∧ nd.to.sheet.length ≤ 9223372036854775807) ∧ ∀ j u, (nvL ⟨nd, kv⟩)[j]? = some u → W.cell? ((a'.add (i * 14)).add j) = some u := by
   intro i hi
   obtain ⟨cs', h1, h2⟩ := hx i (by omega)
   rw [hC] at h1
   obtain ⟨nd, kv, rfl, hk, hb⟩ := node_cells h2
   refine ⟨nd, kv, hk, hb, fun j u hj => ?_⟩
   obtain ⟨_, hlen2, hc⟩ := World.cells?_some h1
   have := (List.getElem?_eq_some_iff.1 hj).1
   rw [hc j (by omega)]
   exact hj
  obtain ⟨N, hN⟩ := Go.Deep.choose_lt key
  refine ⟨(List.range len').map N, by simp; omega, ?_, .inr ⟨a', cap', by simp, fun i nd hi => ?_⟩⟩
  ·intro nd hnd
   obtain ⟨i, hi, rfl⟩ := List.mem_map.1 hnd
   obtain ⟨kv, _, hb, _⟩ := hN i (by simpa using hi)
   exact hb
  ·have hil : i < len' := by
    have := (List.getElem?_eq_some_iff.1 hi).1
    simpa using this
   have : N i = nd := by simpa [hil] using hi
   subst this
   obtain ⟨kv, hk, _, hc⟩ := hN i hil
   exact ⟨kv, hk, hc⟩
end
end Go.Proofs.YtiaigmahdjhcoaaGreatDoor
namespace Go.Proofs.YtiaigmahdjhcoaaGreatDoor
open Go Go.E
def escC (c : UInt8) : List UInt8 := if c = 34 then [34, 34] else [c]
theorem quoteT_esc (s : List UInt8) : quoteT s = 34 :: s.flatMap escC ++ [34] := rfl
theorem esc_take {s : List UInt8} {i : Nat} (h : i < s.length) : (s.take (i + 1)).flatMap escC = (s.take i).flatMap escC ++ escC s[i] := by
 rw [take_snoc' h, List.flatMap_append]
 simp
theorem esc_le (s : List UInt8) : (s.flatMap escC).length ≤ 2 * s.length := by
 have := quote_len s
 rw [quoteT_esc] at this
 simp only [List.length_append, List.length_cons, List.length_nil] at this
 omega
theorem ch_of {s : List UInt8} {i : Nat} (h : i < s.length) : ch (byte s i) = s[i] := by
 rw [byte_eq h]
 unfold ch
 simp
theorem quote_ret (s : List UInt8) (hs : s.length ≤ 1000) (w : World) : Ret Tryz.prog 89 [str s] w (fun v w' => v = str (quoteT s) ∧ Ext w w') := by
 refine Ret.enter Tryz.func89 rfl Tryz.ntmps89 (by kernel_rfl) rfl ?_
 refine Sa ?_
 refine Lwl fun A w0 hbA hx0 hA0 => ?_
 replace hA0 : Blk w0 A [.int .u8 34] 5 := hA0
 have hz0 := hx0.size
 refine Sa ?_
 refine CW.loop (ι := Nat × Value) (fun k w' => k.1 ≤ s.length ∧ Ext w w' ∧ Own w' w.heap.size 5 1 k.2 (34 :: (s.take k.1).flatMap escC).length (bcells (34 :: (s.take k.1).flatMap escC))) (fun k => [(0, str s), (3, k.2), (4, .int .i64 (k.1 : Int))]) (fun k => s.length - k.1) (0, .slice (some ⟨A, 0, none⟩) 1 1) ⟨by simp, hx0, ⟨rfl, .inr ⟨A, 1, [], rfl, hA0, by simp, by simp, by omega⟩⟩⟩ (Sub.cons rfl (Sub.cons rfl (Sub.cons rfl (Sub.nil)))) ?_
 rintro ⟨i, v⟩ w1 ⟨hi, hx, hown⟩
 dsimp only at hi hown
 have hle : ((s.take i).flatMap escC).length ≤ 2 * i := by
  have h1 := esc_le (s.take i)
  have h2 : (s.take i).length ≤ i := List.length_take_le _ _
  omega
 generalize ho : 34 :: (s.take i).flatMap escC = out at hown
 have hlo : out.length ≤ 2001 := by rw [← ho]; simp only [List.length_cons]; omega
 have hz := hx.size
 show CW _ _ _ _ _ [(0, str s), (3, v), (4, .int .i64 (i : Int))] _
 refine Sa ?_
 refine Cwc (fun h1 => ?_) fun h1 => ?_
 rotate_left
 ·have h1 : i = s.length := by simp at h1; omega
  refine Sa ?_
  refine Lwl fun B w2 hbB hx2 hB => ?_
  replace hown := hown.ext hx2
  replace hx := hx.trans hx2
  have hz2 := hx2.size
  refine Sa ?_
  refine LW.append rfl rfl rfl rfl rfl rfl hown (by omega) hB rfl rfl rfl (by show (out.length + 1) * 2 ≤ 140737488355328; omega) rfl ?_
  intro v' w3 hc3 hown' hv'
  replace hx := hx.step hc3 (fun k hk => (hown.lt hk).1)
  refine Sa ?_
  replace hown' : Own w3 w.heap.size 5 1 v' (out ++ [ch 34]).length (bcells (out ++ [ch 34])) := own_snoc (by omega) (by omega) hown'
  refine LW.string_own rfl hown' rfl rfl rfl rfl rfl rfl rfl ?_
  refine Sa ?_
  refine QW.body1 Tryz.results89 rfl ⟨?_, hx⟩
  rw [← ho, h1, List.take_length, quoteT_esc]
  rfl
 have h1 : i < s.length := by simp at h1; omega
 have hby := byte_lt s i
 refine Sa ?_
 refine Cwc (fun h2 => ?_) fun h2 => ?_
 ·have h2 : byte s i = 34 := by simpa using h2
  refine Sa ?_
  refine Lwl fun B w2 hbB hx2 hB => ?_
  replace hown := hown.ext hx2
  replace hx := hx.trans hx2
  have hz2 := hx2.size
  refine Sa ?_
  refine LW.append rfl rfl rfl rfl rfl rfl hown (by omega) hB rfl rfl rfl (by show (out.length + 1) * 2 ≤ 140737488355328; omega) rfl ?_
  intro v' w3 hc3 hown' hv'
  replace hx := hx.step hc3 (fun k hk => (hown.lt hk).1)
  refine Sa ?_
  replace hown' : Own w3 w.heap.size 5 1 v' (out ++ [ch 34]).length (bcells (out ++ [ch 34])) := own_snoc (by omega) (by omega) hown'
  have hz3 := hx.size
  refine Sa ?_
  refine Lwl fun C w4 hbC hx4 hC => ?_
  replace hown' := hown'.ext hx4
  replace hx := hx.trans hx4
  have hz4 := hx4.size
  refine Sa ?_
  refine LW.append rfl rfl rfl rfl rfl rfl hown' (by omega) hC rfl rfl rfl (by show ((out ++ [ch 34]).length + 1) * 2 ≤ 140737488355328; simp; omega) rfl ?_
  intro v2 w5 hc5 hown2 hv2
  replace hx := hx.step hc5 (fun k hk => (hown'.lt hk).1)
  replace hown2 := own_snoc hby.1 (by omega) hown2
  refine Sa ?_
  refine QW.again (i + 1, v2) ⟨h1, hx, ?_⟩ (Sub.cons rfl (Sub.cons rfl (Sub.cons rfl (Sub.nil)))) (by show s.length - (i + 1) < s.length - i; omega)
  have e : 34 :: (s.take (i + 1)).flatMap escC = out ++ [ch 34] ++ [ch (byte s i)] := by
   rw [esc_take h1, ← ho]
   have : s[i] = 34 := by
    have := ch_of h1
    rw [h2] at this
    exact this.symm
   rw [ch_of h1, this]
   simp [escC, ch]
  dsimp only
  rw [e]
  exact hown2
 ·have h2 : byte s i ≠ 34 := by simpa using h2
  refine Sa ?_
  refine Lwl fun B w2 hbB hx2 hB => ?_
  replace hown := hown.ext hx2
  replace hx := hx.trans hx2
  have hz2 := hx2.size
  refine Sa ?_
  refine LW.append rfl rfl rfl rfl rfl rfl hown (by omega) hB rfl rfl rfl (by show (out.length + 1) * 2 ≤ 140737488355328; omega) rfl ?_
  intro v' w3 hc3 hown' hv'
  replace hx := hx.step hc3 (fun k hk => (hown.lt hk).1)
  refine Sa ?_
  replace hown' := own_snoc hby.1 (by omega) hown'
  refine Sa ?_
  refine QW.again (i + 1, v') ⟨h1, hx, ?_⟩ (Sub.cons rfl (Sub.cons rfl (Sub.cons rfl (Sub.nil)))) (by show s.length - (i + 1) < s.length - i; omega)
  have e : 34 :: (s.take (i + 1)).flatMap escC = out ++ [ch (byte s i)] := by
   rw [esc_take h1, ← ho]
   have : s[i] ≠ 34 := fun h => h2 (by rw [byte_eq h1, h]; rfl)
   rw [ch_of h1]
   simp [escC, this]
  dsimp only
  rw [e]
  exact hown'
theorem in_ret (s : List UInt8) (hs : s.length ≤ 1000000000000) (b : Bool) (w : World) : Ret Tryz.prog 91 [str s, .bool b] w (fun v w' => v = str (brkT b s) ∧ Ext w w') := by
 refine Ret.enter Tryz.func91 rfl Tryz.ntmps91 (by kernel_rfl) rfl ?_
 refine Sa ?_
 refine Cwc (fun h1 => ?_) fun h1 => ?_
 ·subst h1
  refine Sa ?_
  exact QW.body1 Tryz.results91 rfl ⟨rfl, Chg.refl _ _⟩
 ·subst h1
  refine Sa ?_
  exact QW.body1 Tryz.results91 rfl ⟨rfl, Chg.refl _ _⟩
theorem rank_ret (k : Int) (w : World) : Ret Tryz.prog 92 [.int .i64 k] w (fun v w' => v = .int .i64 (rankK k : Int) ∧ Ext w w') := by
 have fin : ∀ z : Int, (rankK k : Int) = z → (Value.int .i64 z = .int .i64 (rankK k : Int) ∧ Ext w w) := fun z h => ⟨by rw [h], Chg.refl _ _⟩
 refine Ret.enter Tryz.func92 rfl Tryz.ntmps92 (by kernel_rfl) rfl ?_
 refine Sa ?_
 by_cases h1 : 9 ≤ k
 ·refine LW.know (t := 6) (c := true) rfl (by simpa using h1) ?_
  refine Sa ?_
  refine Cwc (fun h2 => ?_) fun h2 => ?_
  ·have h2 : k ≤ 14 := by simpa using h2
   refine Sa ?_
   exact QW.body1 Tryz.results92 rfl (fin _ (by unfold rankK; rw [if_neg (by omega), if_pos (by omega)]; rfl))
  have h2 : 14 < k := by simpa using h2
  refine Sa ?_
  refine Cwc (fun h3 => ?_) fun h3 => ?_
  ·have h3 : k = 15 := by simpa using h3
   refine Sa ?_
   exact QW.body1 Tryz.results92 rfl (fin _ (by subst h3; rfl))
  have h3 : k ≠ 15 := by simpa using h3
  refine Sa ?_
  by_cases h4 : k = 16
  ·refine LW.know (t := 16) (c := true) rfl (by simpa using h4) ?_
   refine Sa ?_
   exact QW.body1 Tryz.results92 rfl (fin _ (by subst h4; rfl))
  refine LW.know (t := 16) (c := false) rfl (by simpa using h4) ?_
  refine Sa ?_
  refine Cwc (fun h5 => ?_) fun h5 => ?_
  ·have h5 : k = 17 := by simpa using h5
   refine Sa ?_
   exact QW.body1 Tryz.results92 rfl (fin _ (by subst h5; rfl))
  have h5 : k ≠ 17 := by simpa using h5
  refine Sa ?_
  by_cases h6 : k = 18
  ·refine LW.know (t := 23) (c := true) rfl (by simpa using h6) ?_
   refine Sa ?_
   exact QW.body1 Tryz.results92 rfl (fin _ (by subst h6; rfl))
  refine LW.know (t := 23) (c := false) rfl (by simpa using h6) ?_
  refine Sa ?_
  refine Cwc (fun h7 => ?_) fun h7 => ?_
  ·have h7 : k = 19 := by simpa using h7
   refine Sa ?_
   exact QW.body1 Tryz.results92 rfl (fin _ (by subst h7; rfl))
  have h7 : k ≠ 19 := by simpa using h7
  refine Sa ?_
  refine CW.no rfl (decide_eq_false (by omega)) ?_
  refine Sa ?_
  exact QW.body1 Tryz.results92 rfl (fin _ (by unfold rankK; rw [if_neg (by omega), if_neg (by omega), if_neg (by omega), if_neg (by omega), if_neg (by omega)]; rfl))
 ·refine LW.know (t := 6) (c := false) rfl (by simpa using h1) ?_
  refine Sa ?_
  refine CW.no rfl (decide_eq_false (by omega)) ?_
  refine Sa ?_
  refine LW.know (t := 16) (c := false) rfl (by simp; omega) ?_
  refine Sa ?_
  refine CW.no rfl (decide_eq_false (by omega)) ?_
  refine Sa ?_
  refine LW.know (t := 23) (c := false) rfl (by simp; omega) ?_
  refine Sa ?_
  refine CW.no rfl (decide_eq_false (by omega)) ?_
  refine Sa ?_
  refine Cwc (fun h8 => ?_) fun h8 => ?_
  ·have h8 : k = 8 := by simpa using h8
   refine Sa ?_
   exact QW.body1 Tryz.results92 rfl (fin _ (by subst h8; rfl))
  have h8 : k ≠ 8 := by simpa using h8
  refine Sa ?_
  exact QW.body1 Tryz.results92 rfl (fin _ (by unfold rankK; rw [if_neg (by omega), if_neg (by omega), if_neg (by omega), if_neg (by omega), if_neg (by omega)]; rfl))
theorem op_ret (k : Int) (h0 : 9 ≤ k) (h1 : k ≤ 19) (w : World) : Ret Tryz.prog 93 [.int .i64 k] w (fun v w' => v = str (signK k) ∧ Ext w w') := by
 have : k = 9 ∨ k = 10 ∨ k = 11 ∨ k = 12 ∨ k = 13 ∨ k = 14 ∨ k = 15 ∨ k = 16 ∨ k = 17 ∨ k = 18 ∨ k = 19 := by omega
 refine Ret.enter Tryz.func93 rfl Tryz.ntmps93 (by kernel_rfl) rfl ?_
 refine Sa ?_
 refine Lwl fun A w0 hbA hx0 hA0 => ?_
 rcases this with rfl | rfl | rfl | rfl | rfl | rfl | rfl | rfl | rfl | rfl | rfl
 all_goals
  refine Sz ?_
  exact QW.body1 Tryz.results93 rfl ⟨rfl, hx0⟩
theorem cell_0 {w : World} {a0 : Addr} {cs : List Value} (hc : ∀ j u, cs[j]? = some u → w.cell? (a0.add j) = some u) {v : Value} (h : cs[0]? = some v) : w.cell? (a0.add 0) = some v := hc 0 v h
theorem kid_at {w : World} {p : Option Addr} {c : Nat} {zs : List Int} (h : IntsR w (.slice p zs.length c) zs) {i : Nat} {z : Int} (hz : zs[i]? = some z) : ∃ a, p = some a ∧ w.cell? (a.add i) = some (.int .i64 z) := by
 have hi : i < zs.length := (List.getElem?_eq_some_iff.1 hz).1
 obtain ⟨a, e, h⟩ := h.at hi
 refine ⟨a, e, ?_⟩
 rw [h, List.getD_eq_getElem?_getD, hz]
 rfl
theorem shown_ret (l : List NodeD) (p : Option Addr) (c : Nat) (hs : Short l) : ∀ (m : Nat) (t : Tr false) (o i : Nat) (w : World), t.cnt ≤ m → t.Fit → t.Num → Lies l o t → i + 1 = o + t.cnt → t.text.length ≤ 1000000000000 → NodesR w (.slice p l.length c) l → Ret Tryz.prog 69 [.slice p l.length c, .int .i64 (i : Int)] w (fun v w' => v = str t.text ∧ Ext w w')
 | 0, t, _, _, _, hm, _, _, _, _, _, _ => absurd t.cnt_pos (by omega)
 | m + 1, t, o, i, w, hm, hf, hn, hl, hio, htl, hN => by
  have ih := shown_ret l p c hs m
  have hnd := hl.node
  rw [show o + t.cnt - 1 = i by omega] at hnd
  have hi : i < l.length := (List.getElem?_eq_some_iff.1 hnd).1
  have hsn := hs _ (List.mem_of_getElem? hnd)
  have hl1 := hN.1
  cases t with
  | leaf n =>
   obtain ⟨a, kp, kc, rfl, hk, hc⟩ := hN.at hnd
   obtain ⟨kd, num, text, ref, to, kids⟩ := n
   change ∀ j u, (nvL ⟨⟨kd, num, text, ref, to, kids⟩, .slice kp kids.length kc⟩)[j]? = some u → _ at hc
   obtain ⟨k0, k1, _, hpl⟩ := hf
   have ho := plain_parts hpl
   rw [leaf_text hpl k0 k1]
   simp only at k0 k1
   change text.length ≤ 1000 ∧ ref.sheet.length ≤ 1000 ∧ to.sheet.length ≤ 1000 at hsn
   refine Ret.enter Tryz.func69 rfl Tryz.ntmps69 (by kernel_rfl) rfl ?_
   refine Sa ?_
   refine Lo ?_
   refine LW.load_cells rfl hc rfl rfl rfl rfl ?_
   refine Sa ?_
   refine Lwa fun B w1 hbB hx1 hB => ?_
   refine Sa ?_
   refine Lws fun w2 hc2 hB => ?_
   have hx : Ext w w2 := hx1.step hc2 (by simp; omega)
   refine Sa ?_
   have : kd = 1 ∨ kd = 2 ∨ kd = 3 ∨ kd = 4 ∨ kd = 5 ∨ kd = 6 := by omega
   rcases this with rfl | rfl | rfl | rfl | rfl | rfl
   ·have hn1 : num ≤ 9223372036854775807 := hn ⟨1, [], num, refN, 0⟩ (by simp [Tr.toks, leafK])
    have hn0 : 0 ≤ num := by simpa [okK] using ho
    refine Sa ?_
    refine LW.call0 rfl rfl (Digits_ret num hn0 hn1 _) ?_
    rintro v w3 ⟨rfl, hx3⟩
    refine Sa ?_
    exact QW.body1 Tryz.results69 rfl ⟨rfl, hx.trans hx3⟩
   ·refine Sa ?_
    refine LW.call0 rfl rfl (quote_ret text (by omega) _) ?_
    rintro v w3 ⟨rfl, hx3⟩
    refine Sa ?_
    exact QW.body1 Tryz.results69 rfl ⟨rfl, hx.trans hx3⟩
   ·refine Sa ?_
    refine Cwc (fun h3 => ?_) fun h3 => ?_
    ·have h3 : num = 1 := by simpa using h3
     refine Sa ?_
     exact QW.body1 Tryz.results69 rfl ⟨by simp [h3, trueT], hx⟩
    ·have h3 : num ≠ 1 := by simpa using h3
     refine Sa ?_
     exact QW.body1 Tryz.results69 rfl ⟨by simp [h3, falseT], hx⟩
   ·refine Sa ?_
    exact QW.body1 Tryz.results69 rfl ⟨rfl, hx⟩
   ·refine Sa ?_
    refine LW.load_agg (cs := refL ref) rfl hB rfl rfl rfl ⟨rfl, rfl, rfl, rfl, rfl, trivial⟩ rfl ?_
    refine Sa ?_
    refine LW.call0 rfl rfl (RefText_ret ref (by omega) _) ?_
    rintro v w3 ⟨rfl, hx3⟩
    refine Sa ?_
    exact QW.body1 Tryz.results69 rfl ⟨rfl, hx.trans hx3⟩
   ·have hb : ∀ r : RefD, (textT r).length ≤ r.sheet.length + 10 := fun r => by
     unfold textT
     split
     ·exact textB_len (by assumption)
     ·simp
    have hb1 := hb ref
    have hb2 := hb to
    refine Sa ?_
    refine CW.draw (by kernel_rfl) (by kernel_rfl) ?_
    refine Sq ?_
    refine QL.load_agg (cs := refL ref) rfl hB rfl rfl rfl ⟨rfl, rfl, rfl, rfl, rfl, trivial⟩ rfl ?_
    refine Sq ?_
    refine QL.call0 (v := str (textT ref)) rfl rfl (fun w' _ => RefText_ret ref (by omega) w') ?_
    refine Sq ?_
    refine QL.load_agg (cs := refL to) rfl hB rfl rfl rfl ⟨rfl, rfl, rfl, rfl, rfl, trivial⟩ rfl ?_
    refine Sq ?_
    refine QL.call0 (v := str (textT to)) rfl rfl (fun w' _ => RefText_ret to (by omega) w') ?_
    refine Sq ?_
    refine QL.nil fun w3 hx3 => ?_
    refine Sa ?_
    exact QW.body1 Tryz.results69 rfl ⟨rfl, hx.trans hx3⟩
  | neg b =>
   have hna : b.Num := fun u hu => hn u (by simp only [Tr.toks]; exact List.mem_cons_of_mem _ (sub_brk hu))
   have hlb := hl.neg
   have hcp := b.cnt_pos
   rw [neg_text] at htl ⊢
   have hbl := brkT_len (decide (b.rank < 5)) b.text
   simp only [List.length_append, List.length_cons, List.length_nil] at htl
   simp only [Tr.cnt] at hm
   obtain ⟨j, hj⟩ : ∃ j, j = o + b.cnt - 1 := ⟨_, rfl⟩
   have hbn := hlb.node
   rw [← hj] at hbn
   have hjl : j < l.length := (List.getElem?_eq_some_iff.1 hbn).1
   obtain ⟨a, kp, kc, rfl, hk, hc⟩ := hN.at hnd
   obtain ⟨a', kp', kc', ea, -, hcb⟩ := hN.at hbn
   obtain rfl := Option.some.inj ea
   change IntsR w (.slice kp [((o + b.cnt - 1 : Nat) : Int)].length kc) [((o + b.cnt - 1 : Nat) : Int)] at hk
   change ∀ j u, (nvL ⟨{ kind := 8, kids := [((o + b.cnt - 1 : Nat) : Int)] }, .slice kp 1 kc⟩)[j]? = some u → _ at hc
   rw [← hj] at hk hc
   obtain ⟨ka, rfl, hk0⟩ := kid_at hk (i := 0) rfl
   have hb0 := cell_0 hcb rfl
   refine Ret.enter Tryz.func69 rfl Tryz.ntmps69 (by kernel_rfl) rfl ?_
   refine Sa ?_
   refine Lo ?_
   refine LW.load_cells rfl hc rfl rfl rfl rfl ?_
   refine Sa ?_
   refine Lwa fun B w1 hbB hx1 hB => ?_
   refine Sa ?_
   refine Lws fun w2 hc2 hB => ?_
   have hx : Ext w w2 := hx1.step hc2 (by simp; omega)
   refine Sa ?_
   replace hk0 := cell_ext hx hk0
   replace hb0 := cell_ext hx hb0
   refine Sa ?_
   refine CW.draw (by kernel_rfl) (by kernel_rfl) ?_
   refine Sq ?_
   refine Qo ?_
   refine Qp hk0 ?_
   refine QL.call0 (v := str b.text) rfl rfl (fun w' hw => ih b o j w' (by omega) hf hna hlb (by omega) (by omega) ((hN.ext hx).ext hw)) ?_
   refine Sq ?_
   refine Qo ?_
   refine Qp hk0 ?_
   refine Qo ?_
   refine Qn ?_
   refine Qp hb0 ?_
   refine QL.call0 rfl rfl (fun w' hw => rank_ret (rootN o b).kind w') ?_
   refine Sq ?_
   refine QL.call0 rfl rfl (fun w' hw => in_ret b.text (by omega) _ w') ?_
   rw [root_rank o b hf]
   have hd : decide (((b.rank : Nat) : Int) < 5) = decide (b.rank < 5) := by rw [decide_eq_decide]; omega
   rw [hd]
   refine Sq ?_
   refine QL.nil fun w3 hx3 => ?_
   refine Sa ?_
   exact QW.body1 Tryz.results69 rfl ⟨rfl, hx.trans hx3⟩
  | two k b d =>
   obtain ⟨hk9, hk19, hfb, hfd⟩ := hf
   have hnb : b.Num := fun u hu => hn u (by simp only [Tr.toks]; exact List.mem_append_left _ (sub_brk hu))
   have hnd' : d.Num := fun u hu => hn u (by simp only [Tr.toks]; exact List.mem_append_right _ (List.mem_cons_of_mem _ (sub_brk hu)))
   obtain ⟨hlb, hld⟩ := hl.two
   have hcb := b.cnt_pos
   have hcd := d.cnt_pos
   rw [two_text] at htl ⊢
   have hbl := brkT_len (decide (b.rank < rankK k)) b.text
   have hdl := brkT_len (decide (d.rank < rankK k + 1)) d.text
   simp only [List.length_append] at htl
   simp only [Tr.cnt] at hm
   obtain ⟨j, hj⟩ : ∃ j, j = o + b.cnt - 1 := ⟨_, rfl⟩
   obtain ⟨q, hq⟩ : ∃ q, q = o + b.cnt + d.cnt - 1 := ⟨_, rfl⟩
   have hbn := hlb.node
   have hdn := hld.node
   rw [← hj] at hbn
   rw [← hq] at hdn
   have hjl : j < l.length := (List.getElem?_eq_some_iff.1 hbn).1
   have hql : q < l.length := (List.getElem?_eq_some_iff.1 hdn).1
   obtain ⟨a, kp, kc, rfl, hk, hc⟩ := hN.at hnd
   obtain ⟨a', kp', kc', ea, -, hcb0⟩ := hN.at hbn
   obtain rfl := Option.some.inj ea
   obtain ⟨a', kp', kc', ea, -, hcd0⟩ := hN.at hdn
   obtain rfl := Option.some.inj ea
   change IntsR w (.slice kp [((o + b.cnt - 1 : Nat) : Int), ((o + b.cnt + d.cnt - 1 : Nat) : Int)].length kc) [((o + b.cnt - 1 : Nat) : Int), ((o + b.cnt + d.cnt - 1 : Nat) : Int)] at hk
   change ∀ j u, (nvL ⟨{ kind := k, kids := [((o + b.cnt - 1 : Nat) : Int), ((o + b.cnt + d.cnt - 1 : Nat) : Int)] }, .slice kp 2 kc⟩)[j]? = some u → _ at hc
   rw [← hj, ← hq] at hk hc
   obtain ⟨ka, rfl, hk0⟩ := kid_at hk (i := 0) rfl
   obtain ⟨ka', ek, hk1⟩ := kid_at hk (i := 1) rfl
   obtain rfl := Option.some.inj ek
   have hb0 := cell_0 hcb0 rfl
   have hd0 := cell_0 hcd0 rfl
   refine Ret.enter Tryz.func69 rfl Tryz.ntmps69 (by kernel_rfl) rfl ?_
   refine Sa ?_
   refine Lo ?_
   refine LW.load_cells rfl hc rfl rfl rfl rfl ?_
   refine Sa ?_
   refine Lwa fun B w1 hbB hx1 hB => ?_
   refine Sa ?_
   refine Lws fun w2 hc2 hB => ?_
   have hx : Ext w w2 := hx1.step hc2 (by simp; omega)
   refine Sa ?_
   replace hk0 := cell_ext hx hk0
   replace hk1 := cell_ext hx hk1
   refine Sa ?_
   refine CW.no rfl (decide_eq_false (show ¬ k = 1 by omega)) ?_
   refine Sa ?_
   refine CW.no rfl (decide_eq_false (show ¬ k = 2 by omega)) ?_
   refine Sa ?_
   refine CW.no rfl (decide_eq_false (show ¬ k = 3 by omega)) ?_
   refine Sa ?_
   refine CW.no rfl (decide_eq_false (show ¬ k = 4 by omega)) ?_
   refine Sa ?_
   refine CW.no rfl (decide_eq_false (show ¬ k = 5 by omega)) ?_
   refine Sa ?_
   refine CW.no rfl (decide_eq_false (show ¬ k = 6 by omega)) ?_
   refine Sa ?_
   refine CW.no rfl (decide_eq_false (show ¬ k = 7 by omega)) ?_
   refine Sa ?_
   refine CW.no rfl (decide_eq_false (show ¬ k = 8 by omega)) ?_
   refine Sa ?_
   refine CW.draw (by kernel_rfl) (by kernel_rfl) ?_
   refine Sq ?_
   refine Qo ?_
   refine Qp hk0 ?_
   refine Sq ?_
   refine Qo ?_
   refine Qp hk1 ?_
   refine Sq ?_
   refine QL.nil fun w3 hx3 => ?_
   replace hx := hx.trans hx3
   replace hB := hB.ext hx3
   replace hb0 := cell_ext hx hb0
   replace hd0 := cell_ext hx hd0
   refine Sa ?_
   refine CW.draw (by kernel_rfl) (by kernel_rfl) ?_
   refine Sq ?_
   refine QL.call0 (v := str b.text) rfl rfl (fun w' hw => ih b o j w' (by omega) hfb hnb hlb (by omega) (by omega) ((hN.ext hx).ext hw)) ?_
   refine Sq ?_
   refine Qo ?_
   refine Qn ?_
   refine Qp hb0 ?_
   refine QL.call0 rfl rfl (fun w' hw => rank_ret (rootN o b).kind w') ?_
   refine Sq ?_
   refine QL.call0 rfl rfl (fun w' hw => rank_ret k w') ?_
   refine Sq ?_
   refine QL.call0 rfl rfl (fun w' hw => in_ret b.text (by omega) _ w') ?_
   refine Sq ?_
   refine QL.call0 rfl rfl (fun w' hw => op_ret k hk9 hk19 w') ?_
   rw [root_rank o b hfb]
   have hd1 : decide (((b.rank : Nat) : Int) < ((rankK k : Nat) : Int)) = decide (b.rank < rankK k) := by rw [decide_eq_decide]; omega
   rw [hd1]
   refine Sq ?_
   refine QL.call0 (v := str d.text) rfl rfl (fun w' hw => ih d (o + b.cnt) q w' (by omega) hfd hnd' hld (by omega) (by omega) ((hN.ext hx).ext hw)) ?_
   refine Sq ?_
   refine Qo ?_
   refine Qn ?_
   refine Qp hd0 ?_
   refine QL.call0 rfl rfl (fun w' hw => rank_ret (rootN (o + b.cnt) d).kind w') ?_
   refine Sq ?_
   refine QL.call0 rfl rfl (fun w' hw => rank_ret k w') ?_
   refine Sq ?_
   refine QL.call0 rfl rfl (fun w' hw => in_ret d.text (by omega) _ w') ?_
   rw [root_rank (o + b.cnt) d hfd]
   have hd2 : decide (((d.rank : Nat) : Int) ≤ ((rankK k : Nat) : Int)) = decide (d.rank < rankK k + 1) := by rw [decide_eq_decide]; omega
   rw [hd2]
   refine Sq ?_
   refine QL.nil fun w4 hx4 => ?_
   refine Sa ?_
   exact QW.body1 Tryz.results69 rfl ⟨rfl, hx.trans hx4⟩
  | call x ks =>
   have hfk := hf.2
   have hnk := call_num hn
   have hlk := hl.call
   rw [call_text x o] at htl ⊢
   simp only [List.length_append, List.length_cons, List.length_nil] at htl
   simp only [Tr.cnt] at hm
   obtain ⟨a, kp, kc, rfl, hk, hc⟩ := hN.at hnd
   change IntsR w (.slice kp (ks.kids o).length kc) (ks.kids o) at hk
   change ∀ j u, (nvL ⟨{ kind := 7, text := x, kids := ks.kids o }, .slice kp (ks.kids o).length kc⟩)[j]? = some u → _ at hc
   have hmem := row_mem ks hfk hnk hlk
   obtain ⟨kids, hkids⟩ : ∃ kids, kids = ks.kids o := ⟨_, rfl⟩
   rw [← hkids] at hk hc
   rw [row_kids] at hkids
   have hkl : kids.length = (ks.row o).length := by rw [hkids]; simp
   obtain ⟨r, hr⟩ : ∃ r, r = ks.row o := ⟨_, rfl⟩
   rw [← hr] at hmem hkids hkl htl ⊢
   refine Ret.enter Tryz.func69 rfl Tryz.ntmps69 (by kernel_rfl) rfl ?_
   refine Sa ?_
   refine Lo ?_
   refine LW.load_cells rfl hc rfl rfl rfl rfl ?_
   refine Sa ?_
   refine Lwa fun B w1 hbB hx1 hB => ?_
   refine Sa ?_
   refine Lws fun w2 hc2 hB => ?_
   have hx : Ext w w2 := hx1.step hc2 (by simp; omega)
   refine Sa ?_
   replace hk := hk.ext hx
   replace hN := hN.ext hx
   refine Sa ?_
   refine CW.loop (ι := Nat) (fun n w' => n ≤ r.length ∧ Ext w w' ∧ Ext w2 w') (fun n => [(0, .slice (some a) l.length c), (5, .pointer (some ⟨B, 0, none⟩)), (6, str (x ++ ([40] ++ rowS r n))), (7, .int .i64 (n : Int))]) (fun n => r.length - n) 0 ⟨by omega, hx, Chg.refl _ _⟩ (Sub.cons rfl (Sub.cons rfl (Sub.cons rfl (Sub.cons rfl (Sub.nil))))) ?_
   rintro n w3 ⟨hn0, hx3, hx23⟩
   replace hB := hB.ext hx23
   replace hk := hk.ext hx23
   replace hN := hN.ext hx23
   have hmono := rowS_mono (r := r) n (r.length - n) (by omega)
   rw [show n + (r.length - n) = r.length by omega] at hmono
   refine Sa ?_
   refine Cwc (fun h1 => ?_) fun h1 => ?_
   rotate_left
   ·have h1 : n = r.length := by simp at h1; omega
    subst h1
    have hcat : (x ++ ([40] ++ rowS r r.length)).length ≤ 2000000000000 := by simp only [List.length_append, List.length_cons, List.length_nil]; omega
    refine Sa ?_
    refine QW.body1 Tryz.results69 rfl ⟨?_, hx3⟩
    simp
   have h1 : n < r.length := by simp at h1; omega
   obtain ⟨⟨o', b⟩, hrn⟩ : ∃ y, r[n]? = some y := ⟨_, List.getElem?_eq_getElem h1⟩
   obtain ⟨hlb, hfb, hnb, hcb, htb⟩ := hmem _ (List.mem_of_getElem? hrn)
   simp only at hlb hfb hnb hcb htb
   have hbp := b.cnt_pos
   have hk63 := hk.1
   obtain ⟨j, hj⟩ : ∃ j, j = o' + b.cnt - 1 := ⟨_, rfl⟩
   have hkn : kids[n]? = some (j : Int) := by rw [hkids, List.getElem?_map, hrn, hj]; rfl
   obtain ⟨ka, rfl, hk0⟩ := kid_at hk hkn
   rw [show n = ((n : Nat) : Int).toNat * 1 by omega] at hk0
   have hbn := hlb.node
   rw [← hj] at hbn
   have hjl : j < l.length := (List.getElem?_eq_some_iff.1 hbn).1
   have hstep := rowS_step hrn
   simp only at hstep
   have hm2 := rowS_mono (r := r) (n + 1) (r.length - (n + 1)) (by omega)
   rw [show n + 1 + (r.length - (n + 1)) = r.length by omega] at hm2
   have hsl := congrArg List.length hstep
   simp only [List.length_append] at hsl
   have hcat : (x ++ ([40] ++ rowS r n)).length ≤ 2000000000000 := by simp only [List.length_append, List.length_cons, List.length_nil]; omega
   refine Sa ?_
   refine Cwc (fun h2 => ?_) fun h2 => ?_
   ·have h2 : 0 < n := by simp at h2; omega
    have e : x ++ ([40] ++ rowS r (n + 1)) = x ++ ([40] ++ rowS r n) ++ [44] ++ b.text := by rw [hstep, if_pos h2]; simp only [List.append_assoc]
    have hcat2 : (x ++ ([40] ++ rowS r n) ++ [44]).length ≤ 2000000000001 := by rw [List.length_append]; simp only [List.length_cons, List.length_nil]; omega
    refine Sa ?_
    refine Lo ?_
    refine Lp hk0 ?_
    refine LW.call0 rfl rfl (ih b o' j w3 (by omega) hfb hnb hlb (by omega) (by omega) hN) ?_
    rintro v w4 ⟨rfl, hx4⟩
    refine Sa ?_
    rw [← e]
    refine QW.again (n + 1) ⟨h1, hx3.trans hx4, hx23.trans hx4⟩ (Sub.cons rfl (Sub.cons rfl (Sub.cons rfl (Sub.cons rfl (Sub.nil))))) (by omega)
   ·have h2 : ¬ 0 < n := by simp at h2; omega
    have e : x ++ ([40] ++ rowS r (n + 1)) = x ++ ([40] ++ rowS r n) ++ b.text := by rw [hstep, if_neg h2]; simp only [List.append_assoc, List.append_nil]
    refine Sa ?_
    refine Lo ?_
    refine Lp hk0 ?_
    refine LW.call0 rfl rfl (ih b o' j w3 (by omega) hfb hnb hlb (by omega) (by omega) hN) ?_
    rintro v w4 ⟨rfl, hx4⟩
    refine Sa ?_
    rw [← e]
    refine QW.again (n + 1) ⟨h1, hx3.trans hx4, hx23.trans hx4⟩ (Sub.cons rfl (Sub.cons rfl (Sub.cons rfl (Sub.cons rfl (Sub.nil))))) (by omega)
theorem rPrint_ret (l : List NodeD) (v : Value) (w : World) (hN : NodesR w v l) (hs : Short l) (hkl : ∀ n ∈ l, n.kids.length ≤ 1000000) (hnum : NumOk l) : Ret Tryz.prog 35 [v] w (fun v' w' => v' = str (printT l) ∧ Ext w w') := by
 obtain ⟨p, c, rfl⟩ := hN.slice
 have hl := hN.1
 have h0 := fun w => rTree_ret l (.slice p l.length c) w
 refine Ret.enter Tryz.func35 rfl Tryz.ntmps35 (by kernel_rfl) rfl ?_
 refine Sa ?_
 refine LW.call0 rfl rfl (rTree_ret l _ w hN hs hkl) ?_
 rintro v w1 ⟨rfl, hx⟩
 replace hN := hN.ext hx
 refine Sa ?_
 refine Cwc (fun h1 => ?_) fun h1 => ?_
 ·have h1 : treeB l = false := by simpa using h1
  refine Sa ?_
  exact QW.body1 Tryz.results35 rfl ⟨by rw [printT_no h1], hx⟩
 have h1 : treeB l = true := by simpa using h1
 obtain ⟨t, rfl, hf⟩ := tree_of h1
 have hcp := t.cnt_pos
 have hlen := t.flat_len 0
 have hn := hnum t hf rfl
 have htl := t.len_le 0 hf hn (fun n hm => (hs n hm).1)
 simp only [cond_false] at htl
 rw [printT_of hf]
 refine Sa ?_
 have e : (((t.flat 0).length : Int) - 1) = ((t.cnt - 1 : Nat) : Int) := by omega
 rw [e]
 refine LW.call0 rfl rfl (shown_ret (t.flat 0) p c hs t.cnt t 0 (t.cnt - 1) w1 (Nat.le_refl _) hf hn (Lies.whole t) (by omega) (by omega) hN) ?_
 rintro v w2 ⟨rfl, hx2⟩
 refine Sa ?_
 exact QW.body1 Tryz.results35 rfl ⟨rfl, hx.trans hx2⟩
end Go.Proofs.YtiaigmahdjhcoaaGreatDoor
namespace Go.Proofs.YtiaigmahdjhcoaaGreatDoor
open Go Go.E
theorem replaceK_ne {c : UInt8} (hc : c ≠ 34) (k : Nat) (s : List UInt8) : Lib.replaceK [34] [34, 34] k (c :: s) = c :: Lib.replaceK [34] [34, 34] k s := by
 cases k with
 | zero => rfl
 | succ k =>
  have hp : ([34] : List UInt8).isPrefixOf (c :: s) = false := by simp [List.isPrefixOf, Ne.symm hc]
  have hix : Lib.index (c :: s) [34] = if Lib.index s [34] == -1 then -1 else Lib.index s [34] + 1 := by rw [Lib.index, hp]; simp
  have hge := Lib.index_ge s [34]
  by_cases hm : Lib.index s [34] = -1
  ·rw [Lib.replaceK, Lib.replaceK, hix, if_pos (beq_iff_eq.2 hm), hm]
   simp
  ·have e : Lib.index s [34] = ((Lib.index s [34]).toNat : Int) := by omega
   rw [if_neg (by simpa using hm)] at hix
   have e2 : Lib.index (c :: s) [34] = (((Lib.index s [34]).toNat + 1 : Nat) : Int) := by omega
   rw [Lib.replaceK_hit _ _ _ _ _ e2, Lib.replaceK_hit _ _ _ _ _ e]
   simp
theorem replaceK_eq (k : Nat) (s : List UInt8) : Lib.replaceK [34] [34, 34] (k + 1) (34 :: s) = [34, 34] ++ Lib.replaceK [34] [34, 34] k s := by
 have hix : Lib.index (34 :: s) [34] = ((0 : Nat) : Int) := by rw [Lib.index]; simp [List.isPrefixOf]
 rw [Lib.replaceK_hit _ _ _ _ _ hix]
 simp
theorem replaceK_esc : ∀ (s : List UInt8), Lib.replaceK [34] [34, 34] (Lib.count s [34]) s = s.flatMap escC
 | [] => by
  cases Lib.count [] [34] with
  | zero => rfl
  | succ k => rw [Lib.replaceK]; rfl
 | c :: s => by
  by_cases h : c = 34
  ·subst h
   rw [Lib.count_cons_eq, Nat.add_comm, replaceK_eq, replaceK_esc s]
   rfl
  ·rw [Lib.count_cons_ne c 34 s h, replaceK_ne h, replaceK_esc s]
   simp [escC, h]
theorem replace_esc (s : List UInt8) : Lib.replaceAll s [34] [34, 34] = s.flatMap escC := by
 have : Lib.replaceAll s [34] [34, 34] = Lib.replaceK [34] [34, 34] (Lib.count s [34]) s := rfl
 rw [this, replaceK_esc]
structure Fp (w w' : World) : Prop where
 size : w.heap.size ≤ w'.heap.size
 blk : ∀ b l T, Blk w b l T → T ≠ 118 → T ≠ 5 → Blk w' b l T
theorem Fp.trans {a b c : World} (h : Fp a b) (k : Fp b c) : Fp a c := ⟨Nat.le_trans h.size k.size, fun x l T hx h1 h2 => k.blk x l T (h.blk x l T hx h1 h2) h1 h2⟩
theorem Fp.ext {a b : World} (h : Ext a b) : Fp a b := ⟨h.size, fun _ _ _ hx _ _ => hx.ext h⟩
theorem Fp.chg {S : List Nat} {a b : World} (h : Chg S a b) (hs : ∀ k ∈ S, ∀ l T, Blk a k l T → T = 118 ∨ T = 5) : Fp a b :=
 ⟨h.size, fun x l T hx h1 h2 => hx.chg h (fun hm => by rcases hs x hm l T hx with e | e <;> contradiction)⟩
structure SC where
 l : List NodeD
 p : Option Addr
 c : Nat
 b : Nat
 w0 : World
def SC.v (s : SC) : Value := .slice s.p s.l.length s.c
structure SC.Ok (s : SC) : Prop where
 nodes : NodesR s.w0 (.slice s.p s.l.length s.c) s.l
 short : Short s.l
 new : s.w0.heap.size ≤ s.b
 glob : Glob s.w0
def Pr (s : SC) (w : World) (out : List UInt8) : Prop :=
 Ext s.w0 w ∧ ∃ v, Blk w s.b [.slice s.p s.l.length s.c, v] 118 ∧ Own w s.w0.heap.size 5 1 v out.length (bcells out)
theorem Pr.ext {s : SC} {w w' : World} {out : List UInt8} (h : Pr s w out) (x : Ext w w') : Pr s w' out := by
 obtain ⟨h0, v, hB, ho⟩ := h
 exact ⟨h0.trans x, v, hB.ext x, ho.ext x⟩
theorem put_pr {s : SC} (hc : s.Ok) {w : World} {out : List UInt8} (h : Pr s w out) (x : List UInt8) (hl : out.length + x.length ≤ 10000000000000) : Ret Tryz.prog 147 [.pointer (some ⟨s.b, 0, none⟩), str x] w (fun v w' => v = .tuple #[] ∧ Pr s w' (out ++ x) ∧ Fp w w') := by
 obtain ⟨h0, v, hB, ho⟩ := h
 have hz := h0.size
 have hnot : ∀ {w : World} {v : Value} {n : Nat} {xs l : List Value}, Own w s.w0.heap.size 5 1 v n xs → Blk w s.b l 118 → ∀ j, j ∈ vblk v → j ∉ [s.b] := fun {w v n xs l} ho hB j hj hb => by
  simp only [List.mem_singleton] at hb
  subst hb
  obtain ⟨_, ⟨e, _⟩ | ⟨g, cap, sp, e, hg, _⟩⟩ := ho
  ·rw [e] at hj; simp [vblk] at hj
  ·rw [e] at hj
   simp [vblk] at hj
   exact absurd (hg.inj (hj ▸ hB)) (by decide)
 refine Ret.enter Tryz.func147 rfl Tryz.ntmps147 (by kernel_rfl) rfl ?_
 refine Sa ?_
 refine LW.append_str rfl rfl rfl rfl rfl rfl rfl rfl rfl ho hz (by show (out.length + x.length) * 2 ≤ _; omega) rfl ?_
 intro v' w1 hc1 ho1 hv1
 have hf1 : Fp w w1 := Fp.chg hc1 (fun k hk l T hb => .inr (by
  obtain ⟨_, ⟨e, _⟩ | ⟨g, cap, sp, e, hg, _⟩⟩ := ho
  ·rw [e] at hk; simp [vblk] at hk
  ·rw [e] at hk
   simp [vblk] at hk
   subst hk
   exact hb.inj hg))
 have hx1 : Ext s.w0 w1 := h0.step hc1 (fun k hk => (ho.lt hk).1)
 have hB1 := hB.chg hc1 (fun hm => hnot ho hB _ hm (by simp))
 obtain ⟨p1, c1, rfl⟩ := ho1.slice
 have hB2 := hB1
 refine Sa ?_
 refine Lwt fun w2 hc2 hB1 => ?_
 replace hB1 : Blk w2 s.b [.slice s.p s.l.length s.c, .slice p1 (out.length + x.length) c1] 118 := hB1
 have hf2 : Fp w1 w2 := Fp.chg hc2 (fun k hk l T hb => by simp at hk; subst hk; exact .inl (hb.inj hB2))
 have ho2 := ho1.chg hc2 (hnot ho1 hB2)
 refine Sa ?_
 refine QW.body_n (rs := []) (vs := []) Tryz.results147 trivial rfl ⟨rfl, ⟨hx1.step hc2 (by simpa using hc.new), _, hB1, ?_⟩, hf1.trans hf2⟩
 have e1 : bcells (out ++ x) = bcells out ++ bcells x := by simp [bcells]
 rw [e1, List.length_append]
 exact ho2
def sgnT (k : Int) : List UInt8 := if k = 8 then [45] else if 9 ≤ k ∧ k ≤ 19 then signK k else []
theorem sgn_ret (k : Int) (w : World) : Ret Tryz.prog 151 [.int .i64 k] w (fun v w' => v = .tuple #[str (sgnT k), .int .i64 (rankK k : Int)] ∧ Ext w w') := by
 refine Ret.enter Tryz.func151 rfl Tryz.ntmps151 (by kernel_rfl) rfl ?_
 refine Sa ?_
 refine Cwc (fun q9 => ?_) fun q9 => ?_
 ·have q9 : k = 9 := by simpa using q9
  subst q9
  refine Sa ?_
  exact QW.body2 Tryz.results151 rfl rfl ⟨rfl, Chg.refl _ _⟩
 have q9 : ¬ k = 9 := by simpa using q9
 refine Sa ?_
 refine Cwc (fun q10 => ?_) fun q10 => ?_
 ·have q10 : k = 10 := by simpa using q10
  subst q10
  refine Sa ?_
  exact QW.body2 Tryz.results151 rfl rfl ⟨rfl, Chg.refl _ _⟩
 have q10 : ¬ k = 10 := by simpa using q10
 refine Sa ?_
 refine Cwc (fun q11 => ?_) fun q11 => ?_
 ·have q11 : k = 11 := by simpa using q11
  subst q11
  refine Sa ?_
  exact QW.body2 Tryz.results151 rfl rfl ⟨rfl, Chg.refl _ _⟩
 have q11 : ¬ k = 11 := by simpa using q11
 refine Sa ?_
 refine Cwc (fun q12 => ?_) fun q12 => ?_
 ·have q12 : k = 12 := by simpa using q12
  subst q12
  refine Sa ?_
  exact QW.body2 Tryz.results151 rfl rfl ⟨rfl, Chg.refl _ _⟩
 have q12 : ¬ k = 12 := by simpa using q12
 refine Sa ?_
 refine Cwc (fun q13 => ?_) fun q13 => ?_
 ·have q13 : k = 13 := by simpa using q13
  subst q13
  refine Sa ?_
  exact QW.body2 Tryz.results151 rfl rfl ⟨rfl, Chg.refl _ _⟩
 have q13 : ¬ k = 13 := by simpa using q13
 refine Sa ?_
 refine Cwc (fun q14 => ?_) fun q14 => ?_
 ·have q14 : k = 14 := by simpa using q14
  subst q14
  refine Sa ?_
  exact QW.body2 Tryz.results151 rfl rfl ⟨rfl, Chg.refl _ _⟩
 have q14 : ¬ k = 14 := by simpa using q14
 refine Sa ?_
 refine Cwc (fun q15 => ?_) fun q15 => ?_
 ·have q15 : k = 15 := by simpa using q15
  subst q15
  refine Sa ?_
  exact QW.body2 Tryz.results151 rfl rfl ⟨rfl, Chg.refl _ _⟩
 have q15 : ¬ k = 15 := by simpa using q15
 refine Sa ?_
 refine Cwc (fun q16 => ?_) fun q16 => ?_
 ·have q16 : k = 16 := by simpa using q16
  subst q16
  refine Sa ?_
  exact QW.body2 Tryz.results151 rfl rfl ⟨rfl, Chg.refl _ _⟩
 have q16 : ¬ k = 16 := by simpa using q16
 refine Sa ?_
 refine Cwc (fun q17 => ?_) fun q17 => ?_
 ·have q17 : k = 17 := by simpa using q17
  subst q17
  refine Sa ?_
  exact QW.body2 Tryz.results151 rfl rfl ⟨rfl, Chg.refl _ _⟩
 have q17 : ¬ k = 17 := by simpa using q17
 refine Sa ?_
 refine Cwc (fun q18 => ?_) fun q18 => ?_
 ·have q18 : k = 18 := by simpa using q18
  subst q18
  refine Sa ?_
  exact QW.body2 Tryz.results151 rfl rfl ⟨rfl, Chg.refl _ _⟩
 have q18 : ¬ k = 18 := by simpa using q18
 refine Sa ?_
 refine Cwc (fun q19 => ?_) fun q19 => ?_
 ·have q19 : k = 19 := by simpa using q19
  subst q19
  refine Sa ?_
  exact QW.body2 Tryz.results151 rfl rfl ⟨rfl, Chg.refl _ _⟩
 have q19 : ¬ k = 19 := by simpa using q19
 refine Sa ?_
 refine Cwc (fun q8 => ?_) fun q8 => ?_
 ·have q8 : k = 8 := by simpa using q8
  subst q8
  refine Sa ?_
  exact QW.body2 Tryz.results151 rfl rfl ⟨rfl, Chg.refl _ _⟩
 have q8 : ¬ k = 8 := by simpa using q8
 refine Sa ?_
 refine QW.body2 Tryz.results151 rfl rfl ⟨?_, Chg.refl _ _⟩
 have e1 : sgnT k = [] := by unfold sgnT; rw [if_neg q8, if_neg (by omega)]
 have e2 : rankK k = 6 := by unfold rankK; rw [if_neg q8, if_neg (by omega), if_neg (by omega), if_neg (by omega), if_neg (by omega)]
 rw [e1, e2]
 rfl
def ND (s : SC) (f : FuncId) (t : Tr false) : Prop := ∀ (o i : Nat) (out : List UInt8) (w : World), t.Fit → t.Num → Lies s.l o t → i + 1 = o + t.cnt → out.length + t.text.length ≤ 1000000000000 → Pr s w out → Ret Tryz.prog f [.pointer (some ⟨s.b, 0, none⟩), .int .i64 (i : Int)] w (fun v w' => v = .tuple #[] ∧ Pr s w' (out ++ t.text) ∧ Fp w w')
theorem operand_ret {s : SC} (hc : s.Ok) (t : Tr false) (ht : ND s 88 t) (least : Nat) (o i : Nat) (out : List UInt8) (w : World) (hf : t.Fit) (hn : t.Num) (hl : Lies s.l o t) (hio : i + 1 = o + t.cnt) (htl : out.length + (brkT (decide (t.rank < least)) t.text).length ≤ 1000000000000) (h : Pr s w out) :
  Ret Tryz.prog 150 [.pointer (some ⟨s.b, 0, none⟩), .int .i64 (i : Int), .int .i64 (least : Int)] w (fun v w' => v = .tuple #[] ∧ Pr s w' (out ++ brkT (decide (t.rank < least)) t.text) ∧ Fp w w') := by
 have hnd := hl.node
 rw [show o + t.cnt - 1 = i by omega] at hnd
 have hi : i < s.l.length := (List.getElem?_eq_some_iff.1 hnd).1
 have hpr := h
 obtain ⟨h0, v, hB, ho⟩ := h
 have hN := hc.nodes.ext h0
 obtain ⟨a, kp, kc, ea, -, hc0⟩ := hN.at hnd
 rw [ea] at hB
 have hk0 := cell_0 hc0 rfl
 have hcp := t.cnt_pos
 have hl1 := hN.1
 have hbl := brkT_len (decide (t.rank < least)) t.text
 refine Ret.enter Tryz.func150 rfl Tryz.ntmps150 (by kernel_rfl) rfl ?_
 refine Sa ?_
 refine Lo ?_
 refine Ln ?_
 refine Lp hk0 ?_
 refine LW.call0 rfl rfl (sgn_ret (rootN o t).kind w) ?_
 rintro v w1 ⟨rfl, hx1⟩
 rw [root_rank o t hf]
 replace hpr := hpr.ext hx1
 refine Sa ?_
 refine Cwc (fun h1 => ?_) fun h1 => ?_
 ·have h1 : ¬ t.rank < least := by simp at h1; omega
  have e : brkT (decide (t.rank < least)) t.text = t.text := by simp [brkT, h1]
  rw [e] at htl ⊢
  refine Sa ?_
  refine LW.call0 rfl rfl (ht o i out w1 hf hn hl hio htl hpr) ?_
  rintro v w2 ⟨rfl, hp2, hf2⟩
  refine Sa ?_
  exact QW.body (rs := []) (vs := []) Tryz.results150 trivial rfl ⟨rfl, hp2, (Fp.ext hx1).trans hf2⟩
 ·have h1 : t.rank < least := by simp at h1; omega
  have e : brkT (decide (t.rank < least)) t.text = [40] ++ t.text ++ [41] := by simp [brkT, h1]
  rw [e] at htl ⊢
  simp only [List.length_append, List.length_cons, List.length_nil] at htl
  refine Sa ?_
  refine LW.call0 rfl rfl (put_pr hc hpr [40] (by simp; omega)) ?_
  rintro v w2 ⟨rfl, hp2, hf2⟩
  refine Sa ?_
  refine LW.call0 rfl rfl (ht o i _ w2 hf hn hl hio (by simp; omega) hp2) ?_
  rintro v w3 ⟨rfl, hp3, hf3⟩
  refine Sa ?_
  refine LW.call0 rfl rfl (put_pr hc hp3 [41] (by simp; omega)) ?_
  rintro v w4 ⟨rfl, hp4, hf4⟩
  refine Sa ?_
  refine QW.body_n (rs := []) (vs := []) Tryz.results150 trivial rfl ⟨rfl, by simpa [List.append_assoc] using hp4, (((Fp.ext hx1).trans hf2).trans hf3).trans hf4⟩
theorem text_len10 (r : RefD) : (textT r).length ≤ r.sheet.length + 10 := by
 unfold textT
 split
 ·exact textB_len (by assumption)
 ·simp
theorem pleaf_ret {s : SC} (hc : s.Ok) (n : NodeD) (q : Option Addr) (m k : Nat) (out : List UInt8) (w : World) (hf : (Tr.leaf n).Fit) (hn : (Tr.leaf n).Num) (hsh : n.text.length ≤ 1000 ∧ n.ref.sheet.length ≤ 1000 ∧ n.to.sheet.length ≤ 1000) (htl : out.length + (Tr.leaf n).text.length ≤ 1000000000000) (h : Pr s w out) :
  Ret Tryz.prog 123 [.pointer (some ⟨s.b, 0, none⟩), .agg ⟨nvL ⟨n, .slice q m k⟩⟩] w (fun v w' => v = .tuple #[] ∧ Pr s w' (out ++ (Tr.leaf n).text) ∧ Fp w w') := by
 obtain ⟨kd, num, text, ref, to, kids⟩ := n
 obtain ⟨k0, k1, _, hpl⟩ := hf
 have ho := plain_parts hpl
 rw [leaf_text hpl k0 k1] at htl ⊢
 simp only at k0 k1
 obtain ⟨hs1, hs2, hs3⟩ := hsh
 simp only at hs1 hs2 hs3
 have hx0 := h.1
 have hq := quote_len text
 have hb1 := text_len10 ref
 have hb2 := text_len10 to
 refine Ret.enter Tryz.func123 rfl Tryz.ntmps123 (by kernel_rfl) rfl ?_
 refine Sa ?_
 refine Lwb fun A w1 hbA hx1 hA => ?_
 replace hA : Blk w1 A (nvL ⟨⟨kd, num, text, ref, to, kids⟩, .slice q m k⟩) 57 := hA
 replace h := h.ext hx1
 replace hx0 := hx0.trans hx1
 have g := hc.glob.ext hx0
 have : kd = 1 ∨ kd = 2 ∨ kd = 3 ∨ kd = 4 ∨ kd = 5 ∨ kd = 6 := by omega
 rcases this with rfl | rfl | rfl | rfl | rfl | rfl
 ·have hn1 : num ≤ 9223372036854775807 := hn ⟨1, [], num, refN, 0⟩ (by simp [Tr.toks, leafK])
  have hn0 : 0 ≤ num := by simpa [okK] using ho
  simp only [if_true] at htl ⊢
  refine Sa ?_
  refine LW.call0 rfl rfl (Itoa_ret num (by omega) hn1 _ g) ?_
  rintro v w3 ⟨rfl, hx3⟩
  replace h := h.ext hx3
  refine Sa ?_
  refine LW.call0 rfl rfl (put_pr hc h _ (by omega)) ?_
  rintro v w4 ⟨rfl, hp4, hf4⟩
  refine Sa ?_
  exact QW.body_n (rs := []) (vs := []) Tryz.results123 trivial rfl ⟨rfl, hp4, (Fp.ext (hx1.trans hx3)).trans hf4⟩
 ·simp only [Int.reduceEq, if_true, if_false] at htl ⊢
  have he := esc_le text
  refine Sa ?_
  refine LW.call0 rfl rfl (ReplaceAll_ret text [34] [34, 34] (by omega) (by simp) (by simp) _ g) ?_
  rintro v w3 ⟨rfl, hx3⟩
  rw [replace_esc]
  replace h := h.ext hx3
  rw [quoteT_esc] at htl ⊢
  generalize text.flatMap escC = E at he htl ⊢
  simp only [List.length_append, List.length_cons, List.length_nil] at htl
  refine Sa ?_
  refine LW.call0 rfl rfl (put_pr hc h ([34] ++ E ++ [34]) (by simp; omega)) ?_
  rintro v w4 ⟨rfl, hp4, hf4⟩
  refine Sa ?_
  exact QW.body_n (rs := []) (vs := []) Tryz.results123 trivial rfl ⟨rfl, hp4, (Fp.ext (hx1.trans hx3)).trans hf4⟩
 ·simp only [Int.reduceEq, if_true, if_false] at htl ⊢
  have hnum : num = 0 ∨ num = 1 := by simpa [okK] using ho
  refine Sa ?_
  refine Lwl fun B w3 hbB hx3 hB => ?_
  replace h := h.ext hx3
  replace hA := hA.ext hx3
  rcases hnum with rfl | rfl
  ·refine Sz ?_
   refine LW.call0 rfl rfl (put_pr hc h [70, 65, 76, 83, 69] (by simp; omega)) ?_
   rintro v w4 ⟨rfl, hp4, hf4⟩
   refine Sa ?_
   exact QW.body_n (rs := []) (vs := []) Tryz.results123 trivial rfl ⟨rfl, hp4, (Fp.ext (hx1.trans hx3)).trans hf4⟩
  ·refine Sz ?_
   refine LW.call0 rfl rfl (put_pr hc h [84, 82, 85, 69] (by simp; omega)) ?_
   rintro v w4 ⟨rfl, hp4, hf4⟩
   refine Sa ?_
   exact QW.body_n (rs := []) (vs := []) Tryz.results123 trivial rfl ⟨rfl, hp4, (Fp.ext (hx1.trans hx3)).trans hf4⟩
 ·simp only [Int.reduceEq, if_true, if_false] at htl ⊢
  refine Sa ?_
  refine LW.call0 rfl rfl (put_pr hc h [35, 82, 69, 70, 33] (by simp; omega)) ?_
  rintro v w4 ⟨rfl, hp4, hf4⟩
  refine Sa ?_
  exact QW.body_n (rs := []) (vs := []) Tryz.results123 trivial rfl ⟨rfl, hp4, (Fp.ext hx1).trans hf4⟩
 ·simp only [Int.reduceEq, if_true, if_false] at htl ⊢
  refine Sa ?_
  refine LW.load_agg (cs := refL ref) rfl hA rfl rfl rfl ⟨rfl, rfl, rfl, rfl, rfl, trivial⟩ rfl ?_
  refine Sa ?_
  refine LW.call0 rfl rfl (Text_ret ref (by omega) _ g) ?_
  rintro v w3 ⟨rfl, hx3⟩
  replace h := h.ext hx3
  refine Sa ?_
  refine LW.call0 rfl rfl (put_pr hc h _ (by omega)) ?_
  rintro v w4 ⟨rfl, hp4, hf4⟩
  refine Sa ?_
  exact QW.body_n (rs := []) (vs := []) Tryz.results123 trivial rfl ⟨rfl, hp4, (Fp.ext (hx1.trans hx3)).trans hf4⟩
 ·simp only [Int.reduceEq, if_false] at htl ⊢
  simp only [List.length_append, List.length_cons, List.length_nil] at htl
  refine Sa ?_
  refine CW.drawHeld (fun w' => Blk w' A (nvL ⟨⟨6, num, text, ref, to, kids⟩, .slice q m k⟩) 57) (fun w' h => hA.ext h) (by kernel_rfl) fun w2 hx2 => ?_
  replace h := h.ext hx2
  replace g := g.ext hx2
  refine Sh ?_
  refine HW.take 2 rfl rfl rfl rfl (fun w hw => Y.load_agg (cs := refL ref) rfl hw rfl rfl rfl ⟨rfl, rfl, rfl, rfl, rfl, trivial⟩) rfl (by kernel_rfl) (by kernel_rfl) (by kernel_rfl) (fun _ _ _ h => h) ?_
  refine HW.take 5 rfl rfl rfl rfl (fun w _ => Y.pure rfl) rfl (by kernel_rfl) (by kernel_rfl) (by kernel_rfl) (fun _ _ _ h => h) ?_
  refine HW.take 6 rfl rfl rfl rfl (fun w hw => Y.load_agg (cs := refL to) rfl hw rfl rfl rfl ⟨rfl, rfl, rfl, rfl, rfl, trivial⟩) rfl (by kernel_rfl) (by kernel_rfl) (by kernel_rfl) (fun _ _ _ h => h) ?_
  refine HW.one 3 (by kernel_rfl) rfl rfl (fun hS => ?_)
  refine LW.call0 rfl rfl (Text_ret ref (by omega) _ g) ?_
  rintro v w3 ⟨rfl, hx3⟩
  replace h := h.ext hx3
  replace g := g.ext hx3
  apply LW.nil
  refine QW.held (hS.ext hx3) ?_
  refine HW.take 4 rfl rfl rfl rfl (fun w _ => Y.go rfl (by first | omega | exact ⟨by omega, by omega⟩ | exact ⟨by omega, by omega, by omega⟩ | (simp <;> omega))) rfl (by kernel_rfl) (by kernel_rfl) (by kernel_rfl) (fun _ _ _ h => h) ?_
  refine HW.one 7 (by kernel_rfl) rfl rfl (fun hS => ?_)
  refine LW.call0 rfl rfl (Text_ret to (by omega) _ g) ?_
  rintro v w4 ⟨rfl, hx4⟩
  replace h := h.ext hx4
  apply LW.nil
  refine QW.held (hS.ext hx4) ?_
  refine HW.take 8 rfl rfl rfl rfl (fun w _ => Y.go rfl (by first | omega | exact ⟨by omega, by omega⟩ | exact ⟨by omega, by omega, by omega⟩ | (simp <;> omega))) rfl (by kernel_rfl) (by kernel_rfl) (by kernel_rfl) (fun _ _ _ h => h) ?_
  refine HW.one 9 (by kernel_rfl) rfl rfl (fun hS => ?_)
  refine LW.call0 rfl rfl (put_pr hc h (textT ref ++ [58] ++ textT to) (by simp only [List.length_append, List.length_cons, List.length_nil]; omega)) ?_
  rintro v w5 ⟨rfl, hp5, hf5⟩
  apply LW.nil
  refine QW.held (hf5.blk _ _ _ hS (by decide) (by decide)) ?_
  refine HW.done (by kernel_rfl) ?_
  refine Sa ?_
  exact QW.body_n (rs := []) (vs := []) Tryz.results123 trivial rfl ⟨rfl, hp5, (Fp.ext (((hx1.trans hx2).trans hx3).trans hx4)).trans hf5⟩
theorem pminus_ret {s : SC} (hc : s.Ok) (b : Tr false) (hb : ND s 88 b) (o : Nat) (q : Option Addr) (k : Nat) (out : List UInt8) (w : World) (hf : b.Fit) (hn : b.Num) (hl : Lies s.l o b) (hk : IntsR s.w0 (.slice q 1 k) [((o + b.cnt - 1 : Nat) : Int)]) (htl : out.length + (Tr.neg b).text.length ≤ 1000000000000) (h : Pr s w out) :
  Ret Tryz.prog 125 [.pointer (some ⟨s.b, 0, none⟩), .agg ⟨nvL ⟨{ kind := 8, kids := [((o + b.cnt - 1 : Nat) : Int)] }, .slice q 1 k⟩⟩] w (fun v w' => v = .tuple #[] ∧ Pr s w' (out ++ (Tr.neg b).text) ∧ Fp w w') := by
 have hcp := b.cnt_pos
 rw [neg_text] at htl ⊢
 simp only [List.length_append, List.length_cons, List.length_nil] at htl
 obtain ⟨j, hj⟩ : ∃ j, j = o + b.cnt - 1 := ⟨_, rfl⟩
 rw [← hj] at hk ⊢
 obtain ⟨ka, rfl, hk0⟩ := kid_at (p := q) (c := k) (zs := [(j : Int)]) hk (i := 0) rfl
 refine Ret.enter Tryz.func125 rfl Tryz.ntmps125 (by kernel_rfl) rfl ?_
 refine Sa ?_
 refine Lwb fun A w1 hbA hx1 hA => ?_
 replace hA : Blk w1 A (nvL ⟨{ kind := 8, kids := [(j : Int)] }, .slice (some ka) 1 k⟩) 57 := hA
 replace h := h.ext hx1
 refine Sa ?_
 refine LW.call0 rfl rfl (put_pr hc h [45] (by simp; omega)) ?_
 rintro v w2 ⟨rfl, hp2, hf2⟩
 replace hA := hf2.blk _ _ _ hA (by decide) (by decide)
 replace hk0 := cell_ext hp2.1 hk0
 refine Sa ?_
 refine Lo ?_
 refine Lp hk0 ?_
 refine LW.call0 rfl rfl (operand_ret hc b hb 5 o j _ w2 hf hn hl (by omega) (by simp only [List.length_append, List.length_cons, List.length_nil]; omega) hp2) ?_
 rintro v w3 ⟨rfl, hp3, hf3⟩
 refine Sa ?_
 exact QW.body_n (rs := []) (vs := []) Tryz.results125 trivial rfl ⟨rfl, by simpa only [List.append_assoc] using hp3, ((Fp.ext hx1).trans hf2).trans hf3⟩
theorem ptwo_ret {s : SC} (hc : s.Ok) (x : Int) (b d : Tr false) (hb : ND s 88 b) (hd : ND s 88 d) (o : Nat) (q : Option Addr) (k : Nat) (out : List UInt8) (w : World) (hx9 : 9 ≤ x) (hx19 : x ≤ 19) (hfb : b.Fit) (hnb : b.Num) (hfd : d.Fit) (hnd : d.Num) (hlb : Lies s.l o b) (hld : Lies s.l (o + b.cnt) d) (hk : IntsR s.w0 (.slice q 2 k) [((o + b.cnt - 1 : Nat) : Int), ((o + b.cnt + d.cnt - 1 : Nat) : Int)]) (htl : out.length + (Tr.two x b d).text.length ≤ 1000000000000) (h : Pr s w out) :
  Ret Tryz.prog 126 [.pointer (some ⟨s.b, 0, none⟩), .agg ⟨nvL ⟨{ kind := x, kids := [((o + b.cnt - 1 : Nat) : Int), ((o + b.cnt + d.cnt - 1 : Nat) : Int)] }, .slice q 2 k⟩⟩] w (fun v w' => v = .tuple #[] ∧ Pr s w' (out ++ (Tr.two x b d).text) ∧ Fp w w') := by
 have hcb := b.cnt_pos
 have hcd := d.cnt_pos
 have hsg : sgnT x = signK x := by unfold sgnT; rw [if_neg (by omega), if_pos ⟨hx9, hx19⟩]
 have hrk : rankK x ≤ 10 := by unfold rankK; split <;> (try split) <;> (try split) <;> (try split) <;> (try split) <;> omega
 rw [two_text] at htl ⊢
 simp only [List.length_append] at htl
 obtain ⟨j, hj⟩ : ∃ j, j = o + b.cnt - 1 := ⟨_, rfl⟩
 obtain ⟨y, hy⟩ : ∃ y, y = o + b.cnt + d.cnt - 1 := ⟨_, rfl⟩
 rw [← hj, ← hy] at hk ⊢
 obtain ⟨ka, rfl, hk0⟩ := kid_at (p := q) (c := k) (zs := [(j : Int), (y : Int)]) hk (i := 0) rfl
 obtain ⟨ka', ek, hk1⟩ := kid_at (p := some ka) (c := k) (zs := [(j : Int), (y : Int)]) hk (i := 1) rfl
 obtain rfl := Option.some.inj ek
 refine Ret.enter Tryz.func126 rfl Tryz.ntmps126 (by kernel_rfl) rfl ?_
 refine Sa ?_
 refine Lwb fun A w1 hbA hx1 hA => ?_
 replace hA : Blk w1 A (nvL ⟨{ kind := x, kids := [(j : Int), (y : Int)] }, .slice (some ka) 2 k⟩) 57 := hA
 replace h := h.ext hx1
 refine Sa ?_
 refine LW.call0 rfl rfl (sgn_ret x w1) ?_
 rintro v w2 ⟨rfl, hx2⟩
 rw [hsg]
 replace h := h.ext hx2
 replace hA := hA.ext hx2
 replace hk0 := cell_ext h.1 hk0
 refine Sa ?_
 refine Lo ?_
 refine Lp hk0 ?_
 refine Sa ?_
 refine LW.call0 rfl rfl (operand_ret hc b hb (rankK x) o j _ w2 hfb hnb hlb (by omega) (by omega) h) ?_
 rintro v w3 ⟨rfl, hp3, hf3⟩
 replace hA := hf3.blk _ _ _ hA (by decide) (by decide)
 refine Sa ?_
 refine LW.call0 rfl rfl (put_pr hc hp3 (signK x) (by simp only [List.length_append]; omega)) ?_
 rintro v w4 ⟨rfl, hp4, hf4⟩
 replace hA := hf4.blk _ _ _ hA (by decide) (by decide)
 replace hk1 := cell_ext hp4.1 hk1
 refine Sa ?_
 refine Lo ?_
 refine Lp hk1 ?_
 refine Sa ?_
 have er : ((rankK x : Nat) : Int) + 1 = ((rankK x + 1 : Nat) : Int) := by omega
 rw [er]
 refine LW.call0 rfl rfl (operand_ret hc d hd (rankK x + 1) (o + b.cnt) y _ w4 hfd hnd hld (by omega) (by simp only [List.length_append]; omega) hp4) ?_
 rintro v w5 ⟨rfl, hp5, hf5⟩
 refine Sa ?_
 exact QW.body_n (rs := []) (vs := []) Tryz.results126 trivial rfl ⟨rfl, by simpa only [List.append_assoc] using hp5, (((Fp.ext (hx1.trans hx2)).trans hf3).trans hf4).trans hf5⟩
theorem pcall_ret {s : SC} (hc : s.Ok) (x : List UInt8) (ks : Tr true) (hks : ∀ (b : Tr false), b.cnt ≤ ks.cnt → ND s 88 b) (o : Nat) (q : Option Addr) (k : Nat) (out : List UInt8) (w : World) (hfk : ks.Fit) (hnk : ks.Num) (hlk : Lies s.l o ks) (hk : IntsR s.w0 (.slice q (ks.kids o).length k) (ks.kids o)) (htl : out.length + (Tr.call x ks).text.length ≤ 1000000000000) (h : Pr s w out) :
  Ret Tryz.prog 124 [.pointer (some ⟨s.b, 0, none⟩), .agg ⟨nvL ⟨{ kind := 7, text := x, kids := ks.kids o }, .slice q (ks.kids o).length k⟩⟩] w (fun v w' => v = .tuple #[] ∧ Pr s w' (out ++ (Tr.call x ks).text) ∧ Fp w w') := by
 rw [call_text x o] at htl ⊢
 simp only [List.length_append, List.length_cons, List.length_nil] at htl
 have hmem := row_mem ks hfk hnk hlk
 obtain ⟨kids, hkids⟩ : ∃ kids, kids = ks.kids o := ⟨_, rfl⟩
 rw [← hkids] at hk ⊢
 rw [row_kids] at hkids
 have hkl : kids.length = (ks.row o).length := by rw [hkids]; simp
 obtain ⟨r, hr⟩ : ∃ r, r = ks.row o := ⟨_, rfl⟩
 rw [← hr] at hmem hkids hkl htl ⊢
 have hk63 := hk.1
 refine Ret.enter Tryz.func124 rfl Tryz.ntmps124 (by kernel_rfl) rfl ?_
 refine Sa ?_
 refine Lwb fun A w1 hbA hx1 hA => ?_
 replace hA : Blk w1 A (nvL ⟨{ kind := 7, text := x, kids := kids }, .slice q kids.length k⟩) 57 := hA
 replace h := h.ext hx1
 refine Sa ?_
 refine LW.call0 rfl rfl (put_pr hc h (x ++ [40]) (by simp only [List.length_append, List.length_cons, List.length_nil]; omega)) ?_
 rintro v w2 ⟨rfl, hp2, hf2⟩
 replace hA := hf2.blk _ _ _ hA (by decide) (by decide)
 replace hf2 := (Fp.ext hx1).trans hf2
 refine Sa ?_
 refine CW.loop (ι := Nat) (fun n w' => n ≤ r.length ∧ Pr s w' (out ++ (x ++ [40]) ++ rowS r n) ∧ Fp w w') (fun n => [(0, .pointer (some ⟨s.b, 0, none⟩)), (12, .slice q kids.length k), (13, .int .i64 (kids.length : Int)), (14, .int .i64 (n : Int))]) (fun n => r.length - n) 0 ⟨by omega, by simpa only [rowS, List.append_nil] using hp2, hf2⟩ (Sub.cons rfl (Sub.cons rfl (Sub.cons rfl (Sub.cons rfl (Sub.nil))))) ?_
 rintro n w3 ⟨hn0, hp3, hf3⟩
 have hmono := rowS_mono (r := r) n (r.length - n) (by omega)
 rw [show n + (r.length - n) = r.length by omega] at hmono
 refine Sa ?_
 refine Cwc (fun h1 => ?_) fun h1 => ?_
 rotate_left
 ·have h1 : n = r.length := by simp at h1; omega
  subst h1
  refine Sa ?_
  refine LW.call0 rfl rfl (put_pr hc hp3 [41] (by simp only [List.length_append, List.length_cons, List.length_nil]; omega)) ?_
  rintro v w4 ⟨rfl, hp4, hf4⟩
  refine Sa ?_
  exact QW.body_n (rs := []) (vs := []) Tryz.results124 trivial rfl ⟨rfl, by simpa only [List.append_assoc] using hp4, hf3.trans hf4⟩
 have h1 : n < r.length := by simp at h1; omega
 obtain ⟨⟨o', b⟩, hrn⟩ : ∃ y, r[n]? = some y := ⟨_, List.getElem?_eq_getElem h1⟩
 obtain ⟨hlb, hfb, hnb, hcb, htb⟩ := hmem _ (List.mem_of_getElem? hrn)
 simp only at hlb hfb hnb hcb htb
 have hbp := b.cnt_pos
 obtain ⟨j, hj⟩ : ∃ j, j = o' + b.cnt - 1 := ⟨_, rfl⟩
 have hkn : kids[n]? = some (j : Int) := by rw [hkids, List.getElem?_map, hrn, hj]; rfl
 obtain ⟨ka, rfl, hk0⟩ := kid_at hk hkn
 rw [show n = ((n : Nat) : Int).toNat * 1 by omega] at hk0
 replace hk0 := cell_ext hp3.1 hk0
 have hstep := rowS_step hrn
 simp only at hstep
 have hm2 := rowS_mono (r := r) (n + 1) (r.length - (n + 1)) (by omega)
 rw [show n + 1 + (r.length - (n + 1)) = r.length by omega] at hm2
 have hsl := congrArg List.length hstep
 simp only [List.length_append] at hsl
 refine Sa ?_
 refine Lo ?_
 refine Lp hk0 ?_
 refine Sa ?_
 refine Cwc (fun h2 => ?_) fun h2 => ?_
 ·have h2 : 0 < n := by simp at h2; omega
  rw [if_pos h2] at hsl hstep
  simp only [List.length_cons, List.length_nil] at hsl
  refine Sa ?_
  refine LW.call0 rfl rfl (put_pr hc hp3 [44] (by simp only [List.length_append, List.length_cons, List.length_nil]; omega)) ?_
  rintro v w4 ⟨rfl, hp4, hf4⟩
  refine Sa ?_
  refine LW.call0 rfl rfl (hks b hcb o' j _ w4 hfb hnb hlb (by omega) (by simp only [List.length_append, List.length_cons, List.length_nil]; omega) hp4) ?_
  rintro v w5 ⟨rfl, hp5, hf5⟩
  refine Sa ?_
  refine QW.again (n + 1) ⟨h1, ?_, (hf3.trans hf4).trans hf5⟩ (Sub.cons rfl (Sub.cons rfl (Sub.cons rfl (Sub.cons rfl (Sub.nil))))) (by omega)
  rw [hstep]
  simpa only [List.append_assoc] using hp5
 ·have h2 : ¬ 0 < n := by simp at h2; omega
  rw [if_neg h2] at hsl hstep
  simp only [List.length_nil] at hsl
  refine Sa ?_
  refine LW.call0 rfl rfl (hks b hcb o' j _ w3 hfb hnb hlb (by omega) (by simp only [List.length_append, List.length_cons, List.length_nil]; omega) hp3) ?_
  rintro v w5 ⟨rfl, hp5, hf5⟩
  refine Sa ?_
  refine QW.again (n + 1) ⟨h1, ?_, hf3.trans hf5⟩ (Sub.cons rfl (Sub.cons rfl (Sub.cons rfl (Sub.cons rfl (Sub.nil))))) (by omega)
  rw [hstep]
  simpa only [List.append_assoc, List.append_nil] using hp5
theorem node_nd {s : SC} (hc : s.Ok) : ∀ (m : Nat) (t : Tr false), t.cnt ≤ m → ND s 88 t
 | 0, t, hm => absurd t.cnt_pos (by omega)
 | m + 1, t, hm => by
  intro o i out w hf hn hl hio htl h
  have ih := node_nd hc m
  have hnd := hl.node
  rw [show o + t.cnt - 1 = i by omega] at hnd
  have hi : i < s.l.length := (List.getElem?_eq_some_iff.1 hnd).1
  have hsn := hc.short _ (List.mem_of_getElem? hnd)
  have hN := hc.nodes
  have hl1 := hN.1
  obtain ⟨a, kp, kc, ea, hk, hc0⟩ := hN.at hnd
  have hpr := h
  obtain ⟨h0, v, hB, ho⟩ := h
  rw [ea] at hB
  have hcl : ∀ j u, (nvL ⟨rootN o t, .slice kp (rootN o t).kids.length kc⟩)[j]? = some u → w.cell? ((a.add (i * 14)).add j) = some u := fun j u hu => cell_ext h0 (hc0 j u hu)
  cases t with
  | leaf n =>
   have k0 := hf.1
   have k1 := hf.2.1
   change ∀ j u, (nvL ⟨n, .slice kp n.kids.length kc⟩)[j]? = some u → _ at hcl
   refine Ret.enter Tryz.func88 rfl Tryz.ntmps88 (by kernel_rfl) rfl ?_
   refine Sa ?_
   refine Lo ?_
   refine LW.load_cells rfl hcl rfl rfl rfl rfl ?_
   refine Sa ?_
   refine Lwa fun A w1 hbA hx1 hA => ?_
   refine Sa ?_
   refine Lws fun w2 hc2 hA => ?_
   have hx2 : Ext w w2 := hx1.step hc2 (by simp; omega)
   replace hpr := hpr.ext hx2
   refine Sa ?_
   refine CW.no rfl (decide_eq_false (show ¬ n.kind = 7 by omega)) ?_
   refine Sa ?_
   refine CW.no rfl (decide_eq_false (show ¬ n.kind = 8 by omega)) ?_
   refine Sa ?_
   refine CW.no rfl (decide_eq_false (show ¬ (8 : Int) < n.kind by omega)) ?_
   refine Sa ?_
   refine LW.call (f := 123) (fs := []) (cs := []) rfl rfl rfl (pleaf_ret hc n kp n.kids.length kc out w2 hf hn hsn htl hpr) ?_
   rintro v w3 ⟨rfl, hp3, hf3⟩
   refine Sa ?_
   exact QW.body_n (rs := []) (vs := []) Tryz.results88 trivial rfl ⟨rfl, hp3, (Fp.ext hx2).trans hf3⟩
  | neg b =>
   change ∀ j u, (nvL ⟨{ kind := 8, kids := [((o + b.cnt - 1 : Nat) : Int)] }, .slice kp 1 kc⟩)[j]? = some u → _ at hcl
   simp only [Tr.cnt] at hm
   refine Ret.enter Tryz.func88 rfl Tryz.ntmps88 (by kernel_rfl) rfl ?_
   refine Sa ?_
   refine Lo ?_
   refine LW.load_cells rfl hcl rfl rfl rfl rfl ?_
   refine Sa ?_
   refine Lwa fun A w1 hbA hx1 hA => ?_
   refine Sa ?_
   refine Lws fun w2 hc2 hA => ?_
   have hx2 : Ext w w2 := hx1.step hc2 (by simp; omega)
   replace hpr := hpr.ext hx2
   refine Sa ?_
   refine LW.call (f := 125) (fs := []) (cs := []) rfl rfl rfl (pminus_ret hc b (ih b (by omega)) o kp kc out w2 hf (fun u hu => hn u (by simp only [Tr.toks]; exact List.mem_cons_of_mem _ (sub_brk hu))) hl.neg hk htl hpr) ?_
   rintro v w3 ⟨rfl, hp3, hf3⟩
   refine Sa ?_
   exact QW.body_n (rs := []) (vs := []) Tryz.results88 trivial rfl ⟨rfl, hp3, (Fp.ext hx2).trans hf3⟩
  | two x b d =>
   obtain ⟨hk9, hk19, hfb, hfd⟩ := hf
   change ∀ j u, (nvL ⟨{ kind := x, kids := [((o + b.cnt - 1 : Nat) : Int), ((o + b.cnt + d.cnt - 1 : Nat) : Int)] }, .slice kp 2 kc⟩)[j]? = some u → _ at hcl
   simp only [Tr.cnt] at hm
   refine Ret.enter Tryz.func88 rfl Tryz.ntmps88 (by kernel_rfl) rfl ?_
   refine Sa ?_
   refine Lo ?_
   refine LW.load_cells rfl hcl rfl rfl rfl rfl ?_
   refine Sa ?_
   refine Lwa fun A w1 hbA hx1 hA => ?_
   refine Sa ?_
   refine Lws fun w2 hc2 hA => ?_
   have hx2 : Ext w w2 := hx1.step hc2 (by simp; omega)
   replace hpr := hpr.ext hx2
   refine Sa ?_
   refine CW.no rfl (decide_eq_false (show ¬ x = 7 by omega)) ?_
   refine Sa ?_
   refine CW.no rfl (decide_eq_false (show ¬ x = 8 by omega)) ?_
   refine Sa ?_
   refine CW.yes rfl (decide_eq_true (show (8 : Int) < x by omega)) ?_
   refine Sa ?_
   refine LW.call (f := 126) (fs := []) (cs := []) rfl rfl rfl (ptwo_ret hc x b d (ih b (by omega)) (ih d (by omega)) o kp kc out w2 hk9 hk19 hfb (fun u hu => hn u (by simp only [Tr.toks]; exact List.mem_append_left _ (sub_brk hu))) hfd (fun u hu => hn u (by simp only [Tr.toks]; exact List.mem_append_right _ (List.mem_cons_of_mem _ (sub_brk hu)))) hl.two.1 hl.two.2 hk htl hpr) ?_
   rintro v w3 ⟨rfl, hp3, hf3⟩
   refine Sa ?_
   exact QW.body_n (rs := []) (vs := []) Tryz.results88 trivial rfl ⟨rfl, hp3, (Fp.ext hx2).trans hf3⟩
  | call x ks =>
   change ∀ j u, (nvL ⟨{ kind := 7, text := x, kids := ks.kids o }, .slice kp (ks.kids o).length kc⟩)[j]? = some u → _ at hcl
   simp only [Tr.cnt] at hm
   refine Ret.enter Tryz.func88 rfl Tryz.ntmps88 (by kernel_rfl) rfl ?_
   refine Sa ?_
   refine Lo ?_
   refine LW.load_cells rfl hcl rfl rfl rfl rfl ?_
   refine Sa ?_
   refine Lwa fun A w1 hbA hx1 hA => ?_
   refine Sa ?_
   refine Lws fun w2 hc2 hA => ?_
   have hx2 : Ext w w2 := hx1.step hc2 (by simp; omega)
   replace hpr := hpr.ext hx2
   refine Sa ?_
   refine LW.call (f := 124) (fs := []) (cs := []) rfl rfl rfl (pcall_ret hc x ks (fun b hb => ih b (by omega)) o kp kc out w2 hf.2 (call_num hn) hl.call hk htl hpr) ?_
   rintro v w3 ⟨rfl, hp3, hf3⟩
   refine Sa ?_
   exact QW.body_n (rs := []) (vs := []) Tryz.results88 trivial rfl ⟨rfl, hp3, (Fp.ext hx2).trans hf3⟩
theorem Print_ret (l : List NodeD) (v : Value) (w : World) (g : Glob w) (hN : NodesR w v l) (hs : Short l) (hnum : NumOk l) : Ret Tryz.prog 67 [v] w (fun v' w' => v' = str (printT l) ∧ Ext w w') := by
 obtain ⟨p, c, rfl⟩ := hN.slice
 have hl := hN.1
 refine Ret.enter Tryz.func67 rfl Tryz.ntmps67 (by kernel_rfl) rfl ?_
 refine Sa ?_
 refine LW.call0 rfl rfl (Tree_ret l _ w g hN hs) ?_
 rintro v w1 ⟨rfl, hx⟩
 replace hN := hN.ext hx
 replace g := g.ext hx
 refine Sa ?_
 refine Cwc (fun h1 => ?_) fun h1 => ?_
 ·have h1 : treeB l = false := by simpa using h1
  refine Sa ?_
  exact QW.body1 Tryz.results67 rfl ⟨by rw [printT_no h1], hx⟩
 have h1 : treeB l = true := by simpa using h1
 obtain ⟨t, rfl, hf⟩ := tree_of h1
 have hcp := t.cnt_pos
 have hlen := t.flat_len 0
 have hn := hnum t hf rfl
 have htl := t.len_le 0 hf hn (fun n hm => (hs n hm).1)
 simp only [cond_false] at htl
 rw [printT_of hf]
 refine Sa ?_
 refine Lwb fun A w2 hbA hx2 hA => ?_
 replace hA : Blk w2 A [.slice p (t.flat 0).length c, .slice none 0 0] 118 := hA
 have hc : SC.Ok ⟨t.flat 0, p, c, A, w1⟩ := ⟨hN, hs, by simp only; omega, g⟩
 have hpr : Pr ⟨t.flat 0, p, c, A, w1⟩ w2 [] := ⟨hx2, _, hA, Own.nil _ _ _ _⟩
 refine Sa ?_
 have e : (((t.flat 0).length : Int) - 1) = ((t.cnt - 1 : Nat) : Int) := by omega
 rw [e]
 refine LW.call0 rfl rfl (node_nd hc t.cnt t (Nat.le_refl _) 0 (t.cnt - 1) [] w2 hf hn (Lies.whole t) (by omega) (by simp; omega) hpr) ?_
 rintro v w3 ⟨rfl, ⟨hx3, v, hB, ho⟩, -⟩
 simp only [List.nil_append] at ho
 refine Sa ?_
 refine LW.string_own rfl ho rfl rfl rfl rfl rfl rfl rfl ?_
 refine Sa ?_
 exact QW.body1 Tryz.results67 rfl ⟨rfl, hx.trans hx3⟩
end Go.Proofs.YtiaigmahdjhcoaaGreatDoor
namespace Go.Proofs.YtiaigmahdjhcoaaGreatDoor
open Go Go.E
theorem text_ne {t : Tr false} (hf : t.Fit) (hn : t.Num) : t.text ≠ [] := (t.head hf hn).1
theorem parseT_empty (l : List NodeD) : parseT [] ≠ .ok l := fun h => by
 obtain ⟨_, h1, _, t, hf, hn, _, h2⟩ := print_parse h
 rw [h2] at h1
 exact text_ne hf hn (List.eq_nil_of_length_eq_zero (by simpa using h1))
theorem made_facts {l : List NodeD} (hsh : Short l) (hno : NumOk l) (hl : l.length ≤ 100000) (ht : l = [] ∨ treeB l = true) :
  (printT l = [] ↔ l = []) ∧ (printT l).length ≤ 400000000 ∧ (∀ e, parseT (printT l) = .error e → l = [] ∨ 300 < (printT l).length ∨ e = 6) ∧ ∀ m, parseT (printT l) = .ok m → l = m := by
 rcases ht with rfl | ht
 ·have hp : printT [] = [] := printT_no rfl
  rw [hp]
  exact ⟨by simp, by simp, fun _ _ => .inl rfl, fun m h => absurd h (parseT_empty m)⟩
 ·obtain ⟨t, rfl, hf⟩ := tree_of ht
  have hn := hno t hf rfl
  have hlen := t.flat_len 0
  have hle := t.len_le 0 hf hn (fun n hm => (hsh n hm).1)
  simp only [cond_false] at hle
  have hne : t.flat 0 ≠ [] := fun h => by
   have := t.cnt_pos
   rw [h] at hlen
   simp at hlen
   omega
  rw [printT_of hf, parseT_text t hf hn]
  refine ⟨⟨fun h => absurd h (text_ne hf hn), fun h => absurd h hne⟩, by omega, fun e h => ?_, fun m h => ?_⟩
  ·split at h
   ·rename_i h3
    exact .inr (.inl h3)
   ·split at h
    ·cases h
    ·simp only [Except.error.injEq] at h
     exact .inr (.inr h.symm)
  ·split at h
   ·cases h
   ·split at h
    ·simpa using h
    ·cases h
end Go.Proofs.YtiaigmahdjhcoaaGreatDoor
namespace Go.Proofs.YtiaigmahdjhcoaaGreatDoor
open Go Go.E
def noP (s : List UInt8) : Bool := s.all (fun c => decide (c ≠ 40) && decide (c ≠ 41))
def FineM (nd : NodeD) : Prop := nd.text.length ≤ 10 ∧ nd.ref.sheet.length ≤ 10 ∧ nd.to.sheet.length ≤ 10 ∧ nd.num ≤ 255 ∧ nd.kids.length ≤ 100 ∧ noP nd.text = true ∧ (nd.ref.sheet = [] ∨ nd.ref.sheet = [84])
def shM (n : Int) : List UInt8 := if n / 8 % 3 = 2 then [84] else []
def refM (n : Int) : RefD := ⟨shM n, n / 16 % 5, n / 8 % 7, decide (128 < n), false⟩
def refA (n : Int) : RefD := ⟨[], n / 16 % 3, n / 8 % 4, false, false⟩
def refB (n : Int) : RefD := ⟨[], 1 + n / 16, 2 + n / 8, false, false⟩
def leafM (n : Int) : List NodeD := [{ kind := 1, num := n }, { kind := 5, ref := refM n }, { kind := 6, ref := refA n, to := refB n }, { kind := 2, text := [97, 34] ++ Lib.itoa n }, { kind := 3, num := n / 32 % 2 }, { kind := 4 }]
def okM (nd : NodeD) : Bool := plainB nd && decide (kidN nd = nd.kids.length) && decide (nd.text.length ≤ 10) && decide (nd.ref.sheet.length ≤ 10) && decide (nd.to.sheet.length ≤ 10) && decide (nd.num ≤ 255) && decide (nd.kids.length ≤ 100) && noP nd.text && decide (nd.ref.sheet = [] ∨ nd.ref.sheet = [84])
theorem okM_parts {nd : NodeD} (h : okM nd = true) : plainB nd = true ∧ kidN nd = nd.kids.length ∧ FineM nd := by
 simp only [okM, Bool.and_eq_true, decide_eq_true_eq] at h
 obtain ⟨⟨⟨⟨⟨⟨⟨⟨h0, h1⟩, h2⟩, h3⟩, h4⟩, h5⟩, h6⟩, h7⟩, h8⟩ := h
 exact ⟨h0, h1, h2, h3, h4, h5, h6, h7, h8⟩
def allLeaf (n : Nat) : Bool := (leafM (n : Int)).all okM
theorem leaf_all : ∀ n : Fin 256, allLeaf n.val = true := by decide +kernel
theorem leaf_ok {n : Int} (h0 : 0 ≤ n) (h1 : n ≤ 255) {nd : NodeD} (h : nd ∈ leafM n) : plainB nd = true ∧ kidN nd = nd.kids.length ∧ FineM nd := by
 have := leaf_all ⟨n.toNat, by omega⟩
 simp only [allLeaf] at this
 rw [show ((n.toNat : Nat) : Int) = n by omega] at this
 exact okM_parts (List.all_eq_true.1 this nd h)
theorem op_ok {k : Int} (h0 : 9 ≤ k) (h1 : k ≤ 19) (a b : Int) : plainB { kind := k, kids := [a, b] } = true ∧ kidN { kind := k, kids := [a, b] } = ([a, b] : List Int).length ∧ FineM { kind := k, kids := [a, b] } := by
 obtain ⟨h2, h3⟩ := two_node h0 h1 a b
 exact ⟨h3, h2, by simp [FineM, refN, noP]⟩
theorem neg_ok (a : Int) : plainB { kind := 8, kids := [a] } = true ∧ kidN { kind := 8, kids := [a] } = ([a] : List Int).length ∧ FineM { kind := 8, kids := [a] } := ⟨rfl, rfl, by simp [FineM, refN, noP]⟩
theorem call_ok {ks : List Int} (h : ks.length ≤ 100) : plainB { kind := 7, text := [83, 85, 77], kids := ks } = true ∧ kidN { kind := 7, text := [83, 85, 77], kids := ks } = ks.length ∧ FineM { kind := 7, text := [83, 85, 77], kids := ks } := by
 obtain ⟨h2, h3⟩ := call_node (x := [83, 85, 77]) (by decide +kernel) ks
 exact ⟨h3, h2, by simp [FineM, refN, noP]; omega⟩
def NP (w0 w : World) (l : List NodeD) (outv stv : Value) : Prop := ∃ nvs : List NV, Own w w0.heap.size 57 14 outv nvs.length (nvs.flatMap nvL) ∧ nvs.map NV.node = l ∧ ∀ x ∈ nvs, KidsOk w x.kv x.node.kids ∧ ∀ b ∈ vblk x.kv, b ∉ vblk stv
theorem KidsOk.chg {S : List Nat} {w w' : World} {kv stv : Value} {ks : List Int} (h : KidsOk w kv ks) (hn : ∀ b ∈ vblk kv, b ∉ vblk stv) (hc : Chg S w w') (h2 : ∀ b ∈ S, b ∈ vblk stv ∨ ∃ l T, Blk w b l T ∧ T ≠ 3) : KidsOk w' kv ks := by
 rcases h with h | ⟨b, cap, sp, e, hb⟩
 ·exact .inl h
 ·refine .inr ⟨b, cap, sp, e, hb.chg hc (fun hm => ?_)⟩
  rcases h2 b hm with h2 | ⟨l, T, h3, h4⟩
  ·exact hn b (by rw [e]; simp [vblk]) h2
  ·exact h4 (h3.inj hb)
theorem KidsOk.lt {w : World} {kv : Value} {ks : List Int} (h : KidsOk w kv ks) : ∀ b ∈ vblk kv, b < w.heap.size := by
 rcases h with ⟨rfl, _⟩ | ⟨b, cap, sp, rfl, hb⟩
 ·simp [vblk]
 ·simp [vblk]; exact hb.lt
theorem NP.chg {S : List Nat} {w0 w w' : World} {l : List NodeD} {outv stv : Value} (h : NP w0 w l outv stv) (hc : Chg S w w') (h1 : ∀ b ∈ vblk outv, b ∉ S) (h2 : ∀ b ∈ S, b ∈ vblk stv ∨ ∃ l T, Blk w b l T ∧ T ≠ 3) : NP w0 w' l outv stv := by
 obtain ⟨nvs, ho, hm, hk⟩ := h
 exact ⟨nvs, ho.chg hc h1, hm, fun x hx => ⟨(hk x hx).1.chg (hk x hx).2 hc h2, (hk x hx).2⟩⟩
theorem NP.ext {w0 w w' : World} {l : List NodeD} {outv stv : Value} (h : NP w0 w l outv stv) (hx : Ext w w') : NP w0 w' l outv stv := h.chg hx (by simp) (by simp)
theorem NP.stv {w0 w : World} {l : List NodeD} {outv stv stv' : Value} (h : NP w0 w l outv stv) (hs : ∀ j ∈ vblk stv', j ∈ vblk stv ∨ w.heap.size ≤ j) : NP w0 w l outv stv' := by
 obtain ⟨nvs, ho, hm, hk⟩ := h
 refine ⟨nvs, ho, hm, fun x hx => ⟨(hk x hx).1, fun b hb hj => ?_⟩⟩
 rcases hs b hj with hs | hs
 ·exact (hk x hx).2 b hb hs
 ·have := (hk x hx).1.lt b hb; omega
def SV (w0 w : World) (v : Value) (s : List Int) : Prop := Own w w0.heap.size 3 1 v s.length (icells s) ∨ ∃ p, v = .slice p s.length s.length ∧ (p = none ∧ s.length = 0 ∨ ∃ a, p = some a ∧ ∀ j u, (icells s)[j]? = some u → w.cell? (a.add j) = some u)
structure MI (w0 w : World) (l : List NodeD) (st : List Int) (outv stv : Value) : Prop where
 ext : Ext w0 w
 sown : Own w w0.heap.size 3 1 stv st.length (icells st)
 go : treeGo 0 [] l = some st
 le : st.length ≤ l.length
 pos : 0 < l.length → 0 < st.length
 fine : ∀ nd ∈ l, FineM nd
 np : NP w0 w l outv stv
theorem MI.grow {w0 w w' : World} {l : List NodeD} {st : List Int} {outv stv : Value} (h : MI w0 w l st outv stv) (hx : Ext w w') : MI w0 w' l st outv stv := ⟨h.ext.trans hx, h.sown.ext hx, h.go, h.le, h.pos, h.fine, h.np.ext hx⟩
theorem MI.chgX {w0 w w' : World} {l : List NodeD} {st : List Int} {outv stv : Value} {X : Nat} {L : List Value} (h : MI w0 w l st outv stv) (hw : w0.heap.size ≤ X) (hXo : X ∉ vblk outv) (hXs : X ∉ vblk stv) (hX0 : Blk w X L 57) (hc : Chg [X] w w') : MI w0 w' l st outv stv :=
 ⟨h.ext.step hc (by simpa using hw), h.sown.chg hc (fun b hb hm => hXs (by simp at hm; subst hm; exact hb)), h.go, h.le, h.pos, h.fine, h.np.chg hc (fun b hb hm => hXo (by simp at hm; subst hm; exact hb)) (fun b hb => by
  simp only [List.mem_singleton] at hb
  subst hb
  exact .inr ⟨_, _, hX0, by decide⟩)⟩
structure CI (w0 w : World) (l : List NodeD) (outv : Value) (X : Nat) (nd : NodeD) (kv : Value) (s2 : List Int) (stv : Value) : Prop where
 ext : Ext w0 w
 np : NP w0 w l outv stv
 blk : Blk w X (nvL ⟨nd, kv⟩) 57
 kids : KidsOk w kv nd.kids
 apart : ∀ b ∈ vblk kv, b ∉ vblk stv
 sv : SV w0 w stv s2
 go : treeGo 0 [] (l ++ [nd]) = some (s2 ++ [(l.length : Int)])
 fine : FineM nd
 le : s2.length ≤ l.length
theorem vblk_same (p : Option Addr) (m c m' c' : Nat) : vblk (.slice p m c) = vblk (.slice p m' c') := by cases p <;> rfl
theorem ci_pop {w0 w w' : World} {l : List NodeD} {s2 ks : List Int} {outv kv : Value} {sp : Option Addr} {sc n X : Nat} {nd : NodeD} {L : List Value} (h : MI w0 w l (s2 ++ ks) outv (.slice sp n sc)) (hn : n = (s2 ++ ks).length) (hw : w0.heap.size ≤ X) (hXo : X ∉ vblk outv) (hXs : X ∉ vblk (.slice sp n sc)) (hX0 : Blk w X L 57) (hc : Chg [X] w w') (hX : Blk w' X (nvL ⟨nd, kv⟩) 57)
  (hkv : KidsOk w kv ks) (hfr : ∀ b ∈ vblk kv, b ∉ vblk (.slice sp n sc)) (ok : plainB nd = true ∧ kidN nd = nd.kids.length ∧ FineM nd) (hk : nd.kids = ks) : CI w0 w' l outv X nd kv s2 (.slice sp s2.length s2.length) := by
 subst hk
 have hS : ∀ b ∈ [X], b ∈ vblk (.slice sp n sc) ∨ ∃ l T, Blk w b l T ∧ T ≠ 3 := fun b hb => by
  simp only [List.mem_singleton] at hb
  subst hb
  exact .inr ⟨_, _, hX0, by decide⟩
 have ho := h.sown.chg hc (fun b hb hm => hXs (by simp at hm; subst hm; exact hb))
 subst hn
 refine ⟨h.ext.step hc (by simpa using hw), (h.np.chg hc (fun b hb hm => hXo (by simp at hm; subst hm; exact hb)) hS).stv (fun j hj => .inl (by rw [vblk_same sp _ _ s2.length s2.length]; exact hj)), hX, hkv.chg hfr hc hS, fun b hb => by rw [vblk_same sp _ _ (s2 ++ nd.kids).length sc]; exact hfr b hb, .inr ⟨sp, rfl, ?_⟩, ?_, ok.2.2, ?_⟩
 ·have := Own.cells ho (i := s2.length) (by simp)
  rw [List.take_left'] at this
  ·exact this
  ·rfl
 ·have := tree_put (n := nd) h.go rfl ok.2.1 ok.1
  simpa using this
 ·have := h.le
  simp at this
  omega
theorem ci_leaf {w0 w w' : World} {l : List NodeD} {st : List Int} {outv stv : Value} {X : Nat} {nd : NodeD} {L : List Value} (h : MI w0 w l st outv stv) (hw : w0.heap.size ≤ X) (hXo : X ∉ vblk outv) (hXs : X ∉ vblk stv) (hX0 : Blk w X L 57) (hc : Chg [X] w w') (hX : Blk w' X (nvL ⟨nd, .slice none 0 0⟩) 57)
  (ok : plainB nd = true ∧ kidN nd = nd.kids.length ∧ FineM nd) (hk : nd.kids = []) : CI w0 w' l outv X nd (.slice none 0 0) st stv := by
 have ho := h.sown.chg hc (fun b hb hm => hXs (by simp at hm; subst hm; exact hb))
 refine ⟨h.ext.step hc (by simpa using hw), h.np.chg hc (fun b hb hm => hXo (by simp at hm; subst hm; exact hb)) (fun b hb => by
  simp only [List.mem_singleton] at hb
  subst hb
  exact .inr ⟨_, _, hX0, by decide⟩), hX, .inl ⟨rfl, hk⟩, by simp [vblk], .inl ho, ?_, ok.2.2, h.le⟩
 have := tree_put (st' := st) (ks := []) (n := nd) (by simpa using h.go) hk ok.2.1 ok.1
 simpa using this
structure TI (w0 w : World) (l : List NodeD) (outv : Value) (X : Nat) (nd : NodeD) (kv : Value) (s2 : List Int) (stv : Value) : Prop where
 ext : Ext w0 w
 np : NP w0 w l outv stv
 blk : Blk w X (nvL ⟨nd, kv⟩) 57
 kids : KidsOk w kv nd.kids
 apart : ∀ b ∈ vblk kv, b ∉ vblk stv
 sown : Own w w0.heap.size 3 1 stv (s2.length + 1) (icells (s2 ++ [(l.length : Int)]))
theorem ti_of {w0 w w' : World} {l : List NodeD} {outv : Value} {X : Nat} {nd : NodeD} {kv : Value} {s2 : List Int} {stv stv' : Value} {S : List Nat} (h : CI w0 w l outv X nd kv s2 stv) (hc : Chg S w w') (hS : ∀ b ∈ S, w0.heap.size ≤ b ∧ b ∈ vblk stv) (hT : ∀ b ∈ S, ∀ L T, Blk w b L T → T = 3) (hs : ∀ j ∈ vblk stv', j ∈ vblk stv ∨ w.heap.size ≤ j)
  (ho : Own w' w0.heap.size 3 1 stv' (s2.length + 1) (icells s2 ++ [.int .i64 (l.length : Int)])) : TI w0 w' l outv X nd kv s2 stv' := by
 have hout : ∀ b ∈ vblk outv, b ∉ S := fun b hb hm => by
  obtain ⟨nvs, hon, _, _⟩ := h.np
  obtain ⟨_, ⟨e, _⟩ | ⟨g, cap, sp, e, hg, _⟩⟩ := hon
  ·rw [e] at hb; simp [vblk] at hb
  ·rw [e] at hb
   simp [vblk] at hb
   subst hb
   exact absurd (hT _ hm _ _ hg) (by decide)
 refine ⟨h.ext.step hc (fun b hb => (hS b hb).1), ?_, h.blk.chg hc (fun hm => absurd (hT _ hm _ _ h.blk) (by decide)), h.kids.chg h.apart hc (fun b hb => .inl (hS b hb).2), fun b hb hj => ?_, ?_⟩
 ·obtain ⟨nvs, a1, a2, a3⟩ := h.np
  refine ⟨nvs, a1.chg hc hout, a2, fun x hx => ⟨(a3 x hx).1.chg (a3 x hx).2 hc (fun b hb => .inl (hS b hb).2), fun b hb hj => ?_⟩⟩
  rcases hs b hj with h1 | h1
  ·exact (a3 x hx).2 b hb h1
  ·have := (a3 x hx).1.lt b hb; omega
 ·rcases hs b hj with h1 | h1
  ·exact h.apart b hb h1
  ·have := h.kids.lt b hb; omega
 ·have e1 : icells (s2 ++ [(l.length : Int)]) = icells s2 ++ [.int .i64 (l.length : Int)] := by simp [icells]
  rw [e1]
  exact ho
def MadeV (ns : List Int) (v : Value) (w : World) (l : List NodeD) : Prop := NodesR w v l ∧ Short l ∧ NumOk l ∧ (∀ n ∈ l, n.kids.length ≤ 100) ∧ (l = [] ↔ ns = []) ∧ (l = [] ∨ treeB l = true) ∧ (∀ n ∈ l, noP n.text = true) ∧ ∀ n ∈ l, n.ref.sheet = [] ∨ n.ref.sheet = [84]
set_option maxHeartbeats 4000000 in
theorem Made_ret (ns : List Int) (vn : Value) (w : World) (hin : InS .u8 w vn ns) (hb : ∀ z ∈ ns, 0 ≤ z ∧ z ≤ 255) : Ret Tryz.prog 33 [vn] w (fun v w' => ∃ l, MadeV ns v w' l ∧ Ext w w') := by
 obtain ⟨np, nc, rfl⟩ := hin.slice
 have hnl := hin.1
 refine Ret.enter Tryz.func33 rfl Tryz.ntmps33 (by kernel_rfl) rfl ?_
 refine Sa ?_
 refine CW.loop (ι := List NodeD × List Int × Option Addr × Nat × Option Addr × Nat) (fun x w' => x.1.length ≤ ns.length ∧ x.1.length ≤ 40 ∧ MI w w' x.1 x.2.1 (.slice x.2.2.1 x.1.length x.2.2.2.1) (.slice x.2.2.2.2.1 x.2.1.length x.2.2.2.2.2)) (fun x => [(0, .slice np ns.length nc), (3, .slice x.2.2.1 x.1.length x.2.2.2.1), (4, .slice x.2.2.2.2.1 x.2.1.length x.2.2.2.2.2), (5, .int .i64 (x.1.length : Int))]) (fun x => 40 - x.1.length) ([], [], none, 0, none, 0) ⟨by simp, by simp, ⟨Chg.refl _ _, Own.nil _ _ _ _, rfl, by simp, by simp, by simp, ⟨[], Own.nil _ _ _ _, rfl, by simp⟩⟩⟩ (Sub.cons rfl (Sub.cons rfl (Sub.cons rfl (Sub.cons rfl (Sub.nil))))) ?_
 rintro ⟨l, st, op, oc, sp, sc⟩ w1 ⟨hl1, hl2, hM⟩
 dsimp only at hl1 hl2 hM
 show CW _ _ _ _ _ [(0, .slice np ns.length nc), (3, .slice op l.length oc), (4, .slice sp st.length sc), (5, .int .i64 (l.length : Int))] _
 have hle := hM.le
 have hfine := hM.fine
 have hmx : l.length ≤ 40 := hl2
 refine Sa ?_
 refine LW.part rfl rfl rfl (fun h1 => ?_) (fun h1 => ?_)
 rotate_left
 ·have h1 : l.length = ns.length := by simp at h1; omega
  have hfin : l = [] ↔ ns = [] := by rw [← List.length_eq_zero_iff, ← List.length_eq_zero_iff, h1]
  clear h1
  refine Sa ?_
  have h80 : l.length + st.length ≤ 80 := by omega
  refine CW.loop (ι := List NodeD × List Int × Option Addr × Nat × Option Addr × Nat) (fun x w' => x.1.length + x.2.1.length ≤ 80 ∧ (x.1 = [] ↔ ns = []) ∧ MI w w' x.1 x.2.1 (.slice x.2.2.1 x.1.length x.2.2.2.1) (.slice x.2.2.2.2.1 x.2.1.length x.2.2.2.2.2)) (fun x => [(3, .slice x.2.2.1 x.1.length x.2.2.2.1), (4, .slice x.2.2.2.2.1 x.2.1.length x.2.2.2.2.2)]) (fun x => x.2.1.length) (l, st, op, oc, sp, sc) ⟨h80, hfin, hM⟩ (Sub.cons rfl (Sub.cons rfl (Sub.nil))) ?_
  clear hM hfin h80 hl1 hl2 hle hmx hfine
  rintro ⟨l, st, op, oc, sp, sc⟩ w3 ⟨h80, hfin, hM⟩
  dsimp only at h80 hfin hM
  show CW _ _ _ _ _ [(3, .slice op l.length oc), (4, .slice sp st.length sc)] _
  have hle := hM.le
  have hfine := hM.fine
  refine Sa ?_
  refine Cwc (fun g1 => ?_) fun g1 => ?_
  rotate_left
  ·have g1 : st.length ≤ 1 := by simp at g1; omega
   obtain ⟨nvs, hon, hm, hk⟩ := hM.np
   have hnl : nvs.length = l.length := by rw [← hm]; simp
   have hN : Nodes w3 w.heap.size (.slice op l.length oc) l := ⟨nvs, hon, hm, fun x hx => (hk x hx).1⟩
   refine Sa ?_
   refine QW.body1 Tryz.results33 rfl ⟨l, ⟨hN.row (by omega) (fun n hn => by have := (hfine n hn).2.2.2.2.1; omega), fun n hn => by obtain ⟨a1, a2, a3, _⟩ := hfine n hn; exact ⟨by omega, by omega, by omega⟩, numOk_of (fun n hn => by have := (hfine n hn).2.2.2.1; omega), fun n hn => (hfine n hn).2.2.2.2.1, hfin, ?_, fun n hn => (hfine n hn).2.2.2.2.2.1, fun n hn => (hfine n hn).2.2.2.2.2.2⟩, hM.ext⟩
   rcases Nat.eq_zero_or_pos l.length with h | h
   ·exact .inl (List.eq_nil_of_length_eq_zero h)
   ·have := hM.pos h
    refine .inr ?_
    unfold treeB
    rw [hM.go]
    exact decide_eq_true (by omega)
  have q2 : 2 ≤ st.length := by simp at g1; omega
  obtain ⟨s2, a, b, rfl⟩ : ∃ s2 a b, st = s2 ++ [a, b] := by
   refine ⟨st.take (st.length - 2), st[st.length - 2], st[st.length - 1], ?_⟩
   conv => lhs; rw [← List.take_append_drop (st.length - 2) st]
   congr 1
   rw [List.drop_eq_getElem_cons (by omega), List.drop_eq_getElem_cons (by omega), List.drop_eq_nil_of_le (by omega)]
   congr 2
   congr 1
   omega
  have hsl : (s2 ++ [a, b]).length = s2.length + 2 := by simp
  obtain ⟨sa, rfl, hcs⟩ : ∃ sa, sp = some sa ∧ ∀ w', Own w' w.heap.size 3 1 (.slice sp (s2 ++ [a, b]).length sc) (s2 ++ [a, b]).length (icells (s2 ++ [a, b])) → w'.cell? (sa.add ((((s2 ++ [a, b]).length : Int) - 2).toNat * 1)) = some (.int .i64 a) ∧ w'.cell? (sa.add ((((s2 ++ [a, b]).length : Int) - 1).toNat * 1)) = some (.int .i64 b) := by
   cases sp with
   | none =>
    obtain ⟨_, ⟨_, e⟩ | ⟨g, cap, sp, e, _⟩⟩ := hM.sown
    ·omega
    ·simp at e
   | some sa =>
    refine ⟨sa, rfl, fun w' ho => ?_⟩
    rcases Own.cells ho (Nat.le_refl _) with ⟨e, _⟩ | ⟨a', e, hc⟩
    ·cases e
    ·obtain rfl := Option.some.inj e
     rw [List.take_length] at hc
     rw [show (((s2 ++ [a, b]).length : Int) - 2).toNat * 1 = s2.length by omega, show (((s2 ++ [a, b]).length : Int) - 1).toNat * 1 = s2.length + 1 by omega]
     exact ⟨hc _ _ (by simp [icells]), hc _ _ (by simp [icells])⟩
  have hM3 := hM
  refine Sa ?_
  refine CW.drawHeld (fun w' => w'.cell? (sa.add ((((s2 ++ [a, b]).length : Int) - 2).toNat * 1)) = some (.int .i64 a) ∧ w'.cell? (sa.add ((((s2 ++ [a, b]).length : Int) - 1).toNat * 1)) = some (.int .i64 b)) (fun w' h => hcs w' (hM3.sown.ext h)) (by kernel_rfl) fun w4 hx4 => ?_
  replace hM3 := hM3.grow hx4
  refine Sh ?_
  refine HW.take 5 rfl rfl rfl rfl (fun w _ => Y.idx_addr rfl rfl rfl rfl rfl (by omega) (by omega)) rfl (by kernel_rfl) (by kernel_rfl) (by kernel_rfl) (fun _ _ _ h => h) ?_
  refine HW.take 6 rfl rfl rfl rfl (fun w hw => Y.load_cell rfl hw.1 rfl rfl) rfl (by kernel_rfl) (by kernel_rfl) (by kernel_rfl) (fun _ _ _ h => h) ?_
  refine Sh ?_
  refine HW.take 11 rfl rfl rfl rfl (fun w _ => Y.idx_addr rfl rfl rfl rfl rfl (by omega) (by omega)) rfl (by kernel_rfl) (by kernel_rfl) (by kernel_rfl) (fun _ _ _ h => h) ?_
  refine HW.take 12 rfl rfl rfl rfl (fun w hw => Y.load_cell rfl hw.2 rfl rfl) rfl (by kernel_rfl) (by kernel_rfl) (by kernel_rfl) (fun _ _ _ h => h) ?_
  refine HW.one 13 (by kernel_rfl) rfl rfl (fun hS => ?_)
  refine Lwl fun B w5 hbB hx5 hB => ?_
  have hBs : ∀ j ∈ vblk (Value.slice (some sa) (s2 ++ [a, b]).length sc), j < B := fun j hh => by
   have := (hM3.sown.lt hh).2
   omega
  replace hM3 := hM3.grow hx5
  replace hB : Blk w5 B (icells [a, b]) 3 := hB
  apply LW.nil
  refine QW.held (hcs _ hM3.sown) ?_
  refine HW.one 14 (by kernel_rfl) rfl rfl (fun hS => ?_)
  refine Lh ?_
  apply LW.nil
  refine QW.held hS ?_
  refine HW.one 15 (by kernel_rfl) rfl rfl (fun hS => ?_)
  refine Lwl fun C w6 hbC hx6 hC => ?_
  replace hM3 := hM3.grow hx6
  replace hB := hB.ext hx6
  replace hC : Blk w6 C (nvL ⟨{ kind := 15, kids := [a, b] }, .slice (some ⟨B, 0, none⟩) 2 2⟩) 57 := hC
  apply LW.nil
  refine QW.held (hcs _ hM3.sown) ?_
  refine HW.one 16 (by kernel_rfl) rfl rfl (fun hS => ?_)
  obtain ⟨nvs, hon, hm, hk⟩ := hM3.np
  have hnl : nvs.length = l.length := by rw [← hm]; simp
  have hz6 := hM3.ext.size
  refine LW.append rfl rfl rfl rfl rfl rfl hon (by omega) hC rfl rfl rfl (by show (nvs.length + 1) * 137 ≤ 140737488355328; omega) rfl ?_
  intro v2 w7 hc7 hon2 hv7
  have hkk : ∀ {kv : Value} {ks : List Int}, KidsOk w6 kv ks → KidsOk w7 kv ks := fun {kv ks} h1 => h1.chg (stv := .slice none 0 0) (by simp [vblk]) hc7 (fun b hb => .inr (by
   obtain ⟨_, ⟨e, _⟩ | ⟨g, cap, sp, e, hg, _⟩⟩ := hon
   ·rw [e] at hb; simp [vblk] at hb
   ·rw [e] at hb
    simp [vblk] at hb
    subst hb
    exact ⟨_, _, hg, by decide⟩))
  have hs7 : Own w7 w.heap.size 3 1 (.slice (some sa) (s2 ++ [a, b]).length sc) (s2 ++ [a, b]).length (icells (s2 ++ [a, b])) := hM3.sown.chg hc7 (fun j hb hm2 => by
   obtain ⟨_, ⟨e, _⟩ | ⟨g, cap, sp, e, hg, _⟩⟩ := hon
   ·rw [e] at hm2; simp [vblk] at hm2
   ·rw [e] at hm2
    simp [vblk] at hm2
    subst hm2
    exact absurd (Own.type hM3.sown hb hg) (by decide))
  have e1 : (nvs.flatMap nvL ++ nvL ⟨{ kind := 15, kids := [a, b] }, .slice (some ⟨B, 0, none⟩) 2 2⟩) = (nvs ++ [(⟨{ kind := 15, kids := [a, b] }, .slice (some ⟨B, 0, none⟩) 2 2⟩ : NV)]).flatMap nvL := by simp
  have e2 : nvs.length + 1 = (nvs ++ [(⟨{ kind := 15, kids := [a, b] }, .slice (some ⟨B, 0, none⟩) 2 2⟩ : NV)]).length := by simp
  rw [e1, e2] at hon2
  obtain ⟨p4, c4, rfl⟩ := hon2.slice
  have hx7 : Ext w w7 := hM3.ext.step hc7 (fun j hb => (hon.lt hb).1)
  have hkB : KidsOk w7 (.slice (some ⟨B, 0, none⟩) 2 2) [a, b] := hkk (.inr ⟨B, 2, [], rfl, by rw [List.append_nil]; exact hB⟩)
  apply LW.nil
  refine QW.held (hcs _ hs7) ?_
  refine HW.one 17 (by kernel_rfl) rfl rfl (fun hS => ?_)
  refine La ?_
  apply LW.nil
  refine QW.held hS ?_
  refine HW.done (by kernel_rfl) ?_
  refine Sa ?_
  refine LW.slice_to (i := s2.length) rfl (by show some (Value.int .i64 _) = some (Value.int .i64 _); congr 2; omega) (by show some (Value.int .i64 _) = some (Value.int .i64 _); congr 2; omega) rfl rfl rfl ?_ rfl ?_
  ·have := Own.cap_ hs7; omega
  rw [← e2]
  refine Sa ?_
  refine Lwl fun G w8 hbG hx8 hG => ?_
  have eG : ((nvs.length + 1 : Nat) : Int) - 1 = (l.length : Int) := by omega
  rw [eG] at hG
  replace hG : Blk w8 G [.int .i64 (l.length : Int)] 3 := hG
  have hz7 := hx7.size
  have hz8 := hx8.size
  have hp7 := Own.cells (hs7.ext hx8) (i := s2.length) (by omega)
  rw [List.take_left'] at hp7
  rotate_left
  ·rfl
  refine LW.append_piece (xs := icells s2) (lo := w.heap.size) rfl rfl rfl rfl rfl (by exact rfl) (by rw [icells_len]; show _ = _ * 1; omega) hp7 (by omega) hG (by exact rfl) (by exact rfl) (by exact rfl) (by show (s2.length + 1) * 9 ≤ _; omega) rfl ?_
  intro v' w9 hx9 ho9 hv9
  obtain ⟨p3, c3, rfl⟩ := ho9.slice
  have hel : (l ++ [({ kind := 15, kids := [a, b] } : NodeD)]).length = l.length + 1 := by simp
  have hes : (s2 ++ [(l.length : Int)]).length = s2.length + 1 := by simp
  have hen : (nvs ++ [(⟨{ kind := 15, kids := [a, b] }, .slice (some ⟨B, 0, none⟩) 2 2⟩ : NV)]).length = (l ++ [({ kind := 15, kids := [a, b] } : NodeD)]).length := by simp [hnl]
  have e6 : icells (s2 ++ [(l.length : Int)]) = icells s2 ++ [.int .i64 (l.length : Int)] := by simp [icells]
  obtain ⟨o1, o2, o3⟩ := op_ok (k := 15) (by omega) (by omega) a b
  refine Sa ?_
  refine QW.again (l ++ [{ kind := 15, kids := [a, b] }], s2 ++ [(l.length : Int)], p4, c4, p3, c3) ⟨by rw [hel, hes]; omega, ?_, ?_⟩ ?_ (by show (s2 ++ [(l.length : Int)]).length < (s2 ++ [a, b]).length; rw [hes]; omega)
  ·dsimp only
   have hne : l ≠ [] := fun h => by rw [h] at hle; simp at hle
   exact ⟨fun h => by simp at h, fun h => absurd (hfin.2 h) hne⟩
  ·dsimp only
   rw [hes, ← hen]
   refine ⟨(hx7.trans hx8).trans hx9, by rw [hes, e6]; exact ho9, ?_, by rw [hes, hel]; omega, fun _ => by rw [hes]; omega, fun x hx => ?_, ⟨_, (hon2.ext hx8).ext hx9, by simp [hm], fun x hx => ?_⟩⟩
   ·have := tree_put (st' := s2) (n := { kind := 15, kids := [a, b] }) hM3.go rfl o2 o1
    simpa using this
   ·rcases List.mem_append.1 hx with hx | hx
    ·exact hfine x hx
    ·simp at hx; subst hx; exact o3
   ·rcases List.mem_append.1 hx with hx | hx
    ·have h1 := hkk (hk x hx).1
     refine ⟨(h1.chg (stv := .slice none 0 0) (by simp [vblk]) hx8 (by simp)).chg (stv := .slice none 0 0) (by simp [vblk]) hx9 (by simp), fun j hj hh => ?_⟩
     have := h1.lt j hj
     have := hv9 j hh
     omega
    ·simp at hx
     subst hx
     refine ⟨(hkB.chg (stv := .slice none 0 0) (by simp [vblk]) hx8 (by simp)).chg (stv := .slice none 0 0) (by simp [vblk]) hx9 (by simp), fun j hj hh => ?_⟩
     have := hkB.lt j hj
     have := hv9 j hh
     omega
  ·dsimp only
   rw [hes, ← hen, ← e2]
   exact (Sub.cons rfl (Sub.cons rfl (Sub.nil)))
 have h1 : l.length < ns.length := by simp at h1; omega
 refine Sa ?_
 refine Cwc (fun h2 => ?_) fun h2 => ?_
 rotate_left
 ·have h2 : l.length = 40 := by simp at h2; omega
  have hfin : l = [] ↔ ns = [] := by rw [← List.length_eq_zero_iff, ← List.length_eq_zero_iff]; omega
  clear h1 h2
  refine Sa ?_
  have h80 : l.length + st.length ≤ 80 := by omega
  refine CW.loop (ι := List NodeD × List Int × Option Addr × Nat × Option Addr × Nat) (fun x w' => x.1.length + x.2.1.length ≤ 80 ∧ (x.1 = [] ↔ ns = []) ∧ MI w w' x.1 x.2.1 (.slice x.2.2.1 x.1.length x.2.2.2.1) (.slice x.2.2.2.2.1 x.2.1.length x.2.2.2.2.2)) (fun x => [(3, .slice x.2.2.1 x.1.length x.2.2.2.1), (4, .slice x.2.2.2.2.1 x.2.1.length x.2.2.2.2.2)]) (fun x => x.2.1.length) (l, st, op, oc, sp, sc) ⟨h80, hfin, hM⟩ (Sub.cons rfl (Sub.cons rfl (Sub.nil))) ?_
  clear hM hfin h80 hl1 hl2 hle hmx hfine
  rintro ⟨l, st, op, oc, sp, sc⟩ w3 ⟨h80, hfin, hM⟩
  dsimp only at h80 hfin hM
  show CW _ _ _ _ _ [(3, .slice op l.length oc), (4, .slice sp st.length sc)] _
  have hle := hM.le
  have hfine := hM.fine
  refine Sa ?_
  refine Cwc (fun g1 => ?_) fun g1 => ?_
  rotate_left
  ·have g1 : st.length ≤ 1 := by simp at g1; omega
   obtain ⟨nvs, hon, hm, hk⟩ := hM.np
   have hnl : nvs.length = l.length := by rw [← hm]; simp
   have hN : Nodes w3 w.heap.size (.slice op l.length oc) l := ⟨nvs, hon, hm, fun x hx => (hk x hx).1⟩
   refine Sa ?_
   refine QW.body1 Tryz.results33 rfl ⟨l, ⟨hN.row (by omega) (fun n hn => by have := (hfine n hn).2.2.2.2.1; omega), fun n hn => by obtain ⟨a1, a2, a3, _⟩ := hfine n hn; exact ⟨by omega, by omega, by omega⟩, numOk_of (fun n hn => by have := (hfine n hn).2.2.2.1; omega), fun n hn => (hfine n hn).2.2.2.2.1, hfin, ?_, fun n hn => (hfine n hn).2.2.2.2.2.1, fun n hn => (hfine n hn).2.2.2.2.2.2⟩, hM.ext⟩
   rcases Nat.eq_zero_or_pos l.length with h | h
   ·exact .inl (List.eq_nil_of_length_eq_zero h)
   ·have := hM.pos h
    refine .inr ?_
    unfold treeB
    rw [hM.go]
    exact decide_eq_true (by omega)
  have q2 : 2 ≤ st.length := by simp at g1; omega
  obtain ⟨s2, a, b, rfl⟩ : ∃ s2 a b, st = s2 ++ [a, b] := by
   refine ⟨st.take (st.length - 2), st[st.length - 2], st[st.length - 1], ?_⟩
   conv => lhs; rw [← List.take_append_drop (st.length - 2) st]
   congr 1
   rw [List.drop_eq_getElem_cons (by omega), List.drop_eq_getElem_cons (by omega), List.drop_eq_nil_of_le (by omega)]
   congr 2
   congr 1
   omega
  have hsl : (s2 ++ [a, b]).length = s2.length + 2 := by simp
  obtain ⟨sa, rfl, hcs⟩ : ∃ sa, sp = some sa ∧ ∀ w', Own w' w.heap.size 3 1 (.slice sp (s2 ++ [a, b]).length sc) (s2 ++ [a, b]).length (icells (s2 ++ [a, b])) → w'.cell? (sa.add ((((s2 ++ [a, b]).length : Int) - 2).toNat * 1)) = some (.int .i64 a) ∧ w'.cell? (sa.add ((((s2 ++ [a, b]).length : Int) - 1).toNat * 1)) = some (.int .i64 b) := by
   cases sp with
   | none =>
    obtain ⟨_, ⟨_, e⟩ | ⟨g, cap, sp, e, _⟩⟩ := hM.sown
    ·omega
    ·simp at e
   | some sa =>
    refine ⟨sa, rfl, fun w' ho => ?_⟩
    rcases Own.cells ho (Nat.le_refl _) with ⟨e, _⟩ | ⟨a', e, hc⟩
    ·cases e
    ·obtain rfl := Option.some.inj e
     rw [List.take_length] at hc
     rw [show (((s2 ++ [a, b]).length : Int) - 2).toNat * 1 = s2.length by omega, show (((s2 ++ [a, b]).length : Int) - 1).toNat * 1 = s2.length + 1 by omega]
     exact ⟨hc _ _ (by simp [icells]), hc _ _ (by simp [icells])⟩
  have hM3 := hM
  refine Sa ?_
  refine CW.drawHeld (fun w' => w'.cell? (sa.add ((((s2 ++ [a, b]).length : Int) - 2).toNat * 1)) = some (.int .i64 a) ∧ w'.cell? (sa.add ((((s2 ++ [a, b]).length : Int) - 1).toNat * 1)) = some (.int .i64 b)) (fun w' h => hcs w' (hM3.sown.ext h)) (by kernel_rfl) fun w4 hx4 => ?_
  replace hM3 := hM3.grow hx4
  refine Sh ?_
  refine HW.take 5 rfl rfl rfl rfl (fun w _ => Y.idx_addr rfl rfl rfl rfl rfl (by omega) (by omega)) rfl (by kernel_rfl) (by kernel_rfl) (by kernel_rfl) (fun _ _ _ h => h) ?_
  refine HW.take 6 rfl rfl rfl rfl (fun w hw => Y.load_cell rfl hw.1 rfl rfl) rfl (by kernel_rfl) (by kernel_rfl) (by kernel_rfl) (fun _ _ _ h => h) ?_
  refine Sh ?_
  refine HW.take 11 rfl rfl rfl rfl (fun w _ => Y.idx_addr rfl rfl rfl rfl rfl (by omega) (by omega)) rfl (by kernel_rfl) (by kernel_rfl) (by kernel_rfl) (fun _ _ _ h => h) ?_
  refine HW.take 12 rfl rfl rfl rfl (fun w hw => Y.load_cell rfl hw.2 rfl rfl) rfl (by kernel_rfl) (by kernel_rfl) (by kernel_rfl) (fun _ _ _ h => h) ?_
  refine HW.one 13 (by kernel_rfl) rfl rfl (fun hS => ?_)
  refine Lwl fun B w5 hbB hx5 hB => ?_
  have hBs : ∀ j ∈ vblk (Value.slice (some sa) (s2 ++ [a, b]).length sc), j < B := fun j hh => by
   have := (hM3.sown.lt hh).2
   omega
  replace hM3 := hM3.grow hx5
  replace hB : Blk w5 B (icells [a, b]) 3 := hB
  apply LW.nil
  refine QW.held (hcs _ hM3.sown) ?_
  refine HW.one 14 (by kernel_rfl) rfl rfl (fun hS => ?_)
  refine Lh ?_
  apply LW.nil
  refine QW.held hS ?_
  refine HW.one 15 (by kernel_rfl) rfl rfl (fun hS => ?_)
  refine Lwl fun C w6 hbC hx6 hC => ?_
  replace hM3 := hM3.grow hx6
  replace hB := hB.ext hx6
  replace hC : Blk w6 C (nvL ⟨{ kind := 15, kids := [a, b] }, .slice (some ⟨B, 0, none⟩) 2 2⟩) 57 := hC
  apply LW.nil
  refine QW.held (hcs _ hM3.sown) ?_
  refine HW.one 16 (by kernel_rfl) rfl rfl (fun hS => ?_)
  obtain ⟨nvs, hon, hm, hk⟩ := hM3.np
  have hnl : nvs.length = l.length := by rw [← hm]; simp
  have hz6 := hM3.ext.size
  refine LW.append rfl rfl rfl rfl rfl rfl hon (by omega) hC rfl rfl rfl (by show (nvs.length + 1) * 137 ≤ 140737488355328; omega) rfl ?_
  intro v2 w7 hc7 hon2 hv7
  have hkk : ∀ {kv : Value} {ks : List Int}, KidsOk w6 kv ks → KidsOk w7 kv ks := fun {kv ks} h1 => h1.chg (stv := .slice none 0 0) (by simp [vblk]) hc7 (fun b hb => .inr (by
   obtain ⟨_, ⟨e, _⟩ | ⟨g, cap, sp, e, hg, _⟩⟩ := hon
   ·rw [e] at hb; simp [vblk] at hb
   ·rw [e] at hb
    simp [vblk] at hb
    subst hb
    exact ⟨_, _, hg, by decide⟩))
  have hs7 : Own w7 w.heap.size 3 1 (.slice (some sa) (s2 ++ [a, b]).length sc) (s2 ++ [a, b]).length (icells (s2 ++ [a, b])) := hM3.sown.chg hc7 (fun j hb hm2 => by
   obtain ⟨_, ⟨e, _⟩ | ⟨g, cap, sp, e, hg, _⟩⟩ := hon
   ·rw [e] at hm2; simp [vblk] at hm2
   ·rw [e] at hm2
    simp [vblk] at hm2
    subst hm2
    exact absurd (Own.type hM3.sown hb hg) (by decide))
  have e1 : (nvs.flatMap nvL ++ nvL ⟨{ kind := 15, kids := [a, b] }, .slice (some ⟨B, 0, none⟩) 2 2⟩) = (nvs ++ [(⟨{ kind := 15, kids := [a, b] }, .slice (some ⟨B, 0, none⟩) 2 2⟩ : NV)]).flatMap nvL := by simp
  have e2 : nvs.length + 1 = (nvs ++ [(⟨{ kind := 15, kids := [a, b] }, .slice (some ⟨B, 0, none⟩) 2 2⟩ : NV)]).length := by simp
  rw [e1, e2] at hon2
  obtain ⟨p4, c4, rfl⟩ := hon2.slice
  have hx7 : Ext w w7 := hM3.ext.step hc7 (fun j hb => (hon.lt hb).1)
  have hkB : KidsOk w7 (.slice (some ⟨B, 0, none⟩) 2 2) [a, b] := hkk (.inr ⟨B, 2, [], rfl, by rw [List.append_nil]; exact hB⟩)
  apply LW.nil
  refine QW.held (hcs _ hs7) ?_
  refine HW.one 17 (by kernel_rfl) rfl rfl (fun hS => ?_)
  refine La ?_
  apply LW.nil
  refine QW.held hS ?_
  refine HW.done (by kernel_rfl) ?_
  refine Sa ?_
  refine LW.slice_to (i := s2.length) rfl (by show some (Value.int .i64 _) = some (Value.int .i64 _); congr 2; omega) (by show some (Value.int .i64 _) = some (Value.int .i64 _); congr 2; omega) rfl rfl rfl ?_ rfl ?_
  ·have := Own.cap_ hs7; omega
  rw [← e2]
  refine Sa ?_
  refine Lwl fun G w8 hbG hx8 hG => ?_
  have eG : ((nvs.length + 1 : Nat) : Int) - 1 = (l.length : Int) := by omega
  rw [eG] at hG
  replace hG : Blk w8 G [.int .i64 (l.length : Int)] 3 := hG
  have hz7 := hx7.size
  have hz8 := hx8.size
  have hp7 := Own.cells (hs7.ext hx8) (i := s2.length) (by omega)
  rw [List.take_left'] at hp7
  rotate_left
  ·rfl
  refine LW.append_piece (xs := icells s2) (lo := w.heap.size) rfl rfl rfl rfl rfl (by exact rfl) (by rw [icells_len]; show _ = _ * 1; omega) hp7 (by omega) hG (by exact rfl) (by exact rfl) (by exact rfl) (by show (s2.length + 1) * 9 ≤ _; omega) rfl ?_
  intro v' w9 hx9 ho9 hv9
  obtain ⟨p3, c3, rfl⟩ := ho9.slice
  have hel : (l ++ [({ kind := 15, kids := [a, b] } : NodeD)]).length = l.length + 1 := by simp
  have hes : (s2 ++ [(l.length : Int)]).length = s2.length + 1 := by simp
  have hen : (nvs ++ [(⟨{ kind := 15, kids := [a, b] }, .slice (some ⟨B, 0, none⟩) 2 2⟩ : NV)]).length = (l ++ [({ kind := 15, kids := [a, b] } : NodeD)]).length := by simp [hnl]
  have e6 : icells (s2 ++ [(l.length : Int)]) = icells s2 ++ [.int .i64 (l.length : Int)] := by simp [icells]
  obtain ⟨o1, o2, o3⟩ := op_ok (k := 15) (by omega) (by omega) a b
  refine Sa ?_
  refine QW.again (l ++ [{ kind := 15, kids := [a, b] }], s2 ++ [(l.length : Int)], p4, c4, p3, c3) ⟨by rw [hel, hes]; omega, ?_, ?_⟩ ?_ (by show (s2 ++ [(l.length : Int)]).length < (s2 ++ [a, b]).length; rw [hes]; omega)
  ·dsimp only
   have hne : l ≠ [] := fun h => by rw [h] at hle; simp at hle
   exact ⟨fun h => by simp at h, fun h => absurd (hfin.2 h) hne⟩
  ·dsimp only
   rw [hes, ← hen]
   refine ⟨(hx7.trans hx8).trans hx9, by rw [hes, e6]; exact ho9, ?_, by rw [hes, hel]; omega, fun _ => by rw [hes]; omega, fun x hx => ?_, ⟨_, (hon2.ext hx8).ext hx9, by simp [hm], fun x hx => ?_⟩⟩
   ·have := tree_put (st' := s2) (n := { kind := 15, kids := [a, b] }) hM3.go rfl o2 o1
    simpa using this
   ·rcases List.mem_append.1 hx with hx | hx
    ·exact hfine x hx
    ·simp at hx; subst hx; exact o3
   ·rcases List.mem_append.1 hx with hx | hx
    ·have h1 := hkk (hk x hx).1
     refine ⟨(h1.chg (stv := .slice none 0 0) (by simp [vblk]) hx8 (by simp)).chg (stv := .slice none 0 0) (by simp [vblk]) hx9 (by simp), fun j hj hh => ?_⟩
     have := h1.lt j hj
     have := hv9 j hh
     omega
    ·simp at hx
     subst hx
     refine ⟨(hkB.chg (stv := .slice none 0 0) (by simp [vblk]) hx8 (by simp)).chg (stv := .slice none 0 0) (by simp [vblk]) hx9 (by simp), fun j hj hh => ?_⟩
     have := hkB.lt j hj
     have := hv9 j hh
     omega
  ·dsimp only
   rw [hes, ← hen, ← e2]
   exact (Sub.cons rfl (Sub.cons rfl (Sub.nil)))
 have h2 : l.length < 40 := by simp at h2; omega
 obtain ⟨z, hz⟩ : ∃ z, ns[l.length]? = some z := ⟨_, List.getElem?_eq_getElem h1⟩
 obtain ⟨hz0, hz1⟩ := hb z (List.mem_of_getElem? hz)
 obtain ⟨na, rfl, hzc⟩ : ∃ na, np = some na ∧ w1.cell? (na.add (((l.length : Nat) : Int).toNat * 1)) = some (.int .u8 z) := by
  obtain ⟨_, ⟨_, e2⟩ | ⟨a, cap, e, hc⟩⟩ := hin.ext hM.ext
  ·subst e2; simp at h1
  ·simp only [Value.slice.injEq] at e
   refine ⟨a, e.1, ?_⟩
   rw [show ((l.length : Nat) : Int).toNat * 1 = l.length by omega]
   exact hc _ _ hz
 refine Sa ?_
 refine Lo ?_
 refine Lp hzc ?_
 refine Sa ?_
 refine Lwa fun X w2 hbX hx2 hX => ?_
 have hXo : X ∉ vblk (.slice op l.length oc) := by
  obtain ⟨nvs, ho, hm, _⟩ := hM.np
  intro hh
  have := (ho.lt hh).2
  omega
 have hXs : X ∉ vblk (.slice sp st.length sc) := fun hh => by
  have := (hM.sown.lt hh).2
  omega
 have hXw : w.heap.size ≤ X := by have := hM.ext.size; omega
 replace hM := hM.grow hx2
 refine Sa ?_
 have hX0 := hX
 refine Lws fun w3 hc3 hX => ?_
 replace hX : Blk w3 X (nvL ⟨{ kind := 1, num := z }, .slice none 0 0⟩) 57 := hX
 have hC0 := ci_leaf hM hXw hXo hXs hX0 hc3 hX (leaf_ok hz0 hz1 (by simp [leafM])) rfl
 apply LW.nil
 apply QW.then_n
 refine CW.seq_cut (ι := NodeD × Value × List Int × Value) (fun x w' => CI w w' l (.slice op l.length oc) X x.1 x.2.1 x.2.2.1 x.2.2.2) (fun x => [(0, .slice (some na) ns.length nc), (3, .slice op l.length oc), (4, x.2.2.2), (5, .int .i64 (l.length : Int)), (7, .pointer (some ⟨X, 0, none⟩))]) ?_ ?_
 ·have hM3 := hM.chgX hXw hXo hXs hX0 hc3
  clear hC0
  refine Sa ?_
  refine LW.part rfl rfl rfl (fun q1 => ?_) (fun q1 => ?_)
  ·have q1 : z % 3 = 0 := by simpa using q1
   refine Sa ?_
   refine Cwc (fun q2 => ?_) fun q2 => ?_
   ·have q2 : 2 ≤ st.length := by simp at q2; omega
    obtain ⟨s2, a, b, rfl⟩ : ∃ s2 a b, st = s2 ++ [a, b] := by
     refine ⟨st.take (st.length - 2), st[st.length - 2], st[st.length - 1], ?_⟩
     conv => lhs; rw [← List.take_append_drop (st.length - 2) st]
     congr 1
     rw [List.drop_eq_getElem_cons (by omega), List.drop_eq_getElem_cons (by omega), List.drop_eq_nil_of_le (by omega)]
     congr 2
     congr 1
     omega
    have hsl : (s2 ++ [a, b]).length = s2.length + 2 := by simp
    obtain ⟨sa, rfl, hcs⟩ : ∃ sa, sp = some sa ∧ ∀ w', Own w' w.heap.size 3 1 (.slice sp (s2 ++ [a, b]).length sc) (s2 ++ [a, b]).length (icells (s2 ++ [a, b])) → w'.cell? (sa.add ((((s2 ++ [a, b]).length : Int) - 2).toNat * 1)) = some (.int .i64 a) ∧ w'.cell? (sa.add ((((s2 ++ [a, b]).length : Int) - 1).toNat * 1)) = some (.int .i64 b) := by
     cases sp with
     | none =>
      obtain ⟨_, ⟨_, e⟩ | ⟨g, cap, sp, e, _⟩⟩ := hM.sown
      ·omega
      ·simp at e
     | some sa =>
      refine ⟨sa, rfl, fun w' ho => ?_⟩
      rcases Own.cells ho (Nat.le_refl _) with ⟨e, _⟩ | ⟨a', e, hc⟩
      ·cases e
      ·obtain rfl := Option.some.inj e
       rw [List.take_length] at hc
       rw [show (((s2 ++ [a, b]).length : Int) - 2).toNat * 1 = s2.length by omega, show (((s2 ++ [a, b]).length : Int) - 1).toNat * 1 = s2.length + 1 by omega]
       exact ⟨hc _ _ (by simp [icells]), hc _ _ (by simp [icells])⟩
    refine Sa ?_
    refine CW.drawHeld (fun w' => w'.cell? (sa.add ((((s2 ++ [a, b]).length : Int) - 2).toNat * 1)) = some (.int .i64 a) ∧ w'.cell? (sa.add ((((s2 ++ [a, b]).length : Int) - 1).toNat * 1)) = some (.int .i64 b)) (fun w' h => hcs w' (hM3.sown.ext h)) (by kernel_rfl) fun w4 hx4 => ?_
    replace hM3 := hM3.grow hx4
    replace hX := hX.ext hx4
    refine Sh ?_
    refine HW.take 8 rfl rfl rfl rfl (fun w _ => Y.idx_addr rfl rfl rfl rfl rfl (by omega) (by omega)) rfl (by kernel_rfl) (by kernel_rfl) (by kernel_rfl) (fun _ _ _ h => h) ?_
    refine HW.take 9 rfl rfl rfl rfl (fun w hw => Y.load_cell rfl hw.1 rfl rfl) rfl (by kernel_rfl) (by kernel_rfl) (by kernel_rfl) (fun _ _ _ h => h) ?_
    refine Sh ?_
    refine HW.take 14 rfl rfl rfl rfl (fun w _ => Y.idx_addr rfl rfl rfl rfl rfl (by omega) (by omega)) rfl (by kernel_rfl) (by kernel_rfl) (by kernel_rfl) (fun _ _ _ h => h) ?_
    refine HW.take 15 rfl rfl rfl rfl (fun w hw => Y.load_cell rfl hw.2 rfl rfl) rfl (by kernel_rfl) (by kernel_rfl) (by kernel_rfl) (fun _ _ _ h => h) ?_
    refine HW.one 16 (by kernel_rfl) rfl rfl (fun hS => ?_)
    refine Lwl fun B w5 hbB hx5 hB => ?_
    have hBs : B ∉ vblk (Value.slice (some sa) (s2 ++ [a, b]).length sc) := fun hh => by
     have := (hM3.sown.lt hh).2
     omega
    replace hM3 := hM3.grow hx5
    replace hX := hX.ext hx5
    replace hB : Blk w5 B (icells [a, b]) 3 := hB
    apply LW.nil
    refine QW.held (hcs _ hM3.sown) ?_
    refine HW.one 17 (by kernel_rfl) rfl rfl (fun hS => ?_)
    refine Lh ?_
    apply LW.nil
    refine QW.held hS ?_
    refine HW.one 18 (by kernel_rfl) rfl rfl (fun hS => ?_)
    have hX1 := hX
    refine Lws fun w6 hc6 hX => ?_
    replace hX : Blk w6 X (nvL ⟨{ kind := 9 + z / 3 % 11, kids := [a, b] }, .slice (some ⟨B, 0, none⟩) 2 2⟩) 57 := hX
    have hM6 := hM3.chgX hXw hXo hXs hX1 hc6
    apply LW.nil
    refine QW.held (hcs _ hM6.sown) ?_
    refine HW.done (by kernel_rfl) ?_
    refine Sa ?_
    refine LW.slice_to (i := s2.length) rfl (by show some (Value.int .i64 _) = some (Value.int .i64 _); congr 2; omega) (by show some (Value.int .i64 _) = some (Value.int .i64 _); congr 2; omega) rfl rfl rfl ?_ rfl ?_
    ·have := Own.cap_ hM6.sown; omega
    refine Sa ?_
    exact QW.head (_, _, _, _) (ci_pop hM3 rfl hXw hXo hXs hX1 hc6 hX (.inr ⟨B, 2, [], rfl, by rw [List.append_nil]; exact hB⟩) (by simp [vblk] at hBs ⊢; exact hBs) (op_ok (by omega) (by omega) a b) rfl) (Sub.cons rfl (Sub.cons rfl (Sub.cons rfl (Sub.cons rfl (Sub.cons rfl (Sub.nil))))))
   ·refine Sa ?_
    refine LW.part rfl rfl rfl (fun q3 => ?_) (fun q3 => ?_)
    ·have q3 : z % 16 = 1 := by simpa using q3
     refine Sa ?_
     refine Cwc (fun q4 => ?_) fun q4 => ?_
     ·have q4 : 1 ≤ st.length := by simp at q4; omega
      obtain ⟨s2, a, rfl⟩ : ∃ s2 a, st = s2 ++ [a] := ⟨st.dropLast, st.getLast (by intro h; subst h; simp at q4), (List.dropLast_concat_getLast _).symm⟩
      have hsl : (s2 ++ [a]).length = s2.length + 1 := by simp
      obtain ⟨sa, rfl, hcs⟩ : ∃ sa, sp = some sa ∧ ∀ w', Own w' w.heap.size 3 1 (.slice sp (s2 ++ [a]).length sc) (s2 ++ [a]).length (icells (s2 ++ [a])) → w'.cell? (sa.add ((((s2 ++ [a]).length : Int) - 1).toNat * 1)) = some (.int .i64 a) := by
       cases sp with
       | none =>
        obtain ⟨_, ⟨_, e⟩ | ⟨g, cap, sp, e, _⟩⟩ := hM.sown
        ·omega
        ·simp at e
       | some sa =>
        refine ⟨sa, rfl, fun w' ho => ?_⟩
        rcases Own.cells ho (Nat.le_refl _) with ⟨e, _⟩ | ⟨a', e, hc⟩
        ·cases e
        ·obtain rfl := Option.some.inj e
         rw [List.take_length] at hc
         rw [show (((s2 ++ [a]).length : Int) - 1).toNat * 1 = s2.length by omega]
         exact hc _ _ (by simp [icells])
      refine Sa ?_
      refine Lo ?_
      refine Lp (hcs _ hM3.sown) ?_
      refine Sa ?_
      refine Lwl fun B w5 hbB hx5 hB => ?_
      have hBs : B ∉ vblk (Value.slice (some sa) (s2 ++ [a]).length sc) := fun hh => by
       have := (hM3.sown.lt hh).2
       omega
      replace hM3 := hM3.grow hx5
      replace hX := hX.ext hx5
      replace hB : Blk w5 B (icells [a]) 3 := hB
      refine Sa ?_
      have hX1 := hX
      refine Lws fun w6 hc6 hX => ?_
      replace hX : Blk w6 X (nvL ⟨{ kind := 8, kids := [a] }, .slice (some ⟨B, 0, none⟩) 1 1⟩) 57 := hX
      have hM6 := hM3.chgX hXw hXo hXs hX1 hc6
      refine Sa ?_
      refine LW.slice_to (i := s2.length) rfl (by show some (Value.int .i64 _) = some (Value.int .i64 _); congr 2; omega) (by show some (Value.int .i64 _) = some (Value.int .i64 _); congr 2; omega) rfl rfl rfl ?_ rfl ?_
      ·have := Own.cap_ hM6.sown; omega
      refine Sa ?_
      exact QW.head (_, _, _, _) (ci_pop hM3 rfl hXw hXo hXs hX1 hc6 hX (.inr ⟨B, 1, [], rfl, by rw [List.append_nil]; exact hB⟩) (by simp [vblk] at hBs ⊢; exact hBs) (neg_ok a) rfl) (Sub.cons rfl (Sub.cons rfl (Sub.cons rfl (Sub.cons rfl (Sub.cons rfl (Sub.nil))))))
     ·refine Sa ?_
      refine Cwc (fun q5 => ?_) fun q5 => ?_
      ·obtain ⟨kN, hkN, hkl⟩ : ∃ kN : Nat, (if z / 16 % 4 < (st.length : Int) then z / 16 % 4 else (st.length : Int)) = (kN : Int) ∧ kN ≤ st.length := ⟨(if z / 16 % 4 < (st.length : Int) then z / 16 % 4 else (st.length : Int)).toNat, by split <;> omega, by split <;> omega⟩
       obtain ⟨s2, ks, hst, hks⟩ : ∃ s2 ks : List Int, st = s2 ++ ks ∧ ks.length = kN := ⟨st.take (st.length - kN), st.drop (st.length - kN), (List.take_append_drop _ _).symm, by simp; omega⟩
       subst hst
       have hsl : (s2 ++ ks).length = s2.length + ks.length := by simp
       refine Sa ?_
       refine LW.min2 rfl rfl rfl ?_
       rw [hkN, ← hks]
       refine Sa ?_
       (apply LW.buildSlice0; exact rfl; exact rfl; exact rfl; exact rfl; intro B w5 hbB hx5 hB)
       have hold := fun (b : Nat) (hh : b ∈ vblk (Value.slice sp (s2 ++ ks).length sc)) => (hM3.sown.lt hh).2
       have hM5 := hM3.grow hx5
       have hz3 := hM3.ext.size
       have hz5 := hx5.size
       replace hX := hX.ext hx5
       refine Sa ?_
       refine LW.val rfl rfl rfl (Y.slice_from (i := s2.length) rfl (by show some (Value.int .i64 _) = some (Value.int .i64 _); congr 2; omega) rfl rfl rfl (by omega)) ?_
       have hfrom := Own.from_ hM5.sown (by omega) (i := s2.length) (by omega)
       rw [List.drop_left] at hfrom
       refine LW.append_any (lo := w.heap.size) (xs := []) (news := icells ks) rfl rfl rfl rfl rfl rfl (⟨rfl, .inr ⟨B, 0, [], rfl, hB, by simp, by simp, by omega⟩⟩) (by omega) (by rw [icells_len]; show _ = _ * 1; omega) (by
        obtain ⟨_, ⟨e, e2⟩ | ⟨a, cap, e, hc⟩⟩ := hfrom
        ·simp only [Value.slice.injEq] at e
         exact .inl ⟨e.1, by omega⟩
        ·simp only [Value.slice.injEq] at e
         refine .inr ⟨a, e.1, fun j u hj => ?_⟩
         simp only [icells, List.getElem?_map] at hj
         cases hg : ks[j]? with
         | none => rw [hg] at hj; cases hj
         | some y =>
          rw [hg] at hj
          obtain rfl := Option.some.inj hj
          exact hc j y hg) (fun u hu => by
        simp only [icells, List.mem_map] at hu
        obtain ⟨_, _, rfl⟩ := hu
        rfl) (by show (0 + _) * 9 ≤ _; omega) rfl ?_
       intro v' w6 hc6 hown' hv'
       obtain ⟨p', c', rfl⟩ := hown'.slice
       have hx36 : Ext w3 w6 := hx5.step hc6 (by simp [vblk]; omega)
       replace hX := hX.chg hc6 (by simp [vblk]; intro e; subst e; exact absurd (hX.inj hB) (by decide))
       replace hM3 := hM3.grow hx36
       have hkfr : ∀ b ∈ vblk (Value.slice p' (0 + ((s2 ++ ks).length - s2.length)) c'), b ∉ vblk (Value.slice sp (s2 ++ ks).length sc) := fun b hb hh => by
        have h1 := hold b hh
        rcases hv' b hb with h2 | h2
        ·simp [vblk] at h2; omega
        ·omega
       have hm : 0 + ((s2 ++ ks).length - s2.length) = ks.length := by omega
       rw [hm] at hown' hkfr ⊢
       simp only [List.nil_append] at hown'
       have hkv : KidsOk w6 (.slice p' ks.length c') ks := own_kids hown'
       refine Sa ?_
       have hX1 := hX
       refine Lws fun w8 hc8 hX => ?_
       replace hX : Blk w8 X (nvL ⟨{ kind := 7, text := [83, 85, 77], kids := ks }, .slice p' ks.length c'⟩) 57 := hX
       have hM8 := hM3.chgX hXw hXo hXs hX1 hc8
       refine Sa ?_
       refine LW.slice_to (i := s2.length) rfl (by show some (Value.int .i64 _) = some (Value.int .i64 _); congr 2; omega) (by show some (Value.int .i64 _) = some (Value.int .i64 _); congr 2; omega) rfl rfl rfl ?_ rfl ?_
       ·have := Own.cap_ hM8.sown; omega
       refine Sa ?_
       exact QW.head (_, _, _, _) (ci_pop hM3 rfl hXw hXo hXs hX1 hc8 hX hkv hkfr (call_ok (by omega)) rfl) (Sub.cons rfl (Sub.cons rfl (Sub.cons rfl (Sub.cons rfl (Sub.cons rfl (Sub.nil))))))
      refine Sa ?_
      refine Cwc (fun q6 => ?_) fun q6 => ?_
      ·refine Sa ?_
       refine Lwl fun B w5 hbB hx5 hB => ?_
       replace hM3 := hM3.grow hx5
       replace hX := hX.ext hx5
       have hsh : ([str [], str [], str [84]] : List Value)[0 + (z / 8 % 3).toNat * 1]? = some (str (shM z)) := by
        have : z / 8 % 3 = 0 ∨ z / 8 % 3 = 1 ∨ z / 8 % 3 = 2 := by omega
        rcases this with h | h | h <;> rw [h] <;> simp [shM, h]
       refine Sz ?_
       refine LW.load rfl hB hsh rfl rfl rfl ?_
       refine Sa ?_
       have hX1 := hX
       refine Lws fun w6 hc6 hX => ?_
       replace hX : Blk w6 X (nvL ⟨{ kind := 5, ref := refM z }, .slice none 0 0⟩) 57 := hX
       refine Sa ?_
       exact QW.head (_, _, _, _) (ci_leaf hM3 hXw hXo hXs hX1 hc6 hX (leaf_ok hz0 hz1 (by simp [leafM])) rfl) (Sub.cons rfl (Sub.cons rfl (Sub.cons rfl (Sub.cons rfl (Sub.cons rfl (Sub.nil))))))
      refine Sa ?_
      refine Cwc (fun q7 => ?_) fun q7 => ?_
      ·refine Sa ?_
       have hX1 := hX
       refine Lws fun w6 hc6 hX => ?_
       replace hX : Blk w6 X (nvL ⟨{ kind := 6, ref := refA z, to := refB z }, .slice none 0 0⟩) 57 := hX
       refine Sa ?_
       exact QW.head (_, _, _, _) (ci_leaf hM3 hXw hXo hXs hX1 hc6 hX (leaf_ok hz0 hz1 (by simp [leafM])) rfl) (Sub.cons rfl (Sub.cons rfl (Sub.cons rfl (Sub.cons rfl (Sub.cons rfl (Sub.nil))))))
      refine Sa ?_
      refine Cwc (fun q8 => ?_) fun q8 => ?_
      ·have hil := Lib.itoa_length_le z (by omega) (by omega)
       refine Sa ?_
       refine LW.call0 rfl rfl (Digits_ret z hz0 (by omega) _) ?_
       rintro v w5 ⟨rfl, hx5⟩
       replace hM3 := hM3.grow hx5
       replace hX := hX.ext hx5
       refine Sa ?_
       have hX1 := hX
       refine Lws fun w6 hc6 hX => ?_
       replace hX : Blk w6 X (nvL ⟨{ kind := 2, text := [97, 34] ++ Lib.itoa z }, .slice none 0 0⟩) 57 := hX
       refine Sa ?_
       exact QW.head (_, _, _, _) (ci_leaf hM3 hXw hXo hXs hX1 hc6 hX (leaf_ok hz0 hz1 (by simp [leafM])) rfl) (Sub.cons rfl (Sub.cons rfl (Sub.cons rfl (Sub.cons rfl (Sub.cons rfl (Sub.nil))))))
      refine Sa ?_
      refine Cwc (fun q9 => ?_) fun q9 => ?_
      ·refine Sa ?_
       have hX1 := hX
       refine Lws fun w6 hc6 hX => ?_
       replace hX : Blk w6 X (nvL ⟨{ kind := 3, num := z / 32 % 2 }, .slice none 0 0⟩) 57 := hX
       refine Sa ?_
       exact QW.head (_, _, _, _) (ci_leaf hM3 hXw hXo hXs hX1 hc6 hX (leaf_ok hz0 hz1 (by simp [leafM])) rfl) (Sub.cons rfl (Sub.cons rfl (Sub.cons rfl (Sub.cons rfl (Sub.cons rfl (Sub.nil))))))
      refine Sa ?_
      refine Cwc (fun q10 => ?_) fun q10 => ?_
      ·refine Sa ?_
       have hX1 := hX
       refine Lws fun w6 hc6 hX => ?_
       replace hX : Blk w6 X (nvL ⟨{ kind := 4 }, .slice none 0 0⟩) 57 := hX
       refine Sa ?_
       exact QW.head (_, _, _, _) (ci_leaf hM3 hXw hXo hXs hX1 hc6 hX (leaf_ok hz0 hz1 (by simp [leafM])) rfl) (Sub.cons rfl (Sub.cons rfl (Sub.cons rfl (Sub.cons rfl (Sub.cons rfl (Sub.nil))))))
      refine Sa ?_
      exact QW.head (_, _, _, _) (ci_leaf hM hXw hXo hXs hX0 hc3 hX (leaf_ok hz0 hz1 (by simp [leafM])) rfl) (Sub.cons rfl (Sub.cons rfl (Sub.cons rfl (Sub.cons rfl (Sub.cons rfl (Sub.nil))))))
    ·refine Sa ?_
     refine Sa ?_
     refine Cwc (fun q5 => ?_) fun q5 => ?_
     ·obtain ⟨kN, hkN, hkl⟩ : ∃ kN : Nat, (if z / 16 % 4 < (st.length : Int) then z / 16 % 4 else (st.length : Int)) = (kN : Int) ∧ kN ≤ st.length := ⟨(if z / 16 % 4 < (st.length : Int) then z / 16 % 4 else (st.length : Int)).toNat, by split <;> omega, by split <;> omega⟩
      obtain ⟨s2, ks, hst, hks⟩ : ∃ s2 ks : List Int, st = s2 ++ ks ∧ ks.length = kN := ⟨st.take (st.length - kN), st.drop (st.length - kN), (List.take_append_drop _ _).symm, by simp; omega⟩
      subst hst
      have hsl : (s2 ++ ks).length = s2.length + ks.length := by simp
      refine Sa ?_
      refine LW.min2 rfl rfl rfl ?_
      rw [hkN, ← hks]
      refine Sa ?_
      (apply LW.buildSlice0; exact rfl; exact rfl; exact rfl; exact rfl; intro B w5 hbB hx5 hB)
      have hold := fun (b : Nat) (hh : b ∈ vblk (Value.slice sp (s2 ++ ks).length sc)) => (hM3.sown.lt hh).2
      have hM5 := hM3.grow hx5
      have hz3 := hM3.ext.size
      have hz5 := hx5.size
      replace hX := hX.ext hx5
      refine Sa ?_
      refine LW.val rfl rfl rfl (Y.slice_from (i := s2.length) rfl (by show some (Value.int .i64 _) = some (Value.int .i64 _); congr 2; omega) rfl rfl rfl (by omega)) ?_
      have hfrom := Own.from_ hM5.sown (by omega) (i := s2.length) (by omega)
      rw [List.drop_left] at hfrom
      refine LW.append_any (lo := w.heap.size) (xs := []) (news := icells ks) rfl rfl rfl rfl rfl rfl (⟨rfl, .inr ⟨B, 0, [], rfl, hB, by simp, by simp, by omega⟩⟩) (by omega) (by rw [icells_len]; show _ = _ * 1; omega) (by
       obtain ⟨_, ⟨e, e2⟩ | ⟨a, cap, e, hc⟩⟩ := hfrom
       ·simp only [Value.slice.injEq] at e
        exact .inl ⟨e.1, by omega⟩
       ·simp only [Value.slice.injEq] at e
        refine .inr ⟨a, e.1, fun j u hj => ?_⟩
        simp only [icells, List.getElem?_map] at hj
        cases hg : ks[j]? with
        | none => rw [hg] at hj; cases hj
        | some y =>
         rw [hg] at hj
         obtain rfl := Option.some.inj hj
         exact hc j y hg) (fun u hu => by
       simp only [icells, List.mem_map] at hu
       obtain ⟨_, _, rfl⟩ := hu
       rfl) (by show (0 + _) * 9 ≤ _; omega) rfl ?_
      intro v' w6 hc6 hown' hv'
      obtain ⟨p', c', rfl⟩ := hown'.slice
      have hx36 : Ext w3 w6 := hx5.step hc6 (by simp [vblk]; omega)
      replace hX := hX.chg hc6 (by simp [vblk]; intro e; subst e; exact absurd (hX.inj hB) (by decide))
      replace hM3 := hM3.grow hx36
      have hkfr : ∀ b ∈ vblk (Value.slice p' (0 + ((s2 ++ ks).length - s2.length)) c'), b ∉ vblk (Value.slice sp (s2 ++ ks).length sc) := fun b hb hh => by
       have h1 := hold b hh
       rcases hv' b hb with h2 | h2
       ·simp [vblk] at h2; omega
       ·omega
      have hm : 0 + ((s2 ++ ks).length - s2.length) = ks.length := by omega
      rw [hm] at hown' hkfr ⊢
      simp only [List.nil_append] at hown'
      have hkv : KidsOk w6 (.slice p' ks.length c') ks := own_kids hown'
      refine Sa ?_
      have hX1 := hX
      refine Lws fun w8 hc8 hX => ?_
      replace hX : Blk w8 X (nvL ⟨{ kind := 7, text := [83, 85, 77], kids := ks }, .slice p' ks.length c'⟩) 57 := hX
      have hM8 := hM3.chgX hXw hXo hXs hX1 hc8
      refine Sa ?_
      refine LW.slice_to (i := s2.length) rfl (by show some (Value.int .i64 _) = some (Value.int .i64 _); congr 2; omega) (by show some (Value.int .i64 _) = some (Value.int .i64 _); congr 2; omega) rfl rfl rfl ?_ rfl ?_
      ·have := Own.cap_ hM8.sown; omega
      refine Sa ?_
      exact QW.head (_, _, _, _) (ci_pop hM3 rfl hXw hXo hXs hX1 hc8 hX hkv hkfr (call_ok (by omega)) rfl) (Sub.cons rfl (Sub.cons rfl (Sub.cons rfl (Sub.cons rfl (Sub.cons rfl (Sub.nil))))))
     refine Sa ?_
     refine Cwc (fun q6 => ?_) fun q6 => ?_
     ·refine Sa ?_
      refine Lwl fun B w5 hbB hx5 hB => ?_
      replace hM3 := hM3.grow hx5
      replace hX := hX.ext hx5
      have hsh : ([str [], str [], str [84]] : List Value)[0 + (z / 8 % 3).toNat * 1]? = some (str (shM z)) := by
       have : z / 8 % 3 = 0 ∨ z / 8 % 3 = 1 ∨ z / 8 % 3 = 2 := by omega
       rcases this with h | h | h <;> rw [h] <;> simp [shM, h]
      refine Sz ?_
      refine LW.load rfl hB hsh rfl rfl rfl ?_
      refine Sa ?_
      have hX1 := hX
      refine Lws fun w6 hc6 hX => ?_
      replace hX : Blk w6 X (nvL ⟨{ kind := 5, ref := refM z }, .slice none 0 0⟩) 57 := hX
      refine Sa ?_
      exact QW.head (_, _, _, _) (ci_leaf hM3 hXw hXo hXs hX1 hc6 hX (leaf_ok hz0 hz1 (by simp [leafM])) rfl) (Sub.cons rfl (Sub.cons rfl (Sub.cons rfl (Sub.cons rfl (Sub.cons rfl (Sub.nil))))))
     refine Sa ?_
     refine Cwc (fun q7 => ?_) fun q7 => ?_
     ·refine Sa ?_
      have hX1 := hX
      refine Lws fun w6 hc6 hX => ?_
      replace hX : Blk w6 X (nvL ⟨{ kind := 6, ref := refA z, to := refB z }, .slice none 0 0⟩) 57 := hX
      refine Sa ?_
      exact QW.head (_, _, _, _) (ci_leaf hM3 hXw hXo hXs hX1 hc6 hX (leaf_ok hz0 hz1 (by simp [leafM])) rfl) (Sub.cons rfl (Sub.cons rfl (Sub.cons rfl (Sub.cons rfl (Sub.cons rfl (Sub.nil))))))
     refine Sa ?_
     refine Cwc (fun q8 => ?_) fun q8 => ?_
     ·have hil := Lib.itoa_length_le z (by omega) (by omega)
      refine Sa ?_
      refine LW.call0 rfl rfl (Digits_ret z hz0 (by omega) _) ?_
      rintro v w5 ⟨rfl, hx5⟩
      replace hM3 := hM3.grow hx5
      replace hX := hX.ext hx5
      refine Sa ?_
      have hX1 := hX
      refine Lws fun w6 hc6 hX => ?_
      replace hX : Blk w6 X (nvL ⟨{ kind := 2, text := [97, 34] ++ Lib.itoa z }, .slice none 0 0⟩) 57 := hX
      refine Sa ?_
      exact QW.head (_, _, _, _) (ci_leaf hM3 hXw hXo hXs hX1 hc6 hX (leaf_ok hz0 hz1 (by simp [leafM])) rfl) (Sub.cons rfl (Sub.cons rfl (Sub.cons rfl (Sub.cons rfl (Sub.cons rfl (Sub.nil))))))
     refine Sa ?_
     refine Cwc (fun q9 => ?_) fun q9 => ?_
     ·refine Sa ?_
      have hX1 := hX
      refine Lws fun w6 hc6 hX => ?_
      replace hX : Blk w6 X (nvL ⟨{ kind := 3, num := z / 32 % 2 }, .slice none 0 0⟩) 57 := hX
      refine Sa ?_
      exact QW.head (_, _, _, _) (ci_leaf hM3 hXw hXo hXs hX1 hc6 hX (leaf_ok hz0 hz1 (by simp [leafM])) rfl) (Sub.cons rfl (Sub.cons rfl (Sub.cons rfl (Sub.cons rfl (Sub.cons rfl (Sub.nil))))))
     refine Sa ?_
     refine Cwc (fun q10 => ?_) fun q10 => ?_
     ·refine Sa ?_
      have hX1 := hX
      refine Lws fun w6 hc6 hX => ?_
      replace hX : Blk w6 X (nvL ⟨{ kind := 4 }, .slice none 0 0⟩) 57 := hX
      refine Sa ?_
      exact QW.head (_, _, _, _) (ci_leaf hM3 hXw hXo hXs hX1 hc6 hX (leaf_ok hz0 hz1 (by simp [leafM])) rfl) (Sub.cons rfl (Sub.cons rfl (Sub.cons rfl (Sub.cons rfl (Sub.cons rfl (Sub.nil))))))
     refine Sa ?_
     exact QW.head (_, _, _, _) (ci_leaf hM hXw hXo hXs hX0 hc3 hX (leaf_ok hz0 hz1 (by simp [leafM])) rfl) (Sub.cons rfl (Sub.cons rfl (Sub.cons rfl (Sub.cons rfl (Sub.cons rfl (Sub.nil))))))
  ·refine Sa ?_
   refine Sa ?_
   refine LW.part rfl rfl rfl (fun q3 => ?_) (fun q3 => ?_)
   ·have q3 : z % 16 = 1 := by simpa using q3
    refine Sa ?_
    refine Cwc (fun q4 => ?_) fun q4 => ?_
    ·have q4 : 1 ≤ st.length := by simp at q4; omega
     obtain ⟨s2, a, rfl⟩ : ∃ s2 a, st = s2 ++ [a] := ⟨st.dropLast, st.getLast (by intro h; subst h; simp at q4), (List.dropLast_concat_getLast _).symm⟩
     have hsl : (s2 ++ [a]).length = s2.length + 1 := by simp
     obtain ⟨sa, rfl, hcs⟩ : ∃ sa, sp = some sa ∧ ∀ w', Own w' w.heap.size 3 1 (.slice sp (s2 ++ [a]).length sc) (s2 ++ [a]).length (icells (s2 ++ [a])) → w'.cell? (sa.add ((((s2 ++ [a]).length : Int) - 1).toNat * 1)) = some (.int .i64 a) := by
      cases sp with
      | none =>
       obtain ⟨_, ⟨_, e⟩ | ⟨g, cap, sp, e, _⟩⟩ := hM.sown
       ·omega
       ·simp at e
      | some sa =>
       refine ⟨sa, rfl, fun w' ho => ?_⟩
       rcases Own.cells ho (Nat.le_refl _) with ⟨e, _⟩ | ⟨a', e, hc⟩
       ·cases e
       ·obtain rfl := Option.some.inj e
        rw [List.take_length] at hc
        rw [show (((s2 ++ [a]).length : Int) - 1).toNat * 1 = s2.length by omega]
        exact hc _ _ (by simp [icells])
     refine Sa ?_
     refine Lo ?_
     refine Lp (hcs _ hM3.sown) ?_
     refine Sa ?_
     refine Lwl fun B w5 hbB hx5 hB => ?_
     have hBs : B ∉ vblk (Value.slice (some sa) (s2 ++ [a]).length sc) := fun hh => by
      have := (hM3.sown.lt hh).2
      omega
     replace hM3 := hM3.grow hx5
     replace hX := hX.ext hx5
     replace hB : Blk w5 B (icells [a]) 3 := hB
     refine Sa ?_
     have hX1 := hX
     refine Lws fun w6 hc6 hX => ?_
     replace hX : Blk w6 X (nvL ⟨{ kind := 8, kids := [a] }, .slice (some ⟨B, 0, none⟩) 1 1⟩) 57 := hX
     have hM6 := hM3.chgX hXw hXo hXs hX1 hc6
     refine Sa ?_
     refine LW.slice_to (i := s2.length) rfl (by show some (Value.int .i64 _) = some (Value.int .i64 _); congr 2; omega) (by show some (Value.int .i64 _) = some (Value.int .i64 _); congr 2; omega) rfl rfl rfl ?_ rfl ?_
     ·have := Own.cap_ hM6.sown; omega
     refine Sa ?_
     exact QW.head (_, _, _, _) (ci_pop hM3 rfl hXw hXo hXs hX1 hc6 hX (.inr ⟨B, 1, [], rfl, by rw [List.append_nil]; exact hB⟩) (by simp [vblk] at hBs ⊢; exact hBs) (neg_ok a) rfl) (Sub.cons rfl (Sub.cons rfl (Sub.cons rfl (Sub.cons rfl (Sub.cons rfl (Sub.nil))))))
    ·refine Sa ?_
     refine Cwc (fun q5 => ?_) fun q5 => ?_
     ·obtain ⟨kN, hkN, hkl⟩ : ∃ kN : Nat, (if z / 16 % 4 < (st.length : Int) then z / 16 % 4 else (st.length : Int)) = (kN : Int) ∧ kN ≤ st.length := ⟨(if z / 16 % 4 < (st.length : Int) then z / 16 % 4 else (st.length : Int)).toNat, by split <;> omega, by split <;> omega⟩
      obtain ⟨s2, ks, hst, hks⟩ : ∃ s2 ks : List Int, st = s2 ++ ks ∧ ks.length = kN := ⟨st.take (st.length - kN), st.drop (st.length - kN), (List.take_append_drop _ _).symm, by simp; omega⟩
      subst hst
      have hsl : (s2 ++ ks).length = s2.length + ks.length := by simp
      refine Sa ?_
      refine LW.min2 rfl rfl rfl ?_
      rw [hkN, ← hks]
      refine Sa ?_
      (apply LW.buildSlice0; exact rfl; exact rfl; exact rfl; exact rfl; intro B w5 hbB hx5 hB)
      have hold := fun (b : Nat) (hh : b ∈ vblk (Value.slice sp (s2 ++ ks).length sc)) => (hM3.sown.lt hh).2
      have hM5 := hM3.grow hx5
      have hz3 := hM3.ext.size
      have hz5 := hx5.size
      replace hX := hX.ext hx5
      refine Sa ?_
      refine LW.val rfl rfl rfl (Y.slice_from (i := s2.length) rfl (by show some (Value.int .i64 _) = some (Value.int .i64 _); congr 2; omega) rfl rfl rfl (by omega)) ?_
      have hfrom := Own.from_ hM5.sown (by omega) (i := s2.length) (by omega)
      rw [List.drop_left] at hfrom
      refine LW.append_any (lo := w.heap.size) (xs := []) (news := icells ks) rfl rfl rfl rfl rfl rfl (⟨rfl, .inr ⟨B, 0, [], rfl, hB, by simp, by simp, by omega⟩⟩) (by omega) (by rw [icells_len]; show _ = _ * 1; omega) (by
       obtain ⟨_, ⟨e, e2⟩ | ⟨a, cap, e, hc⟩⟩ := hfrom
       ·simp only [Value.slice.injEq] at e
        exact .inl ⟨e.1, by omega⟩
       ·simp only [Value.slice.injEq] at e
        refine .inr ⟨a, e.1, fun j u hj => ?_⟩
        simp only [icells, List.getElem?_map] at hj
        cases hg : ks[j]? with
        | none => rw [hg] at hj; cases hj
        | some y =>
         rw [hg] at hj
         obtain rfl := Option.some.inj hj
         exact hc j y hg) (fun u hu => by
       simp only [icells, List.mem_map] at hu
       obtain ⟨_, _, rfl⟩ := hu
       rfl) (by show (0 + _) * 9 ≤ _; omega) rfl ?_
      intro v' w6 hc6 hown' hv'
      obtain ⟨p', c', rfl⟩ := hown'.slice
      have hx36 : Ext w3 w6 := hx5.step hc6 (by simp [vblk]; omega)
      replace hX := hX.chg hc6 (by simp [vblk]; intro e; subst e; exact absurd (hX.inj hB) (by decide))
      replace hM3 := hM3.grow hx36
      have hkfr : ∀ b ∈ vblk (Value.slice p' (0 + ((s2 ++ ks).length - s2.length)) c'), b ∉ vblk (Value.slice sp (s2 ++ ks).length sc) := fun b hb hh => by
       have h1 := hold b hh
       rcases hv' b hb with h2 | h2
       ·simp [vblk] at h2; omega
       ·omega
      have hm : 0 + ((s2 ++ ks).length - s2.length) = ks.length := by omega
      rw [hm] at hown' hkfr ⊢
      simp only [List.nil_append] at hown'
      have hkv : KidsOk w6 (.slice p' ks.length c') ks := own_kids hown'
      refine Sa ?_
      have hX1 := hX
      refine Lws fun w8 hc8 hX => ?_
      replace hX : Blk w8 X (nvL ⟨{ kind := 7, text := [83, 85, 77], kids := ks }, .slice p' ks.length c'⟩) 57 := hX
      have hM8 := hM3.chgX hXw hXo hXs hX1 hc8
      refine Sa ?_
      refine LW.slice_to (i := s2.length) rfl (by show some (Value.int .i64 _) = some (Value.int .i64 _); congr 2; omega) (by show some (Value.int .i64 _) = some (Value.int .i64 _); congr 2; omega) rfl rfl rfl ?_ rfl ?_
      ·have := Own.cap_ hM8.sown; omega
      refine Sa ?_
      exact QW.head (_, _, _, _) (ci_pop hM3 rfl hXw hXo hXs hX1 hc8 hX hkv hkfr (call_ok (by omega)) rfl) (Sub.cons rfl (Sub.cons rfl (Sub.cons rfl (Sub.cons rfl (Sub.cons rfl (Sub.nil))))))
     refine Sa ?_
     refine Cwc (fun q6 => ?_) fun q6 => ?_
     ·refine Sa ?_
      refine Lwl fun B w5 hbB hx5 hB => ?_
      replace hM3 := hM3.grow hx5
      replace hX := hX.ext hx5
      have hsh : ([str [], str [], str [84]] : List Value)[0 + (z / 8 % 3).toNat * 1]? = some (str (shM z)) := by
       have : z / 8 % 3 = 0 ∨ z / 8 % 3 = 1 ∨ z / 8 % 3 = 2 := by omega
       rcases this with h | h | h <;> rw [h] <;> simp [shM, h]
      refine Sz ?_
      refine LW.load rfl hB hsh rfl rfl rfl ?_
      refine Sa ?_
      have hX1 := hX
      refine Lws fun w6 hc6 hX => ?_
      replace hX : Blk w6 X (nvL ⟨{ kind := 5, ref := refM z }, .slice none 0 0⟩) 57 := hX
      refine Sa ?_
      exact QW.head (_, _, _, _) (ci_leaf hM3 hXw hXo hXs hX1 hc6 hX (leaf_ok hz0 hz1 (by simp [leafM])) rfl) (Sub.cons rfl (Sub.cons rfl (Sub.cons rfl (Sub.cons rfl (Sub.cons rfl (Sub.nil))))))
     refine Sa ?_
     refine Cwc (fun q7 => ?_) fun q7 => ?_
     ·refine Sa ?_
      have hX1 := hX
      refine Lws fun w6 hc6 hX => ?_
      replace hX : Blk w6 X (nvL ⟨{ kind := 6, ref := refA z, to := refB z }, .slice none 0 0⟩) 57 := hX
      refine Sa ?_
      exact QW.head (_, _, _, _) (ci_leaf hM3 hXw hXo hXs hX1 hc6 hX (leaf_ok hz0 hz1 (by simp [leafM])) rfl) (Sub.cons rfl (Sub.cons rfl (Sub.cons rfl (Sub.cons rfl (Sub.cons rfl (Sub.nil))))))
     refine Sa ?_
     refine Cwc (fun q8 => ?_) fun q8 => ?_
     ·have hil := Lib.itoa_length_le z (by omega) (by omega)
      refine Sa ?_
      refine LW.call0 rfl rfl (Digits_ret z hz0 (by omega) _) ?_
      rintro v w5 ⟨rfl, hx5⟩
      replace hM3 := hM3.grow hx5
      replace hX := hX.ext hx5
      refine Sa ?_
      have hX1 := hX
      refine Lws fun w6 hc6 hX => ?_
      replace hX : Blk w6 X (nvL ⟨{ kind := 2, text := [97, 34] ++ Lib.itoa z }, .slice none 0 0⟩) 57 := hX
      refine Sa ?_
      exact QW.head (_, _, _, _) (ci_leaf hM3 hXw hXo hXs hX1 hc6 hX (leaf_ok hz0 hz1 (by simp [leafM])) rfl) (Sub.cons rfl (Sub.cons rfl (Sub.cons rfl (Sub.cons rfl (Sub.cons rfl (Sub.nil))))))
     refine Sa ?_
     refine Cwc (fun q9 => ?_) fun q9 => ?_
     ·refine Sa ?_
      have hX1 := hX
      refine Lws fun w6 hc6 hX => ?_
      replace hX : Blk w6 X (nvL ⟨{ kind := 3, num := z / 32 % 2 }, .slice none 0 0⟩) 57 := hX
      refine Sa ?_
      exact QW.head (_, _, _, _) (ci_leaf hM3 hXw hXo hXs hX1 hc6 hX (leaf_ok hz0 hz1 (by simp [leafM])) rfl) (Sub.cons rfl (Sub.cons rfl (Sub.cons rfl (Sub.cons rfl (Sub.cons rfl (Sub.nil))))))
     refine Sa ?_
     refine Cwc (fun q10 => ?_) fun q10 => ?_
     ·refine Sa ?_
      have hX1 := hX
      refine Lws fun w6 hc6 hX => ?_
      replace hX : Blk w6 X (nvL ⟨{ kind := 4 }, .slice none 0 0⟩) 57 := hX
      refine Sa ?_
      exact QW.head (_, _, _, _) (ci_leaf hM3 hXw hXo hXs hX1 hc6 hX (leaf_ok hz0 hz1 (by simp [leafM])) rfl) (Sub.cons rfl (Sub.cons rfl (Sub.cons rfl (Sub.cons rfl (Sub.cons rfl (Sub.nil))))))
     refine Sa ?_
     exact QW.head (_, _, _, _) (ci_leaf hM hXw hXo hXs hX0 hc3 hX (leaf_ok hz0 hz1 (by simp [leafM])) rfl) (Sub.cons rfl (Sub.cons rfl (Sub.cons rfl (Sub.cons rfl (Sub.cons rfl (Sub.nil))))))
   ·refine Sa ?_
    refine Sa ?_
    refine Cwc (fun q5 => ?_) fun q5 => ?_
    ·obtain ⟨kN, hkN, hkl⟩ : ∃ kN : Nat, (if z / 16 % 4 < (st.length : Int) then z / 16 % 4 else (st.length : Int)) = (kN : Int) ∧ kN ≤ st.length := ⟨(if z / 16 % 4 < (st.length : Int) then z / 16 % 4 else (st.length : Int)).toNat, by split <;> omega, by split <;> omega⟩
     obtain ⟨s2, ks, hst, hks⟩ : ∃ s2 ks : List Int, st = s2 ++ ks ∧ ks.length = kN := ⟨st.take (st.length - kN), st.drop (st.length - kN), (List.take_append_drop _ _).symm, by simp; omega⟩
     subst hst
     have hsl : (s2 ++ ks).length = s2.length + ks.length := by simp
     refine Sa ?_
     refine LW.min2 rfl rfl rfl ?_
     rw [hkN, ← hks]
     refine Sa ?_
     (apply LW.buildSlice0; exact rfl; exact rfl; exact rfl; exact rfl; intro B w5 hbB hx5 hB)
     have hold := fun (b : Nat) (hh : b ∈ vblk (Value.slice sp (s2 ++ ks).length sc)) => (hM3.sown.lt hh).2
     have hM5 := hM3.grow hx5
     have hz3 := hM3.ext.size
     have hz5 := hx5.size
     replace hX := hX.ext hx5
     refine Sa ?_
     refine LW.val rfl rfl rfl (Y.slice_from (i := s2.length) rfl (by show some (Value.int .i64 _) = some (Value.int .i64 _); congr 2; omega) rfl rfl rfl (by omega)) ?_
     have hfrom := Own.from_ hM5.sown (by omega) (i := s2.length) (by omega)
     rw [List.drop_left] at hfrom
     refine LW.append_any (lo := w.heap.size) (xs := []) (news := icells ks) rfl rfl rfl rfl rfl rfl (⟨rfl, .inr ⟨B, 0, [], rfl, hB, by simp, by simp, by omega⟩⟩) (by omega) (by rw [icells_len]; show _ = _ * 1; omega) (by
      obtain ⟨_, ⟨e, e2⟩ | ⟨a, cap, e, hc⟩⟩ := hfrom
      ·simp only [Value.slice.injEq] at e
       exact .inl ⟨e.1, by omega⟩
      ·simp only [Value.slice.injEq] at e
       refine .inr ⟨a, e.1, fun j u hj => ?_⟩
       simp only [icells, List.getElem?_map] at hj
       cases hg : ks[j]? with
       | none => rw [hg] at hj; cases hj
       | some y =>
        rw [hg] at hj
        obtain rfl := Option.some.inj hj
        exact hc j y hg) (fun u hu => by
      simp only [icells, List.mem_map] at hu
      obtain ⟨_, _, rfl⟩ := hu
      rfl) (by show (0 + _) * 9 ≤ _; omega) rfl ?_
     intro v' w6 hc6 hown' hv'
     obtain ⟨p', c', rfl⟩ := hown'.slice
     have hx36 : Ext w3 w6 := hx5.step hc6 (by simp [vblk]; omega)
     replace hX := hX.chg hc6 (by simp [vblk]; intro e; subst e; exact absurd (hX.inj hB) (by decide))
     replace hM3 := hM3.grow hx36
     have hkfr : ∀ b ∈ vblk (Value.slice p' (0 + ((s2 ++ ks).length - s2.length)) c'), b ∉ vblk (Value.slice sp (s2 ++ ks).length sc) := fun b hb hh => by
      have h1 := hold b hh
      rcases hv' b hb with h2 | h2
      ·simp [vblk] at h2; omega
      ·omega
     have hm : 0 + ((s2 ++ ks).length - s2.length) = ks.length := by omega
     rw [hm] at hown' hkfr ⊢
     simp only [List.nil_append] at hown'
     have hkv : KidsOk w6 (.slice p' ks.length c') ks := own_kids hown'
     refine Sa ?_
     have hX1 := hX
     refine Lws fun w8 hc8 hX => ?_
     replace hX : Blk w8 X (nvL ⟨{ kind := 7, text := [83, 85, 77], kids := ks }, .slice p' ks.length c'⟩) 57 := hX
     have hM8 := hM3.chgX hXw hXo hXs hX1 hc8
     refine Sa ?_
     refine LW.slice_to (i := s2.length) rfl (by show some (Value.int .i64 _) = some (Value.int .i64 _); congr 2; omega) (by show some (Value.int .i64 _) = some (Value.int .i64 _); congr 2; omega) rfl rfl rfl ?_ rfl ?_
     ·have := Own.cap_ hM8.sown; omega
     refine Sa ?_
     exact QW.head (_, _, _, _) (ci_pop hM3 rfl hXw hXo hXs hX1 hc8 hX hkv hkfr (call_ok (by omega)) rfl) (Sub.cons rfl (Sub.cons rfl (Sub.cons rfl (Sub.cons rfl (Sub.cons rfl (Sub.nil))))))
    refine Sa ?_
    refine Cwc (fun q6 => ?_) fun q6 => ?_
    ·refine Sa ?_
     refine Lwl fun B w5 hbB hx5 hB => ?_
     replace hM3 := hM3.grow hx5
     replace hX := hX.ext hx5
     have hsh : ([str [], str [], str [84]] : List Value)[0 + (z / 8 % 3).toNat * 1]? = some (str (shM z)) := by
      have : z / 8 % 3 = 0 ∨ z / 8 % 3 = 1 ∨ z / 8 % 3 = 2 := by omega
      rcases this with h | h | h <;> rw [h] <;> simp [shM, h]
     refine Sz ?_
     refine LW.load rfl hB hsh rfl rfl rfl ?_
     refine Sa ?_
     have hX1 := hX
     refine Lws fun w6 hc6 hX => ?_
     replace hX : Blk w6 X (nvL ⟨{ kind := 5, ref := refM z }, .slice none 0 0⟩) 57 := hX
     refine Sa ?_
     exact QW.head (_, _, _, _) (ci_leaf hM3 hXw hXo hXs hX1 hc6 hX (leaf_ok hz0 hz1 (by simp [leafM])) rfl) (Sub.cons rfl (Sub.cons rfl (Sub.cons rfl (Sub.cons rfl (Sub.cons rfl (Sub.nil))))))
    refine Sa ?_
    refine Cwc (fun q7 => ?_) fun q7 => ?_
    ·refine Sa ?_
     have hX1 := hX
     refine Lws fun w6 hc6 hX => ?_
     replace hX : Blk w6 X (nvL ⟨{ kind := 6, ref := refA z, to := refB z }, .slice none 0 0⟩) 57 := hX
     refine Sa ?_
     exact QW.head (_, _, _, _) (ci_leaf hM3 hXw hXo hXs hX1 hc6 hX (leaf_ok hz0 hz1 (by simp [leafM])) rfl) (Sub.cons rfl (Sub.cons rfl (Sub.cons rfl (Sub.cons rfl (Sub.cons rfl (Sub.nil))))))
    refine Sa ?_
    refine Cwc (fun q8 => ?_) fun q8 => ?_
    ·have hil := Lib.itoa_length_le z (by omega) (by omega)
     refine Sa ?_
     refine LW.call0 rfl rfl (Digits_ret z hz0 (by omega) _) ?_
     rintro v w5 ⟨rfl, hx5⟩
     replace hM3 := hM3.grow hx5
     replace hX := hX.ext hx5
     refine Sa ?_
     have hX1 := hX
     refine Lws fun w6 hc6 hX => ?_
     replace hX : Blk w6 X (nvL ⟨{ kind := 2, text := [97, 34] ++ Lib.itoa z }, .slice none 0 0⟩) 57 := hX
     refine Sa ?_
     exact QW.head (_, _, _, _) (ci_leaf hM3 hXw hXo hXs hX1 hc6 hX (leaf_ok hz0 hz1 (by simp [leafM])) rfl) (Sub.cons rfl (Sub.cons rfl (Sub.cons rfl (Sub.cons rfl (Sub.cons rfl (Sub.nil))))))
    refine Sa ?_
    refine Cwc (fun q9 => ?_) fun q9 => ?_
    ·refine Sa ?_
     have hX1 := hX
     refine Lws fun w6 hc6 hX => ?_
     replace hX : Blk w6 X (nvL ⟨{ kind := 3, num := z / 32 % 2 }, .slice none 0 0⟩) 57 := hX
     refine Sa ?_
     exact QW.head (_, _, _, _) (ci_leaf hM3 hXw hXo hXs hX1 hc6 hX (leaf_ok hz0 hz1 (by simp [leafM])) rfl) (Sub.cons rfl (Sub.cons rfl (Sub.cons rfl (Sub.cons rfl (Sub.cons rfl (Sub.nil))))))
    refine Sa ?_
    refine Cwc (fun q10 => ?_) fun q10 => ?_
    ·refine Sa ?_
     have hX1 := hX
     refine Lws fun w6 hc6 hX => ?_
     replace hX : Blk w6 X (nvL ⟨{ kind := 4 }, .slice none 0 0⟩) 57 := hX
     refine Sa ?_
     exact QW.head (_, _, _, _) (ci_leaf hM3 hXw hXo hXs hX1 hc6 hX (leaf_ok hz0 hz1 (by simp [leafM])) rfl) (Sub.cons rfl (Sub.cons rfl (Sub.cons rfl (Sub.cons rfl (Sub.cons rfl (Sub.nil))))))
    refine Sa ?_
    exact QW.head (_, _, _, _) (ci_leaf hM hXw hXo hXs hX0 hc3 hX (leaf_ok hz0 hz1 (by simp [leafM])) rfl) (Sub.cons rfl (Sub.cons rfl (Sub.cons rfl (Sub.cons rfl (Sub.cons rfl (Sub.nil))))))
 ·clear hC0 hM hX hX0 hXo hXs hx2 hc3
  rintro ⟨nd, kv, s2, stv⟩ w7 hC
  dsimp only at hC
  obtain ⟨p2, c2, rfl⟩ : ∃ p c, stv = .slice p s2.length c := by
   rcases hC.sv with h | ⟨p, e, _⟩
   ·exact h.slice
   ·exact ⟨p, _, e⟩
  have hgo := hC.go
  have hfn := hC.fine
  show CW _ _ _ _ _ [(0, .slice (some na) ns.length nc), (3, .slice op l.length oc), (4, .slice p2 s2.length c2), (5, .int .i64 (l.length : Int)), (7, .pointer (some ⟨X, 0, none⟩))] _
  have hle2 := hC.le
  have hz7 := hC.ext.size
  refine Sa ?_
  refine Lwl fun B w8 hbB hx8 hB => ?_
  replace hB : Blk w8 B [.int .i64 (l.length : Int)] 3 := hB
  have hz8 := hx8.size
  rcases hC.sv with ho | ⟨p, e, hp⟩
  ·refine LW.append rfl rfl rfl rfl rfl rfl (ho.ext hx8) (by omega) hB rfl rfl rfl (by show (s2.length + 1) * 9 ≤ _; omega) rfl ?_
   intro v' w9 hc9 ho9 hv9
   have hcc : Chg (vblk (.slice p2 s2.length c2)) w7 w9 := by
    have := Chg.trans hx8 hc9
    simpa using this
   have hT := ti_of hC hcc (fun b hb => ⟨(ho.lt hb).1, hb⟩) (fun b hb L T hL => Own.type ho hb hL) (fun j hj => by rcases hv9 j hj with h | h; exact .inl h; exact .inr (by omega)) ho9
   obtain ⟨p3, c3, rfl⟩ := hT.sown.slice
   clear hC ho9 hv9
   obtain ⟨hTx, ⟨nvs, hon, hm, hk⟩, hTb, hTk, hTa, hTs⟩ := hT
   have hnl : nvs.length = l.length := by rw [← hm]; simp
   have hz9 := hTx.size
   refine Sa ?_
   refine Lwl fun C w10 hbC hx10 hC => ?_
   replace hC : Blk w10 C (nvL ⟨nd, kv⟩) 57 := hC
   have hz10 := hx10.size
   have hnv : (nvL ⟨nd, kv⟩).all (·.oneCell') = true := by
    simp only [nvL, List.all_cons, List.all_nil, hTk.one]
    rfl
   refine Sa ?_
   refine LW.append rfl rfl rfl rfl rfl rfl (hon.ext hx10) (by omega) hC rfl hnv rfl (by show (nvs.length + 1) * 137 ≤ 140737488355328; omega) rfl ?_
   intro v2 w11 hc11 hon2 hv11
   have e1 : (nvs.flatMap nvL ++ nvL ⟨nd, kv⟩) = (nvs ++ [(⟨nd, kv⟩ : NV)]).flatMap nvL := by simp
   have e2 : nvs.length + 1 = (nvs ++ [(⟨nd, kv⟩ : NV)]).length := by simp
   rw [e1, e2] at hon2
   obtain ⟨p4, c4, rfl⟩ := hon2.slice
   have hTy : ∀ b ∈ vblk (Value.slice op l.length oc), ∀ L T, Blk w10 b L T → T = 57 := fun b hb L T hL => Own.type (hon.ext hx10) hb hL
   have hcc2 : Chg (vblk (.slice op l.length oc)) w9 w11 := by
    have := Chg.trans hx10 hc11
    simpa using this
   have hkk : ∀ {kv : Value} {ks : List Int}, KidsOk w9 kv ks → (∀ b ∈ vblk kv, b ∉ vblk (Value.slice p3 (s2.length + 1) c3)) → KidsOk w11 kv ks := fun {kv ks} h1 h2 => (h1.chg h2 hx10 (by simp)).chg h2 hc11 (fun b hb => .inr (by
    obtain ⟨_, ⟨e, _⟩ | ⟨g, cap, sp, e, hg, _⟩⟩ := hon.ext hx10
    ·rw [e] at hb; simp [vblk] at hb
    ·rw [e] at hb
     simp [vblk] at hb
     subst hb
     exact ⟨_, _, hg, by decide⟩))
   have hsf : Own w11 w.heap.size 3 1 (.slice p3 (s2.length + 1) c3) (s2.length + 1) (icells (s2 ++ [(l.length : Int)])) := (hTs.ext hx10).chg hc11 (fun b hb hm2 => by
    obtain ⟨_, ⟨e, _⟩ | ⟨g, cap, sp, e, hg, _⟩⟩ := hon.ext hx10
    ·rw [e] at hm2; simp [vblk] at hm2
    ·rw [e] at hm2
     simp [vblk] at hm2
     subst hm2
     exact absurd (Own.type (hTs.ext hx10) hb hg) (by decide))
   have hel : (l ++ [nd]).length = l.length + 1 := by simp
   have hes : (s2 ++ [(l.length : Int)]).length = s2.length + 1 := by simp
   have hen : (nvs ++ [(⟨nd, kv⟩ : NV)]).length = (l ++ [nd]).length := by simp [hnl]
   refine Sa ?_
   refine QW.again (l ++ [nd], s2 ++ [(l.length : Int)], p4, c4, p3, c3) ⟨by rw [hel]; omega, by rw [hel]; omega, ?_⟩ ?_ (by show 40 - (l ++ [nd]).length < 40 - l.length; rw [hel]; omega)
   ·dsimp only
    rw [hes, ← hen]
    refine ⟨hTx.step hcc2 (fun b hb => (hon.lt hb).1), by rw [hes]; exact hsf, hgo, by rw [hes, hel]; omega, fun _ => by rw [hes]; omega, fun x hx => ?_, ⟨_, hon2, by simp [hm], fun x hx => ?_⟩⟩
    ·rcases List.mem_append.1 hx with hx | hx
     ·exact hfine x hx
     ·simp at hx; subst hx; exact hfn
    ·rcases List.mem_append.1 hx with hx | hx
     ·exact ⟨hkk (hk x hx).1 (hk x hx).2, (hk x hx).2⟩
     ·simp at hx
      subst hx
      exact ⟨hkk hTk hTa, hTa⟩
   ·dsimp only
    rw [hes, ← hen, ← e2]
    have e5 : (((nvs.length + 1 : Nat)) : Int) = (l.length : Int) + 1 := by omega
    rw [e5]
    exact (Sub.cons rfl (Sub.cons rfl (Sub.cons rfl (Sub.cons rfl (Sub.nil)))))
  ·simp only [Value.slice.injEq] at e
   obtain ⟨e1, _, e3⟩ := e
   subst e1
   subst e3
   refine LW.append_piece (xs := icells s2) (lo := w.heap.size) rfl rfl rfl rfl rfl (by exact rfl) (by rw [icells_len]; show _ = _ * 1; omega) ?_ (by omega) hB (by exact rfl) (by exact rfl) (by exact rfl) (by show (s2.length + 1) * 9 ≤ _; omega) rfl ?_
   ·rcases hp with h | ⟨a, h1, h2⟩
    ·exact .inl h
    ·exact .inr ⟨a, h1, fun j u hj => cell_ext hx8 (h2 j u hj)⟩
   intro v' w9 hx9 ho9 hv9
   have hT := ti_of hC (hx8.trans hx9) (by simp) (by simp) (fun j hj => .inr (by have := hv9 j hj; omega)) ho9
   obtain ⟨p3, c3, rfl⟩ := hT.sown.slice
   clear hC ho9 hv9
   obtain ⟨hTx, ⟨nvs, hon, hm, hk⟩, hTb, hTk, hTa, hTs⟩ := hT
   have hnl : nvs.length = l.length := by rw [← hm]; simp
   have hz9 := hTx.size
   refine Sa ?_
   refine Lwl fun C w10 hbC hx10 hC => ?_
   replace hC : Blk w10 C (nvL ⟨nd, kv⟩) 57 := hC
   have hz10 := hx10.size
   have hnv : (nvL ⟨nd, kv⟩).all (·.oneCell') = true := by
    simp only [nvL, List.all_cons, List.all_nil, hTk.one]
    rfl
   refine Sa ?_
   refine LW.append rfl rfl rfl rfl rfl rfl (hon.ext hx10) (by omega) hC rfl hnv rfl (by show (nvs.length + 1) * 137 ≤ 140737488355328; omega) rfl ?_
   intro v2 w11 hc11 hon2 hv11
   have e1 : (nvs.flatMap nvL ++ nvL ⟨nd, kv⟩) = (nvs ++ [(⟨nd, kv⟩ : NV)]).flatMap nvL := by simp
   have e2 : nvs.length + 1 = (nvs ++ [(⟨nd, kv⟩ : NV)]).length := by simp
   rw [e1, e2] at hon2
   obtain ⟨p4, c4, rfl⟩ := hon2.slice
   have hTy : ∀ b ∈ vblk (Value.slice op l.length oc), ∀ L T, Blk w10 b L T → T = 57 := fun b hb L T hL => Own.type (hon.ext hx10) hb hL
   have hcc2 : Chg (vblk (.slice op l.length oc)) w9 w11 := by
    have := Chg.trans hx10 hc11
    simpa using this
   have hkk : ∀ {kv : Value} {ks : List Int}, KidsOk w9 kv ks → (∀ b ∈ vblk kv, b ∉ vblk (Value.slice p3 (s2.length + 1) c3)) → KidsOk w11 kv ks := fun {kv ks} h1 h2 => (h1.chg h2 hx10 (by simp)).chg h2 hc11 (fun b hb => .inr (by
    obtain ⟨_, ⟨e, _⟩ | ⟨g, cap, sp, e, hg, _⟩⟩ := hon.ext hx10
    ·rw [e] at hb; simp [vblk] at hb
    ·rw [e] at hb
     simp [vblk] at hb
     subst hb
     exact ⟨_, _, hg, by decide⟩))
   have hsf : Own w11 w.heap.size 3 1 (.slice p3 (s2.length + 1) c3) (s2.length + 1) (icells (s2 ++ [(l.length : Int)])) := (hTs.ext hx10).chg hc11 (fun b hb hm2 => by
    obtain ⟨_, ⟨e, _⟩ | ⟨g, cap, sp, e, hg, _⟩⟩ := hon.ext hx10
    ·rw [e] at hm2; simp [vblk] at hm2
    ·rw [e] at hm2
     simp [vblk] at hm2
     subst hm2
     exact absurd (Own.type (hTs.ext hx10) hb hg) (by decide))
   have hel : (l ++ [nd]).length = l.length + 1 := by simp
   have hes : (s2 ++ [(l.length : Int)]).length = s2.length + 1 := by simp
   have hen : (nvs ++ [(⟨nd, kv⟩ : NV)]).length = (l ++ [nd]).length := by simp [hnl]
   refine Sa ?_
   refine QW.again (l ++ [nd], s2 ++ [(l.length : Int)], p4, c4, p3, c3) ⟨by rw [hel]; omega, by rw [hel]; omega, ?_⟩ ?_ (by show 40 - (l ++ [nd]).length < 40 - l.length; rw [hel]; omega)
   ·dsimp only
    rw [hes, ← hen]
    refine ⟨hTx.step hcc2 (fun b hb => (hon.lt hb).1), by rw [hes]; exact hsf, hgo, by rw [hes, hel]; omega, fun _ => by rw [hes]; omega, fun x hx => ?_, ⟨_, hon2, by simp [hm], fun x hx => ?_⟩⟩
    ·rcases List.mem_append.1 hx with hx | hx
     ·exact hfine x hx
     ·simp at hx; subst hx; exact hfn
    ·rcases List.mem_append.1 hx with hx | hx
     ·exact ⟨hkk (hk x hx).1 (hk x hx).2, (hk x hx).2⟩
     ·simp at hx
      subst hx
      exact ⟨hkk hTk hTa, hTa⟩
   ·dsimp only
    rw [hes, ← hen, ← e2]
    have e5 : (((nvs.length + 1 : Nat)) : Int) = (l.length : Int) + 1 := by omega
    rw [e5]
    exact (Sub.cons rfl (Sub.cons rfl (Sub.cons rfl (Sub.cons rfl (Sub.nil)))))
end Go.Proofs.YtiaigmahdjhcoaaGreatDoor
