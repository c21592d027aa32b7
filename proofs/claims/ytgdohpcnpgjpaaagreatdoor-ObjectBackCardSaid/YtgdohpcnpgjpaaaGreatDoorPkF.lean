/-
  Joined by program out of the texts Open OpenS OpenC RShow PShow.
-/
import Derived.Test.YtgdohpcnpgjpaaaGreatDoorPkA
import Derived.Test.YtgdohpcnpgjpaaaGreatDoorTab
import Derived.ProofKit
import Derived.Lib.SmallJoins
import Derived.Test.YtgdohpcnpgjpaaaGreatDoorPkB
import Derived.ChangeSlices
import Derived.WideShapes
import Derived.Test.YtgdohpcnpgjpaaaGreatDoorPkC
import Derived.Test.YtgdohpcnpgjpaaaGreatDoorPkE
import Derived.Test.YtgdohpcnpgjpaaaGreatDoorPkD
import Derived.Lib.SplitLaws
namespace Go.Proofs.YtgdohpcnpgjpaaaGreatDoor
open Go Go.E Go.ChangeShapes Go.WideShapes Go.ChangeAt Go.RowKit Go.Joins Go.ChangeMaps
theorem rowOf_5 {H : Type} {enc : TypeId × Value → H} {P : Program} {w : World} {base : Nat} {sp : Nat → Bool} {held : Bool} {t0 t1 t2 t3 t4 : TypeId} {args : Array Value} {ds : List (DataW H)} {ps : List MemPlace}
  (h : DataW.TrodAll enc P w base sp held [t0, t1, t2, t3, t4] args.toList ds ps) :
  ∃ v0 d0 p0 v1 d1 p1 v2 d2 p2 v3 d3 p3 v4 d4 p4, args = #[v0, v1, v2, v3, v4] ∧ ds = [d0, d1, d2, d3, d4] ∧ DataW.Trod enc P w base sp held t0 v0 d0 p0 ∧ DataW.Trod enc P w base sp held t1 v1 d1 p1 ∧ DataW.Trod enc P w base sp held t2 v2 d2 p2 ∧ DataW.Trod enc P w base sp held t3 v3 d3 p3 ∧ DataW.Trod enc P w base sp held t4 v4 d4 p4 := by
 obtain ⟨l⟩ := args; obtain ⟨v0, r0, d0, e0, p0, q0, a0, rfl, rfl, h0, k0⟩ := trodAll_cons h; obtain ⟨v1, r1, d1, e1, p1, q1, a1, rfl, rfl, h1, k1⟩ := trodAll_cons k0; obtain ⟨v2, r2, d2, e2, p2, q2, a2, rfl, rfl, h2, k2⟩ := trodAll_cons k1; obtain ⟨v3, r3, d3, e3, p3, q3, a3, rfl, rfl, h3, k3⟩ := trodAll_cons k2; obtain ⟨v4, r4, d4, e4, p4, q4, a4, rfl, rfl, h4, k4⟩ := trodAll_cons k3; obtain ⟨rfl, rfl, rfl⟩ := trodAll_nil k4; subst a4; subst a3; subst a2; subst a1; simp only at a0; subst a0; exact ⟨v0, d0, p0, v1, d1, p1, v2, d2, p2, v3, d3, p3, v4, d4, p4, rfl, rfl, h0, h1, h2, h3, h4⟩
theorem bsize_le {b : ByteArray} (h : b.size ≤ maxLen) : b.data.toList.length ≤ 9223372036854775807 := by
 have e : b.data.toList.length = b.size := Array.length_toList; rw [e]; exact h
set_option maxRecDepth 100000 in
theorem open_insC {H : Type} {enc : TypeId × Value → H} {W : World} {b0 base : Nat} {sp : Nat → Bool} {held : Bool} {v : Value} {d : DataW H} {p : List MemPlace} {t e : TypeId} {k : IntKind}
  (ht : Tryz.prog.underlying t = some (.slice e)) (he : Tryz.prog.underlying e = some (.int k)) (hc : Tryz.prog.cellsOf e = 1)
  (hv : Value.okWide Tryz.prog W .any b0 t v) (h : DataW.Trod enc Tryz.prog W base sp held t v d p) : ∃ zs, InS k W v zs ∧ (∀ z ∈ zs, (Lit.int k z).wf = true) ∧ ∃ p c, v = .slice p zs.length c ∧ zs.length ≤ c := by
 obtain ⟨a, len, cap, rfl⟩ := okWide_slice ht hv; obtain ⟨fuel, hf⟩ := h; rcases open_ints ht he hc hf with ⟨e1, _⟩ | ⟨a', len', cap', zs, e1, _, hl, hm, hz, _, hcell, hw⟩
 ·have e2 : (Value.slice a len cap) = .slice none 0 0 := by simpa [Value.cells] using e1
  rw [e2]; exact ⟨[], ⟨by simp, .inl ⟨rfl, rfl⟩⟩, by simp, _, _, rfl, Nat.le_refl _⟩
 ·have e2 : (Value.slice a len cap) = .slice (some a') len' cap' := by simpa [Value.cells] using e1
  rw [e2]; have hlen : len' ≤ zs.length := by rw [hz]; split <;> omega
  have hmx : maxLen ≤ 9223372036854775807 := by decide
  have htk : (zs.take len').length = len' := by simp; omega
  refine ⟨zs.take len', ⟨by omega, .inr ⟨a', cap', by rw [htk], fun i z hi => ?_⟩⟩, fun z hz => hw z (List.mem_of_mem_take hz), _, _, by rw [htk], by rw [htk]; exact hl⟩; have hil : i < len' := by
   have := (List.getElem?_eq_some_iff.1 hi).1; omega
  rw [List.getElem?_take_of_lt hil] at hi; rw [hcell i (by omega)]; simp [List.getD_eq_getElem?_getD, hi]
open Go Go.E
def escC (c : UInt8) : List UInt8 := if c = 34 then [34, 34] else [c]
theorem quoteT_esc (s : List UInt8) : quoteT s = 34 :: s.flatMap escC ++ [34] := rfl
theorem esc_take {s : List UInt8} {i : Nat} (h : i < s.length) : (s.take (i + 1)).flatMap escC = (s.take i).flatMap escC ++ escC s[i] := by
 rw [take_snoc' h, List.flatMap_append]; simp
theorem esc_le (s : List UInt8) : (s.flatMap escC).length ≤ 2 * s.length := by
 have := quote_len s; rw [quoteT_esc] at this; simp only [List.length_append, List.length_cons, List.length_nil] at this; omega
theorem ch_of {s : List UInt8} {i : Nat} (h : i < s.length) : ch (byte s i) = s[i] := by
 rw [byte_eq h]; unfold ch; simp
theorem quote_ret (s : List UInt8) (hs : s.length ≤ 1000) (w : World) : Ret Tryz.prog 101 [str s] w (fun v w' => v = str (quoteT s) ∧ Ext w w') := by
 refine Rte Tryz.func101 Tryz.ntmps101 ?_; refine Sa ?_; refine Lwl fun A w0 hbA hx0 hA0 => ?_; replace hA0 : Blk w0 A [.int .u8 34] 5 := hA0; have hz0 := hx0.size; refine Sa ?_; refine CW.loop (ι := Nat × Value) (fun k w' => k.1 ≤ s.length ∧ Ext w w' ∧ Own w' w.heap.size 5 1 k.2 (34 :: (s.take k.1).flatMap escC).length (bcells (34 :: (s.take k.1).flatMap escC))) (fun k => [(0, str s), (3, k.2), (4, .int .i64 (k.1 : Int))]) (fun k => s.length - k.1) (0, .slice (some ⟨A, 0, none⟩) 1 1) ⟨by simp, hx0, ⟨rfl, .inr ⟨A, 1, [], rfl, hA0, by simp, by simp, by omega⟩⟩⟩ Sub3 ?_; rintro ⟨i, v⟩ w1 ⟨hi, hx, hown⟩; dsimp only at hi hown; have hle : ((s.take i).flatMap escC).length ≤ 2 * i := by
  have h1 := esc_le (s.take i); have h2 : (s.take i).length ≤ i := List.length_take_le _ _; omega
 generalize ho : 34 :: (s.take i).flatMap escC = out at hown; have hlo : out.length ≤ 2001 := by rw [← ho]; simp only [List.length_cons]; omega
 have hz := hx.size; show CW _ _ _ _ _ [(0, str s), (3, v), (4, .int .i64 (i : Int))] _; refine Sa ?_; refine Cwc (fun h1 => ?_) fun h1 => ?_; rotate_left
 ·have h1 : i = s.length := by simp at h1; omega
  refine Sa ?_; refine Lwl fun B w2 hbB hx2 hB => ?_; replace hown := hown.ext hx2; replace hx := hx.trans hx2; have hz2 := hx2.size; refine Sa ?_; refine LW.append rfl rfl rfl rfl rfl rfl hown (by omega) hB rfl rfl rfl (by show (out.length + 1) * 2 ≤ 140737488355328; omega) rfl ?_; intro v' w3 hc3 hown' hv'; replace hx := hx.step hc3 (fun k hk => (hown.lt hk).1); refine Sa ?_; replace hown' : Own w3 w.heap.size 5 1 v' (out ++ [ch 34]).length (bcells (out ++ [ch 34])) := own_snoc (by omega) (by omega) hown'; refine LW.string_own rfl hown' rfl rfl rfl rfl rfl rfl rfl ?_; refine Sa ?_; refine QW.body1 Tryz.results101 rfl ⟨?_, hx⟩; rw [← ho, h1, List.take_length, quoteT_esc]; rfl
 have h1 : i < s.length := by simp at h1; omega
 have hby := byte_lt s i; refine Sa ?_; refine Cwc (fun h2 => ?_) fun h2 => ?_
 ·have h2 : byte s i = 34 := by simpa using h2
  refine Sa ?_; refine Lwl fun B w2 hbB hx2 hB => ?_; replace hown := hown.ext hx2; replace hx := hx.trans hx2; have hz2 := hx2.size; refine Sa ?_; refine LW.append rfl rfl rfl rfl rfl rfl hown (by omega) hB rfl rfl rfl (by show (out.length + 1) * 2 ≤ 140737488355328; omega) rfl ?_; intro v' w3 hc3 hown' hv'; replace hx := hx.step hc3 (fun k hk => (hown.lt hk).1); refine Sa ?_; replace hown' : Own w3 w.heap.size 5 1 v' (out ++ [ch 34]).length (bcells (out ++ [ch 34])) := own_snoc (by omega) (by omega) hown'; have hz3 := hx.size; refine Sa ?_; refine Lwl fun C w4 hbC hx4 hC => ?_; replace hown' := hown'.ext hx4; replace hx := hx.trans hx4; have hz4 := hx4.size; refine Sa ?_; refine LW.append rfl rfl rfl rfl rfl rfl hown' (by omega) hC rfl rfl rfl (by show ((out ++ [ch 34]).length + 1) * 2 ≤ 140737488355328; simp; omega) rfl ?_; intro v2 w5 hc5 hown2 hv2; replace hx := hx.step hc5 (fun k hk => (hown'.lt hk).1); replace hown2 := own_snoc hby.1 (by omega) hown2; refine Sa ?_; refine QW.again (i + 1, v2) ⟨h1, hx, ?_⟩ Sub3 (by show s.length - (i + 1) < s.length - i; omega); have e : 34 :: (s.take (i + 1)).flatMap escC = out ++ [ch 34] ++ [ch (byte s i)] := by
   rw [esc_take h1, ← ho]; have : s[i] = 34 := by
    have := ch_of h1; rw [h2] at this; exact this.symm
   rw [ch_of h1, this]; simp [escC, ch]
  dsimp only; rw [e]; exact hown2
 ·have h2 : byte s i ≠ 34 := by simpa using h2
  refine Sa ?_; refine Lwl fun B w2 hbB hx2 hB => ?_; replace hown := hown.ext hx2; replace hx := hx.trans hx2; have hz2 := hx2.size; refine Sa ?_; refine LW.append rfl rfl rfl rfl rfl rfl hown (by omega) hB rfl rfl rfl (by show (out.length + 1) * 2 ≤ 140737488355328; omega) rfl ?_; intro v' w3 hc3 hown' hv'; replace hx := hx.step hc3 (fun k hk => (hown.lt hk).1); refine Sa ?_; replace hown' := own_snoc hby.1 (by omega) hown'; refine Sa ?_; refine QW.again (i + 1, v') ⟨h1, hx, ?_⟩ Sub3 (by show s.length - (i + 1) < s.length - i; omega); have e : 34 :: (s.take (i + 1)).flatMap escC = out ++ [ch (byte s i)] := by
   rw [esc_take h1, ← ho]; have : s[i] ≠ 34 := fun h => h2 (by rw [byte_eq h1, h]; rfl); rw [ch_of h1]; simp [escC, this]
  dsimp only; rw [e]; exact hown'
theorem in_ret (s : List UInt8) (hs : s.length ≤ 1000000000000) (b : Bool) (w : World) : Ret Tryz.prog 103 [str s, .bool b] w (fun v w' => v = str (brkT b s) ∧ Ext w w') := by
 refine Rte Tryz.func103 Tryz.ntmps103 ?_; refine Sa ?_; refine Cwc (fun h1 => ?_) fun h1 => ?_
 ·subst h1; refine Sa ?_; exact QW.body1 Tryz.results103 rfl ⟨rfl, Chg.refl _ _⟩
 ·subst h1; refine Sa ?_; exact QW.body1 Tryz.results103 rfl ⟨rfl, Chg.refl _ _⟩
theorem rank_ret (k : Int) (w : World) : Ret Tryz.prog 104 [.int .i64 k] w (fun v w' => v = .int .i64 (rankK k : Int) ∧ Ext w w') := by
 have fin : ∀ z : Int, (rankK k : Int) = z → (Value.int .i64 z = .int .i64 (rankK k : Int) ∧ Ext w w) := fun z h => ⟨by rw [h], Chg.refl _ _⟩; refine Rte Tryz.func104 Tryz.ntmps104 ?_; refine Sa ?_; by_cases h1 : 9 ≤ k
 ·refine LW.know (t := 6) (c := true) rfl (by simpa using h1) ?_; refine Sa ?_; refine Cwc (fun h2 => ?_) fun h2 => ?_
  ·have h2 : k ≤ 14 := by simpa using h2
   refine Sa ?_; exact QW.body1 Tryz.results104 rfl (fin _ (by unfold rankK; rw [if_neg (by omega), if_pos (by omega)]; rfl))
  have h2 : 14 < k := by simpa using h2
  refine Sa ?_; refine Cwc (fun h3 => ?_) fun h3 => ?_
  ·have h3 : k = 15 := by simpa using h3
   refine Sa ?_; exact QW.body1 Tryz.results104 rfl (fin _ (by subst h3; rfl))
  have h3 : k ≠ 15 := by simpa using h3
  refine Sa ?_; by_cases h4 : k = 16
  ·refine LW.know (t := 16) (c := true) rfl (by simpa using h4) ?_; refine Sa ?_; exact QW.body1 Tryz.results104 rfl (fin _ (by subst h4; rfl))
  refine LW.know (t := 16) (c := false) rfl (by simpa using h4) ?_; refine Sa ?_; refine Cwc (fun h5 => ?_) fun h5 => ?_
  ·have h5 : k = 17 := by simpa using h5
   refine Sa ?_; exact QW.body1 Tryz.results104 rfl (fin _ (by subst h5; rfl))
  have h5 : k ≠ 17 := by simpa using h5
  refine Sa ?_; by_cases h6 : k = 18
  ·refine LW.know (t := 23) (c := true) rfl (by simpa using h6) ?_; refine Sa ?_; exact QW.body1 Tryz.results104 rfl (fin _ (by subst h6; rfl))
  refine LW.know (t := 23) (c := false) rfl (by simpa using h6) ?_; refine Sa ?_; refine Cwc (fun h7 => ?_) fun h7 => ?_
  ·have h7 : k = 19 := by simpa using h7
   refine Sa ?_; exact QW.body1 Tryz.results104 rfl (fin _ (by subst h7; rfl))
  have h7 : k ≠ 19 := by simpa using h7
  refine Sa ?_; refine CW.no rfl (decide_eq_false (by omega)) ?_; refine Sa ?_; exact QW.body1 Tryz.results104 rfl (fin _ (by unfold rankK; rw [if_neg (by omega), if_neg (by omega), if_neg (by omega), if_neg (by omega), if_neg (by omega)]; rfl))
 ·refine LW.know (t := 6) (c := false) rfl (by simpa using h1) ?_; refine Sa ?_; refine CW.no rfl (decide_eq_false (by omega)) ?_; refine Sa ?_; refine LW.know (t := 16) (c := false) rfl (by simp; omega) ?_; refine Sa ?_; refine CW.no rfl (decide_eq_false (by omega)) ?_; refine Sa ?_; refine LW.know (t := 23) (c := false) rfl (by simp; omega) ?_; refine Sa ?_; refine CW.no rfl (decide_eq_false (by omega)) ?_; refine Sa ?_; refine Cwc (fun h8 => ?_) fun h8 => ?_
  ·have h8 : k = 8 := by simpa using h8
   refine Sa ?_; exact QW.body1 Tryz.results104 rfl (fin _ (by subst h8; rfl))
  have h8 : k ≠ 8 := by simpa using h8
  refine Sa ?_; exact QW.body1 Tryz.results104 rfl (fin _ (by unfold rankK; rw [if_neg (by omega), if_neg (by omega), if_neg (by omega), if_neg (by omega), if_neg (by omega)]; rfl))
theorem op_ret (k : Int) (h0 : 9 ≤ k) (h1 : k ≤ 19) (w : World) : Ret Tryz.prog 105 [.int .i64 k] w (fun v w' => v = str (signK k) ∧ Ext w w') := by
 have : k = 9 ∨ k = 10 ∨ k = 11 ∨ k = 12 ∨ k = 13 ∨ k = 14 ∨ k = 15 ∨ k = 16 ∨ k = 17 ∨ k = 18 ∨ k = 19 := by omega
 refine Rte Tryz.func105 Tryz.ntmps105 ?_; refine Sa ?_; refine Lwl fun A w0 hbA hx0 hA0 => ?_; rcases this with rfl | rfl | rfl | rfl | rfl | rfl | rfl | rfl | rfl | rfl | rfl
 all_goals
  refine Sz ?_; exact QW.body1 Tryz.results105 rfl ⟨rfl, hx0⟩
theorem cell_0 {w : World} {a0 : Addr} {cs : List Value} (hc : ∀ j u, cs[j]? = some u → w.cell? (a0.add j) = some u) {v : Value} (h : cs[0]? = some v) : w.cell? (a0.add 0) = some v := hc 0 v h
theorem kid_at {w : World} {p : Option Addr} {c : Nat} {zs : List Int} (h : IntsR w (.slice p zs.length c) zs) {i : Nat} {z : Int} (hz : zs[i]? = some z) : ∃ a, p = some a ∧ w.cell? (a.add i) = some (.int .i64 z) := by
 have hi : i < zs.length := (List.getElem?_eq_some_iff.1 hz).1; obtain ⟨a, e, h⟩ := h.at hi; refine ⟨a, e, ?_⟩; rw [h, List.getD_eq_getElem?_getD, hz]; rfl
theorem shown_ret (l : List NodeD) (p : Option Addr) (c : Nat) (hs : Short l) : ∀ (m : Nat) (t : Tr false) (o i : Nat) (w : World), t.cnt ≤ m → t.Fit → t.Num → Lies l o t → i + 1 = o + t.cnt → t.text.length ≤ 1000000000000 → NodesR w (.slice p l.length c) l → Ret Tryz.prog 77 [.slice p l.length c, .int .i64 (i : Int)] w (fun v w' => v = str t.text ∧ Ext w w')
 | 0, t, _, _, _, hm, _, _, _, _, _, _ => absurd t.cnt_pos (by omega)
 | m + 1, t, o, i, w, hm, hf, hn, hl, hio, htl, hN => by
  have ih := shown_ret l p c hs m; have hnd := hl.node; rw [show o + t.cnt - 1 = i by omega] at hnd; have hi : i < l.length := (List.getElem?_eq_some_iff.1 hnd).1; have hsn := hs _ (List.mem_of_getElem? hnd); have hl1 := hN.1
  cases t with
  | leaf n =>
   obtain ⟨a, kp, kc, rfl, hk, hc⟩ := hN.at hnd; obtain ⟨kd, num, text, ref, to, kids⟩ := n
   change ∀ j u, (nvL ⟨⟨kd, num, text, ref, to, kids⟩, .slice kp kids.length kc⟩)[j]? = some u → _ at hc
   obtain ⟨k0, k1, _, hpl⟩ := hf; have ho := plain_parts hpl; rw [leaf_text hpl k0 k1]; simp only at k0 k1
   change text.length ≤ 1000 ∧ ref.sheet.length ≤ 1000 ∧ to.sheet.length ≤ 1000 at hsn
   refine Rte Tryz.func77 Tryz.ntmps77 ?_; refine Sa ?_; refine Lo ?_; refine LW.load_cells rfl hc rfl rfl rfl rfl ?_; refine Sa ?_; refine Lwa fun B w1 hbB hx1 hB => ?_; refine Sa ?_; refine Lws fun w2 hc2 hB => ?_; have hx : Ext w w2 := hx1.step hc2 (by simp; omega); refine Sa ?_; have : kd = 1 ∨ kd = 2 ∨ kd = 3 ∨ kd = 4 ∨ kd = 5 ∨ kd = 6 := by omega
   rcases this with rfl | rfl | rfl | rfl | rfl | rfl
   ·have hn1 : num ≤ 9223372036854775807 := hn ⟨1, [], num, refN, 0⟩ (by simp [Tr.toks, leafK]); have hn0 : 0 ≤ num := by simpa [okK] using ho
    refine Sa ?_; refine Lc0 rfl rfl (Digits_ret num hn0 hn1 _) ?_; rintro v w3 ⟨rfl, hx3⟩; refine Sa ?_; exact QW.body1 Tryz.results77 rfl ⟨rfl, hx.trans hx3⟩
   ·refine Sa ?_; refine Lc0 rfl rfl (quote_ret text (by omega) _) ?_; rintro v w3 ⟨rfl, hx3⟩; refine Sa ?_; exact QW.body1 Tryz.results77 rfl ⟨rfl, hx.trans hx3⟩
   ·refine Sa ?_; refine Cwc (fun h3 => ?_) fun h3 => ?_
    ·have h3 : num = 1 := by simpa using h3
     refine Sa ?_; exact QW.body1 Tryz.results77 rfl ⟨by simp [h3, trueT], hx⟩
    ·have h3 : num ≠ 1 := by simpa using h3
     refine Sa ?_; exact QW.body1 Tryz.results77 rfl ⟨by simp [h3, falseT], hx⟩
   ·refine Sa ?_; exact QW.body1 Tryz.results77 rfl ⟨rfl, hx⟩
   ·refine Sa ?_; refine LW.load_agg (cs := refL ref) rfl hB rfl rfl rfl ⟨rfl, rfl, rfl, rfl, rfl, trivial⟩ rfl ?_; refine Sa ?_; refine Lc0 rfl rfl (RefText_ret ref (by omega) _) ?_; rintro v w3 ⟨rfl, hx3⟩; refine Sa ?_; exact QW.body1 Tryz.results77 rfl ⟨rfl, hx.trans hx3⟩
   ·have hb : ∀ r : RefD, (textT r).length ≤ r.sheet.length + 10 := fun r => by
     unfold textT
     split
     ·exact textB_len (by assumption)
     ·simp
    have hb1 := hb ref; have hb2 := hb to; refine Sa ?_; refine Cwd ?_; refine Sq ?_; refine QL.load_agg (cs := refL ref) rfl hB rfl rfl rfl ⟨rfl, rfl, rfl, rfl, rfl, trivial⟩ rfl ?_; refine Sq ?_; refine QL.call0 (v := str (textT ref)) rfl rfl (fun w' _ => RefText_ret ref (by omega) w') ?_; refine Sq ?_; refine QL.load_agg (cs := refL to) rfl hB rfl rfl rfl ⟨rfl, rfl, rfl, rfl, rfl, trivial⟩ rfl ?_; refine Sq ?_; refine QL.call0 (v := str (textT to)) rfl rfl (fun w' _ => RefText_ret to (by omega) w') ?_; refine Sq ?_; refine QL.nil fun w3 hx3 => ?_; refine Sa ?_
    exact QW.body1 Tryz.results77 rfl ⟨rfl, hx.trans hx3⟩
  | neg b =>
   have hna : b.Num := fun u hu => hn u (by simp only [Tr.toks]; exact List.mem_cons_of_mem _ (sub_brk hu)); have hlb := hl.neg; have hcp := b.cnt_pos; rw [neg_text] at htl ⊢; have hbl := brkT_len (decide (b.rank < 5)) b.text; simp only [List.length_append, List.length_cons, List.length_nil] at htl; simp only [Tr.cnt] at hm; obtain ⟨j, hj⟩ : ∃ j, j = o + b.cnt - 1 := ⟨_, rfl⟩; have hbn := hlb.node; rw [← hj] at hbn; have hjl : j < l.length := (List.getElem?_eq_some_iff.1 hbn).1; obtain ⟨a, kp, kc, rfl, hk, hc⟩ := hN.at hnd; obtain ⟨a', kp', kc', ea, -, hcb⟩ := hN.at hbn; obtain rfl := Option.some.inj ea
   change IntsR w (.slice kp [((o + b.cnt - 1 : Nat) : Int)].length kc) [((o + b.cnt - 1 : Nat) : Int)] at hk
   change ∀ j u, (nvL ⟨{ kind := 8, kids := [((o + b.cnt - 1 : Nat) : Int)] }, .slice kp 1 kc⟩)[j]? = some u → _ at hc
   rw [← hj] at hk hc; obtain ⟨ka, rfl, hk0⟩ := kid_at hk (i := 0) rfl; have hb0 := cell_0 hcb rfl; refine Rte Tryz.func77 Tryz.ntmps77 ?_; refine Sa ?_; refine Lo ?_; refine LW.load_cells rfl hc rfl rfl rfl rfl ?_; refine Sa ?_; refine Lwa fun B w1 hbB hx1 hB => ?_; refine Sa ?_; refine Lws fun w2 hc2 hB => ?_; have hx : Ext w w2 := hx1.step hc2 (by simp; omega); refine Sa ?_; replace hk0 := cell_ext hx hk0; replace hb0 := cell_ext hx hb0; refine Sa ?_; refine Cwd ?_; refine Sq ?_; refine Qo ?_; refine Qp hk0 ?_; refine QL.call0 (v := str b.text) rfl rfl (fun w' hw => ih b o j w' (by omega) hf hna hlb (by omega) (by omega) ((hN.ext hx).ext hw)) ?_; refine Sq ?_; refine Qo ?_; refine Qp hk0 ?_; refine Qo ?_; refine Qn ?_; refine Qp hb0 ?_; refine QL.call0 rfl rfl (fun w' hw => rank_ret (rootN o b).kind w') ?_; refine Sq ?_; refine QL.call0 rfl rfl (fun w' hw => in_ret b.text (by omega) _ w') ?_; rw [root_rank o b hf]; have hd : decide (((b.rank : Nat) : Int) < 5) = decide (b.rank < 5) := by rw [decide_eq_decide]; omega
   rw [hd]; refine Sq ?_; refine QL.nil fun w3 hx3 => ?_; refine Sa ?_
   exact QW.body1 Tryz.results77 rfl ⟨rfl, hx.trans hx3⟩
  | two k b d =>
   obtain ⟨hk9, hk19, hfb, hfd⟩ := hf; have hnb : b.Num := fun u hu => hn u (by simp only [Tr.toks]; exact List.mem_append_left _ (sub_brk hu)); have hnd' : d.Num := fun u hu => hn u (by simp only [Tr.toks]; exact List.mem_append_right _ (List.mem_cons_of_mem _ (sub_brk hu))); obtain ⟨hlb, hld⟩ := hl.two; have hcb := b.cnt_pos; have hcd := d.cnt_pos; rw [two_text] at htl ⊢; have hbl := brkT_len (decide (b.rank < rankK k)) b.text; have hdl := brkT_len (decide (d.rank < rankK k + 1)) d.text; simp only [List.length_append] at htl; simp only [Tr.cnt] at hm; obtain ⟨j, hj⟩ : ∃ j, j = o + b.cnt - 1 := ⟨_, rfl⟩; obtain ⟨q, hq⟩ : ∃ q, q = o + b.cnt + d.cnt - 1 := ⟨_, rfl⟩; have hbn := hlb.node; have hdn := hld.node; rw [← hj] at hbn; rw [← hq] at hdn; have hjl : j < l.length := (List.getElem?_eq_some_iff.1 hbn).1; have hql : q < l.length := (List.getElem?_eq_some_iff.1 hdn).1; obtain ⟨a, kp, kc, rfl, hk, hc⟩ := hN.at hnd; obtain ⟨a', kp', kc', ea, -, hcb0⟩ := hN.at hbn; obtain rfl := Option.some.inj ea; obtain ⟨a', kp', kc', ea, -, hcd0⟩ := hN.at hdn; obtain rfl := Option.some.inj ea
   change IntsR w (.slice kp [((o + b.cnt - 1 : Nat) : Int), ((o + b.cnt + d.cnt - 1 : Nat) : Int)].length kc) [((o + b.cnt - 1 : Nat) : Int), ((o + b.cnt + d.cnt - 1 : Nat) : Int)] at hk
   change ∀ j u, (nvL ⟨{ kind := k, kids := [((o + b.cnt - 1 : Nat) : Int), ((o + b.cnt + d.cnt - 1 : Nat) : Int)] }, .slice kp 2 kc⟩)[j]? = some u → _ at hc
   rw [← hj, ← hq] at hk hc; obtain ⟨ka, rfl, hk0⟩ := kid_at hk (i := 0) rfl; obtain ⟨ka', ek, hk1⟩ := kid_at hk (i := 1) rfl; obtain rfl := Option.some.inj ek; have hb0 := cell_0 hcb0 rfl; have hd0 := cell_0 hcd0 rfl; refine Rte Tryz.func77 Tryz.ntmps77 ?_; refine Sa ?_; refine Lo ?_; refine LW.load_cells rfl hc rfl rfl rfl rfl ?_; refine Sa ?_; refine Lwa fun B w1 hbB hx1 hB => ?_; refine Sa ?_; refine Lws fun w2 hc2 hB => ?_; have hx : Ext w w2 := hx1.step hc2 (by simp; omega); refine Sa ?_; replace hk0 := cell_ext hx hk0; replace hk1 := cell_ext hx hk1; refine Sa ?_; refine CW.no rfl (decide_eq_false (show ¬ k = 1 by omega)) ?_; refine Sa ?_; refine CW.no rfl (decide_eq_false (show ¬ k = 2 by omega)) ?_; refine Sa ?_; refine CW.no rfl (decide_eq_false (show ¬ k = 3 by omega)) ?_; refine Sa ?_; refine CW.no rfl (decide_eq_false (show ¬ k = 4 by omega)) ?_; refine Sa ?_; refine CW.no rfl (decide_eq_false (show ¬ k = 5 by omega)) ?_; refine Sa ?_; refine CW.no rfl (decide_eq_false (show ¬ k = 6 by omega)) ?_; refine Sa ?_; refine CW.no rfl (decide_eq_false (show ¬ k = 7 by omega)) ?_; refine Sa ?_; refine CW.no rfl (decide_eq_false (show ¬ k = 8 by omega)) ?_; refine Sa ?_; refine Cwd ?_; refine Sq ?_; refine Qo ?_; refine Qp hk0 ?_; refine Sq ?_; refine Qo ?_; refine Qp hk1 ?_; refine Sq ?_; refine QL.nil fun w3 hx3 => ?_; replace hx := hx.trans hx3; replace hB := hB.ext hx3; replace hb0 := cell_ext hx hb0; replace hd0 := cell_ext hx hd0; refine Sa ?_; refine Cwd ?_; refine Sq ?_; refine QL.call0 (v := str b.text) rfl rfl (fun w' hw => ih b o j w' (by omega) hfb hnb hlb (by omega) (by omega) ((hN.ext hx).ext hw)) ?_; refine Sq ?_; refine Qo ?_; refine Qn ?_; refine Qp hb0 ?_; refine QL.call0 rfl rfl (fun w' hw => rank_ret (rootN o b).kind w') ?_; refine Sq ?_; refine QL.call0 rfl rfl (fun w' hw => rank_ret k w') ?_; refine Sq ?_; refine QL.call0 rfl rfl (fun w' hw => in_ret b.text (by omega) _ w') ?_; refine Sq ?_; refine QL.call0 rfl rfl (fun w' hw => op_ret k hk9 hk19 w') ?_; rw [root_rank o b hfb]; have hd1 : decide (((b.rank : Nat) : Int) < ((rankK k : Nat) : Int)) = decide (b.rank < rankK k) := by rw [decide_eq_decide]; omega
   rw [hd1]; refine Sq ?_; refine QL.call0 (v := str d.text) rfl rfl (fun w' hw => ih d (o + b.cnt) q w' (by omega) hfd hnd' hld (by omega) (by omega) ((hN.ext hx).ext hw)) ?_; refine Sq ?_; refine Qo ?_; refine Qn ?_; refine Qp hd0 ?_; refine QL.call0 rfl rfl (fun w' hw => rank_ret (rootN (o + b.cnt) d).kind w') ?_; refine Sq ?_; refine QL.call0 rfl rfl (fun w' hw => rank_ret k w') ?_; refine Sq ?_; refine QL.call0 rfl rfl (fun w' hw => in_ret d.text (by omega) _ w') ?_; rw [root_rank (o + b.cnt) d hfd]; have hd2 : decide (((d.rank : Nat) : Int) ≤ ((rankK k : Nat) : Int)) = decide (d.rank < rankK k + 1) := by rw [decide_eq_decide]; omega
   rw [hd2]; refine Sq ?_; refine QL.nil fun w4 hx4 => ?_; refine Sa ?_
   exact QW.body1 Tryz.results77 rfl ⟨rfl, hx.trans hx4⟩
  | call x ks =>
   have hfk := hf.2; have hnk := call_num hn; have hlk := hl.call; rw [call_text x o] at htl ⊢; simp only [List.length_append, List.length_cons, List.length_nil] at htl; simp only [Tr.cnt] at hm; obtain ⟨a, kp, kc, rfl, hk, hc⟩ := hN.at hnd
   change IntsR w (.slice kp (ks.kids o).length kc) (ks.kids o) at hk
   change ∀ j u, (nvL ⟨{ kind := 7, text := x, kids := ks.kids o }, .slice kp (ks.kids o).length kc⟩)[j]? = some u → _ at hc
   have hmem := row_mem ks hfk hnk hlk; obtain ⟨kids, hkids⟩ : ∃ kids, kids = ks.kids o := ⟨_, rfl⟩; rw [← hkids] at hk hc; rw [row_kids] at hkids; have hkl : kids.length = (ks.row o).length := by rw [hkids]; simp
   obtain ⟨r, hr⟩ : ∃ r, r = ks.row o := ⟨_, rfl⟩; rw [← hr] at hmem hkids hkl htl ⊢; refine Rte Tryz.func77 Tryz.ntmps77 ?_; refine Sa ?_; refine Lo ?_; refine LW.load_cells rfl hc rfl rfl rfl rfl ?_; refine Sa ?_; refine Lwa fun B w1 hbB hx1 hB => ?_; refine Sa ?_; refine Lws fun w2 hc2 hB => ?_; have hx : Ext w w2 := hx1.step hc2 (by simp; omega); refine Sa ?_; replace hk := hk.ext hx; replace hN := hN.ext hx; refine Sa ?_; refine CW.loop (ι := Nat) (fun n w' => n ≤ r.length ∧ Ext w w' ∧ Ext w2 w') (fun n => [(0, .slice (some a) l.length c), (5, .pointer (some ⟨B, 0, none⟩)), (6, str (x ++ ([40] ++ rowS r n))), (7, .int .i64 (n : Int))]) (fun n => r.length - n) 0 ⟨by omega, hx, Chg.refl _ _⟩ Sub4 ?_; rintro n w3 ⟨hn0, hx3, hx23⟩; replace hB := hB.ext hx23; replace hk := hk.ext hx23; replace hN := hN.ext hx23; have hmono := rowS_mono (r := r) n (r.length - n) (by omega); rw [show n + (r.length - n) = r.length by omega] at hmono; refine Sa ?_; refine Cwc (fun h1 => ?_) fun h1 => ?_; rotate_left
   ·have h1 : n = r.length := by simp at h1; omega
    subst h1; have hcat : (x ++ ([40] ++ rowS r r.length)).length ≤ 2000000000000 := by simp only [List.length_append, List.length_cons, List.length_nil]; omega
    refine Sa ?_; refine QW.body1 Tryz.results77 rfl ⟨?_, hx3⟩; simp
   have h1 : n < r.length := by simp at h1; omega
   obtain ⟨⟨o', b⟩, hrn⟩ : ∃ y, r[n]? = some y := ⟨_, List.getElem?_eq_getElem h1⟩; obtain ⟨hlb, hfb, hnb, hcb, htb⟩ := hmem _ (List.mem_of_getElem? hrn); simp only at hlb hfb hnb hcb htb; have hbp := b.cnt_pos; have hk63 := hk.1; obtain ⟨j, hj⟩ : ∃ j, j = o' + b.cnt - 1 := ⟨_, rfl⟩; have hkn : kids[n]? = some (j : Int) := by rw [hkids, List.getElem?_map, hrn, hj]; rfl
   obtain ⟨ka, rfl, hk0⟩ := kid_at hk hkn; rw [show n = ((n : Nat) : Int).toNat * 1 by omega] at hk0; have hbn := hlb.node; rw [← hj] at hbn; have hjl : j < l.length := (List.getElem?_eq_some_iff.1 hbn).1; have hstep := rowS_step hrn; simp only at hstep; have hm2 := rowS_mono (r := r) (n + 1) (r.length - (n + 1)) (by omega); rw [show n + 1 + (r.length - (n + 1)) = r.length by omega] at hm2; have hsl := congrArg List.length hstep; simp only [List.length_append] at hsl; have hcat : (x ++ ([40] ++ rowS r n)).length ≤ 2000000000000 := by simp only [List.length_append, List.length_cons, List.length_nil]; omega
   refine Sa ?_; refine Cwc (fun h2 => ?_) fun h2 => ?_
   ·have h2 : 0 < n := by simp at h2; omega
    have e : x ++ ([40] ++ rowS r (n + 1)) = x ++ ([40] ++ rowS r n) ++ [44] ++ b.text := by rw [hstep, if_pos h2]; simp only [List.append_assoc]
    have hcat2 : (x ++ ([40] ++ rowS r n) ++ [44]).length ≤ 2000000000001 := by rw [List.length_append]; simp only [List.length_cons, List.length_nil]; omega
    refine Sa ?_; refine Lo ?_; refine Lp hk0 ?_; refine Lc0 rfl rfl (ih b o' j w3 (by omega) hfb hnb hlb (by omega) (by omega) hN) ?_; rintro v w4 ⟨rfl, hx4⟩; refine Sa ?_; rw [← e]; refine QW.again (n + 1) ⟨h1, hx3.trans hx4, hx23.trans hx4⟩ Sub4 (by omega)
   ·have h2 : ¬ 0 < n := by simp at h2; omega
    have e : x ++ ([40] ++ rowS r (n + 1)) = x ++ ([40] ++ rowS r n) ++ b.text := by rw [hstep, if_neg h2]; simp only [List.append_assoc, List.append_nil]
    refine Sa ?_; refine Lo ?_; refine Lp hk0 ?_; refine Lc0 rfl rfl (ih b o' j w3 (by omega) hfb hnb hlb (by omega) (by omega) hN) ?_; rintro v w4 ⟨rfl, hx4⟩; refine Sa ?_; rw [← e]; refine QW.again (n + 1) ⟨h1, hx3.trans hx4, hx23.trans hx4⟩ Sub4 (by omega)
theorem rPrint_ret (l : List NodeD) (v : Value) (w : World) (hN : NodesR w v l) (hs : Short l) (hkl : ∀ n ∈ l, n.kids.length ≤ 1000000) (hnum : NumOk l) : Ret Tryz.prog 55 [v] w (fun v' w' => v' = str (printT l) ∧ Ext w w') := by
 obtain ⟨p, c, rfl⟩ := hN.slice; have hl := hN.1; have h0 := fun w => rTree_ret l (.slice p l.length c) w; refine Rte Tryz.func55 Tryz.ntmps55 ?_; refine Sa ?_; refine Lc0 rfl rfl (rTree_ret l _ w hN hs hkl) ?_; rintro v w1 ⟨rfl, hx⟩; replace hN := hN.ext hx; refine Sa ?_; refine Cwc (fun h1 => ?_) fun h1 => ?_
 ·have h1 : treeB l = false := by simpa using h1
  refine Sa ?_; exact QW.body1 Tryz.results55 rfl ⟨by rw [printT_no h1], hx⟩
 have h1 : treeB l = true := by simpa using h1
 obtain ⟨t, rfl, hf⟩ := tree_of h1; have hcp := t.cnt_pos; have hlen := t.flat_len 0; have hn := hnum t hf rfl; have htl := t.len_le 0 hf hn (fun n hm => (hs n hm).1); simp only [cond_false] at htl; rw [printT_of hf]; refine Sa ?_; have e : (((t.flat 0).length : Int) - 1) = ((t.cnt - 1 : Nat) : Int) := by omega
 rw [e]; refine Lc0 rfl rfl (shown_ret (t.flat 0) p c hs t.cnt t 0 (t.cnt - 1) w1 (Nat.le_refl _) hf hn (Lies.whole t) (by omega) (by omega) hN) ?_; rintro v w2 ⟨rfl, hx2⟩; refine Sa ?_; exact QW.body1 Tryz.results55 rfl ⟨rfl, hx.trans hx2⟩
theorem replaceK_ne {c : UInt8} (hc : c ≠ 34) (k : Nat) (s : List UInt8) : Lib.replaceK [34] [34, 34] k (c :: s) = c :: Lib.replaceK [34] [34, 34] k s := by
 cases k with
 | zero => rfl
 | succ k =>
  have hp : ([34] : List UInt8).isPrefixOf (c :: s) = false := by simp [List.isPrefixOf, Ne.symm hc]
  have hix : Lib.index (c :: s) [34] = if Lib.index s [34] == -1 then -1 else Lib.index s [34] + 1 := by rw [Lib.index, hp]; simp
  have hge := Lib.index_ge s [34]; by_cases hm : Lib.index s [34] = -1
  ·rw [Lib.replaceK, Lib.replaceK, hix, if_pos (beq_iff_eq.2 hm), hm]; simp
  ·have e : Lib.index s [34] = ((Lib.index s [34]).toNat : Int) := by omega
   rw [if_neg (by simpa using hm)] at hix; have e2 : Lib.index (c :: s) [34] = (((Lib.index s [34]).toNat + 1 : Nat) : Int) := by omega
   rw [Lib.replaceK_hit _ _ _ _ _ e2, Lib.replaceK_hit _ _ _ _ _ e]; simp
theorem replaceK_eq (k : Nat) (s : List UInt8) : Lib.replaceK [34] [34, 34] (k + 1) (34 :: s) = [34, 34] ++ Lib.replaceK [34] [34, 34] k s := by
 have hix : Lib.index (34 :: s) [34] = ((0 : Nat) : Int) := by rw [Lib.index]; simp [List.isPrefixOf]
 rw [Lib.replaceK_hit _ _ _ _ _ hix]; simp
theorem replaceK_esc : ∀ (s : List UInt8), Lib.replaceK [34] [34, 34] (Lib.count s [34]) s = s.flatMap escC
 | [] => by
  cases Lib.count [] [34] with
  | zero => rfl
  | succ k => rw [Lib.replaceK]; rfl
 | c :: s => by
  by_cases h : c = 34
  ·subst h; rw [Lib.count_cons_eq, Nat.add_comm, replaceK_eq, replaceK_esc s]; rfl
  ·rw [Lib.count_cons_ne c 34 s h, replaceK_ne h, replaceK_esc s]; simp [escC, h]
theorem replace_esc (s : List UInt8) : Lib.replaceAll s [34] [34, 34] = s.flatMap escC := by
 have : Lib.replaceAll s [34] [34, 34] = Lib.replaceK [34] [34, 34] (Lib.count s [34]) s := rfl; rw [this, replaceK_esc]
structure Fp (w w' : World) : Prop where
 size : w.heap.size ≤ w'.heap.size
 blk : ∀ b l T, Blk w b l T → T ≠ 121 → T ≠ 5 → Blk w' b l T
theorem Fp.trans {a b c : World} (h : Fp a b) (k : Fp b c) : Fp a c := ⟨Nat.le_trans h.size k.size, fun x l T hx h1 h2 => k.blk x l T (h.blk x l T hx h1 h2) h1 h2⟩
theorem Fp.ext {a b : World} (h : Ext a b) : Fp a b := ⟨h.size, fun _ _ _ hx _ _ => hx.ext h⟩
theorem Fp.chg {S : List Nat} {a b : World} (h : Chg S a b) (hs : ∀ k ∈ S, ∀ l T, Blk a k l T → T = 121 ∨ T = 5) : Fp a b :=
 ⟨h.size, fun x l T hx h1 h2 => hx.chg h (fun hm => by rcases hs x hm l T hx with e | e <;> contradiction)⟩
structure SC where
 l : List NodeD
 p : Option Addr
 c : Nat
 b : Nat
 w0 : World
structure SC.Ok (s : SC) : Prop where
 nodes : NodesR s.w0 (.slice s.p s.l.length s.c) s.l
 short : Short s.l
 new : s.w0.heap.size ≤ s.b
 glob : Glob s.w0
def Pr (s : SC) (w : World) (out : List UInt8) : Prop :=
 Ext s.w0 w ∧ ∃ v, Blk w s.b [.slice s.p s.l.length s.c, v] 121 ∧ Own w s.w0.heap.size 5 1 v out.length (bcells out)
theorem Pr.ext {s : SC} {w w' : World} {out : List UInt8} (h : Pr s w out) (x : Ext w w') : Pr s w' out := by
 obtain ⟨h0, v, hB, ho⟩ := h; exact ⟨h0.trans x, v, hB.ext x, ho.ext x⟩
theorem put_pr {s : SC} (hc : s.Ok) {w : World} {out : List UInt8} (h : Pr s w out) (x : List UInt8) (hl : out.length + x.length ≤ 10000000000000) : Ret Tryz.prog 152 [.pointer (some ⟨s.b, 0, none⟩), str x] w (fun v w' => v = .tuple #[] ∧ Pr s w' (out ++ x) ∧ Fp w w') := by
 obtain ⟨h0, v, hB, ho⟩ := h; have hz := h0.size; have hnot : ∀ {w : World} {v : Value} {n : Nat} {xs l : List Value}, Own w s.w0.heap.size 5 1 v n xs → Blk w s.b l 121 → ∀ j, j ∈ vblk v → j ∉ [s.b] := fun {w v n xs l} ho hB j hj hb => by
  simp only [List.mem_singleton] at hb; subst hb; obtain ⟨_, ⟨e, _⟩ | ⟨g, cap, sp, e, hg, _⟩⟩ := ho
  ·rw [e] at hj; simp [vblk] at hj
  ·rw [e] at hj; simp [vblk] at hj; exact absurd (hg.inj (hj ▸ hB)) (by decide)
 refine Rte Tryz.func152 Tryz.ntmps152 ?_; refine Sa ?_; refine LW.append_str rfl rfl rfl rfl rfl rfl rfl rfl rfl ho hz (by show (out.length + x.length) * 2 ≤ _; omega) rfl ?_; intro v' w1 hc1 ho1 hv1; have hf1 : Fp w w1 := Fp.chg hc1 (fun k hk l T hb => .inr (by
  obtain ⟨_, ⟨e, _⟩ | ⟨g, cap, sp, e, hg, _⟩⟩ := ho
  ·rw [e] at hk; simp [vblk] at hk
  ·rw [e] at hk; simp [vblk] at hk; subst hk; exact hb.inj hg))
 have hx1 : Ext s.w0 w1 := h0.step hc1 (fun k hk => (ho.lt hk).1); have hB1 := hB.chg hc1 (fun hm => hnot ho hB _ hm (by simp)); obtain ⟨p1, c1, rfl⟩ := ho1.slice; have hB2 := hB1; refine Sa ?_; refine Lwt fun w2 hc2 hB1 => ?_; replace hB1 : Blk w2 s.b [.slice s.p s.l.length s.c, .slice p1 (out.length + x.length) c1] 121 := hB1; have hf2 : Fp w1 w2 := Fp.chg hc2 (fun k hk l T hb => by simp at hk; subst hk; exact .inl (hb.inj hB2)); have ho2 := ho1.chg hc2 (hnot ho1 hB2); refine Sa ?_; refine QW.body_n (rs := []) (vs := []) Tryz.results152 trivial rfl ⟨rfl, ⟨hx1.step hc2 (by simpa using hc.new), _, hB1, ?_⟩, hf1.trans hf2⟩; have e1 : bcells (out ++ x) = bcells out ++ bcells x := by simp [bcells]
 rw [e1, List.length_append]; exact ho2
def sgnT (k : Int) : List UInt8 := if k = 8 then [45] else if 9 ≤ k ∧ k ≤ 19 then signK k else []
theorem sgn_ret (k : Int) (w : World) : Ret Tryz.prog 156 [.int .i64 k] w (fun v w' => v = .tuple #[str (sgnT k), .int .i64 (rankK k : Int)] ∧ Ext w w') := by
 refine Rte Tryz.func156 Tryz.ntmps156 ?_; refine Sa ?_; refine Cwc (fun q9 => ?_) fun q9 => ?_
 ·have q9 : k = 9 := by simpa using q9
  subst q9; refine Sa ?_; exact QW.body2 Tryz.results156 rfl rfl ⟨rfl, Chg.refl _ _⟩
 have q9 : ¬ k = 9 := by simpa using q9
 refine Sa ?_; refine Cwc (fun q10 => ?_) fun q10 => ?_
 ·have q10 : k = 10 := by simpa using q10
  subst q10; refine Sa ?_; exact QW.body2 Tryz.results156 rfl rfl ⟨rfl, Chg.refl _ _⟩
 have q10 : ¬ k = 10 := by simpa using q10
 refine Sa ?_; refine Cwc (fun q11 => ?_) fun q11 => ?_
 ·have q11 : k = 11 := by simpa using q11
  subst q11; refine Sa ?_; exact QW.body2 Tryz.results156 rfl rfl ⟨rfl, Chg.refl _ _⟩
 have q11 : ¬ k = 11 := by simpa using q11
 refine Sa ?_; refine Cwc (fun q12 => ?_) fun q12 => ?_
 ·have q12 : k = 12 := by simpa using q12
  subst q12; refine Sa ?_; exact QW.body2 Tryz.results156 rfl rfl ⟨rfl, Chg.refl _ _⟩
 have q12 : ¬ k = 12 := by simpa using q12
 refine Sa ?_; refine Cwc (fun q13 => ?_) fun q13 => ?_
 ·have q13 : k = 13 := by simpa using q13
  subst q13; refine Sa ?_; exact QW.body2 Tryz.results156 rfl rfl ⟨rfl, Chg.refl _ _⟩
 have q13 : ¬ k = 13 := by simpa using q13
 refine Sa ?_; refine Cwc (fun q14 => ?_) fun q14 => ?_
 ·have q14 : k = 14 := by simpa using q14
  subst q14; refine Sa ?_; exact QW.body2 Tryz.results156 rfl rfl ⟨rfl, Chg.refl _ _⟩
 have q14 : ¬ k = 14 := by simpa using q14
 refine Sa ?_; refine Cwc (fun q15 => ?_) fun q15 => ?_
 ·have q15 : k = 15 := by simpa using q15
  subst q15; refine Sa ?_; exact QW.body2 Tryz.results156 rfl rfl ⟨rfl, Chg.refl _ _⟩
 have q15 : ¬ k = 15 := by simpa using q15
 refine Sa ?_; refine Cwc (fun q16 => ?_) fun q16 => ?_
 ·have q16 : k = 16 := by simpa using q16
  subst q16; refine Sa ?_; exact QW.body2 Tryz.results156 rfl rfl ⟨rfl, Chg.refl _ _⟩
 have q16 : ¬ k = 16 := by simpa using q16
 refine Sa ?_; refine Cwc (fun q17 => ?_) fun q17 => ?_
 ·have q17 : k = 17 := by simpa using q17
  subst q17; refine Sa ?_; exact QW.body2 Tryz.results156 rfl rfl ⟨rfl, Chg.refl _ _⟩
 have q17 : ¬ k = 17 := by simpa using q17
 refine Sa ?_; refine Cwc (fun q18 => ?_) fun q18 => ?_
 ·have q18 : k = 18 := by simpa using q18
  subst q18; refine Sa ?_; exact QW.body2 Tryz.results156 rfl rfl ⟨rfl, Chg.refl _ _⟩
 have q18 : ¬ k = 18 := by simpa using q18
 refine Sa ?_; refine Cwc (fun q19 => ?_) fun q19 => ?_
 ·have q19 : k = 19 := by simpa using q19
  subst q19; refine Sa ?_; exact QW.body2 Tryz.results156 rfl rfl ⟨rfl, Chg.refl _ _⟩
 have q19 : ¬ k = 19 := by simpa using q19
 refine Sa ?_; refine Cwc (fun q8 => ?_) fun q8 => ?_
 ·have q8 : k = 8 := by simpa using q8
  subst q8; refine Sa ?_; exact QW.body2 Tryz.results156 rfl rfl ⟨rfl, Chg.refl _ _⟩
 have q8 : ¬ k = 8 := by simpa using q8
 refine Sa ?_; refine QW.body2 Tryz.results156 rfl rfl ⟨?_, Chg.refl _ _⟩; have e1 : sgnT k = [] := by unfold sgnT; rw [if_neg q8, if_neg (by omega)]
 have e2 : rankK k = 6 := by unfold rankK; rw [if_neg q8, if_neg (by omega), if_neg (by omega), if_neg (by omega), if_neg (by omega)]
 rw [e1, e2]; rfl
def ND (s : SC) (f : FuncId) (t : Tr false) : Prop := ∀ (o i : Nat) (out : List UInt8) (w : World), t.Fit → t.Num → Lies s.l o t → i + 1 = o + t.cnt → out.length + t.text.length ≤ 1000000000000 → Pr s w out → Ret Tryz.prog f [.pointer (some ⟨s.b, 0, none⟩), .int .i64 (i : Int)] w (fun v w' => v = .tuple #[] ∧ Pr s w' (out ++ t.text) ∧ Fp w w')
theorem operand_ret {s : SC} (hc : s.Ok) (t : Tr false) (ht : ND s 91 t) (least : Nat) (o i : Nat) (out : List UInt8) (w : World) (hf : t.Fit) (hn : t.Num) (hl : Lies s.l o t) (hio : i + 1 = o + t.cnt) (htl : out.length + (brkT (decide (t.rank < least)) t.text).length ≤ 1000000000000) (h : Pr s w out) :
  Ret Tryz.prog 155 [.pointer (some ⟨s.b, 0, none⟩), .int .i64 (i : Int), .int .i64 (least : Int)] w (fun v w' => v = .tuple #[] ∧ Pr s w' (out ++ brkT (decide (t.rank < least)) t.text) ∧ Fp w w') := by
 have hnd := hl.node; rw [show o + t.cnt - 1 = i by omega] at hnd; have hi : i < s.l.length := (List.getElem?_eq_some_iff.1 hnd).1; have hpr := h; obtain ⟨h0, v, hB, ho⟩ := h; have hN := hc.nodes.ext h0; obtain ⟨a, kp, kc, ea, -, hc0⟩ := hN.at hnd; rw [ea] at hB; have hk0 := cell_0 hc0 rfl; have hcp := t.cnt_pos; have hl1 := hN.1; have hbl := brkT_len (decide (t.rank < least)) t.text; refine Rte Tryz.func155 Tryz.ntmps155 ?_; refine Sa ?_; refine Lo ?_; refine Ln ?_; refine Lp hk0 ?_; refine Lc0 rfl rfl (sgn_ret (rootN o t).kind w) ?_; rintro v w1 ⟨rfl, hx1⟩; rw [root_rank o t hf]; replace hpr := hpr.ext hx1; refine Sa ?_; refine Cwc (fun h1 => ?_) fun h1 => ?_
 ·have h1 : ¬ t.rank < least := by simp at h1; omega
  have e : brkT (decide (t.rank < least)) t.text = t.text := by simp [brkT, h1]
  rw [e] at htl ⊢; refine Sa ?_; refine Lc0 rfl rfl (ht o i out w1 hf hn hl hio htl hpr) ?_; rintro v w2 ⟨rfl, hp2, hf2⟩; refine Sa ?_; exact QW.body (rs := []) (vs := []) Tryz.results155 trivial rfl ⟨rfl, hp2, (Fp.ext hx1).trans hf2⟩
 ·have h1 : t.rank < least := by simp at h1; omega
  have e : brkT (decide (t.rank < least)) t.text = [40] ++ t.text ++ [41] := by simp [brkT, h1]
  rw [e] at htl ⊢; simp only [List.length_append, List.length_cons, List.length_nil] at htl; refine Sa ?_; refine Lc0 rfl rfl (put_pr hc hpr [40] (by simp; omega)) ?_; rintro v w2 ⟨rfl, hp2, hf2⟩; refine Sa ?_; refine Lc0 rfl rfl (ht o i _ w2 hf hn hl hio (by simp; omega) hp2) ?_; rintro v w3 ⟨rfl, hp3, hf3⟩; refine Sa ?_; refine Lc0 rfl rfl (put_pr hc hp3 [41] (by simp; omega)) ?_; rintro v w4 ⟨rfl, hp4, hf4⟩; refine Sa ?_; refine QW.body_n (rs := []) (vs := []) Tryz.results155 trivial rfl ⟨rfl, by simpa [List.append_assoc] using hp4, (((Fp.ext hx1).trans hf2).trans hf3).trans hf4⟩
theorem text_len10 (r : RefD) : (textT r).length ≤ r.sheet.length + 10 := by
 unfold textT
 split
 ·exact textB_len (by assumption)
 ·simp
theorem pleaf_ret {s : SC} (hc : s.Ok) (n : NodeD) (q : Option Addr) (m k : Nat) (out : List UInt8) (w : World) (hf : (Tr.leaf n).Fit) (hn : (Tr.leaf n).Num) (hsh : n.text.length ≤ 1000 ∧ n.ref.sheet.length ≤ 1000 ∧ n.to.sheet.length ≤ 1000) (htl : out.length + (Tr.leaf n).text.length ≤ 1000000000000) (h : Pr s w out) :
  Ret Tryz.prog 118 [.pointer (some ⟨s.b, 0, none⟩), .agg ⟨nvL ⟨n, .slice q m k⟩⟩] w (fun v w' => v = .tuple #[] ∧ Pr s w' (out ++ (Tr.leaf n).text) ∧ Fp w w') := by
 obtain ⟨kd, num, text, ref, to, kids⟩ := n; obtain ⟨k0, k1, _, hpl⟩ := hf; have ho := plain_parts hpl; rw [leaf_text hpl k0 k1] at htl ⊢; simp only at k0 k1; obtain ⟨hs1, hs2, hs3⟩ := hsh; simp only at hs1 hs2 hs3; have hx0 := h.1; have hq := quote_len text; have hb1 := text_len10 ref; have hb2 := text_len10 to; refine Rte Tryz.func118 Tryz.ntmps118 ?_; refine Sa ?_; refine Lwb fun A w1 hbA hx1 hA => ?_; replace hA : Blk w1 A (nvL ⟨⟨kd, num, text, ref, to, kids⟩, .slice q m k⟩) 133 := hA; replace h := h.ext hx1; replace hx0 := hx0.trans hx1; have g := hc.glob.ext hx0; have : kd = 1 ∨ kd = 2 ∨ kd = 3 ∨ kd = 4 ∨ kd = 5 ∨ kd = 6 := by omega
 rcases this with rfl | rfl | rfl | rfl | rfl | rfl
 ·have hn1 : num ≤ 9223372036854775807 := hn ⟨1, [], num, refN, 0⟩ (by simp [Tr.toks, leafK]); have hn0 : 0 ≤ num := by simpa [okK] using ho
  simp only [if_true] at htl ⊢; refine Sa ?_; refine Lc0 rfl rfl (Itoa_ret num (by omega) hn1 _ g) ?_; rintro v w3 ⟨rfl, hx3⟩; replace h := h.ext hx3; refine Sa ?_; refine Lc0 rfl rfl (put_pr hc h _ (by omega)) ?_; rintro v w4 ⟨rfl, hp4, hf4⟩; refine Sa ?_; exact QW.body_n (rs := []) (vs := []) Tryz.results118 trivial rfl ⟨rfl, hp4, (Fp.ext (hx1.trans hx3)).trans hf4⟩
 ·simp only [Int.reduceEq, if_true, if_false] at htl ⊢; have he := esc_le text; refine Sa ?_; refine Lc0 rfl rfl (ReplaceAll_ret text [34] [34, 34] (by omega) (by simp) (by simp) _ g) ?_; rintro v w3 ⟨rfl, hx3⟩; rw [replace_esc]; replace h := h.ext hx3; rw [quoteT_esc] at htl ⊢; generalize text.flatMap escC = E at he htl ⊢; simp only [List.length_append, List.length_cons, List.length_nil] at htl; refine Sa ?_; refine Lc0 rfl rfl (put_pr hc h ([34] ++ E ++ [34]) (by simp; omega)) ?_; rintro v w4 ⟨rfl, hp4, hf4⟩; refine Sa ?_; exact QW.body_n (rs := []) (vs := []) Tryz.results118 trivial rfl ⟨rfl, hp4, (Fp.ext (hx1.trans hx3)).trans hf4⟩
 ·simp only [Int.reduceEq, if_true, if_false] at htl ⊢; have hnum : num = 0 ∨ num = 1 := by simpa [okK] using ho
  refine Sa ?_; refine Lwl fun B w3 hbB hx3 hB => ?_; replace h := h.ext hx3; replace hA := hA.ext hx3; rcases hnum with rfl | rfl
  ·refine Sz ?_; refine Lc0 rfl rfl (put_pr hc h [70, 65, 76, 83, 69] (by simp; omega)) ?_; rintro v w4 ⟨rfl, hp4, hf4⟩; refine Sa ?_; exact QW.body_n (rs := []) (vs := []) Tryz.results118 trivial rfl ⟨rfl, hp4, (Fp.ext (hx1.trans hx3)).trans hf4⟩
  ·refine Sz ?_; refine Lc0 rfl rfl (put_pr hc h [84, 82, 85, 69] (by simp; omega)) ?_; rintro v w4 ⟨rfl, hp4, hf4⟩; refine Sa ?_; exact QW.body_n (rs := []) (vs := []) Tryz.results118 trivial rfl ⟨rfl, hp4, (Fp.ext (hx1.trans hx3)).trans hf4⟩
 ·simp only [Int.reduceEq, if_true, if_false] at htl ⊢; refine Sa ?_; refine Lc0 rfl rfl (put_pr hc h [35, 82, 69, 70, 33] (by simp; omega)) ?_; rintro v w4 ⟨rfl, hp4, hf4⟩; refine Sa ?_; exact QW.body_n (rs := []) (vs := []) Tryz.results118 trivial rfl ⟨rfl, hp4, (Fp.ext hx1).trans hf4⟩
 ·simp only [Int.reduceEq, if_true, if_false] at htl ⊢; refine Sa ?_; refine LW.load_agg (cs := refL ref) rfl hA rfl rfl rfl ⟨rfl, rfl, rfl, rfl, rfl, trivial⟩ rfl ?_; refine Sa ?_; refine Lc0 rfl rfl (Text_ret ref (by omega) _ g) ?_; rintro v w3 ⟨rfl, hx3⟩; replace h := h.ext hx3; refine Sa ?_; refine Lc0 rfl rfl (put_pr hc h _ (by omega)) ?_; rintro v w4 ⟨rfl, hp4, hf4⟩; refine Sa ?_; exact QW.body_n (rs := []) (vs := []) Tryz.results118 trivial rfl ⟨rfl, hp4, (Fp.ext (hx1.trans hx3)).trans hf4⟩
 ·simp only [Int.reduceEq, if_false] at htl ⊢; simp only [List.length_append, List.length_cons, List.length_nil] at htl; refine Sa ?_; refine CW.drawHeld (fun w' => Blk w' A (nvL ⟨⟨6, num, text, ref, to, kids⟩, .slice q m k⟩) 133) (fun w' h => hA.ext h) (by kernel_rfl) fun w2 hx2 => ?_; replace h := h.ext hx2; replace g := g.ext hx2; refine Sh ?_; refine HW.take 2 rfl rfl rfl rfl (fun w hw => Y.load_agg (cs := refL ref) rfl hw rfl rfl rfl ⟨rfl, rfl, rfl, rfl, rfl, trivial⟩) rfl (by kernel_rfl) (by kernel_rfl) (by kernel_rfl) (fun _ _ _ h => h) ?_; refine HW.take 5 rfl rfl rfl rfl (fun w _ => Y.pure rfl) rfl (by kernel_rfl) (by kernel_rfl) (by kernel_rfl) (fun _ _ _ h => h) ?_; refine HW.take 6 rfl rfl rfl rfl (fun w hw => Y.load_agg (cs := refL to) rfl hw rfl rfl rfl ⟨rfl, rfl, rfl, rfl, rfl, trivial⟩) rfl (by kernel_rfl) (by kernel_rfl) (by kernel_rfl) (fun _ _ _ h => h) ?_; refine HW.one 3 (by kernel_rfl) rfl rfl (fun hS => ?_); refine Lc0 rfl rfl (Text_ret ref (by omega) _ g) ?_; rintro v w3 ⟨rfl, hx3⟩; replace h := h.ext hx3; replace g := g.ext hx3; apply LW.nil; refine QW.held (hS.ext hx3) ?_; refine HW.take 4 rfl rfl rfl rfl (fun w _ => Y.go rfl (by first | omega | exact ⟨by omega, by omega⟩ | exact ⟨by omega, by omega, by omega⟩ | (simp <;> omega))) rfl (by kernel_rfl) (by kernel_rfl) (by kernel_rfl) (fun _ _ _ h => h) ?_; refine HW.one 7 (by kernel_rfl) rfl rfl (fun hS => ?_); refine Lc0 rfl rfl (Text_ret to (by omega) _ g) ?_; rintro v w4 ⟨rfl, hx4⟩; replace h := h.ext hx4; apply LW.nil; refine QW.held (hS.ext hx4) ?_; refine HW.take 8 rfl rfl rfl rfl (fun w _ => Y.go rfl (by first | omega | exact ⟨by omega, by omega⟩ | exact ⟨by omega, by omega, by omega⟩ | (simp <;> omega))) rfl (by kernel_rfl) (by kernel_rfl) (by kernel_rfl) (fun _ _ _ h => h) ?_; refine HW.one 9 (by kernel_rfl) rfl rfl (fun hS => ?_); refine Lc0 rfl rfl (put_pr hc h (textT ref ++ [58] ++ textT to) (by simp only [List.length_append, List.length_cons, List.length_nil]; omega)) ?_; rintro v w5 ⟨rfl, hp5, hf5⟩; apply LW.nil; refine QW.held (hf5.blk _ _ _ hS (by decide) (by decide)) ?_; refine HW.done (by kernel_rfl) ?_; refine Sa ?_; exact QW.body_n (rs := []) (vs := []) Tryz.results118 trivial rfl ⟨rfl, hp5, (Fp.ext (((hx1.trans hx2).trans hx3).trans hx4)).trans hf5⟩
theorem pminus_ret {s : SC} (hc : s.Ok) (b : Tr false) (hb : ND s 91 b) (o : Nat) (q : Option Addr) (k : Nat) (out : List UInt8) (w : World) (hf : b.Fit) (hn : b.Num) (hl : Lies s.l o b) (hk : IntsR s.w0 (.slice q 1 k) [((o + b.cnt - 1 : Nat) : Int)]) (htl : out.length + (Tr.neg b).text.length ≤ 1000000000000) (h : Pr s w out) :
  Ret Tryz.prog 120 [.pointer (some ⟨s.b, 0, none⟩), .agg ⟨nvL ⟨{ kind := 8, kids := [((o + b.cnt - 1 : Nat) : Int)] }, .slice q 1 k⟩⟩] w (fun v w' => v = .tuple #[] ∧ Pr s w' (out ++ (Tr.neg b).text) ∧ Fp w w') := by
 have hcp := b.cnt_pos; rw [neg_text] at htl ⊢; simp only [List.length_append, List.length_cons, List.length_nil] at htl; obtain ⟨j, hj⟩ : ∃ j, j = o + b.cnt - 1 := ⟨_, rfl⟩; rw [← hj] at hk ⊢; obtain ⟨ka, rfl, hk0⟩ := kid_at (p := q) (c := k) (zs := [(j : Int)]) hk (i := 0) rfl; refine Rte Tryz.func120 Tryz.ntmps120 ?_; refine Sa ?_; refine Lwb fun A w1 hbA hx1 hA => ?_; replace hA : Blk w1 A (nvL ⟨{ kind := 8, kids := [(j : Int)] }, .slice (some ka) 1 k⟩) 133 := hA; replace h := h.ext hx1; refine Sa ?_; refine Lc0 rfl rfl (put_pr hc h [45] (by simp; omega)) ?_; rintro v w2 ⟨rfl, hp2, hf2⟩; replace hA := hf2.blk _ _ _ hA (by decide) (by decide); replace hk0 := cell_ext hp2.1 hk0; refine Sa ?_; refine Lo ?_; refine Lp hk0 ?_; refine Lc0 rfl rfl (operand_ret hc b hb 5 o j _ w2 hf hn hl (by omega) (by simp only [List.length_append, List.length_cons, List.length_nil]; omega) hp2) ?_; rintro v w3 ⟨rfl, hp3, hf3⟩; refine Sa ?_; exact QW.body_n (rs := []) (vs := []) Tryz.results120 trivial rfl ⟨rfl, by simpa only [List.append_assoc] using hp3, ((Fp.ext hx1).trans hf2).trans hf3⟩
theorem ptwo_ret {s : SC} (hc : s.Ok) (x : Int) (b d : Tr false) (hb : ND s 91 b) (hd : ND s 91 d) (o : Nat) (q : Option Addr) (k : Nat) (out : List UInt8) (w : World) (hx9 : 9 ≤ x) (hx19 : x ≤ 19) (hfb : b.Fit) (hnb : b.Num) (hfd : d.Fit) (hnd : d.Num) (hlb : Lies s.l o b) (hld : Lies s.l (o + b.cnt) d) (hk : IntsR s.w0 (.slice q 2 k) [((o + b.cnt - 1 : Nat) : Int), ((o + b.cnt + d.cnt - 1 : Nat) : Int)]) (htl : out.length + (Tr.two x b d).text.length ≤ 1000000000000) (h : Pr s w out) :
  Ret Tryz.prog 121 [.pointer (some ⟨s.b, 0, none⟩), .agg ⟨nvL ⟨{ kind := x, kids := [((o + b.cnt - 1 : Nat) : Int), ((o + b.cnt + d.cnt - 1 : Nat) : Int)] }, .slice q 2 k⟩⟩] w (fun v w' => v = .tuple #[] ∧ Pr s w' (out ++ (Tr.two x b d).text) ∧ Fp w w') := by
 have hcb := b.cnt_pos; have hcd := d.cnt_pos; have hsg : sgnT x = signK x := by unfold sgnT; rw [if_neg (by omega), if_pos ⟨hx9, hx19⟩]
 have hrk : rankK x ≤ 10 := by unfold rankK; split <;> (try split) <;> (try split) <;> (try split) <;> (try split) <;> omega
 rw [two_text] at htl ⊢; simp only [List.length_append] at htl; obtain ⟨j, hj⟩ : ∃ j, j = o + b.cnt - 1 := ⟨_, rfl⟩; obtain ⟨y, hy⟩ : ∃ y, y = o + b.cnt + d.cnt - 1 := ⟨_, rfl⟩; rw [← hj, ← hy] at hk ⊢; obtain ⟨ka, rfl, hk0⟩ := kid_at (p := q) (c := k) (zs := [(j : Int), (y : Int)]) hk (i := 0) rfl; obtain ⟨ka', ek, hk1⟩ := kid_at (p := some ka) (c := k) (zs := [(j : Int), (y : Int)]) hk (i := 1) rfl; obtain rfl := Option.some.inj ek; refine Rte Tryz.func121 Tryz.ntmps121 ?_; refine Sa ?_; refine Lwb fun A w1 hbA hx1 hA => ?_; replace hA : Blk w1 A (nvL ⟨{ kind := x, kids := [(j : Int), (y : Int)] }, .slice (some ka) 2 k⟩) 133 := hA; replace h := h.ext hx1; refine Sa ?_; refine Lc0 rfl rfl (sgn_ret x w1) ?_; rintro v w2 ⟨rfl, hx2⟩; rw [hsg]; replace h := h.ext hx2; replace hA := hA.ext hx2; replace hk0 := cell_ext h.1 hk0; refine Sa ?_; refine Lo ?_; refine Lp hk0 ?_; refine Sa ?_; refine Lc0 rfl rfl (operand_ret hc b hb (rankK x) o j _ w2 hfb hnb hlb (by omega) (by omega) h) ?_; rintro v w3 ⟨rfl, hp3, hf3⟩; replace hA := hf3.blk _ _ _ hA (by decide) (by decide); refine Sa ?_; refine Lc0 rfl rfl (put_pr hc hp3 (signK x) (by simp only [List.length_append]; omega)) ?_; rintro v w4 ⟨rfl, hp4, hf4⟩; replace hA := hf4.blk _ _ _ hA (by decide) (by decide); replace hk1 := cell_ext hp4.1 hk1; refine Sa ?_; refine Lo ?_; refine Lp hk1 ?_; refine Sa ?_; have er : ((rankK x : Nat) : Int) + 1 = ((rankK x + 1 : Nat) : Int) := by omega
 rw [er]; refine Lc0 rfl rfl (operand_ret hc d hd (rankK x + 1) (o + b.cnt) y _ w4 hfd hnd hld (by omega) (by simp only [List.length_append]; omega) hp4) ?_; rintro v w5 ⟨rfl, hp5, hf5⟩; refine Sa ?_; exact QW.body_n (rs := []) (vs := []) Tryz.results121 trivial rfl ⟨rfl, by simpa only [List.append_assoc] using hp5, (((Fp.ext (hx1.trans hx2)).trans hf3).trans hf4).trans hf5⟩
theorem pcall_ret {s : SC} (hc : s.Ok) (x : List UInt8) (ks : Tr true) (hks : ∀ (b : Tr false), b.cnt ≤ ks.cnt → ND s 91 b) (o : Nat) (q : Option Addr) (k : Nat) (out : List UInt8) (w : World) (hfk : ks.Fit) (hnk : ks.Num) (hlk : Lies s.l o ks) (hk : IntsR s.w0 (.slice q (ks.kids o).length k) (ks.kids o)) (htl : out.length + (Tr.call x ks).text.length ≤ 1000000000000) (h : Pr s w out) :
  Ret Tryz.prog 119 [.pointer (some ⟨s.b, 0, none⟩), .agg ⟨nvL ⟨{ kind := 7, text := x, kids := ks.kids o }, .slice q (ks.kids o).length k⟩⟩] w (fun v w' => v = .tuple #[] ∧ Pr s w' (out ++ (Tr.call x ks).text) ∧ Fp w w') := by
 rw [call_text x o] at htl ⊢; simp only [List.length_append, List.length_cons, List.length_nil] at htl; have hmem := row_mem ks hfk hnk hlk; obtain ⟨kids, hkids⟩ : ∃ kids, kids = ks.kids o := ⟨_, rfl⟩; rw [← hkids] at hk ⊢; rw [row_kids] at hkids; have hkl : kids.length = (ks.row o).length := by rw [hkids]; simp
 obtain ⟨r, hr⟩ : ∃ r, r = ks.row o := ⟨_, rfl⟩; rw [← hr] at hmem hkids hkl htl ⊢; have hk63 := hk.1; refine Rte Tryz.func119 Tryz.ntmps119 ?_; refine Sa ?_; refine Lwb fun A w1 hbA hx1 hA => ?_; replace hA : Blk w1 A (nvL ⟨{ kind := 7, text := x, kids := kids }, .slice q kids.length k⟩) 133 := hA; replace h := h.ext hx1; refine Sa ?_; refine Lc0 rfl rfl (put_pr hc h (x ++ [40]) (by simp only [List.length_append, List.length_cons, List.length_nil]; omega)) ?_; rintro v w2 ⟨rfl, hp2, hf2⟩; replace hA := hf2.blk _ _ _ hA (by decide) (by decide); replace hf2 := (Fp.ext hx1).trans hf2; refine Sa ?_; refine CW.loop (ι := Nat) (fun n w' => n ≤ r.length ∧ Pr s w' (out ++ (x ++ [40]) ++ rowS r n) ∧ Fp w w') (fun n => [(0, .pointer (some ⟨s.b, 0, none⟩)), (12, .slice q kids.length k), (13, .int .i64 (kids.length : Int)), (14, .int .i64 (n : Int))]) (fun n => r.length - n) 0 ⟨by omega, by simpa only [rowS, List.append_nil] using hp2, hf2⟩ Sub4 ?_; rintro n w3 ⟨hn0, hp3, hf3⟩; have hmono := rowS_mono (r := r) n (r.length - n) (by omega); rw [show n + (r.length - n) = r.length by omega] at hmono; refine Sa ?_; refine Cwc (fun h1 => ?_) fun h1 => ?_; rotate_left
 ·have h1 : n = r.length := by simp at h1; omega
  subst h1; refine Sa ?_; refine Lc0 rfl rfl (put_pr hc hp3 [41] (by simp only [List.length_append, List.length_cons, List.length_nil]; omega)) ?_; rintro v w4 ⟨rfl, hp4, hf4⟩; refine Sa ?_; exact QW.body_n (rs := []) (vs := []) Tryz.results119 trivial rfl ⟨rfl, by simpa only [List.append_assoc] using hp4, hf3.trans hf4⟩
 have h1 : n < r.length := by simp at h1; omega
 obtain ⟨⟨o', b⟩, hrn⟩ : ∃ y, r[n]? = some y := ⟨_, List.getElem?_eq_getElem h1⟩; obtain ⟨hlb, hfb, hnb, hcb, htb⟩ := hmem _ (List.mem_of_getElem? hrn); simp only at hlb hfb hnb hcb htb; have hbp := b.cnt_pos; obtain ⟨j, hj⟩ : ∃ j, j = o' + b.cnt - 1 := ⟨_, rfl⟩; have hkn : kids[n]? = some (j : Int) := by rw [hkids, List.getElem?_map, hrn, hj]; rfl
 obtain ⟨ka, rfl, hk0⟩ := kid_at hk hkn; rw [show n = ((n : Nat) : Int).toNat * 1 by omega] at hk0; replace hk0 := cell_ext hp3.1 hk0; have hstep := rowS_step hrn; simp only at hstep; have hm2 := rowS_mono (r := r) (n + 1) (r.length - (n + 1)) (by omega); rw [show n + 1 + (r.length - (n + 1)) = r.length by omega] at hm2; have hsl := congrArg List.length hstep; simp only [List.length_append] at hsl; refine Sa ?_; refine Lo ?_; refine Lp hk0 ?_; refine Sa ?_; refine Cwc (fun h2 => ?_) fun h2 => ?_
 ·have h2 : 0 < n := by simp at h2; omega
  rw [if_pos h2] at hsl hstep; simp only [List.length_cons, List.length_nil] at hsl; refine Sa ?_; refine Lc0 rfl rfl (put_pr hc hp3 [44] (by simp only [List.length_append, List.length_cons, List.length_nil]; omega)) ?_; rintro v w4 ⟨rfl, hp4, hf4⟩; refine Sa ?_; refine Lc0 rfl rfl (hks b hcb o' j _ w4 hfb hnb hlb (by omega) (by simp only [List.length_append, List.length_cons, List.length_nil]; omega) hp4) ?_; rintro v w5 ⟨rfl, hp5, hf5⟩; refine Sa ?_; refine QW.again (n + 1) ⟨h1, ?_, (hf3.trans hf4).trans hf5⟩ Sub4 (by omega); rw [hstep]
  simpa only [List.append_assoc] using hp5
 ·have h2 : ¬ 0 < n := by simp at h2; omega
  rw [if_neg h2] at hsl hstep; simp only [List.length_nil] at hsl; refine Sa ?_; refine Lc0 rfl rfl (hks b hcb o' j _ w3 hfb hnb hlb (by omega) (by simp only [List.length_append, List.length_cons, List.length_nil]; omega) hp3) ?_; rintro v w5 ⟨rfl, hp5, hf5⟩; refine Sa ?_; refine QW.again (n + 1) ⟨h1, ?_, hf3.trans hf5⟩ Sub4 (by omega); rw [hstep]
  simpa only [List.append_assoc, List.append_nil] using hp5
theorem node_nd {s : SC} (hc : s.Ok) : ∀ (m : Nat) (t : Tr false), t.cnt ≤ m → ND s 91 t
 | 0, t, hm => absurd t.cnt_pos (by omega)
 | m + 1, t, hm => by
  intro o i out w hf hn hl hio htl h; have ih := node_nd hc m; have hnd := hl.node; rw [show o + t.cnt - 1 = i by omega] at hnd; have hi : i < s.l.length := (List.getElem?_eq_some_iff.1 hnd).1; have hsn := hc.short _ (List.mem_of_getElem? hnd); have hN := hc.nodes; have hl1 := hN.1; obtain ⟨a, kp, kc, ea, hk, hc0⟩ := hN.at hnd; have hpr := h; obtain ⟨h0, v, hB, ho⟩ := h; rw [ea] at hB; have hcl : ∀ j u, (nvL ⟨rootN o t, .slice kp (rootN o t).kids.length kc⟩)[j]? = some u → w.cell? ((a.add (i * 14)).add j) = some u := fun j u hu => cell_ext h0 (hc0 j u hu)
  cases t with
  | leaf n =>
   have k0 := hf.1; have k1 := hf.2.1
   change ∀ j u, (nvL ⟨n, .slice kp n.kids.length kc⟩)[j]? = some u → _ at hcl
   refine Rte Tryz.func91 Tryz.ntmps91 ?_; refine Sa ?_; refine Lo ?_; refine LW.load_cells rfl hcl rfl rfl rfl rfl ?_; refine Sa ?_; refine Lwa fun A w1 hbA hx1 hA => ?_; refine Sa ?_; refine Lws fun w2 hc2 hA => ?_; have hx2 : Ext w w2 := hx1.step hc2 (by simp; omega); replace hpr := hpr.ext hx2; refine Sa ?_; refine CW.no rfl (decide_eq_false (show ¬ n.kind = 7 by omega)) ?_; refine Sa ?_; refine CW.no rfl (decide_eq_false (show ¬ n.kind = 8 by omega)) ?_; refine Sa ?_; refine CW.no rfl (decide_eq_false (show ¬ (8 : Int) < n.kind by omega)) ?_; refine Sa ?_; refine LW.call (f := 118) (fs := []) (cs := []) rfl rfl rfl (pleaf_ret hc n kp n.kids.length kc out w2 hf hn hsn htl hpr) ?_; rintro v w3 ⟨rfl, hp3, hf3⟩; refine Sa ?_
   exact QW.body_n (rs := []) (vs := []) Tryz.results91 trivial rfl ⟨rfl, hp3, (Fp.ext hx2).trans hf3⟩
  | neg b =>
   change ∀ j u, (nvL ⟨{ kind := 8, kids := [((o + b.cnt - 1 : Nat) : Int)] }, .slice kp 1 kc⟩)[j]? = some u → _ at hcl
   simp only [Tr.cnt] at hm; refine Rte Tryz.func91 Tryz.ntmps91 ?_; refine Sa ?_; refine Lo ?_; refine LW.load_cells rfl hcl rfl rfl rfl rfl ?_; refine Sa ?_; refine Lwa fun A w1 hbA hx1 hA => ?_; refine Sa ?_; refine Lws fun w2 hc2 hA => ?_; have hx2 : Ext w w2 := hx1.step hc2 (by simp; omega); replace hpr := hpr.ext hx2; refine Sa ?_; refine LW.call (f := 120) (fs := []) (cs := []) rfl rfl rfl (pminus_ret hc b (ih b (by omega)) o kp kc out w2 hf (fun u hu => hn u (by simp only [Tr.toks]; exact List.mem_cons_of_mem _ (sub_brk hu))) hl.neg hk htl hpr) ?_; rintro v w3 ⟨rfl, hp3, hf3⟩; refine Sa ?_
   exact QW.body_n (rs := []) (vs := []) Tryz.results91 trivial rfl ⟨rfl, hp3, (Fp.ext hx2).trans hf3⟩
  | two x b d =>
   obtain ⟨hk9, hk19, hfb, hfd⟩ := hf
   change ∀ j u, (nvL ⟨{ kind := x, kids := [((o + b.cnt - 1 : Nat) : Int), ((o + b.cnt + d.cnt - 1 : Nat) : Int)] }, .slice kp 2 kc⟩)[j]? = some u → _ at hcl
   simp only [Tr.cnt] at hm; refine Rte Tryz.func91 Tryz.ntmps91 ?_; refine Sa ?_; refine Lo ?_; refine LW.load_cells rfl hcl rfl rfl rfl rfl ?_; refine Sa ?_; refine Lwa fun A w1 hbA hx1 hA => ?_; refine Sa ?_; refine Lws fun w2 hc2 hA => ?_; have hx2 : Ext w w2 := hx1.step hc2 (by simp; omega); replace hpr := hpr.ext hx2; refine Sa ?_; refine CW.no rfl (decide_eq_false (show ¬ x = 7 by omega)) ?_; refine Sa ?_; refine CW.no rfl (decide_eq_false (show ¬ x = 8 by omega)) ?_; refine Sa ?_; refine CW.yes rfl (decide_eq_true (show (8 : Int) < x by omega)) ?_; refine Sa ?_; refine LW.call (f := 121) (fs := []) (cs := []) rfl rfl rfl (ptwo_ret hc x b d (ih b (by omega)) (ih d (by omega)) o kp kc out w2 hk9 hk19 hfb (fun u hu => hn u (by simp only [Tr.toks]; exact List.mem_append_left _ (sub_brk hu))) hfd (fun u hu => hn u (by simp only [Tr.toks]; exact List.mem_append_right _ (List.mem_cons_of_mem _ (sub_brk hu)))) hl.two.1 hl.two.2 hk htl hpr) ?_; rintro v w3 ⟨rfl, hp3, hf3⟩; refine Sa ?_
   exact QW.body_n (rs := []) (vs := []) Tryz.results91 trivial rfl ⟨rfl, hp3, (Fp.ext hx2).trans hf3⟩
  | call x ks =>
   change ∀ j u, (nvL ⟨{ kind := 7, text := x, kids := ks.kids o }, .slice kp (ks.kids o).length kc⟩)[j]? = some u → _ at hcl
   simp only [Tr.cnt] at hm; refine Rte Tryz.func91 Tryz.ntmps91 ?_; refine Sa ?_; refine Lo ?_; refine LW.load_cells rfl hcl rfl rfl rfl rfl ?_; refine Sa ?_; refine Lwa fun A w1 hbA hx1 hA => ?_; refine Sa ?_; refine Lws fun w2 hc2 hA => ?_; have hx2 : Ext w w2 := hx1.step hc2 (by simp; omega); replace hpr := hpr.ext hx2; refine Sa ?_; refine LW.call (f := 119) (fs := []) (cs := []) rfl rfl rfl (pcall_ret hc x ks (fun b hb => ih b (by omega)) o kp kc out w2 hf.2 (call_num hn) hl.call hk htl hpr) ?_; rintro v w3 ⟨rfl, hp3, hf3⟩; refine Sa ?_; exact QW.body_n (rs := []) (vs := []) Tryz.results91 trivial rfl ⟨rfl, hp3, (Fp.ext hx2).trans hf3⟩
theorem Print_ret (l : List NodeD) (v : Value) (w : World) (g : Glob w) (hN : NodesR w v l) (hs : Short l) (hnum : NumOk l) : Ret Tryz.prog 69 [v] w (fun v' w' => v' = str (printT l) ∧ Ext w w') := by
 obtain ⟨p, c, rfl⟩ := hN.slice; have hl := hN.1; refine Rte Tryz.func69 Tryz.ntmps69 ?_; refine Sa ?_; refine Lc0 rfl rfl (Tree_ret l _ w g hN hs) ?_; rintro v w1 ⟨rfl, hx⟩; replace hN := hN.ext hx; replace g := g.ext hx; refine Sa ?_; refine Cwc (fun h1 => ?_) fun h1 => ?_
 ·have h1 : treeB l = false := by simpa using h1
  refine Sa ?_; exact QW.body1 Tryz.results69 rfl ⟨by rw [printT_no h1], hx⟩
 have h1 : treeB l = true := by simpa using h1
 obtain ⟨t, rfl, hf⟩ := tree_of h1; have hcp := t.cnt_pos; have hlen := t.flat_len 0; have hn := hnum t hf rfl; have htl := t.len_le 0 hf hn (fun n hm => (hs n hm).1); simp only [cond_false] at htl; rw [printT_of hf]; refine Sa ?_; refine Lwb fun A w2 hbA hx2 hA => ?_; replace hA : Blk w2 A [.slice p (t.flat 0).length c, .slice none 0 0] 121 := hA; have hc : SC.Ok ⟨t.flat 0, p, c, A, w1⟩ := ⟨hN, hs, by simp only; omega, g⟩; have hpr : Pr ⟨t.flat 0, p, c, A, w1⟩ w2 [] := ⟨hx2, _, hA, Own.nil _ _ _ _⟩; refine Sa ?_; have e : (((t.flat 0).length : Int) - 1) = ((t.cnt - 1 : Nat) : Int) := by omega
 rw [e]; refine Lc0 rfl rfl (node_nd hc t.cnt t (Nat.le_refl _) 0 (t.cnt - 1) [] w2 hf hn (Lies.whole t) (by omega) (by simp; omega) hpr) ?_; rintro v w3 ⟨rfl, ⟨hx3, v, hB, ho⟩, -⟩; simp only [List.nil_append] at ho; refine Sa ?_; refine LW.string_own rfl ho rfl rfl rfl rfl rfl rfl rfl ?_; refine Sa ?_; exact QW.body1 Tryz.results69 rfl ⟨rfl, hx.trans hx3⟩
end Go.Proofs.YtgdohpcnpgjpaaaGreatDoor
