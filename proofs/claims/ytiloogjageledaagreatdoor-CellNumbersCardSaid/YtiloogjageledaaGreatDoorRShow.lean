/-
  Walks: formulas as text, as the document has it.
-/
import Derived.Test.YtiloogjageledaaGreatDoorShowU
import Derived.Test.YtiloogjageledaaGreatDoorEngG
import Derived.Test.YtiloogjageledaaGreatDoorRTreeB
namespace Go.Proofs.YtiloogjageledaaGreatDoor
open Go Go.E

def escC (c : UInt8) : List UInt8 := if c = 34 then [34, 34] else [c]
theorem quoteT_esc (s : List UInt8) : quoteT s = 34 :: s.flatMap escC ++ [34] := rfl
theorem esc_take {s : List UInt8} {i : Nat} (h : i < s.length) : (s.take (i + 1)).flatMap escC = (s.take i).flatMap escC ++ escC s[i] := by
  rw [take_snoc' h, List.flatMap_append]
  simp
theorem esc_le (s : List UInt8) : (s.flatMap escC).length ≤ 2 * s.length := by
  have := quote_len s
  rw [quoteT_esc] at this
  simp only [List.length_append, List.length_cons, List.length_nil] at this
  omega
theorem ch_of {s : List UInt8} {i : Nat} (h : i < s.length) : ch (byte s i) = s[i] := by
  rw [byte_eq h]
  unfold ch
  simp

theorem quote_ret (s : List UInt8) (hs : s.length ≤ 1000) (w : World) : Ret Tryz.prog 131 [str s] w (fun v w' => v = str (quoteT s) ∧ Ext w w') := by
  refine Ret.enter Tryz.func131 rfl Tryz.ntmps131 (by kernel_rfl) rfl ?_
  refine Sa ?_
  (apply LW.buildSlice; exact rfl; exact rfl; exact rfl; exact rfl; exact rfl; exact rfl; exact rfl; exact rfl; exact rfl; intro A w0 hbA hx0 hA0)
  replace hA0 : Blk w0 A [.int .u8 34] 5 := hA0
  have hz0 := hx0.size
  refine Sa ?_
  refine CW.loop (ι := Nat × Value) (fun k w' => k.1 ≤ s.length ∧ Ext w w' ∧ Own w' w.heap.size 5 1 k.2 (34 :: (s.take k.1).flatMap escC).length (bcells (34 :: (s.take k.1).flatMap escC))) (fun k => [(0, str s), (3, k.2), (4, .int .i64 (k.1 : Int))]) (fun k => s.length - k.1) (0, .slice (some ⟨A, 0, none⟩) 1 1) ⟨by simp, hx0, ⟨rfl, .inr ⟨A, 1, [], rfl, hA0, by simp, by simp, by omega⟩⟩⟩ (Sub.cons rfl (Sub.cons rfl (Sub.cons rfl (Sub.nil)))) ?_
  rintro ⟨i, v⟩ w1 ⟨hi, hx, hown⟩
  dsimp only at hi hown
  have hle : ((s.take i).flatMap escC).length ≤ 2 * i := by
    have h1 := esc_le (s.take i)
    have h2 : (s.take i).length ≤ i := List.length_take_le _ _
    omega
  generalize ho : 34 :: (s.take i).flatMap escC = out at hown
  have hlo : out.length ≤ 2001 := by rw [← ho]; simp only [List.length_cons]; omega
  have hz := hx.size
  show CW _ _ _ _ _ [(0, str s), (3, v), (4, .int .i64 (i : Int))] _
  refine Sa ?_
  refine CW.cond rfl (fun h1 => ?_) (fun h1 => ?_)
  rotate_left
  · have h1 : i = s.length := by simp at h1; omega
    refine Sa ?_
    (apply LW.buildSlice; exact rfl; exact rfl; exact rfl; exact rfl; exact rfl; exact rfl; exact rfl; exact rfl; exact rfl; intro B w2 hbB hx2 hB)
    replace hown := hown.ext hx2
    replace hx := hx.trans hx2
    have hz2 := hx2.size
    refine Sa ?_
    refine LW.append rfl rfl rfl rfl rfl rfl hown (by omega) hB rfl rfl rfl (by show (out.length + 1) * 2 ≤ 140737488355328; omega) rfl ?_
    intro v' w3 hc3 hown' hv'
    replace hx := hx.step hc3 (fun k hk => (hown.lt hk).1)
    refine Sa ?_
    replace hown' : Own w3 w.heap.size 5 1 v' (out ++ [ch 34]).length (bcells (out ++ [ch 34])) := own_snoc (by omega) (by omega) hown'
    refine LW.string_own rfl hown' rfl rfl rfl rfl rfl rfl rfl ?_
    refine Sa ?_
    refine QW.body1 Tryz.results131 rfl ⟨?_, hx⟩
    rw [← ho, h1, List.take_length, quoteT_esc]
    rfl
  have h1 : i < s.length := by simp at h1; omega
  have hby := byte_lt s i
  refine Sa ?_
  refine CW.cond rfl (fun h2 => ?_) (fun h2 => ?_)
  · have h2 : byte s i = 34 := by simpa using h2
    refine Sa ?_
    (apply LW.buildSlice; exact rfl; exact rfl; exact rfl; exact rfl; exact rfl; exact rfl; exact rfl; exact rfl; exact rfl; intro B w2 hbB hx2 hB)
    replace hown := hown.ext hx2
    replace hx := hx.trans hx2
    have hz2 := hx2.size
    refine Sa ?_
    refine LW.append rfl rfl rfl rfl rfl rfl hown (by omega) hB rfl rfl rfl (by show (out.length + 1) * 2 ≤ 140737488355328; omega) rfl ?_
    intro v' w3 hc3 hown' hv'
    replace hx := hx.step hc3 (fun k hk => (hown.lt hk).1)
    refine Sa ?_
    replace hown' : Own w3 w.heap.size 5 1 v' (out ++ [ch 34]).length (bcells (out ++ [ch 34])) := own_snoc (by omega) (by omega) hown'
    have hz3 := hx.size
    refine Sa ?_
    (apply LW.buildSlice; exact rfl; exact rfl; exact rfl; exact rfl; exact rfl; exact rfl; exact rfl; exact rfl; exact rfl; intro C w4 hbC hx4 hC)
    replace hown' := hown'.ext hx4
    replace hx := hx.trans hx4
    have hz4 := hx4.size
    refine Sa ?_
    refine LW.append rfl rfl rfl rfl rfl rfl hown' (by omega) hC rfl rfl rfl (by show ((out ++ [ch 34]).length + 1) * 2 ≤ 140737488355328; simp; omega) rfl ?_
    intro v2 w5 hc5 hown2 hv2
    replace hx := hx.step hc5 (fun k hk => (hown'.lt hk).1)
    replace hown2 := own_snoc hby.1 (by omega) hown2
    refine Sa ?_
    refine QW.again (i + 1, v2) ⟨h1, hx, ?_⟩ (Sub.cons rfl (Sub.cons rfl (Sub.cons rfl (Sub.nil)))) (by show s.length - (i + 1) < s.length - i; omega)
    have e : 34 :: (s.take (i + 1)).flatMap escC = out ++ [ch 34] ++ [ch (byte s i)] := by
      rw [esc_take h1, ← ho]
      have : s[i] = 34 := by
        have := ch_of h1
        rw [h2] at this
        exact this.symm
      rw [ch_of h1, this]
      simp [escC, ch]
    dsimp only
    rw [e]
    exact hown2
  · have h2 : byte s i ≠ 34 := by simpa using h2
    refine Sa ?_
    (apply LW.buildSlice; exact rfl; exact rfl; exact rfl; exact rfl; exact rfl; exact rfl; exact rfl; exact rfl; exact rfl; intro B w2 hbB hx2 hB)
    replace hown := hown.ext hx2
    replace hx := hx.trans hx2
    have hz2 := hx2.size
    refine Sa ?_
    refine LW.append rfl rfl rfl rfl rfl rfl hown (by omega) hB rfl rfl rfl (by show (out.length + 1) * 2 ≤ 140737488355328; omega) rfl ?_
    intro v' w3 hc3 hown' hv'
    replace hx := hx.step hc3 (fun k hk => (hown.lt hk).1)
    refine Sa ?_
    replace hown' := own_snoc hby.1 (by omega) hown'
    refine Sa ?_
    refine QW.again (i + 1, v') ⟨h1, hx, ?_⟩ (Sub.cons rfl (Sub.cons rfl (Sub.cons rfl (Sub.nil)))) (by show s.length - (i + 1) < s.length - i; omega)
    have e : 34 :: (s.take (i + 1)).flatMap escC = out ++ [ch (byte s i)] := by
      rw [esc_take h1, ← ho]
      have : s[i] ≠ 34 := fun h => h2 (by rw [byte_eq h1, h]; rfl)
      rw [ch_of h1]
      simp [escC, this]
    dsimp only
    rw [e]
    exact hown'

theorem in_ret (s : List UInt8) (hs : s.length ≤ 1000000000000) (b : Bool) (w : World) : Ret Tryz.prog 133 [str s, .bool b] w (fun v w' => v = str (brkT b s) ∧ Ext w w') := by
  refine Ret.enter Tryz.func133 rfl Tryz.ntmps133 (by kernel_rfl) rfl ?_
  refine Sa ?_
  refine CW.cond rfl (fun h1 => ?_) (fun h1 => ?_)
  · subst h1
    refine Sa ?_
    exact QW.body1 Tryz.results133 rfl ⟨rfl, Chg.refl _ _⟩
  · subst h1
    refine Sa ?_
    exact QW.body1 Tryz.results133 rfl ⟨rfl, Chg.refl _ _⟩

theorem rank_ret (k : Int) (w : World) : Ret Tryz.prog 134 [.int .i64 k] w (fun v w' => v = .int .i64 (rankK k : Int) ∧ Ext w w') := by
  have fin : ∀ z : Int, (rankK k : Int) = z → (Value.int .i64 z = .int .i64 (rankK k : Int) ∧ Ext w w) := fun z h => ⟨by rw [h], Chg.refl _ _⟩
  refine Ret.enter Tryz.func134 rfl Tryz.ntmps134 (by kernel_rfl) rfl ?_
  refine Sa ?_
  by_cases h1 : 9 ≤ k
  · refine LW.know (t := 6) (c := true) rfl (by simpa using h1) ?_
    refine Sa ?_
    refine CW.cond rfl (fun h2 => ?_) (fun h2 => ?_)
    · have h2 : k ≤ 14 := by simpa using h2
      refine Sa ?_
      exact QW.body1 Tryz.results134 rfl (fin _ (by unfold rankK; rw [if_neg (by omega), if_pos (by omega)]; rfl))
    have h2 : 14 < k := by simpa using h2
    refine Sa ?_
    refine CW.cond rfl (fun h3 => ?_) (fun h3 => ?_)
    · have h3 : k = 15 := by simpa using h3
      refine Sa ?_
      exact QW.body1 Tryz.results134 rfl (fin _ (by subst h3; rfl))
    have h3 : k ≠ 15 := by simpa using h3
    refine Sa ?_
    by_cases h4 : k = 16
    · refine LW.know (t := 16) (c := true) rfl (by simpa using h4) ?_
      refine Sa ?_
      exact QW.body1 Tryz.results134 rfl (fin _ (by subst h4; rfl))
    refine LW.know (t := 16) (c := false) rfl (by simpa using h4) ?_
    refine Sa ?_
    refine CW.cond rfl (fun h5 => ?_) (fun h5 => ?_)
    · have h5 : k = 17 := by simpa using h5
      refine Sa ?_
      exact QW.body1 Tryz.results134 rfl (fin _ (by subst h5; rfl))
    have h5 : k ≠ 17 := by simpa using h5
    refine Sa ?_
    by_cases h6 : k = 18
    · refine LW.know (t := 23) (c := true) rfl (by simpa using h6) ?_
      refine Sa ?_
      exact QW.body1 Tryz.results134 rfl (fin _ (by subst h6; rfl))
    refine LW.know (t := 23) (c := false) rfl (by simpa using h6) ?_
    refine Sa ?_
    refine CW.cond rfl (fun h7 => ?_) (fun h7 => ?_)
    · have h7 : k = 19 := by simpa using h7
      refine Sa ?_
      exact QW.body1 Tryz.results134 rfl (fin _ (by subst h7; rfl))
    have h7 : k ≠ 19 := by simpa using h7
    refine Sa ?_
    refine CW.no rfl (decide_eq_false (by omega)) ?_
    refine Sa ?_
    exact QW.body1 Tryz.results134 rfl (fin _ (by unfold rankK; rw [if_neg (by omega), if_neg (by omega), if_neg (by omega), if_neg (by omega), if_neg (by omega)]; rfl))
  · refine LW.know (t := 6) (c := false) rfl (by simpa using h1) ?_
    refine Sa ?_
    refine CW.no rfl (decide_eq_false (by omega)) ?_
    refine Sa ?_
    refine LW.know (t := 16) (c := false) rfl (by simp; omega) ?_
    refine Sa ?_
    refine CW.no rfl (decide_eq_false (by omega)) ?_
    refine Sa ?_
    refine LW.know (t := 23) (c := false) rfl (by simp; omega) ?_
    refine Sa ?_
    refine CW.no rfl (decide_eq_false (by omega)) ?_
    refine Sa ?_
    refine CW.cond rfl (fun h8 => ?_) (fun h8 => ?_)
    · have h8 : k = 8 := by simpa using h8
      refine Sa ?_
      exact QW.body1 Tryz.results134 rfl (fin _ (by subst h8; rfl))
    have h8 : k ≠ 8 := by simpa using h8
    refine Sa ?_
    exact QW.body1 Tryz.results134 rfl (fin _ (by unfold rankK; rw [if_neg (by omega), if_neg (by omega), if_neg (by omega), if_neg (by omega), if_neg (by omega)]; rfl))

theorem op_ret (k : Int) (h0 : 9 ≤ k) (h1 : k ≤ 19) (w : World) : Ret Tryz.prog 135 [.int .i64 k] w (fun v w' => v = str (signK k) ∧ Ext w w') := by
  have : k = 9 ∨ k = 10 ∨ k = 11 ∨ k = 12 ∨ k = 13 ∨ k = 14 ∨ k = 15 ∨ k = 16 ∨ k = 17 ∨ k = 18 ∨ k = 19 := by omega
  refine Ret.enter Tryz.func135 rfl Tryz.ntmps135 (by kernel_rfl) rfl ?_
  refine Sa ?_
  (apply LW.buildSlice; exact rfl; exact rfl; exact rfl; exact rfl; exact rfl; exact rfl; exact rfl; exact rfl; exact rfl; intro A w0 hbA hx0 hA0)
  rcases this with rfl | rfl | rfl | rfl | rfl | rfl | rfl | rfl | rfl | rfl | rfl
  all_goals
    refine Sz ?_
    exact QW.body1 Tryz.results135 rfl ⟨rfl, hx0⟩

theorem cell_0 {w : World} {a0 : Addr} {cs : List Value} (hc : ∀ j u, cs[j]? = some u → w.cell? (a0.add j) = some u) {v : Value} (h : cs[0]? = some v) : w.cell? (a0.add 0) = some v := hc 0 v h
theorem kid_at {w : World} {p : Option Addr} {c : Nat} {zs : List Int} (h : IntsR w (.slice p zs.length c) zs) {i : Nat} {z : Int} (hz : zs[i]? = some z) : ∃ a, p = some a ∧ w.cell? (a.add i) = some (.int .i64 z) := by
  have hi : i < zs.length := (List.getElem?_eq_some_iff.1 hz).1
  obtain ⟨a, e, h⟩ := h.at hi
  refine ⟨a, e, ?_⟩
  rw [h, List.getD_eq_getElem?_getD, hz]
  rfl

theorem shown_ret (l : List NodeD) (p : Option Addr) (c : Nat) (hs : Short l) : ∀ (m : Nat) (t : Tr false) (o i : Nat) (w : World), t.cnt ≤ m → t.Fit → t.Num → Lies l o t → i + 1 = o + t.cnt → t.text.length ≤ 1000000000000 → NodesR w (.slice p l.length c) l → Ret Tryz.prog 80 [.slice p l.length c, .int .i64 (i : Int)] w (fun v w' => v = str t.text ∧ Ext w w')
  | 0, t, _, _, _, hm, _, _, _, _, _, _ => absurd t.cnt_pos (by omega)
  | m + 1, t, o, i, w, hm, hf, hn, hl, hio, htl, hN => by
    have ih := shown_ret l p c hs m
    have hnd := hl.node
    rw [show o + t.cnt - 1 = i by omega] at hnd
    have hi : i < l.length := (List.getElem?_eq_some_iff.1 hnd).1
    have hsn := hs _ (List.mem_of_getElem? hnd)
    have hl1 := hN.1
    cases t with
    | leaf n =>
      obtain ⟨a, kp, kc, rfl, hk, hc⟩ := hN.at hnd
      obtain ⟨kd, num, text, ref, to, kids⟩ := n
      change ∀ j u, (nvL ⟨⟨kd, num, text, ref, to, kids⟩, .slice kp kids.length kc⟩)[j]? = some u → _ at hc
      obtain ⟨k0, k1, _, hpl⟩ := hf
      have ho := plain_parts hpl
      rw [leaf_text hpl k0 k1]
      simp only at k0 k1
      change text.length ≤ 1000 ∧ ref.sheet.length ≤ 1000 ∧ to.sheet.length ≤ 1000 at hsn
      refine Ret.enter Tryz.func80 rfl Tryz.ntmps80 (by kernel_rfl) rfl ?_
      refine Sa ?_
      refine Lo ?_
      refine LW.load_cells rfl hc rfl rfl rfl rfl ?_
      refine Sa ?_
      (apply LW.alloc; exact rfl; exact rfl; exact rfl; intro B w1 hbB hx1 hB)
      refine Sa ?_
      (apply LW.store_all; exact rfl; exact rfl; exact rfl; assumption; exact rfl; exact rfl; exact rfl; intro w2 hc2 hB)
      have hx : Ext w w2 := hx1.step hc2 (by simp; omega)
      refine Sa ?_
      have : kd = 1 ∨ kd = 2 ∨ kd = 3 ∨ kd = 4 ∨ kd = 5 ∨ kd = 6 := by omega
      rcases this with rfl | rfl | rfl | rfl | rfl | rfl
      · have hn1 : num ≤ 9223372036854775807 := hn ⟨1, [], num, refN, 0⟩ (by simp [Tr.toks, leafK])
        have hn0 : 0 ≤ num := by simpa [okK] using ho
        refine Sa ?_
        refine LW.call0 rfl rfl (Digits_ret num hn0 hn1 _) ?_
        rintro v w3 ⟨rfl, hx3⟩
        refine Sa ?_
        exact QW.body1 Tryz.results80 rfl ⟨rfl, hx.trans hx3⟩
      · refine Sa ?_
        refine LW.call0 rfl rfl (quote_ret text (by omega) _) ?_
        rintro v w3 ⟨rfl, hx3⟩
        refine Sa ?_
        exact QW.body1 Tryz.results80 rfl ⟨rfl, hx.trans hx3⟩
      · refine Sa ?_
        refine CW.cond rfl (fun h3 => ?_) (fun h3 => ?_)
        · have h3 : num = 1 := by simpa using h3
          refine Sa ?_
          exact QW.body1 Tryz.results80 rfl ⟨by simp [h3, trueT], hx⟩
        · have h3 : num ≠ 1 := by simpa using h3
          refine Sa ?_
          exact QW.body1 Tryz.results80 rfl ⟨by simp [h3, falseT], hx⟩
      · refine Sa ?_
        exact QW.body1 Tryz.results80 rfl ⟨rfl, hx⟩
      · refine Sa ?_
        refine LW.load_agg (cs := refL ref) rfl hB rfl rfl rfl ⟨rfl, rfl, rfl, rfl, rfl, trivial⟩ rfl ?_
        refine Sa ?_
        refine LW.call0 rfl rfl (RefText_ret ref (by omega) _) ?_
        rintro v w3 ⟨rfl, hx3⟩
        refine Sa ?_
        exact QW.body1 Tryz.results80 rfl ⟨rfl, hx.trans hx3⟩
      · have hb : ∀ r : RefD, (textT r).length ≤ r.sheet.length + 10 := fun r => by
          unfold textT
          split
          · exact textB_len (by assumption)
          · simp
        have hb1 := hb ref
        have hb2 := hb to
        refine Sa ?_
        refine CW.draw (by kernel_rfl) (by kernel_rfl) ?_
        refine Sq ?_
        refine QL.load_agg (cs := refL ref) rfl hB rfl rfl rfl ⟨rfl, rfl, rfl, rfl, rfl, trivial⟩ rfl ?_
        refine Sq ?_
        refine QL.call0 (v := str (textT ref)) rfl rfl (fun w' _ => RefText_ret ref (by omega) w') ?_
        refine Sq ?_
        refine QL.load_agg (cs := refL to) rfl hB rfl rfl rfl ⟨rfl, rfl, rfl, rfl, rfl, trivial⟩ rfl ?_
        refine Sq ?_
        refine QL.call0 (v := str (textT to)) rfl rfl (fun w' _ => RefText_ret to (by omega) w') ?_
        refine Sq ?_
        refine QL.nil fun w3 hx3 => ?_
        refine Sa ?_
        exact QW.body1 Tryz.results80 rfl ⟨rfl, hx.trans hx3⟩
    | neg b =>
      have hna : b.Num := fun u hu => hn u (by simp only [Tr.toks]; exact List.mem_cons_of_mem _ (sub_brk hu))
      have hlb := hl.neg
      have hcp := b.cnt_pos
      rw [neg_text] at htl ⊢
      have hbl := brkT_len (decide (b.rank < 5)) b.text
      simp only [List.length_append, List.length_cons, List.length_nil] at htl
      simp only [Tr.cnt] at hm
      obtain ⟨j, hj⟩ : ∃ j, j = o + b.cnt - 1 := ⟨_, rfl⟩
      have hbn := hlb.node
      rw [← hj] at hbn
      have hjl : j < l.length := (List.getElem?_eq_some_iff.1 hbn).1
      obtain ⟨a, kp, kc, rfl, hk, hc⟩ := hN.at hnd
      obtain ⟨a', kp', kc', ea, -, hcb⟩ := hN.at hbn
      obtain rfl := Option.some.inj ea
      change IntsR w (.slice kp [((o + b.cnt - 1 : Nat) : Int)].length kc) [((o + b.cnt - 1 : Nat) : Int)] at hk
      change ∀ j u, (nvL ⟨{ kind := 8, kids := [((o + b.cnt - 1 : Nat) : Int)] }, .slice kp 1 kc⟩)[j]? = some u → _ at hc
      rw [← hj] at hk hc
      obtain ⟨ka, rfl, hk0⟩ := kid_at hk (i := 0) rfl
      have hb0 := cell_0 hcb rfl
      refine Ret.enter Tryz.func80 rfl Tryz.ntmps80 (by kernel_rfl) rfl ?_
      refine Sa ?_
      refine Lo ?_
      refine LW.load_cells rfl hc rfl rfl rfl rfl ?_
      refine Sa ?_
      (apply LW.alloc; exact rfl; exact rfl; exact rfl; intro B w1 hbB hx1 hB)
      refine Sa ?_
      (apply LW.store_all; exact rfl; exact rfl; exact rfl; assumption; exact rfl; exact rfl; exact rfl; intro w2 hc2 hB)
      have hx : Ext w w2 := hx1.step hc2 (by simp; omega)
      refine Sa ?_
      replace hk0 := cell_ext hx hk0
      replace hb0 := cell_ext hx hb0
      refine Sa ?_
      refine CW.draw (by kernel_rfl) (by kernel_rfl) ?_
      refine Sq ?_
      refine Qo ?_
      refine Qp hk0 ?_
      refine QL.call0 (v := str b.text) rfl rfl (fun w' hw => ih b o j w' (by omega) hf hna hlb (by omega) (by omega) ((hN.ext hx).ext hw)) ?_
      refine Sq ?_
      refine Qo ?_
      refine Qp hk0 ?_
      refine Qo ?_
      refine Qn ?_
      refine Qp hb0 ?_
      refine QL.call0 rfl rfl (fun w' hw => rank_ret (rootN o b).kind w') ?_
      refine Sq ?_
      refine QL.call0 rfl rfl (fun w' hw => in_ret b.text (by omega) _ w') ?_
      rw [root_rank o b hf]
      have hd : decide (((b.rank : Nat) : Int) < 5) = decide (b.rank < 5) := by rw [decide_eq_decide]; omega
      rw [hd]
      refine Sq ?_
      refine QL.nil fun w3 hx3 => ?_
      refine Sa ?_
      exact QW.body1 Tryz.results80 rfl ⟨rfl, hx.trans hx3⟩
    | two k b d =>
      obtain ⟨hk9, hk19, hfb, hfd⟩ := hf
      have hnb : b.Num := fun u hu => hn u (by simp only [Tr.toks]; exact List.mem_append_left _ (sub_brk hu))
      have hnd' : d.Num := fun u hu => hn u (by simp only [Tr.toks]; exact List.mem_append_right _ (List.mem_cons_of_mem _ (sub_brk hu)))
      obtain ⟨hlb, hld⟩ := hl.two
      have hcb := b.cnt_pos
      have hcd := d.cnt_pos
      rw [two_text] at htl ⊢
      have hbl := brkT_len (decide (b.rank < rankK k)) b.text
      have hdl := brkT_len (decide (d.rank < rankK k + 1)) d.text
      simp only [List.length_append] at htl
      simp only [Tr.cnt] at hm
      obtain ⟨j, hj⟩ : ∃ j, j = o + b.cnt - 1 := ⟨_, rfl⟩
      obtain ⟨q, hq⟩ : ∃ q, q = o + b.cnt + d.cnt - 1 := ⟨_, rfl⟩
      have hbn := hlb.node
      have hdn := hld.node
      rw [← hj] at hbn
      rw [← hq] at hdn
      have hjl : j < l.length := (List.getElem?_eq_some_iff.1 hbn).1
      have hql : q < l.length := (List.getElem?_eq_some_iff.1 hdn).1
      obtain ⟨a, kp, kc, rfl, hk, hc⟩ := hN.at hnd
      obtain ⟨a', kp', kc', ea, -, hcb0⟩ := hN.at hbn
      obtain rfl := Option.some.inj ea
      obtain ⟨a', kp', kc', ea, -, hcd0⟩ := hN.at hdn
      obtain rfl := Option.some.inj ea
      change IntsR w (.slice kp [((o + b.cnt - 1 : Nat) : Int), ((o + b.cnt + d.cnt - 1 : Nat) : Int)].length kc) [((o + b.cnt - 1 : Nat) : Int), ((o + b.cnt + d.cnt - 1 : Nat) : Int)] at hk
      change ∀ j u, (nvL ⟨{ kind := k, kids := [((o + b.cnt - 1 : Nat) : Int), ((o + b.cnt + d.cnt - 1 : Nat) : Int)] }, .slice kp 2 kc⟩)[j]? = some u → _ at hc
      rw [← hj, ← hq] at hk hc
      obtain ⟨ka, rfl, hk0⟩ := kid_at hk (i := 0) rfl
      obtain ⟨ka', ek, hk1⟩ := kid_at hk (i := 1) rfl
      obtain rfl := Option.some.inj ek
      have hb0 := cell_0 hcb0 rfl
      have hd0 := cell_0 hcd0 rfl
      refine Ret.enter Tryz.func80 rfl Tryz.ntmps80 (by kernel_rfl) rfl ?_
      refine Sa ?_
      refine Lo ?_
      refine LW.load_cells rfl hc rfl rfl rfl rfl ?_
      refine Sa ?_
      (apply LW.alloc; exact rfl; exact rfl; exact rfl; intro B w1 hbB hx1 hB)
      refine Sa ?_
      (apply LW.store_all; exact rfl; exact rfl; exact rfl; assumption; exact rfl; exact rfl; exact rfl; intro w2 hc2 hB)
      have hx : Ext w w2 := hx1.step hc2 (by simp; omega)
      refine Sa ?_
      replace hk0 := cell_ext hx hk0
      replace hk1 := cell_ext hx hk1
      refine Sa ?_
      refine CW.no rfl (decide_eq_false (show ¬ k = 1 by omega)) ?_
      refine Sa ?_
      refine CW.no rfl (decide_eq_false (show ¬ k = 2 by omega)) ?_
      refine Sa ?_
      refine CW.no rfl (decide_eq_false (show ¬ k = 3 by omega)) ?_
      refine Sa ?_
      refine CW.no rfl (decide_eq_false (show ¬ k = 4 by omega)) ?_
      refine Sa ?_
      refine CW.no rfl (decide_eq_false (show ¬ k = 5 by omega)) ?_
      refine Sa ?_
      refine CW.no rfl (decide_eq_false (show ¬ k = 6 by omega)) ?_
      refine Sa ?_
      refine CW.no rfl (decide_eq_false (show ¬ k = 7 by omega)) ?_
      refine Sa ?_
      refine CW.no rfl (decide_eq_false (show ¬ k = 8 by omega)) ?_
      refine Sa ?_
      refine CW.draw (by kernel_rfl) (by kernel_rfl) ?_
      refine Sq ?_
      refine Qo ?_
      refine Qp hk0 ?_
      refine Sq ?_
      refine Qo ?_
      refine Qp hk1 ?_
      refine Sq ?_
      refine QL.nil fun w3 hx3 => ?_
      replace hx := hx.trans hx3
      replace hB := hB.ext hx3
      replace hb0 := cell_ext hx hb0
      replace hd0 := cell_ext hx hd0
      refine Sa ?_
      refine CW.draw (by kernel_rfl) (by kernel_rfl) ?_
      refine Sq ?_
      refine QL.call0 (v := str b.text) rfl rfl (fun w' hw => ih b o j w' (by omega) hfb hnb hlb (by omega) (by omega) ((hN.ext hx).ext hw)) ?_
      refine Sq ?_
      refine Qo ?_
      refine Qn ?_
      refine Qp hb0 ?_
      refine QL.call0 rfl rfl (fun w' hw => rank_ret (rootN o b).kind w') ?_
      refine Sq ?_
      refine QL.call0 rfl rfl (fun w' hw => rank_ret k w') ?_
      refine Sq ?_
      refine QL.call0 rfl rfl (fun w' hw => in_ret b.text (by omega) _ w') ?_
      refine Sq ?_
      refine QL.call0 rfl rfl (fun w' hw => op_ret k hk9 hk19 w') ?_
      rw [root_rank o b hfb]
      have hd1 : decide (((b.rank : Nat) : Int) < ((rankK k : Nat) : Int)) = decide (b.rank < rankK k) := by rw [decide_eq_decide]; omega
      rw [hd1]
      refine Sq ?_
      refine QL.call0 (v := str d.text) rfl rfl (fun w' hw => ih d (o + b.cnt) q w' (by omega) hfd hnd' hld (by omega) (by omega) ((hN.ext hx).ext hw)) ?_
      refine Sq ?_
      refine Qo ?_
      refine Qn ?_
      refine Qp hd0 ?_
      refine QL.call0 rfl rfl (fun w' hw => rank_ret (rootN (o + b.cnt) d).kind w') ?_
      refine Sq ?_
      refine QL.call0 rfl rfl (fun w' hw => rank_ret k w') ?_
      refine Sq ?_
      refine QL.call0 rfl rfl (fun w' hw => in_ret d.text (by omega) _ w') ?_
      rw [root_rank (o + b.cnt) d hfd]
      have hd2 : decide (((d.rank : Nat) : Int) ≤ ((rankK k : Nat) : Int)) = decide (d.rank < rankK k + 1) := by rw [decide_eq_decide]; omega
      rw [hd2]
      refine Sq ?_
      refine QL.nil fun w4 hx4 => ?_
      refine Sa ?_
      exact QW.body1 Tryz.results80 rfl ⟨rfl, hx.trans hx4⟩
    | call x ks =>
      have hfk := hf.2
      have hnk := call_num hn
      have hlk := hl.call
      rw [call_text x o] at htl ⊢
      simp only [List.length_append, List.length_cons, List.length_nil] at htl
      simp only [Tr.cnt] at hm
      obtain ⟨a, kp, kc, rfl, hk, hc⟩ := hN.at hnd
      change IntsR w (.slice kp (ks.kids o).length kc) (ks.kids o) at hk
      change ∀ j u, (nvL ⟨{ kind := 7, text := x, kids := ks.kids o }, .slice kp (ks.kids o).length kc⟩)[j]? = some u → _ at hc
      have hmem := row_mem ks hfk hnk hlk
      obtain ⟨kids, hkids⟩ : ∃ kids, kids = ks.kids o := ⟨_, rfl⟩
      rw [← hkids] at hk hc
      rw [row_kids] at hkids
      have hkl : kids.length = (ks.row o).length := by rw [hkids]; simp
      obtain ⟨r, hr⟩ : ∃ r, r = ks.row o := ⟨_, rfl⟩
      rw [← hr] at hmem hkids hkl htl ⊢
      refine Ret.enter Tryz.func80 rfl Tryz.ntmps80 (by kernel_rfl) rfl ?_
      refine Sa ?_
      refine Lo ?_
      refine LW.load_cells rfl hc rfl rfl rfl rfl ?_
      refine Sa ?_
      (apply LW.alloc; exact rfl; exact rfl; exact rfl; intro B w1 hbB hx1 hB)
      refine Sa ?_
      (apply LW.store_all; exact rfl; exact rfl; exact rfl; assumption; exact rfl; exact rfl; exact rfl; intro w2 hc2 hB)
      have hx : Ext w w2 := hx1.step hc2 (by simp; omega)
      refine Sa ?_
      replace hk := hk.ext hx
      replace hN := hN.ext hx
      refine Sa ?_
      refine CW.loop (ι := Nat) (fun n w' => n ≤ r.length ∧ Ext w w' ∧ Ext w2 w') (fun n => [(0, .slice (some a) l.length c), (5, .pointer (some ⟨B, 0, none⟩)), (6, str (x ++ ([40] ++ rowS r n))), (7, .int .i64 (n : Int))]) (fun n => r.length - n) 0 ⟨by omega, hx, Chg.refl _ _⟩ (Sub.cons rfl (Sub.cons rfl (Sub.cons rfl (Sub.cons rfl (Sub.nil))))) ?_
      rintro n w3 ⟨hn0, hx3, hx23⟩
      replace hB := hB.ext hx23
      replace hk := hk.ext hx23
      replace hN := hN.ext hx23
      have hmono := rowS_mono (r := r) n (r.length - n) (by omega)
      rw [show n + (r.length - n) = r.length by omega] at hmono
      refine Sa ?_
      refine CW.cond rfl (fun h1 => ?_) (fun h1 => ?_)
      rotate_left
      · have h1 : n = r.length := by simp at h1; omega
        subst h1
        have hcat : (x ++ ([40] ++ rowS r r.length)).length ≤ 2000000000000 := by simp only [List.length_append, List.length_cons, List.length_nil]; omega
        refine Sa ?_
        refine QW.body1 Tryz.results80 rfl ⟨?_, hx3⟩
        simp
      have h1 : n < r.length := by simp at h1; omega
      obtain ⟨⟨o', b⟩, hrn⟩ : ∃ y, r[n]? = some y := ⟨_, List.getElem?_eq_getElem h1⟩
      obtain ⟨hlb, hfb, hnb, hcb, htb⟩ := hmem _ (List.mem_of_getElem? hrn)
      simp only at hlb hfb hnb hcb htb
      have hbp := b.cnt_pos
      have hk63 := hk.1
      obtain ⟨j, hj⟩ : ∃ j, j = o' + b.cnt - 1 := ⟨_, rfl⟩
      have hkn : kids[n]? = some (j : Int) := by rw [hkids, List.getElem?_map, hrn, hj]; rfl
      obtain ⟨ka, rfl, hk0⟩ := kid_at hk hkn
      rw [show n = ((n : Nat) : Int).toNat * 1 by omega] at hk0
      have hbn := hlb.node
      rw [← hj] at hbn
      have hjl : j < l.length := (List.getElem?_eq_some_iff.1 hbn).1
      have hstep := rowS_step hrn
      simp only at hstep
      have hm2 := rowS_mono (r := r) (n + 1) (r.length - (n + 1)) (by omega)
      rw [show n + 1 + (r.length - (n + 1)) = r.length by omega] at hm2
      have hsl := congrArg List.length hstep
      simp only [List.length_append] at hsl
      have hcat : (x ++ ([40] ++ rowS r n)).length ≤ 2000000000000 := by simp only [List.length_append, List.length_cons, List.length_nil]; omega
      refine Sa ?_
      refine CW.cond rfl (fun h2 => ?_) (fun h2 => ?_)
      · have h2 : 0 < n := by simp at h2; omega
        have e : x ++ ([40] ++ rowS r (n + 1)) = x ++ ([40] ++ rowS r n) ++ [44] ++ b.text := by rw [hstep, if_pos h2]; simp only [List.append_assoc]
        have hcat2 : (x ++ ([40] ++ rowS r n) ++ [44]).length ≤ 2000000000001 := by rw [List.length_append]; simp only [List.length_cons, List.length_nil]; omega
        refine Sa ?_
        refine Lo ?_
        refine Lp hk0 ?_
        refine LW.call0 rfl rfl (ih b o' j w3 (by omega) hfb hnb hlb (by omega) (by omega) hN) ?_
        rintro v w4 ⟨rfl, hx4⟩
        refine Sa ?_
        rw [← e]
        refine QW.again (n + 1) ⟨h1, hx3.trans hx4, hx23.trans hx4⟩ (Sub.cons rfl (Sub.cons rfl (Sub.cons rfl (Sub.cons rfl (Sub.nil))))) (by omega)
      · have h2 : ¬ 0 < n := by simp at h2; omega
        have e : x ++ ([40] ++ rowS r (n + 1)) = x ++ ([40] ++ rowS r n) ++ b.text := by rw [hstep, if_neg h2]; simp only [List.append_assoc, List.append_nil]
        refine Sa ?_
        refine Lo ?_
        refine Lp hk0 ?_
        refine LW.call0 rfl rfl (ih b o' j w3 (by omega) hfb hnb hlb (by omega) (by omega) hN) ?_
        rintro v w4 ⟨rfl, hx4⟩
        refine Sa ?_
        rw [← e]
        refine QW.again (n + 1) ⟨h1, hx3.trans hx4, hx23.trans hx4⟩ (Sub.cons rfl (Sub.cons rfl (Sub.cons rfl (Sub.cons rfl (Sub.nil))))) (by omega)

theorem rPrint_ret (l : List NodeD) (v : Value) (w : World) (hN : NodesR w v l) (hs : Short l) (hkl : ∀ n ∈ l, n.kids.length ≤ 1000000) (hnum : NumOk l) : Ret Tryz.prog 30 [v] w (fun v' w' => v' = str (printT l) ∧ Ext w w') := by
  obtain ⟨p, c, rfl⟩ := hN.slice
  have hl := hN.1
  have h0 := fun w => rTree_ret l (.slice p l.length c) w
  refine Ret.enter Tryz.func30 rfl Tryz.ntmps30 (by kernel_rfl) rfl ?_
  refine Sa ?_
  refine LW.call0 rfl rfl (rTree_ret l _ w hN hs hkl) ?_
  rintro v w1 ⟨rfl, hx⟩
  replace hN := hN.ext hx
  refine Sa ?_
  refine CW.cond rfl (fun h1 => ?_) (fun h1 => ?_)
  · have h1 : treeB l = false := by simpa using h1
    refine Sa ?_
    exact QW.body1 Tryz.results30 rfl ⟨by rw [printT_no h1], hx⟩
  have h1 : treeB l = true := by simpa using h1
  obtain ⟨t, rfl, hf⟩ := tree_of h1
  have hcp := t.cnt_pos
  have hlen := t.flat_len 0
  have hn := hnum t hf rfl
  have htl := t.len_le 0 hf hn (fun n hm => (hs n hm).1)
  simp only [cond_false] at htl
  rw [printT_of hf]
  refine Sa ?_
  have e : (((t.flat 0).length : Int) - 1) = ((t.cnt - 1 : Nat) : Int) := by omega
  rw [e]
  refine LW.call0 rfl rfl (shown_ret (t.flat 0) p c hs t.cnt t 0 (t.cnt - 1) w1 (Nat.le_refl _) hf hn (Lies.whole t) (by omega) (by omega) hN) ?_
  rintro v w2 ⟨rfl, hx2⟩
  refine Sa ?_
  exact QW.body1 Tryz.results30 rfl ⟨rfl, hx.trans hx2⟩
end Go.Proofs.YtiloogjageledaaGreatDoor
