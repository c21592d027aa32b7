/-
  Walks: whether nodes are a formula's, as the document has it; whether two rows of nodes are one.
-/
import Derived.Test.YtiloogjageledaaGreatDoorRTree
import Derived.Test.YtiloogjageledaaGreatDoorEngF
namespace Go.Proofs.YtiloogjageledaaGreatDoor
open Go Go.E

theorem rTree_ret (l : List NodeD) (v : Value) (w : World) (hN : NodesR w v l) (hs : Short l) (hkl : ∀ n ∈ l, n.kids.length ≤ 1000000) : Ret Tryz.prog 27 [v] w (fun v' w' => v' = .bool (treeB l) ∧ Ext w w') := by
  obtain ⟨p, c, rfl⟩ := hN.slice
  have hl := hN.1
  refine Ret.enter Tryz.func27 rfl Tryz.ntmps27 (by kernel_rfl) rfl ?_
  refine Sa ?_
  refine CW.loop (ι := Nat × List Int × Option Addr × Nat) (fun x w' => x.1 ≤ l.length ∧ x.2.1.length ≤ x.1 ∧ Ext w w' ∧ treeGo 0 [] l = treeGo x.1 x.2.1 (l.drop x.1) ∧ Own w' w.heap.size 3 1 (.slice x.2.2.1 x.2.1.length x.2.2.2) x.2.1.length (icells x.2.1))
    (fun x => [(0, .slice p l.length c), (3, .slice x.2.2.1 x.2.1.length x.2.2.2), (4, .int .i64 x.1)]) (fun x => l.length - x.1) (0, [], none, 0) ⟨by omega, by simp, Chg.refl _ _, rfl, Own.nil _ _ _ _⟩ (Sub.cons rfl (Sub.cons rfl (Sub.cons rfl (Sub.nil)))) ?_
  rintro ⟨i, st, sp, sc⟩ w1 ⟨hi, hst, hx, heq, ho⟩
  dsimp only at hi hst heq ho ⊢
  replace hN := hN.ext hx
  refine Sa ?_
  refine CW.cond rfl (fun h1 => ?_) (fun h1 => ?_)
  rotate_left
  · have h1 : i = l.length := by simp at h1; omega
    subst h1
    refine Sa ?_
    refine QW.body1 Tryz.results27 rfl ⟨?_, hx⟩
    rw [List.drop_length] at heq
    rw [treeB, heq]
    have : decide ((st.length : Int) = 1) = decide (st.length = 1) := decide_eq_decide.mpr (by omega)
    exact congrArg Value.bool this
  have h1 : i < l.length := by simp at h1; omega
  obtain ⟨nd, hnd⟩ : ∃ nd, l[i]? = some nd := ⟨_, List.getElem?_eq_getElem h1⟩
  obtain ⟨a, kp, kc, rfl, hk, hcell⟩ := hN.at hnd
  have hmem := List.mem_of_getElem? hnd
  obtain ⟨hs1, hs2, hs3⟩ := hs nd hmem
  have hkn := hkl nd hmem
  refine Sa ?_
  refine LW.idx_addr rfl rfl rfl rfl rfl (by omega) (by omega) rfl ?_
  refine LW.load_cells (cs := nvL ⟨nd, .slice kp nd.kids.length kc⟩) rfl hcell rfl rfl rfl rfl ?_
  (apply LW.alloc; exact rfl; exact rfl; exact rfl; intro C w2 hbC hx2 hC)
  (apply LW.store_all; exact rfl; exact rfl; exact rfl; assumption; exact rfl; exact rfl; exact rfl; intro w3 hc3 hC)
  replace hC : Blk w3 C (nvL ⟨nd, .slice kp nd.kids.length kc⟩) 38 := hC
  refine Sa ?_
  refine LW.call0 rfl rfl (arms_ret nd.kind w3) ?_
  rintro v w4 ⟨rfl, hx4⟩
  replace hC := hC.ext hx4
  have hsz1 := hx.size
  have hsz2 := hx2.size
  have hx04 : Ext w1 w4 := (hx2.step hc3 (by simp; omega)).trans hx4
  replace hk := hk.ext hx04
  replace ho := ho.ext hx04
  replace hx := hx.trans hx04
  refine Sl ?_
  apply LW.nil
  apply QW.then_n
  refine CW.seq_cut (ι := Unit) (fun _ w' => w' = w4) (fun _ => [(0, .slice (some a) l.length c), (3, .slice sp st.length sc), (4, .int .i64 i), (5, .pointer (some ⟨C, 0, none⟩)), (6, .int .i64 (kidN nd))]) ?_ ?_
  · refine Sa ?_
    refine CW.cond rfl (fun h2 => ?_) (fun h2 => ?_)
    · have h2 : countI nd.kind = -1 := by simpa using h2
      refine Sa ?_
      exact QW.head () rfl (by have : kidN nd = nd.kids.length := if_pos h2
                               rw [this]; exact (Sub.cons rfl (Sub.cons rfl (Sub.cons rfl (Sub.cons rfl (Sub.cons rfl (Sub.nil)))))))
    · have h2 : ¬ countI nd.kind = -1 := by simpa using h2
      refine Sa ?_
      exact QW.head () rfl (by have : kidN nd = countI nd.kind := if_neg h2
                               rw [this]; exact (Sub.cons rfl (Sub.cons rfl (Sub.cons rfl (Sub.cons rfl (Sub.cons rfl (Sub.nil)))))))
  rintro _ w5 rfl
  have hk0 := hk.1
  have hdrop : l.drop i = nd :: l.drop (i + 1) := by rw [List.drop_eq_getElem_cons h1]; congr 1; rw [List.getElem?_eq_getElem h1] at hnd; exact Option.some.inj hnd
  have hstep : ¬ (kidN nd = nd.kids.length ∧ nd.kids.length ≤ st.length ∧ st.drop (st.length - nd.kids.length) = nd.kids ∧ plainB nd = true) → treeGo i st (l.drop i) = none := fun h => by rw [hdrop, treeGo, treeStep, if_neg h]
  have hno : ∀ w', Ext w5 w' → ¬ (kidN nd = nd.kids.length ∧ nd.kids.length ≤ st.length ∧ st.drop (st.length - nd.kids.length) = nd.kids ∧ plainB nd = true) → (Value.bool false = .bool (treeB l) ∧ Ext w w') := fun w' hx' h => ⟨by rw [treeB, heq, hstep h], hx.trans hx'⟩
  refine Sa ?_
  refine LW.part rfl rfl rfl (fun q0 => ?_) (fun q0 => ?_)
  · have q0 : kidN nd < 0 := by simpa using q0
    refine Sa ?_
    exact QW.body1 Tryz.results27 rfl (hno _ (Chg.refl _ _) (fun h => by have := h.1; omega))
  have q0 : 0 ≤ kidN nd := by simpa using q0
  refine Sa ?_
  refine LW.part rfl rfl rfl (fun q1 => ?_) (fun q1 => ?_)
  · have q1 : kidN nd ≠ nd.kids.length := by simpa using q1
    refine Sa ?_
    exact QW.body1 Tryz.results27 rfl (hno _ (Chg.refl _ _) (fun h => q1 h.1))
  have n1 : kidN nd = nd.kids.length := by simpa using q1
  refine Sa ?_
  refine LW.part rfl rfl rfl (fun q2 => ?_) (fun q2 => ?_)
  · have q2 : st.length < kidN nd := by simpa using q2
    refine Sa ?_
    exact QW.body1 Tryz.results27 rfl (hno _ (Chg.refl _ _) (fun h => by have := h.2.1; omega))
  have n2 : nd.kids.length ≤ st.length := by simp at q2; omega
  refine Sa ?_
  refine LW.call0 rfl rfl (leaf_ret nd kp nd.kids.length kc _ hs1 hs2 hs3) ?_
  rintro v w6 ⟨rfl, hx6⟩
  refine Sa ?_
  refine CW.cond rfl (fun q3 => ?_) (fun q3 => ?_)
  · have q3 : plainB nd = false := by simpa using q3
    refine Sa ?_
    exact QW.body1 Tryz.results27 rfl (hno _ hx6 (fun h => by rw [q3] at h; exact absurd h.2.2.2 (by simp)))
  have n4 : plainB nd = true := by simpa using q3
  rw [n1]
  replace hC := hC.ext hx6
  replace hk := hk.ext hx6
  replace ho := ho.ext hx6
  refine Sa ?_
  refine CW.loop (ι := Nat) (fun j w' => j ≤ nd.kids.length ∧ Ext w6 w' ∧ ∀ m, m < j → st.getD (st.length - nd.kids.length + m) 0 = nd.kids.getD m 0) (fun j => [(0, .slice (some a) l.length c), (3, .slice sp st.length sc), (4, .int .i64 i), (5, .pointer (some ⟨C, 0, none⟩)), (6, .int .i64 (nd.kids.length : Int)), (7, .int .i64 (j : Int))]) (fun j => nd.kids.length - j) 0 ⟨by omega, Chg.refl _ _, by omega⟩ (Sub.cons rfl (Sub.cons rfl (Sub.cons rfl (Sub.cons rfl (Sub.cons rfl (Sub.cons rfl (Sub.nil))))))) ?_
  rintro j w7 ⟨hj, hx7, hall⟩
  replace hC := hC.ext hx7
  replace hk := hk.ext hx7
  replace ho := ho.ext hx7
  refine Sa ?_
  refine CW.cond rfl (fun q4 => ?_) (fun q4 => ?_)
  · have q4 : j < nd.kids.length := by simp at q4; omega
    obtain ⟨ka, rfl, hkc⟩ := hk.at q4
    obtain ⟨sa, rfl, hsc⟩ : ∃ sa, sp = some sa ∧ ∀ m u, (icells st)[m]? = some u → w7.cell? (sa.add m) = some u := by
      rcases Own.cells ho (Nat.le_refl _) with ⟨_, e⟩ | ⟨sa, e, hh⟩
      · omega
      · rw [List.take_length] at hh
        exact ⟨sa, e, hh⟩
    have hst2 := hsc (st.length - nd.kids.length + j) (.int .i64 (st.getD (st.length - nd.kids.length + j) 0)) (icells_get (by simp [List.getD_eq_getElem?_getD, List.getElem?_eq_getElem (show st.length - nd.kids.length + j < st.length by omega)]))
    refine Sa ?_
    refine CW.draw (by kernel_rfl) (by kernel_rfl) ?_
    refine Sq ?_
    refine QL.yields rfl rfl rfl (fun w' hw => Y.idx_addr rfl rfl rfl rfl rfl (by omega) (by omega)) ?_
    refine QL.yields rfl rfl rfl (fun w' hw => Y.load_cell rfl (cell_ext hw (by rw [← hst2]; congr 2; show ((st.length : Int) - nd.kids.length + j).toNat * 1 = _; omega)) rfl rfl) ?_
    refine Sq ?_
    refine QL.yields rfl rfl rfl (fun w' hw => Y.idx_addr rfl rfl rfl rfl rfl (by omega) (by omega)) ?_
    refine QL.yields rfl rfl rfl (fun w' hw => Y.load_cell rfl (cell_ext hw (by rw [← hkc]; congr 2; show (j : Int).toNat * 1 = _; omega)) rfl rfl) ?_
    refine Sq ?_
    refine QL.nil fun w8 hx8 => ?_
    refine Sa ?_
    refine CW.cond rfl (fun q5 => ?_) (fun q5 => ?_)
    · have q5 : st.getD (st.length - nd.kids.length + j) 0 ≠ nd.kids.getD j 0 := by simpa only [Bool.not_eq_true', decide_eq_false_iff_not] using q5
      refine Sa ?_
      refine QW.body1 Tryz.results27 rfl (hno _ ((hx6.trans hx7).trans hx8) (fun h => q5 ?_))
      have h3 := h.2.2.1
      rw [show nd.kids.getD j 0 = (st.drop (st.length - nd.kids.length)).getD j 0 from by rw [h3]]
      simp [List.getD_eq_getElem?_getD, List.getElem?_drop]
    · have q5 : st.getD (st.length - nd.kids.length + j) 0 = nd.kids.getD j 0 := by simpa only [Bool.not_eq_false', decide_eq_true_eq] using q5
      refine Sa ?_
      refine QW.again (j + 1) ⟨by omega, hx7.trans hx8, fun m hm => ?_⟩ (Sub.cons rfl (Sub.cons rfl (Sub.cons rfl (Sub.cons rfl (Sub.cons rfl (Sub.cons rfl (Sub.nil))))))) (by omega)
      by_cases e : m = j
      · subst e; exact q5
      · exact hall m (by omega)
  have q4 : j = nd.kids.length := by simp at q4; omega
  subst q4
  have n3 : st.drop (st.length - nd.kids.length) = nd.kids := by
    apply List.ext_getElem
    · simp; omega
    · intro m h1 h2
      have := hall m h2
      rw [List.getElem_drop]
      simpa [List.getD_eq_getElem?_getD, List.getElem?_eq_getElem h2, List.getElem?_eq_getElem (show st.length - nd.kids.length + m < st.length by omega)] using this
  have hxx := (hx.trans hx6).trans hx7
  refine Sa ?_
  refine LW.slice_to (i := st.length - nd.kids.length) rfl (by show some (Value.int .i64 _) = some (Value.int .i64 _); congr 2; omega) (by show some (Value.int .i64 _) = some (Value.int .i64 _); congr 2; omega) rfl rfl rfl ?_ rfl ?_
  · have := Own.cap_ ho; omega
  refine Sa ?_
  (apply LW.buildSlice; exact rfl; exact rfl; exact rfl; exact rfl; exact rfl; exact rfl; exact rfl; exact rfl; exact rfl; intro B w9 hbB hx9 hB)
  replace ho := ho.ext hx9
  replace hxx := hxx.trans hx9
  refine LW.append_full (xs := icells (st.take (st.length - nd.kids.length))) (lo := w.heap.size) rfl rfl rfl rfl rfl (by exact rfl) ?_ (Own.cells ho (by omega)) hxx.size hB (by exact rfl) (by exact rfl) (by exact rfl) ?_ rfl fun v' w10 hx10 ho10 => ?_
  · rw [icells_len, List.length_take]
    show _ = (st.length - nd.kids.length) * 1
    omega
  · show (st.length - nd.kids.length + 1) * (8 + 1) ≤ _
    omega
  refine Sa ?_
  obtain ⟨p', c', rfl⟩ := ho10.slice
  have e1 : icells (st.take (st.length - nd.kids.length)) ++ [.int .i64 (i : Int)] = icells (st.take (st.length - nd.kids.length) ++ [(i : Int)]) := by simp [icells]
  have e2 : (st.take (st.length - nd.kids.length) ++ [(i : Int)]).length = st.length - nd.kids.length + 1 := by simp [List.length_take]
  refine QW.again (i + 1, st.take (st.length - nd.kids.length) ++ [(i : Int)], p', c') ⟨by omega, by rw [e2]; omega, hxx.trans hx10, ?_, ?_⟩ ?_ (by omega)
  · rw [heq, hdrop, treeGo, treeStep, if_pos ⟨n1, n2, n3, n4⟩]
  · dsimp only
    rw [e2, ← e1]
    exact ho10
  · dsimp only
    rw [e2]
    exact (Sub.cons rfl (Sub.cons rfl (Sub.cons rfl (Sub.nil))))

theorem Ints_ret (a b : List Int) (va vb : Value) (w : World) (ha : IntsR w va a) (hb : IntsR w vb b) : Ret Tryz.prog 73 [va, vb] w (fun v w' => v = .bool (decide (a = b)) ∧ Ext w w') := by
  obtain ⟨pa, ca, rfl⟩ := ha.slice
  obtain ⟨pb, cb, rfl⟩ := hb.slice
  have hla := ha.1
  have hlb := hb.1
  refine Ret.enter Tryz.func73 rfl Tryz.ntmps73 (by kernel_rfl) rfl ?_
  refine Sa ?_
  refine CW.cond rfl (fun h1 => ?_) (fun h1 => ?_)
  · have h1 : a.length ≠ b.length := by simp at h1; omega
    refine Sa ?_
    exact QW.body1 Tryz.results73 rfl ⟨by have : a ≠ b := fun e => h1 (by rw [e]); simp [this], Chg.refl _ _⟩
  have h1 : a.length = b.length := by simp at h1; omega
  refine Sa ?_
  refine CW.loop (ι := Nat) (fun k w' => k ≤ a.length ∧ Ext w w' ∧ a.take k = b.take k) (fun k => [(0, .slice pa a.length ca), (1, .slice pb b.length cb), (5, .int .i64 (k : Int))]) (fun k => a.length - k) 0 ⟨by omega, Chg.refl _ _, by simp⟩ (Sub.cons rfl (Sub.cons rfl (Sub.cons rfl (Sub.nil)))) ?_
  rintro k w1 ⟨hk, hx, heq⟩
  replace ha := ha.ext hx
  replace hb := hb.ext hx
  refine Sa ?_
  refine CW.cond rfl (fun h2 => ?_) (fun h2 => ?_)
  · have h2 : k < a.length := by simp at h2; omega
    obtain ⟨aa, rfl, hca⟩ := ha.at h2
    obtain ⟨ab, rfl, hcb⟩ := hb.at (show k < b.length by omega)
    refine Sa ?_
    refine CW.draw (by kernel_rfl) (by kernel_rfl) ?_
    refine Sq ?_
    refine QL.yields rfl rfl rfl (fun w' hw => Y.idx_addr rfl rfl rfl rfl rfl (by omega) (by omega)) ?_
    refine QL.yields rfl rfl rfl (fun w' hw => Y.load_cell rfl (cell_ext hw (by rw [← hca]; congr 2; show (k : Int).toNat * 1 = _; omega)) rfl rfl) ?_
    refine Sq ?_
    refine QL.yields rfl rfl rfl (fun w' hw => Y.idx_addr rfl rfl rfl rfl rfl (by omega) (by omega)) ?_
    refine QL.yields rfl rfl rfl (fun w' hw => Y.load_cell rfl (cell_ext hw (by rw [← hcb]; congr 2; show (k : Int).toNat * 1 = _; omega)) rfl rfl) ?_
    refine Sq ?_
    refine QL.nil fun w8 hx8 => ?_
    refine Sa ?_
    refine CW.cond rfl (fun h3 => ?_) (fun h3 => ?_)
    · have h3 : a.getD k 0 ≠ b.getD k 0 := by simpa only [Bool.not_eq_true', decide_eq_false_iff_not] using h3
      refine Sa ?_
      exact QW.body1 Tryz.results73 rfl ⟨by have : a ≠ b := fun e => h3 (by rw [e]); simp [this], hx.trans hx8⟩
    · have h3 : a.getD k 0 = b.getD k 0 := by simpa only [Bool.not_eq_false', decide_eq_true_eq] using h3
      refine Sa ?_
      exact QW.again (k + 1) ⟨by omega, hx.trans hx8, take_eq_step h2 (by omega) heq h3⟩ (Sub.cons rfl (Sub.cons rfl (Sub.cons rfl (Sub.nil)))) (by omega)
  have h2 : k = a.length := by simp at h2; omega
  subst h2
  refine Sa ?_
  refine QW.body1 Tryz.results73 rfl ⟨?_, hx⟩
  have : a = b := by rwa [List.take_length, h1, List.take_length] at heq
  simp [this]

theorem take_eq_node {a b : List NodeD} {k : Nat} {x y : NodeD} (ha : a[k]? = some x) (hb : b[k]? = some y) (h : a.take k = b.take k) (hk : x = y) : a.take (k + 1) = b.take (k + 1) := by
  rw [List.take_add_one, List.take_add_one, h, ha, hb, hk]

theorem SameNodes_ret (a b : List NodeD) (va vb : Value) (w : World) (ha : NodesR w va a) (hb : NodesR w vb b) : Ret Tryz.prog 24 [va, vb] w (fun v w' => v = .bool (decide (a = b)) ∧ Ext w w') := by
  obtain ⟨pa, ca, rfl⟩ := ha.slice
  obtain ⟨pb, cb, rfl⟩ := hb.slice
  have hla := ha.1
  have hlb := hb.1
  refine Ret.enter Tryz.func24 rfl Tryz.ntmps24 (by kernel_rfl) rfl ?_
  refine Sa ?_
  refine CW.cond rfl (fun h1 => ?_) (fun h1 => ?_)
  · have h1 : a.length ≠ b.length := by simp at h1; omega
    refine Sa ?_
    exact QW.body1 Tryz.results24 rfl ⟨by have : a ≠ b := fun e => h1 (by rw [e]); simp [this], Chg.refl _ _⟩
  have h1 : a.length = b.length := by simp at h1; omega
  refine Sa ?_
  refine CW.loop (ι := Nat) (fun k w' => k ≤ a.length ∧ Ext w w' ∧ a.take k = b.take k) (fun k => [(0, .slice pa a.length ca), (1, .slice pb b.length cb), (5, .int .i64 (k : Int))]) (fun k => a.length - k) 0 ⟨by omega, Chg.refl _ _, by simp⟩ (Sub.cons rfl (Sub.cons rfl (Sub.cons rfl (Sub.nil)))) ?_
  rintro k w1 ⟨hk, hx, heq⟩
  replace ha := ha.ext hx
  replace hb := hb.ext hx
  refine Sa ?_
  refine CW.cond rfl (fun h2 => ?_) (fun h2 => ?_)
  rotate_left
  · have h2 : k = a.length := by simp at h2; omega
    subst h2
    refine Sa ?_
    refine QW.body1 Tryz.results24 rfl ⟨?_, hx⟩
    have : a = b := by rwa [List.take_length, h1, List.take_length] at heq
    simp [this]
  have h2 : k < a.length := by simp at h2; omega
  obtain ⟨na, hna⟩ : ∃ nd, a[k]? = some nd := ⟨_, List.getElem?_eq_getElem h2⟩
  obtain ⟨nb, hnb⟩ : ∃ nd, b[k]? = some nd := ⟨_, List.getElem?_eq_getElem (show k < b.length by omega)⟩
  obtain ⟨aa, kpa, kca, rfl, hka, hca⟩ := ha.at hna
  obtain ⟨ab, kpb, kcb, rfl, hkb, hcb⟩ := hb.at hnb
  have hno : ∀ w', Ext w1 w' → na ≠ nb → (Value.bool false = .bool (decide (a = b)) ∧ Ext w w') := fun w' hx' h => ⟨by
    have : a ≠ b := fun e => h (by rw [e, hnb] at hna; exact (Option.some.inj hna).symm)
    simp [this], hx.trans hx'⟩
  refine Sa ?_
  refine CW.drawHeld (fun w' => Ext w1 w') (fun w' h => h) (by kernel_rfl) fun w2 hx2 => ?_
  refine Sh ?_
  refine HW.take 2 rfl rfl rfl rfl (fun w _ => Y.idx_addr rfl rfl rfl rfl rfl (by omega) (by omega)) rfl (by kernel_rfl) (by kernel_rfl) (by kernel_rfl) (fun _ _ _ h => h) ?_
  refine HW.take 3 rfl rfl rfl rfl (fun w hw => Y.load_cells (cs := nvL ⟨na, .slice kpa na.kids.length kca⟩) rfl (fun j u hj => cell_ext hw (hca j u hj)) rfl rfl rfl) rfl (by kernel_rfl) (by kernel_rfl) (by kernel_rfl) (fun _ _ _ h => h) ?_
  refine Sh ?_
  refine HW.take 6 rfl rfl rfl rfl (fun w _ => Y.idx_addr rfl rfl rfl rfl rfl (by omega) (by omega)) rfl (by kernel_rfl) (by kernel_rfl) (by kernel_rfl) (fun _ _ _ h => h) ?_
  refine HW.take 7 rfl rfl rfl rfl (fun w hw => Y.load_cells (cs := nvL ⟨nb, .slice kpb nb.kids.length kcb⟩) rfl (fun j u hj => cell_ext hw (hcb j u hj)) rfl rfl rfl) rfl (by kernel_rfl) (by kernel_rfl) (by kernel_rfl) (fun _ _ _ h => h) ?_
  refine HW.two 8 9 (by kernel_rfl) rfl rfl rfl rfl (fun hS => ?_) (fun hS => ?_)
  · (apply LW.alloc; exact rfl; exact rfl; exact rfl; intro A w3 hbA hx3 hA)
    have hlt3 := hA.lt
    apply LW.nil
    refine QW.held (hS.trans hx3) ?_
    refine HW.one 9 (by kernel_rfl) rfl rfl (fun hS => ?_)
    (apply LW.alloc; exact rfl; exact rfl; exact rfl; intro B w4 hbB hx4 hB)
    replace hA := hA.ext hx4
    have hAB : A ≠ B := by omega
    apply LW.nil
    refine QW.held (hS.trans hx4) ?_
    refine HW.one 10 (by kernel_rfl) rfl rfl (fun hS => ?_)
    (apply LW.store_all; exact rfl; exact rfl; exact rfl; assumption; exact rfl; exact rfl; exact rfl; intro w5 hc5 hA)
    replace hA : Blk w5 A (nvL ⟨na, .slice kpa na.kids.length kca⟩) 38 := hA
    replace hB := hB.chg hc5 (by simp; exact fun e => hAB e.symm)
    have hz2 := hx2.size
    have hz3 := hx3.size
    have hAn : w1.heap.size ≤ A := by omega
    have hBn : w1.heap.size ≤ B := by omega
    apply LW.nil
    refine QW.held (hS.step hc5 (by simpa using hAn)) ?_
    refine HW.one 11 (by kernel_rfl) rfl rfl (fun hS => ?_)
    (apply LW.store_all; exact rfl; exact rfl; exact rfl; assumption; exact rfl; exact rfl; exact rfl; intro w6 hc6 hB)
    replace hB : Blk w6 B (nvL ⟨nb, .slice kpb nb.kids.length kcb⟩) 38 := hB
    replace hA := hA.chg hc6 (by simp; exact hAB)
    have hx6 : Ext w1 w6 := hS.step hc6 (by simpa using hBn)
    apply LW.nil
    refine QW.held hx6 ?_
    refine HW.done (by kernel_rfl) ?_
    refine Sa ?_
    refine LW.part rfl rfl rfl (fun q1 => ?_) (fun q1 => ?_)
    · refine Sa ?_
      exact QW.body1 Tryz.results24 rfl (hno _ hx6 (fun e => by simp [e] at q1))
    have q1 : na.kind = nb.kind := by simpa using q1
    refine Sa ?_
    refine LW.part rfl rfl rfl (fun q2 => ?_) (fun q2 => ?_)
    · refine Sa ?_
      exact QW.body1 Tryz.results24 rfl (hno _ hx6 (fun e => by simp [e] at q2))
    have q2 : na.num = nb.num := by simpa using q2
    refine Sa ?_
    refine LW.part rfl rfl rfl (fun q3 => ?_) (fun q3 => ?_)
    · refine Sa ?_
      exact QW.body1 Tryz.results24 rfl (hno _ hx6 (fun e => by simp [e] at q3))
    have q3 : na.text = nb.text := by simpa using q3
    refine Sa ?_
    refine LW.load_agg (cs := refL na.ref) rfl hA rfl rfl rfl ⟨rfl, rfl, rfl, rfl, rfl, trivial⟩ rfl ?_
    refine Sa ?_
    refine LW.load_agg (cs := refL nb.ref) rfl hB rfl rfl rfl ⟨rfl, rfl, rfl, rfl, rfl, trivial⟩ rfl ?_
    refine Lb ?_
    refine LW.neq_agg (xs := refL na.ref) (ys := refL nb.ref) (c := decide (na.ref = nb.ref)) rfl rfl eqg_ref4 (fun w => eqr_ref na.ref nb.ref 9998 w) rfl ?_
    refine Sa ?_
    refine LW.part rfl rfl rfl (fun q4 => ?_) (fun q4 => ?_)
    · refine Sa ?_
      exact QW.body1 Tryz.results24 rfl (hno _ hx6 (fun e => by simp [e] at q4))
    have q4 : na.ref = nb.ref := by simpa using q4
    refine Sa ?_
    refine LW.load_agg (cs := refL na.to) rfl hA rfl rfl rfl ⟨rfl, rfl, rfl, rfl, rfl, trivial⟩ rfl ?_
    refine Sa ?_
    refine LW.load_agg (cs := refL nb.to) rfl hB rfl rfl rfl ⟨rfl, rfl, rfl, rfl, rfl, trivial⟩ rfl ?_
    refine Lb ?_
    refine LW.neq_agg (xs := refL na.to) (ys := refL nb.to) (c := decide (na.to = nb.to)) rfl rfl eqg_ref4 (fun w => eqr_ref na.to nb.to 9998 w) rfl ?_
    refine Sa ?_
    refine LW.part rfl rfl rfl (fun q5 => ?_) (fun q5 => ?_)
    · refine Sa ?_
      exact QW.body1 Tryz.results24 rfl (hno _ hx6 (fun e => by simp [e] at q5))
    have q5 : na.to = nb.to := by simpa using q5
    refine Sa ?_
    refine LW.call0 rfl rfl (Ints_ret na.kids nb.kids _ _ w6 (hka.ext hx6) (hkb.ext hx6)) ?_
    rintro v w7 ⟨rfl, hx7⟩
    refine Sa ?_
    refine CW.cond rfl (fun q6 => ?_) (fun q6 => ?_)
    · refine Sa ?_
      exact QW.body1 Tryz.results24 rfl (hno _ (hx6.trans hx7) (fun e => by simp [e] at q6))
    have q6 : na.kids = nb.kids := by simpa using q6
    have hab : na = nb := by
      cases na
      cases nb
      simp_all
    refine Sa ?_
    exact QW.again (k + 1) ⟨by omega, (hx.trans hx6).trans hx7, take_eq_node hna hnb heq hab⟩ (Sub.cons rfl (Sub.cons rfl (Sub.cons rfl (Sub.nil)))) (by omega)
  · (apply LW.alloc; exact rfl; exact rfl; exact rfl; intro B w3 hbB hx3 hB)
    have hlt3 := hB.lt
    apply LW.nil
    refine QW.held (hS.trans hx3) ?_
    refine HW.one 8 (by kernel_rfl) rfl rfl (fun hS => ?_)
    (apply LW.alloc; exact rfl; exact rfl; exact rfl; intro A w4 hbA hx4 hA)
    replace hB := hB.ext hx4
    have hAB : A ≠ B := by omega
    apply LW.nil
    refine QW.held (hS.trans hx4) ?_
    refine HW.one 10 (by kernel_rfl) rfl rfl (fun hS => ?_)
    (apply LW.store_all; exact rfl; exact rfl; exact rfl; assumption; exact rfl; exact rfl; exact rfl; intro w5 hc5 hA)
    replace hA : Blk w5 A (nvL ⟨na, .slice kpa na.kids.length kca⟩) 38 := hA
    replace hB := hB.chg hc5 (by simp; exact fun e => hAB e.symm)
    have hz2 := hx2.size
    have hz3 := hx3.size
    have hAn : w1.heap.size ≤ A := by omega
    have hBn : w1.heap.size ≤ B := by omega
    apply LW.nil
    refine QW.held (hS.step hc5 (by simpa using hAn)) ?_
    refine HW.one 11 (by kernel_rfl) rfl rfl (fun hS => ?_)
    (apply LW.store_all; exact rfl; exact rfl; exact rfl; assumption; exact rfl; exact rfl; exact rfl; intro w6 hc6 hB)
    replace hB : Blk w6 B (nvL ⟨nb, .slice kpb nb.kids.length kcb⟩) 38 := hB
    replace hA := hA.chg hc6 (by simp; exact hAB)
    have hx6 : Ext w1 w6 := hS.step hc6 (by simpa using hBn)
    apply LW.nil
    refine QW.held hx6 ?_
    refine HW.done (by kernel_rfl) ?_
    refine Sa ?_
    refine LW.part rfl rfl rfl (fun q1 => ?_) (fun q1 => ?_)
    · refine Sa ?_
      exact QW.body1 Tryz.results24 rfl (hno _ hx6 (fun e => by simp [e] at q1))
    have q1 : na.kind = nb.kind := by simpa using q1
    refine Sa ?_
    refine LW.part rfl rfl rfl (fun q2 => ?_) (fun q2 => ?_)
    · refine Sa ?_
      exact QW.body1 Tryz.results24 rfl (hno _ hx6 (fun e => by simp [e] at q2))
    have q2 : na.num = nb.num := by simpa using q2
    refine Sa ?_
    refine LW.part rfl rfl rfl (fun q3 => ?_) (fun q3 => ?_)
    · refine Sa ?_
      exact QW.body1 Tryz.results24 rfl (hno _ hx6 (fun e => by simp [e] at q3))
    have q3 : na.text = nb.text := by simpa using q3
    refine Sa ?_
    refine LW.load_agg (cs := refL na.ref) rfl hA rfl rfl rfl ⟨rfl, rfl, rfl, rfl, rfl, trivial⟩ rfl ?_
    refine Sa ?_
    refine LW.load_agg (cs := refL nb.ref) rfl hB rfl rfl rfl ⟨rfl, rfl, rfl, rfl, rfl, trivial⟩ rfl ?_
    refine Lb ?_
    refine LW.neq_agg (xs := refL na.ref) (ys := refL nb.ref) (c := decide (na.ref = nb.ref)) rfl rfl eqg_ref4 (fun w => eqr_ref na.ref nb.ref 9998 w) rfl ?_
    refine Sa ?_
    refine LW.part rfl rfl rfl (fun q4 => ?_) (fun q4 => ?_)
    · refine Sa ?_
      exact QW.body1 Tryz.results24 rfl (hno _ hx6 (fun e => by simp [e] at q4))
    have q4 : na.ref = nb.ref := by simpa using q4
    refine Sa ?_
    refine LW.load_agg (cs := refL na.to) rfl hA rfl rfl rfl ⟨rfl, rfl, rfl, rfl, rfl, trivial⟩ rfl ?_
    refine Sa ?_
    refine LW.load_agg (cs := refL nb.to) rfl hB rfl rfl rfl ⟨rfl, rfl, rfl, rfl, rfl, trivial⟩ rfl ?_
    refine Lb ?_
    refine LW.neq_agg (xs := refL na.to) (ys := refL nb.to) (c := decide (na.to = nb.to)) rfl rfl eqg_ref4 (fun w => eqr_ref na.to nb.to 9998 w) rfl ?_
    refine Sa ?_
    refine LW.part rfl rfl rfl (fun q5 => ?_) (fun q5 => ?_)
    · refine Sa ?_
      exact QW.body1 Tryz.results24 rfl (hno _ hx6 (fun e => by simp [e] at q5))
    have q5 : na.to = nb.to := by simpa using q5
    refine Sa ?_
    refine LW.call0 rfl rfl (Ints_ret na.kids nb.kids _ _ w6 (hka.ext hx6) (hkb.ext hx6)) ?_
    rintro v w7 ⟨rfl, hx7⟩
    refine Sa ?_
    refine CW.cond rfl (fun q6 => ?_) (fun q6 => ?_)
    · refine Sa ?_
      exact QW.body1 Tryz.results24 rfl (hno _ (hx6.trans hx7) (fun e => by simp [e] at q6))
    have q6 : na.kids = nb.kids := by simpa using q6
    have hab : na = nb := by
      cases na
      cases nb
      simp_all
    refine Sa ?_
    exact QW.again (k + 1) ⟨by omega, (hx.trans hx6).trans hx7, take_eq_node hna hnb heq hab⟩ (Sub.cons rfl (Sub.cons rfl (Sub.cons rfl (Sub.nil)))) (by omega)
end Go.Proofs.YtiloogjageledaaGreatDoor
