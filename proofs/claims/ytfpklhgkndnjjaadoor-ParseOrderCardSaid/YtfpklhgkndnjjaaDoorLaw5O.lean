/-
  Walk: the law ParseOrder.
-/
import Derived.Test.YtfpklhgkndnjjaaDoorParL
import Derived.Test.YtfpklhgkndnjjaaDoorLaw5
import Derived.Test.YtfpklhgkndnjjaaDoorInS
namespace Go.Proofs.YtfpklhgkndnjjaaDoor
open Go Go.E

theorem dec_len2 : ∀ u : Fin 100, (Lib.decDigits u.val).length ≤ 2 := by decide +kernel
theorem sign_len2 (o : Nat) : (signS o).length ≤ 2 := by
  have : o = 0 ∨ o = 1 ∨ o = 2 ∨ o = 3 ∨ o = 4 ∨ o = 5 ∨ o = 6 ∨ o = 7 ∨ o = 8 ∨ o = 9 ∨ o = 10 ∨ 11 ≤ o := by omega
  rcases this with rfl | rfl | rfl | rfl | rfl | rfl | rfl | rfl | rfl | rfl | rfl | h <;> first | decide | skip
  rw [signS, List.getD_eq_getElem?_getD, List.getElem?_eq_none (by show 11 ≤ o; exact h)]
  decide
theorem text_len : ∀ (ops : List Nat) (i : Nat), i + ops.length ≤ 99 → (textFrom i ops).length ≤ 4 * ops.length
  | [], i, _ => by simp [textFrom]
  | o :: r, i, h => by
    simp only [List.length_cons] at h
    have h1 := text_len r (i + 1) (by omega)
    have h2 := sign_len2 o
    have h3 : (Lib.decDigits (i + 1)).length ≤ 2 := dec_len2 ⟨i + 1, by omega⟩
    simp only [textFrom, List.length_append, List.length_cons]
    omega
theorem treeStep_len {i : Nat} {st st' : List Int} {n : NodeD} (h : treeStep i st n = some st') : n.kids.length ≤ st.length ∧ st'.length ≤ st.length + 1 := by
  unfold treeStep at h
  split at h
  · rename_i hc
    simp only [Option.some.injEq] at h
    subst h
    exact ⟨hc.2.1, by simp⟩
  · cases h
theorem treeGo_kids : ∀ (l : List NodeD) (i : Nat) (st st' : List Int), treeGo i st l = some st' → ∀ n ∈ l, n.kids.length ≤ st.length + l.length
  | [], _, _, _, _, _, hn => absurd hn (by simp)
  | m :: t, i, st, st', h, n, hn => by
    rw [treeGo] at h
    cases e : treeStep i st m with
    | none => rw [e] at h; cases h
    | some s1 =>
      rw [e] at h
      obtain ⟨h1, h2⟩ := treeStep_len e
      rcases List.mem_cons.1 hn with rfl | hn
      · simp; omega
      · have := treeGo_kids t (i + 1) s1 st' h n hn
        simp; omega
theorem treeB_kids {l : List NodeD} (h : treeB l = true) : ∀ n ∈ l, n.kids.length ≤ l.length := by
  unfold treeB at h
  split at h
  · rename_i st e
    intro n hn
    have := treeGo_kids l 0 [] st e n hn
    simpa using this
  · cases h
theorem Nodes.row {w : World} {lo : Nat} {sv : Value} {l : List NodeD} (h : Nodes w lo sv l) (hl : l.length ≤ 100000) (hk : ∀ n ∈ l, n.kids.length ≤ 100000) : NodesR w sv l := by
  refine ⟨hl, ?_⟩
  by_cases h0 : l.length = 0
  · have hnil : l = [] := List.eq_nil_of_length_eq_zero h0
    subst hnil
    obtain ⟨nvs, ho, hm, _⟩ := h
    have hv0 : nvs = [] := by simpa using hm
    subst hv0
    obtain ⟨_, ⟨e, _⟩ | ⟨g, cap, sp, e, hB, _⟩⟩ := ho
    · exact .inl ⟨e, rfl⟩
    · exact .inr ⟨_, cap, e, fun i nd hi => by simp at hi⟩
  · obtain ⟨g, cap, nvs, sp, rfl, hB, hm, hkids⟩ := h.get (by omega)
    refine .inr ⟨_, cap, rfl, fun i nd hi => ?_⟩
    obtain ⟨kv, hg⟩ := nodes_get hm hi
    refine ⟨kv, ⟨by have := hk nd (List.mem_of_getElem? hi); omega, ?_⟩, fun j u hu => ?_⟩
    · rcases hkids _ (List.mem_of_getElem? hg) with ⟨e1, e2⟩ | ⟨b', cap', sp', e1, hb'⟩
      · exact .inl ⟨e1, e2⟩
      · refine .inr ⟨_, cap', e1, fun j z hz => hb'.getElem _ _ ?_⟩
        rw [List.getElem?_append_left (by
          rw [icells_len]
          rcases Nat.lt_or_ge j nd.kids.length with h | h
          · exact h
          · rw [List.getElem?_eq_none h] at hz; cases hz)]
        exact icells_get hz
    · have hj : j < 14 := by
        rcases Nat.lt_or_ge j 14 with h | h
        · exact h
        · rw [List.getElem?_eq_none (by rw [nv_len]; exact h)] at hu; cases hu
      rw [Addr.add_add]
      refine hB.getElem _ _ ?_
      rw [flat_get nv_len nvs sp i _ j hg hj]
      exact hu

def opsOf (zs : List Int) : List Nat := zs.map fun z => (z % 11).toNat
theorem opsOf_len (zs : List Int) : (opsOf zs).length = zs.length := by simp [opsOf]
theorem opsOf_lt (zs : List Int) : ∀ o ∈ opsOf zs, o < 11 := by
  intro o ho
  simp only [opsOf, List.mem_map] at ho
  obtain ⟨z, _, rfl⟩ := ho
  have := Int.emod_lt_of_pos z (show (0 : Int) < 11 by decide)
  have := Int.emod_nonneg z (show (11 : Int) ≠ 0 by decide)
  omega
theorem opsOf_get {zs : List Int} {i : Nat} (h : i < zs.length) : (opsOf zs).getD i 0 = (zs.getD i 0 % 11).toNat := by
  simp [opsOf, List.getD_eq_getElem?_getD, List.getElem?_eq_getElem h]

/-- Which operator is the last of the least rank, of the first i. -/
def KI (ops : List Nat) (i k : Nat) : Prop := (k < i ∨ i = 0 ∧ k = 0) ∧ (∀ t, t < i → rk ops k ≤ rk ops t) ∧ ∀ t, k < t → t < i → rk ops k < rk ops t

theorem ParseOrder_ret (nv : Value) (zs : List Int) (w : World) (g : Glob w) (hin : InS .u8 w nv zs) (hz : ∀ z ∈ zs, 0 ≤ z ∧ z ≤ 255) :
    Ret Tryd.prog 12 [nv] w (fun v w' => v = .bool true ∧ Ext w w') := by
  obtain ⟨np, nc, rfl⟩ := hin.slice
  have hzl := hin.1
  refine Ret.enter Tryd.func12 rfl Tryd.ntmps12 (by kernel_rfl) rfl ?_
  (repeat (first | refine La ?_ | refine Lb ?_ | refine Lc ?_ | refine Ld ?_ | refine Le ?_ | refine Lf ?_ | refine Lg ?_ | apply LW.nil | apply QW.then_n | apply QW.round | apply RW.succ | apply CW.seq | apply CW.region | apply CW.skip | apply CW.block | apply CW.ret | apply CW.exit | apply QW.then_ret | apply QW.then_exit | apply QW.blk_n | apply QW.blk_ret | apply QW.blk_exit | refine Ca ?_ | refine Cb ?_ | refine Cc ?_ | refine Lh ?_ | refine Li ?_ | refine Lj ?_ | refine Lk ?_ | refine Ll ?_))
  (apply LW.buildSlice; exact rfl; exact rfl; exact rfl; exact rfl; exact rfl; exact rfl; exact rfl; exact rfl; exact rfl; intro A w1 hbA hx1 hA)
  replace hA : Blk w1 A (opSigns.map str) 9 := hA
  (repeat (first | refine La ?_ | refine Lb ?_ | refine Lc ?_ | refine Ld ?_ | refine Le ?_ | refine Lf ?_ | refine Lg ?_ | apply LW.nil | apply QW.then_n | apply QW.round | apply RW.succ | apply CW.seq | apply CW.region | apply CW.skip | apply CW.block | apply CW.ret | apply CW.exit | apply QW.then_ret | apply QW.then_exit | apply QW.blk_n | apply QW.blk_ret | apply QW.blk_exit | refine Ca ?_ | refine Cb ?_ | refine Cc ?_ | refine Lh ?_ | refine Li ?_ | refine Lj ?_ | refine Lk ?_ | refine Ll ?_))
  (apply LW.buildSlice; exact rfl; exact rfl; exact rfl; exact rfl; exact rfl; exact rfl; exact rfl; exact rfl; exact rfl; intro B w2 hbB hx2 hB)
  replace hB : Blk w2 B (opRanks.map fun (r : Nat) => .int .i64 (r : Int)) 3 := hB
  replace hA := hA.ext hx2
  replace hin := (hin.ext hx1).ext hx2
  replace hx2 := hx1.trans hx2
  (repeat (first | refine La ?_ | refine Lb ?_ | refine Lc ?_ | refine Ld ?_ | refine Le ?_ | refine Lf ?_ | refine Lg ?_ | apply LW.nil | apply QW.then_n | apply QW.round | apply RW.succ | apply CW.seq | apply CW.region | apply CW.skip | apply CW.block | apply CW.ret | apply CW.exit | apply QW.then_ret | apply QW.then_exit | apply QW.blk_n | apply QW.blk_ret | apply QW.blk_exit | refine Ca ?_ | refine Cb ?_ | refine Cc ?_ | refine Lh ?_ | refine Li ?_ | refine Lj ?_ | refine Lk ?_ | refine Ll ?_))
  refine LW.part rfl rfl rfl (fun h0 => ?_) (fun h0 => ?_)
  · (repeat (first | refine La ?_ | refine Lb ?_ | refine Lc ?_ | refine Ld ?_ | refine Le ?_ | refine Lf ?_ | refine Lg ?_ | apply LW.nil | apply QW.then_n | apply QW.round | apply RW.succ | apply CW.seq | apply CW.region | apply CW.skip | apply CW.block | apply CW.ret | apply CW.exit | apply QW.then_ret | apply QW.then_exit | apply QW.blk_n | apply QW.blk_ret | apply QW.blk_exit | refine Ca ?_ | refine Cb ?_ | refine Cc ?_ | refine Lh ?_ | refine Li ?_ | refine Lj ?_ | refine Lk ?_ | refine Ll ?_))
    refine LW.call0 rfl rfl (awake5_ret w2 (g.ext hx2)) ?_
    rintro v w3 ⟨rfl, hx3⟩
    (repeat (first | refine La ?_ | refine Lb ?_ | refine Lc ?_ | refine Ld ?_ | refine Le ?_ | refine Lf ?_ | refine Lg ?_ | apply LW.nil | apply QW.then_n | apply QW.round | apply RW.succ | apply CW.seq | apply CW.region | apply CW.skip | apply CW.block | apply CW.ret | apply CW.exit | apply QW.then_ret | apply QW.then_exit | apply QW.blk_n | apply QW.blk_ret | apply QW.blk_exit | refine Ca ?_ | refine Cb ?_ | refine Cc ?_ | refine Lh ?_ | refine Li ?_ | refine Lj ?_ | refine Lk ?_ | refine Ll ?_))
    exact QW.body1 Tryd.results12 rfl ⟨rfl, hx2.trans hx3⟩
  have h0 : 0 < zs.length := by have := of_decide_eq_false h0; omega
  (repeat (first | refine La ?_ | refine Lb ?_ | refine Lc ?_ | refine Ld ?_ | refine Le ?_ | refine Lf ?_ | refine Lg ?_ | apply LW.nil | apply QW.then_n | apply QW.round | apply RW.succ | apply CW.seq | apply CW.region | apply CW.skip | apply CW.block | apply CW.ret | apply CW.exit | apply QW.then_ret | apply QW.then_exit | apply QW.blk_n | apply QW.blk_ret | apply QW.blk_exit | refine Ca ?_ | refine Cb ?_ | refine Cc ?_ | refine Lh ?_ | refine Li ?_ | refine Lj ?_ | refine Lk ?_ | refine Ll ?_))
  refine CW.cond rfl (fun h1 => ?_) (fun h1 => ?_)
  · (repeat (first | refine La ?_ | refine Lb ?_ | refine Lc ?_ | refine Ld ?_ | refine Le ?_ | refine Lf ?_ | refine Lg ?_ | apply LW.nil | apply QW.then_n | apply QW.round | apply RW.succ | apply CW.seq | apply CW.region | apply CW.skip | apply CW.block | apply CW.ret | apply CW.exit | apply QW.then_ret | apply QW.then_exit | apply QW.blk_n | apply QW.blk_ret | apply QW.blk_exit | refine Ca ?_ | refine Cb ?_ | refine Cc ?_ | refine Lh ?_ | refine Li ?_ | refine Lj ?_ | refine Lk ?_ | refine Ll ?_))
    refine LW.call0 rfl rfl (awake5_ret w2 (g.ext hx2)) ?_
    rintro v w3 ⟨rfl, hx3⟩
    (repeat (first | refine La ?_ | refine Lb ?_ | refine Lc ?_ | refine Ld ?_ | refine Le ?_ | refine Lf ?_ | refine Lg ?_ | apply LW.nil | apply QW.then_n | apply QW.round | apply RW.succ | apply CW.seq | apply CW.region | apply CW.skip | apply CW.block | apply CW.ret | apply CW.exit | apply QW.then_ret | apply QW.then_exit | apply QW.blk_n | apply QW.blk_ret | apply QW.blk_exit | refine Ca ?_ | refine Cb ?_ | refine Cc ?_ | refine Lh ?_ | refine Li ?_ | refine Lj ?_ | refine Lk ?_ | refine Ll ?_))
    exact QW.body1 Tryd.results12 rfl ⟨rfl, hx2.trans hx3⟩
  have h1 : zs.length ≤ 20 := by simp at h1; omega
  obtain ⟨a0, rfl, hcell⟩ : ∃ a, np = some a ∧ ∀ i z, zs[i]? = some z → w2.cell? (a.add i) = some (.int .u8 z) := by
    obtain ⟨_, ⟨_, hn⟩ | ⟨a, cap, e, h⟩⟩ := hin
    · rw [hn] at h0; simp at h0
    · simp only [Value.slice.injEq] at e
      exact ⟨a, e.1, h⟩
  have hgz : ∀ i, i < zs.length → zs[i]? = some (zs.getD i 0) ∧ 0 ≤ zs.getD i 0 ∧ zs.getD i 0 ≤ 255 := fun i hi => by
    have h : zs[i]? = some (zs.getD i 0) := by simp [List.getD_eq_getElem?_getD, List.getElem?_eq_getElem hi]
    exact ⟨h, hz _ (List.mem_of_getElem? h)⟩
  have hol := opsOf_len zs
  (repeat (first | refine La ?_ | refine Lb ?_ | refine Lc ?_ | refine Ld ?_ | refine Le ?_ | refine Lf ?_ | refine Lg ?_ | apply LW.nil | apply QW.then_n | apply QW.round | apply RW.succ | apply CW.seq | apply CW.region | apply CW.skip | apply CW.block | apply CW.ret | apply CW.exit | apply QW.then_ret | apply QW.then_exit | apply QW.blk_n | apply QW.blk_ret | apply QW.blk_exit | refine Ca ?_ | refine Cb ?_ | refine Cc ?_ | refine Lh ?_ | refine Li ?_ | refine Lj ?_ | refine Lk ?_ | refine Ll ?_))
  refine CW.loop (ι := Nat × Nat) (fun x w' => x.1 ≤ zs.length ∧ Ext w2 w' ∧ KI (opsOf zs) x.1 x.2)
    (fun x => [(0, .slice (some a0) zs.length nc), (3, .slice (some ⟨A, 0, none⟩) 11 11), (4, .slice (some ⟨B, 0, none⟩) 11 11), (5, str ([48] ++ textFrom 0 ((opsOf zs).take x.1))), (6, .int .i64 x.2), (7, .int .i64 x.1)]) (fun x => zs.length - x.1) (0, 0) ⟨by omega, Chg.refl _ _, ⟨.inr ⟨rfl, rfl⟩, by simp, by simp⟩⟩ (Sub.cons rfl (Sub.cons rfl (Sub.cons rfl (Sub.cons rfl (Sub.cons rfl (Sub.cons rfl (Sub.nil))))))) ?_
  rintro ⟨i, k⟩ w3 ⟨hi, hx3, hki⟩
  dsimp only at hi hki ⊢
  replace hA := hA.ext hx3
  replace hB := hB.ext hx3
  (repeat (first | refine La ?_ | refine Lb ?_ | refine Lc ?_ | refine Ld ?_ | refine Le ?_ | refine Lf ?_ | refine Lg ?_ | apply LW.nil | apply QW.then_n | apply QW.round | apply RW.succ | apply CW.seq | apply CW.region | apply CW.skip | apply CW.block | apply CW.ret | apply CW.exit | apply QW.then_ret | apply QW.then_exit | apply QW.blk_n | apply QW.blk_ret | apply QW.blk_exit | refine Ca ?_ | refine Cb ?_ | refine Cc ?_ | refine Lh ?_ | refine Li ?_ | refine Lj ?_ | refine Lk ?_ | refine Ll ?_))
  refine CW.cond rfl (fun h2 => ?_) (fun h2 => ?_)
  · have h2 : i < zs.length := by simp at h2; omega
    obtain ⟨gi, gi0, gi1⟩ := hgz i h2
    have hk : k < zs.length := by rcases hki.1 with h | h <;> omega
    obtain ⟨gk, gk0, gk1⟩ := hgz k hk
    have hoi := opsOf_get h2
    have hok := opsOf_get hk
    have hci : w3.cell? (a0.add i) = some (.int .u8 (zs.getD i 0)) := cell_ext hx3 (hcell i _ gi)
    have hck : w3.cell? (a0.add k) = some (.int .u8 (zs.getD k 0)) := cell_ext hx3 (hcell k _ gk)
    have hsg : (opSigns.map str)[(zs.getD i 0 % 11).toNat]? = some (str (signS ((opsOf zs).getD i 0))) := by
      have hl : (zs.getD i 0 % 11).toNat < 11 := by omega
      rw [hoi, signS]
      generalize (zs.getD i 0 % 11).toNat = o at hl
      rw [List.getElem?_map, List.getD_eq_getElem?_getD, List.getElem?_eq_getElem (show o < opSigns.length from hl)]
      rfl
    have htx := text_len ((opsOf zs).take i) 0 (by simp; omega)
    have htl : ((opsOf zs).take i).length = i := by simp; omega
    have hsl := sign_len2 ((opsOf zs).getD i 0)
    obtain ⟨sg, hsgd⟩ : ∃ sg, sg = signS ((opsOf zs).getD i 0) := ⟨_, rfl⟩
    rw [← hsgd] at hsg hsl
    have hdl : (Lib.decDigits (i + 1)).length ≤ 2 := dec_len2 ⟨i + 1, by omega⟩
    have hit : Lib.itoa ((i : Int) + 1) = Lib.decDigits (i + 1) := itoa_nat (by omega)
    have hrk : ∀ j, j < zs.length → (opRanks.map fun (r : Nat) => Value.int .i64 (r : Int))[(zs.getD j 0 % 11).toNat]? = some (.int .i64 (rk (opsOf zs) j)) := fun j hj => by
      have hl : (zs.getD j 0 % 11).toNat < 11 := by have := (hgz j hj).2; omega
      rw [rk, opsOf_get hj, rankN]
      generalize (zs.getD j 0 % 11).toNat = o at hl
      rw [List.getElem?_map, List.getD_eq_getElem?_getD, List.getElem?_eq_getElem (show o < opRanks.length from hl)]
      rfl
    (repeat (first | refine La ?_ | refine Lb ?_ | refine Lc ?_ | refine Ld ?_ | refine Le ?_ | refine Lf ?_ | refine Lg ?_ | apply LW.nil | apply QW.then_n | apply QW.round | apply RW.succ | apply CW.seq | apply CW.region | apply CW.skip | apply CW.block | apply CW.ret | apply CW.exit | apply QW.then_ret | apply QW.then_exit | apply QW.blk_n | apply QW.blk_ret | apply QW.blk_exit | refine Ca ?_ | refine Cb ?_ | refine Cc ?_ | refine Lh ?_ | refine Li ?_ | refine Lj ?_ | refine Lk ?_ | refine Ll ?_))
    refine CW.drawHeld (fun w' => Ext w3 w') (fun w' h => h) (by kernel_rfl) fun w4 hx4 => ?_
    refine HW.take 0 rfl rfl rfl rfl (fun w _ => Y.pure rfl) rfl (by kernel_rfl) (by kernel_rfl) (by kernel_rfl) (fun _ _ _ h => h) ?_
    refine HW.take 1 rfl rfl rfl rfl (fun w _ => Y.pure rfl) rfl (by kernel_rfl) (by kernel_rfl) (by kernel_rfl) (fun _ _ _ h => h) ?_
    refine HW.take 2 rfl rfl rfl rfl (fun w _ => Y.pure rfl) rfl (by kernel_rfl) (by kernel_rfl) (by kernel_rfl) (fun _ _ _ h => h) ?_
    refine HW.take 3 rfl rfl rfl rfl (fun w _ => Y.pure rfl) rfl (by kernel_rfl) (by kernel_rfl) (by kernel_rfl) (fun _ _ _ h => h) ?_
    refine HW.take 4 rfl rfl rfl rfl (fun w _ => Y.idx_addr rfl rfl rfl rfl rfl (by omega) (by omega)) rfl (by kernel_rfl) (by kernel_rfl) (by kernel_rfl) (fun _ _ _ h => h) ?_
    refine HW.take 5 rfl rfl rfl rfl (fun w hw => Y.load_cell rfl (by show w.cell? (a0.add (i * 1)) = _; rw [Nat.mul_one]; exact cell_ext hw hci) rfl rfl) rfl (by kernel_rfl) (by kernel_rfl) (by kernel_rfl) (fun _ _ _ h => h) ?_
    refine HW.take 6 rfl rfl rfl rfl (fun w _ => Y.go rfl (by first | omega | exact ⟨by omega, by omega⟩ | exact ⟨by omega, by omega, by omega⟩ | (simp <;> omega))) rfl (by kernel_rfl) (by kernel_rfl) (by kernel_rfl) (fun _ _ _ h => h) ?_
    refine HW.take 7 rfl rfl rfl rfl (fun w _ => Y.go rfl (by first | omega | exact ⟨by omega, by omega⟩ | exact ⟨by omega, by omega, by omega⟩ | (simp <;> omega))) rfl (by kernel_rfl) (by kernel_rfl) (by kernel_rfl) (fun _ _ _ h => h) ?_
    refine HW.take 8 rfl rfl rfl rfl (fun w _ => Y.idx_addr rfl rfl rfl rfl rfl (by omega) (by omega)) rfl (by kernel_rfl) (by kernel_rfl) (by kernel_rfl) (fun _ _ _ h => h) ?_
    refine HW.take 9 rfl rfl rfl rfl (fun w hw => Y.load_cell (v := str sg) rfl ((hA.ext hw).getElem _ _ (by rw [Nat.mul_one]; exact hsg)) rfl rfl) rfl (by kernel_rfl) (by kernel_rfl) (by kernel_rfl) (fun _ _ _ h => h) ?_
    refine HW.take 10 rfl rfl rfl rfl (fun w _ => Y.go rfl (by first | omega | exact ⟨by omega, by omega⟩ | exact ⟨by omega, by omega, by omega⟩ | (simp <;> omega))) rfl (by kernel_rfl) (by kernel_rfl) (by kernel_rfl) (fun _ _ _ h => h) ?_
    refine HW.take 11 rfl rfl rfl rfl (fun w _ => Y.pure rfl) rfl (by kernel_rfl) (by kernel_rfl) (by kernel_rfl) (fun _ _ _ h => h) ?_
    refine HW.take 12 rfl rfl rfl rfl (fun w _ => Y.go rfl (by first | omega | exact ⟨by omega, by omega⟩ | exact ⟨by omega, by omega, by omega⟩ | (simp <;> omega))) rfl (by kernel_rfl) (by kernel_rfl) (by kernel_rfl) (fun _ _ _ h => h) ?_
    refine HW.one 13 (by kernel_rfl) rfl rfl (fun hS => ?_)
    (repeat (first | refine La ?_ | refine Lb ?_ | refine Lc ?_ | refine Ld ?_ | refine Le ?_ | refine Lf ?_ | refine Lg ?_ | refine Lh ?_ | refine Li ?_ | refine Lj ?_ | refine Lk ?_ | refine Ll ?_))
    refine LW.call0 rfl rfl (Digits_ret ((i : Int) + 1) (by omega) (by omega) w4) ?_
    rintro v w5 ⟨rfl, hx5⟩
    rw [hit]
    (repeat (first | refine La ?_ | refine Lb ?_ | refine Lc ?_ | refine Ld ?_ | refine Le ?_ | refine Lf ?_ | refine Lg ?_ | refine Lh ?_ | refine Li ?_ | refine Lj ?_ | refine Lk ?_ | refine Ll ?_))
    apply LW.nil
    refine QW.held (hS.trans hx5) ?_
    refine HW.take 14 rfl rfl rfl rfl (fun w _ => Y.go rfl (by first | omega | exact ⟨by omega, by omega⟩ | exact ⟨by omega, by omega, by omega⟩ | (simp <;> omega))) rfl (by kernel_rfl) (by kernel_rfl) (by kernel_rfl) (fun _ _ _ h => h) ?_
    refine HW.one 15 (by kernel_rfl) rfl rfl (fun hS => ?_)
    (repeat (first | refine La ?_ | refine Lb ?_ | refine Lc ?_ | refine Ld ?_ | refine Le ?_ | refine Lf ?_ | refine Lg ?_ | refine Lh ?_ | refine Li ?_ | refine Lj ?_ | refine Lk ?_ | refine Ll ?_))
    apply LW.nil
    refine QW.held hS ?_
    refine HW.done (by kernel_rfl) ?_
    replace hx5 := hx4.trans hx5
    replace hci := cell_ext hx5 hci
    replace hck := cell_ext hx5 hck
    replace hB := hB.ext hx5
    replace hx5 := hx3.trans hx5
    (repeat (first | refine La ?_ | refine Lb ?_ | refine Lc ?_ | refine Ld ?_ | refine Le ?_ | refine Lf ?_ | refine Lg ?_ | apply LW.nil | apply QW.then_n | apply QW.round | apply RW.succ | apply CW.seq | apply CW.region | apply CW.skip | apply CW.block | apply CW.ret | apply CW.exit | apply QW.then_ret | apply QW.then_exit | apply QW.blk_n | apply QW.blk_ret | apply QW.blk_exit | refine Ca ?_ | refine Cb ?_ | refine Cc ?_ | refine Lh ?_ | refine Li ?_ | refine Lj ?_ | refine Lk ?_ | refine Ll ?_))
    refine CW.draw (by kernel_rfl) (by kernel_rfl) ?_
    (repeat (first | refine Qa ?_ | refine Qb ?_ | refine Qc ?_ | refine Qd ?_ | refine Qe ?_ | refine Qf ?_ | refine Qg ?_))
    refine QL.yields rfl rfl rfl (fun _ _ => Y.idx_addr rfl rfl rfl rfl rfl (by omega) (by omega)) ?_
    refine QL.yields rfl rfl rfl (fun w' hw => Y.load_cell rfl (by show w'.cell? (a0.add (i * 1)) = _; rw [Nat.mul_one]; exact cell_ext hw hci) rfl rfl) ?_
    (repeat (first | refine Qa ?_ | refine Qb ?_ | refine Qc ?_ | refine Qd ?_ | refine Qe ?_ | refine Qf ?_ | refine Qg ?_))
    refine QL.yields rfl rfl rfl (fun _ _ => Y.idx_addr rfl rfl rfl rfl rfl (by omega) (by omega)) ?_
    refine QL.yields rfl rfl rfl (fun w' hw => Y.load_cell (v := .int .i64 (rk (opsOf zs) i)) rfl ((hB.ext hw).getElem _ _ (by rw [Nat.mul_one]; exact hrk i h2)) rfl rfl) ?_
    (repeat (first | refine Qa ?_ | refine Qb ?_ | refine Qc ?_ | refine Qd ?_ | refine Qe ?_ | refine Qf ?_ | refine Qg ?_))
    refine QL.yields rfl rfl rfl (fun _ _ => Y.idx_addr rfl rfl rfl rfl rfl (by omega) (by omega)) ?_
    refine QL.yields rfl rfl rfl (fun w' hw => Y.load_cell rfl (by show w'.cell? (a0.add (k * 1)) = _; rw [Nat.mul_one]; exact cell_ext hw hck) rfl rfl) ?_
    (repeat (first | refine Qa ?_ | refine Qb ?_ | refine Qc ?_ | refine Qd ?_ | refine Qe ?_ | refine Qf ?_ | refine Qg ?_))
    refine QL.yields rfl rfl rfl (fun _ _ => Y.idx_addr rfl rfl rfl rfl rfl (by omega) (by omega)) ?_
    refine QL.yields rfl rfl rfl (fun w' hw => Y.load_cell (v := .int .i64 (rk (opsOf zs) k)) rfl ((hB.ext hw).getElem _ _ (by rw [Nat.mul_one]; exact hrk k hk)) rfl rfl) ?_
    (repeat (first | refine Qa ?_ | refine Qb ?_ | refine Qc ?_ | refine Qd ?_ | refine Qe ?_ | refine Qf ?_ | refine Qg ?_))
    refine QL.nil fun w6 hx6 => ?_
    replace hx6 := hx5.trans hx6
    have htake : textFrom 0 ((opsOf zs).take (i + 1)) = textFrom 0 ((opsOf zs).take i) ++ (sg ++ Lib.decDigits (i + 1)) := by
      have hio : i < (opsOf zs).length := by omega
      have e : (opsOf zs).take (i + 1) = (opsOf zs).take i ++ [(opsOf zs).getD i 0] := by
        rw [List.take_add_one, List.getD_eq_getElem?_getD, List.getElem?_eq_getElem hio]
        rfl
      rw [e, textFrom_snoc, htl, hsgd, Nat.zero_add]
    have htx5 : some (str (([48] ++ textFrom 0 ((opsOf zs).take i) ++ sg) ++ Lib.decDigits (i + 1))) = some (str ([48] ++ textFrom 0 ((opsOf zs).take (i + 1)))) := by
      rw [htake]; simp [List.append_assoc]
    (repeat (first | refine La ?_ | refine Lb ?_ | refine Lc ?_ | refine Ld ?_ | refine Le ?_ | refine Lf ?_ | refine Lg ?_ | apply LW.nil | apply QW.then_n | apply QW.round | apply RW.succ | apply CW.seq | apply CW.region | apply CW.skip | apply CW.block | apply CW.ret | apply CW.exit | apply QW.then_ret | apply QW.then_exit | apply QW.blk_n | apply QW.blk_ret | apply QW.blk_exit | refine Ca ?_ | refine Cb ?_ | refine Cc ?_ | refine Lh ?_ | refine Li ?_ | refine Lj ?_ | refine Lk ?_ | refine Ll ?_))
    refine CW.cond rfl (fun h3 => ?_) (fun h3 => ?_)
    · have h3 : rk (opsOf zs) i ≤ rk (opsOf zs) k := by have := of_decide_eq_true h3; omega
      (repeat (first | refine La ?_ | refine Lb ?_ | refine Lc ?_ | refine Ld ?_ | refine Le ?_ | refine Lf ?_ | refine Lg ?_ | apply LW.nil | apply QW.then_n | apply QW.round | apply RW.succ | apply CW.seq | apply CW.region | apply CW.skip | apply CW.block | apply CW.ret | apply CW.exit | apply QW.then_ret | apply QW.then_exit | apply QW.blk_n | apply QW.blk_ret | apply QW.blk_exit | refine Ca ?_ | refine Cb ?_ | refine Cc ?_ | refine Lh ?_ | refine Li ?_ | refine Lj ?_ | refine Lk ?_ | refine Ll ?_))
      refine QW.again (i + 1, i) ⟨by omega, hx6, .inl (by show i < i + 1; omega), fun t (ht : t < i + 1) => ?_, fun t (h1 : i < t) (h2 : t < i + 1) => by omega⟩ (Sub.cons rfl (Sub.cons rfl (Sub.cons rfl (Sub.cons htx5 (Sub.cons rfl (Sub.cons rfl Sub.nil)))))) (by omega)
      show rk (opsOf zs) i ≤ rk (opsOf zs) t
      rcases Nat.lt_or_ge t i with h | h
      · have := hki.2.1 t h; omega
      · have : t = i := by omega
        subst this; exact Nat.le_refl _
    · have h3 : rk (opsOf zs) k < rk (opsOf zs) i := by have := of_decide_eq_false h3; omega
      have hki0 : k < i := by
        rcases hki.1 with h | ⟨h, h'⟩
        · exact h
        · subst h; subst h'; omega
      (repeat (first | refine La ?_ | refine Lb ?_ | refine Lc ?_ | refine Ld ?_ | refine Le ?_ | refine Lf ?_ | refine Lg ?_ | apply LW.nil | apply QW.then_n | apply QW.round | apply RW.succ | apply CW.seq | apply CW.region | apply CW.skip | apply CW.block | apply CW.ret | apply CW.exit | apply QW.then_ret | apply QW.then_exit | apply QW.blk_n | apply QW.blk_ret | apply QW.blk_exit | refine Ca ?_ | refine Cb ?_ | refine Cc ?_ | refine Lh ?_ | refine Li ?_ | refine Lj ?_ | refine Lk ?_ | refine Ll ?_))
      refine QW.again (i + 1, k) ⟨by omega, hx6, .inl (by show k < i + 1; omega), fun t (ht : t < i + 1) => ?_, fun t (h1 : k < t) (h2 : t < i + 1) => ?_⟩ (Sub.cons rfl (Sub.cons rfl (Sub.cons rfl (Sub.cons htx5 (Sub.cons rfl (Sub.cons rfl Sub.nil)))))) (by omega)
      · rcases Nat.lt_or_ge t i with h | h
        · exact hki.2.1 t h
        · have : t = i := by omega
          subst this
          show rk (opsOf zs) k ≤ rk (opsOf zs) t
          omega
      · rcases Nat.lt_or_ge t i with h | h
        · exact hki.2.2 t h1 h
        · have : t = i := by omega
          subst this; exact h3
  have h2 : i = zs.length := by have := of_decide_eq_false h2; omega
  subst h2
  have etk : (opsOf zs).take zs.length = opsOf zs := by rw [← hol, List.take_length]
  have hk0 : k < zs.length := by rcases hki.1 with h | h <;> omega
  rw [etk]
  have htx := text_len (opsOf zs) 0 (by omega)
  obtain ⟨T, hT, hTk⟩ := order_lex (opsOf_lt zs) (by omega)
  have hTok := lexT_ok (by simp; omega) hT
  obtain ⟨l, hl, hll, k', hk1, hk2, hk3, hk4⟩ := (Row.of (opsOf_lt zs) hTk).parsed (by omega)
  have hkk : k' = k := by
    rcases Nat.lt_trichotomy k k' with h | h | h
    · have a1 := hki.2.2 k' h (by omega)
      have a2 := hk2 k (by omega)
      omega
    · exact h.symm
    · have a1 := hk3 k h (by omega)
      have a2 := hki.2.1 k' (by omega)
      omega
  subst hkk
  obtain ⟨htree, hshort⟩ := Parsed.tree hTok hl
  (repeat (first | refine La ?_ | refine Lb ?_ | refine Lc ?_ | refine Ld ?_ | refine Le ?_ | refine Lf ?_ | refine Lg ?_ | apply LW.nil | apply QW.then_n | apply QW.round | apply RW.succ | apply CW.seq | apply CW.region | apply CW.skip | apply CW.block | apply CW.ret | apply CW.exit | apply QW.then_ret | apply QW.then_exit | apply QW.blk_n | apply QW.blk_ret | apply QW.blk_exit | refine Ca ?_ | refine Cb ?_ | refine Cc ?_ | refine Lh ?_ | refine Li ?_ | refine Lj ?_ | refine Lk ?_ | refine Ll ?_))
  refine LW.call0 rfl rfl (Parse_ret ([48] ++ textFrom 0 (opsOf zs)) (by simp; omega) w3 (g.ext (hx2.trans hx3))) ?_
  rintro v w4 ⟨hv, hx4⟩
  rw [ParseV, if_neg (by simp; omega), hT] at hv
  obtain ⟨o, ho, hres⟩ := hv
  have := ho.det hl
  subst this
  obtain ⟨sv, rfl, hn⟩ := hres
  have hrow := hn.row (by omega) (fun n hn' => by have := treeB_kids htree n hn'; omega)
  obtain ⟨b, cap, nvs, sp, rfl, hB1, hmm, hkids⟩ := hn.get (by omega)
  have hx34 := hx4
  replace hx4 := (hx2.trans hx3).trans hx4
  (repeat (first | refine La ?_ | refine Lb ?_ | refine Lc ?_ | refine Ld ?_ | refine Le ?_ | refine Lf ?_ | refine Lg ?_ | apply LW.nil | apply QW.then_n | apply QW.round | apply RW.succ | apply CW.seq | apply CW.region | apply CW.skip | apply CW.block | apply CW.ret | apply CW.exit | apply QW.then_ret | apply QW.then_exit | apply QW.blk_n | apply QW.blk_ret | apply QW.blk_exit | refine Ca ?_ | refine Cb ?_ | refine Cc ?_ | refine Lh ?_ | refine Li ?_ | refine Lj ?_ | refine Lk ?_ | refine Ll ?_))
  refine LW.call0 rfl rfl (Num_ret 0 w4) ?_
  rintro v w5 ⟨rfl, hx5⟩
  replace hx5' := hx4.trans hx5
  (repeat (first | refine La ?_ | refine Lb ?_ | refine Lc ?_ | refine Ld ?_ | refine Le ?_ | refine Lf ?_ | refine Lg ?_ | apply LW.nil | apply QW.then_n | apply QW.round | apply RW.succ | apply CW.seq | apply CW.region | apply CW.skip | apply CW.block | apply CW.ret | apply CW.exit | apply QW.then_ret | apply QW.then_exit | apply QW.blk_n | apply QW.blk_ret | apply QW.blk_exit | refine Ca ?_ | refine Cb ?_ | refine Cc ?_ | refine Lh ?_ | refine Li ?_ | refine Lj ?_ | refine Lk ?_ | refine Ll ?_))
  refine LW.know (t := 80) (c := false) rfl (by simp; omega) ?_
  (repeat (first | refine La ?_ | refine Lb ?_ | refine Lc ?_ | refine Ld ?_ | refine Le ?_ | refine Lf ?_ | refine Lg ?_ | apply LW.nil | apply QW.then_n | apply QW.round | apply RW.succ | apply CW.seq | apply CW.region | apply CW.skip | apply CW.block | apply CW.ret | apply CW.exit | apply QW.then_ret | apply QW.then_exit | apply QW.blk_n | apply QW.blk_ret | apply QW.blk_exit | refine Ca ?_ | refine Cb ?_ | refine Cc ?_ | refine Lh ?_ | refine Li ?_ | refine Lj ?_ | refine Lk ?_ | refine Ll ?_))
  refine LW.call0 rfl rfl (Tree_ret l _ w5 (g.ext hx5') (hrow.ext hx5) hshort) ?_
  rintro v w6 ⟨rfl, hx6⟩
  rw [htree]
  replace hx6' := hx5'.trans hx6
  replace hB1 := (hB1.ext hx5).ext hx6
  obtain ⟨nd, hnde⟩ : ∃ nd : NodeD, nd = { kind := 9 + ((opsOf zs).getD k' 0 : Int), kids := [((2 * k' : Nat) : Int), ((2 * (opsOf zs).length - 1 : Nat) : Int)] } := ⟨_, rfl⟩
  rw [← hnde] at hk4
  obtain ⟨kv, hgk⟩ := nodes_get hmm hk4
  obtain ⟨bk, kc, ksp, hkv, hBk⟩ : ∃ bk kc ksp, kv = .slice (some ⟨bk, 0, none⟩) 2 kc ∧ Blk w4 bk (icells nd.kids ++ ksp) 3 := by
    rcases hkids _ (List.mem_of_getElem? hgk) with ⟨e1, e2⟩ | ⟨b', cap', sp', e1, hb⟩
    · have e2 : nd.kids = [] := e2
      rw [hnde] at e2
      cases e2
    · exact ⟨b', cap', sp', by have e1 : kv = .slice (some ⟨b', 0, none⟩) nd.kids.length cap' := e1; rw [e1, hnde]; rfl, hb⟩
  subst hkv
  replace hBk := (hBk.ext hx5).ext hx6
  have hag : AggAt (nvs.flatMap nvL ++ sp) (2 * (opsOf zs).length * 14) (nvL ⟨nd, .slice (some ⟨bk, 0, none⟩) 2 kc⟩) := flat_agg nv_len hgk
  (repeat (first | refine La ?_ | refine Lb ?_ | refine Lc ?_ | refine Ld ?_ | refine Le ?_ | refine Lf ?_ | refine Lg ?_ | apply LW.nil | apply QW.then_n | apply QW.round | apply RW.succ | apply CW.seq | apply CW.region | apply CW.skip | apply CW.block | apply CW.ret | apply CW.exit | apply QW.then_ret | apply QW.then_exit | apply QW.blk_n | apply QW.blk_ret | apply QW.blk_exit | refine Ca ?_ | refine Cb ?_ | refine Cc ?_ | refine Lh ?_ | refine Li ?_ | refine Lj ?_ | refine Lk ?_ | refine Ll ?_))
  refine LW.idx_slice (j := 2 * (opsOf zs).length * 14) rfl rfl rfl rfl rfl (by omega) (by omega) (by show 0 + _ * 14 = _; omega) rfl ?_
  refine LW.load_agg (cs := nvL ⟨nd, .slice (some ⟨bk, 0, none⟩) 2 kc⟩) rfl hB1 rfl rfl rfl hag rfl ?_
  (repeat (first | refine La ?_ | refine Lb ?_ | refine Lc ?_ | refine Ld ?_ | refine Le ?_ | refine Lf ?_ | refine Lg ?_ | apply LW.nil | apply QW.then_n | apply QW.round | apply RW.succ | apply CW.seq | apply CW.region | apply CW.skip | apply CW.block | apply CW.ret | apply CW.exit | apply QW.then_ret | apply QW.then_exit | apply QW.blk_n | apply QW.blk_ret | apply QW.blk_exit | refine Ca ?_ | refine Cb ?_ | refine Cc ?_ | refine Lh ?_ | refine Li ?_ | refine Lj ?_ | refine Lk ?_ | refine Ll ?_))
  (apply LW.alloc; exact rfl; exact rfl; exact rfl; intro C w7 hbC hx7 hC)
  (repeat (first | refine La ?_ | refine Lb ?_ | refine Lc ?_ | refine Ld ?_ | refine Le ?_ | refine Lf ?_ | refine Lg ?_ | apply LW.nil | apply QW.then_n | apply QW.round | apply RW.succ | apply CW.seq | apply CW.region | apply CW.skip | apply CW.block | apply CW.ret | apply CW.exit | apply QW.then_ret | apply QW.then_exit | apply QW.blk_n | apply QW.blk_ret | apply QW.blk_exit | refine Ca ?_ | refine Cb ?_ | refine Cc ?_ | refine Lh ?_ | refine Li ?_ | refine Lj ?_ | refine Lk ?_ | refine Ll ?_))
  (apply LW.store_all; exact rfl; exact rfl; exact rfl; assumption; exact rfl; exact rfl; exact rfl; intro w8 hc8 hC)
  replace hC : Blk w8 C (nvL ⟨nd, .slice (some ⟨bk, 0, none⟩) 2 kc⟩) 59 := hC
  have hs6 := hx6'.size
  have hs7 := hx7.size
  have hx68 : Ext w6 w8 := hx7.step hc8 (by simp; omega)
  replace hBk := hBk.ext hx68
  replace hx8 := hx6'.trans hx68
  obtain ⟨gk, gk0, gk1⟩ := hgz k' hk0
  have hck : w8.cell? (a0.add k') = some (.int .u8 (zs.getD k' 0)) := cell_ext hx68 (cell_ext hx6 (cell_ext hx5 (cell_ext hx34 (cell_ext hx3 (hcell k' _ gk)))))
  have hok := opsOf_get hk0
  have hkind : nd.kind = 9 + zs.getD k' 0 % 11 := by rw [hnde, hok]; show 9 + (((zs.getD k' 0 % 11).toNat : Nat) : Int) = _; omega
  have hkid0 : (icells nd.kids ++ ksp)[0]? = some (.int .i64 ((2 * k' : Nat) : Int)) := by rw [hnde]; rfl
  have hkid1 : (icells nd.kids ++ ksp)[1]? = some (.int .i64 ((2 * (opsOf zs).length - 1 : Nat) : Int)) := by rw [hnde]; rfl
  (repeat (first | refine La ?_ | refine Lb ?_ | refine Lc ?_ | refine Ld ?_ | refine Le ?_ | refine Lf ?_ | refine Lg ?_ | apply LW.nil | apply QW.then_n | apply QW.round | apply RW.succ | apply CW.seq | apply CW.region | apply CW.skip | apply CW.block | apply CW.ret | apply CW.exit | apply QW.then_ret | apply QW.then_exit | apply QW.blk_n | apply QW.blk_ret | apply QW.blk_exit | refine Ca ?_ | refine Cb ?_ | refine Cc ?_ | refine Lh ?_ | refine Li ?_ | refine Lj ?_ | refine Lk ?_ | refine Ll ?_))
  refine CW.draw (by kernel_rfl) (by kernel_rfl) ?_
  (repeat (first | refine Qa ?_ | refine Qb ?_ | refine Qc ?_ | refine Qd ?_ | refine Qe ?_ | refine Qf ?_ | refine Qg ?_))
  refine QL.yields rfl rfl rfl (fun _ _ => Y.idx_addr rfl rfl rfl rfl rfl (by omega) (by omega)) ?_
  refine QL.yields rfl rfl rfl (fun w' hw => Y.load_cell rfl (by show w'.cell? (a0.add (k' * 1)) = _; rw [Nat.mul_one]; exact cell_ext hw hck) rfl rfl) ?_
  (repeat (first | refine Qa ?_ | refine Qb ?_ | refine Qc ?_ | refine Qd ?_ | refine Qe ?_ | refine Qf ?_ | refine Qg ?_))
  refine QL.know (t := 101) (c := false) rfl (by simp [hkind]) ?_
  (repeat (first | refine Qa ?_ | refine Qb ?_ | refine Qc ?_ | refine Qd ?_ | refine Qe ?_ | refine Qf ?_ | refine Qg ?_))
  refine QL.yields rfl rfl rfl (fun _ _ => Y.idx_addr rfl rfl rfl rfl rfl (by decide) (by decide)) ?_
  (repeat (first | refine Qa ?_ | refine Qb ?_ | refine Qc ?_ | refine Qd ?_ | refine Qe ?_ | refine Qf ?_ | refine Qg ?_))
  refine QL.yields rfl rfl rfl (fun w' hw => Y.load_cell (v := .int .i64 ((2 * k' : Nat) : Int)) rfl ((hBk.ext hw).getElem 0 _ hkid0) rfl rfl) ?_
  (repeat (first | refine Qa ?_ | refine Qb ?_ | refine Qc ?_ | refine Qd ?_ | refine Qe ?_ | refine Qf ?_ | refine Qg ?_))
  refine QL.know (t := 116) (c := false) rfl (by simp) ?_
  (repeat (first | refine Qa ?_ | refine Qb ?_ | refine Qc ?_ | refine Qd ?_ | refine Qe ?_ | refine Qf ?_ | refine Qg ?_))
  refine QL.yields rfl rfl rfl (fun _ _ => Y.idx_addr rfl rfl rfl rfl rfl (by decide) (by decide)) ?_
  (repeat (first | refine Qa ?_ | refine Qb ?_ | refine Qc ?_ | refine Qd ?_ | refine Qe ?_ | refine Qf ?_ | refine Qg ?_))
  refine QL.yields rfl rfl rfl (fun w' hw => Y.load_cell (v := .int .i64 ((2 * (opsOf zs).length - 1 : Nat) : Int)) rfl ((hBk.ext hw).getElem 1 _ hkid1) rfl rfl) ?_
  (repeat (first | refine Qa ?_ | refine Qb ?_ | refine Qc ?_ | refine Qd ?_ | refine Qe ?_ | refine Qf ?_ | refine Qg ?_))
  refine QL.nil fun w9 hx9 => ?_
  replace hx9 := hx8.trans hx9
  apply QW.then_n
  refine CW.no rfl (by simp; omega) ?_
  (repeat (first | refine La ?_ | refine Lb ?_ | refine Lc ?_ | refine Ld ?_ | refine Le ?_ | refine Lf ?_ | refine Lg ?_ | apply LW.nil | apply QW.then_n | apply QW.round | apply RW.succ | apply CW.seq | apply CW.region | apply CW.skip | apply CW.block | apply CW.ret | apply CW.exit | apply QW.then_ret | apply QW.then_exit | apply QW.blk_n | apply QW.blk_ret | apply QW.blk_exit | refine Ca ?_ | refine Cb ?_ | refine Cc ?_ | refine Lh ?_ | refine Li ?_ | refine Lj ?_ | refine Lk ?_ | refine Ll ?_))
  refine LW.call0 rfl rfl (awake5_ret w9 (g.ext hx9)) ?_
  rintro v w10 ⟨rfl, hx10⟩
  (repeat (first | refine La ?_ | refine Lb ?_ | refine Lc ?_ | refine Ld ?_ | refine Le ?_ | refine Lf ?_ | refine Lg ?_ | apply LW.nil | apply QW.then_n | apply QW.round | apply RW.succ | apply CW.seq | apply CW.region | apply CW.skip | apply CW.block | apply CW.ret | apply CW.exit | apply QW.then_ret | apply QW.then_exit | apply QW.blk_n | apply QW.blk_ret | apply QW.blk_exit | refine Ca ?_ | refine Cb ?_ | refine Cc ?_ | refine Lh ?_ | refine Li ?_ | refine Lj ?_ | refine Lk ?_ | refine Ll ?_))
  exact QW.body1 Tryd.results12 rfl ⟨rfl, hx9.trans hx10⟩
end Go.Proofs.YtfpklhgkndnjjaaDoor
