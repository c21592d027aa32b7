/-
  Walks: whether nodes are a formula's, as the document has it; whether two rows of nodes are one.
-/
import Derived.Test.YtiloogjageledaaGreatDoorTree
import Derived.Test.YtiloogjageledaaGreatDoorRPar1
namespace Go.Proofs.YtiloogjageledaaGreatDoor
open Go Go.E

theorem printable_ret (s : List UInt8) (hs : s.length ≤ 1000000) (w : World) : Ret Tryz.prog 122 [str s] w (fun v w' => v = .bool (prB s) ∧ Ext w w') := by
  refine Ret.enter Tryz.func122 rfl Tryz.ntmps122 (by kernel_rfl) rfl ?_
  refine Sa ?_
  refine CW.loop (ι := Nat) (fun k w' => k ≤ s.length ∧ Ext w w' ∧ ∀ j, j < k → 32 ≤ byte s j) (fun k => [(0, str s), (3, .int .i64 k)]) (fun k => s.length - k) 0 ⟨by omega, Chg.refl _ _, by omega⟩ (Sub.cons rfl (Sub.cons rfl (Sub.nil))) ?_
  rintro k w1 ⟨hk, hx, hall⟩
  refine Sa ?_
  refine CW.cond rfl (fun h1 => ?_) (fun h1 => ?_)
  · have h1 : k < s.length := by simp at h1; omega
    refine Sa ?_
    refine CW.cond rfl (fun h2 => ?_) (fun h2 => ?_)
    · have h2 : byte s k < 32 := by simpa using h2
      refine Sa ?_
      refine QW.body1 Tryz.results122 rfl ⟨?_, hx⟩
      have : prB s = false := by
        simp only [prB, decide_eq_false_iff_not]
        intro hh
        have := hh k h1
        omega
      rw [this]
    · have h2 : ¬ byte s k < 32 := by simpa using h2
      refine Sa ?_
      refine QW.again (k + 1) ⟨by omega, hx, fun j hj => ?_⟩ (Sub.cons rfl (Sub.cons rfl (Sub.nil))) (by omega)
      by_cases e : j = k
      · subst e; omega
      · exact hall j (by omega)
  · have h1 : k = s.length := by simp at h1; omega
    subst h1
    refine Sa ?_
    refine QW.body1 Tryz.results122 rfl ⟨?_, hx⟩
    have : prB s = true := by simp only [prB, decide_eq_true_eq]; exact hall
    rw [this]

theorem noRef_ret (x : RefD) (w : World) : Ret Tryz.prog 121 [.agg ⟨refL x⟩] w (fun v w' => v = .bool (decide (x = refN)) ∧ Ext w w') := by
  refine Ret.enter Tryz.func121 rfl Tryz.ntmps121 (by kernel_rfl) rfl ?_
  refine Sa ?_
  (apply LW.box; exact rfl; exact rfl; exact rfl; intro A w1 hbA hx1 hA)
  replace hA : Blk w1 A (refL x) 35 := hA
  refine Sa ?_
  refine Sl ?_
  refine LW.eql_agg (xs := refL x) (ys := refL refN) (c := decide (x = refN)) rfl rfl eqg_ref4 (fun w => eqr_ref x refN 9998 w) rfl ?_
  refine Sa ?_
  exact QW.body1 Tryz.results121 rfl ⟨rfl, hx1⟩

theorem arms_ret (k : Int) (w : World) : Ret Tryz.prog 77 [.int .i64 k] w (fun v w' => v = .int .i64 (countI k) ∧ Ext w w') := by
  have fin : ∀ z, countI k = z → (Value.int .i64 z = .int .i64 (countI k) ∧ Ext w w) := fun z h => ⟨by rw [h], Chg.refl _ _⟩
  refine Ret.enter Tryz.func77 rfl Tryz.ntmps77 (by kernel_rfl) rfl ?_
  refine Sa ?_
  by_cases h1 : 1 ≤ k
  rotate_left
  · refine LW.know (t := 6) (c := false) rfl (by simp; omega) ?_
    refine Sa ?_
    refine CW.no rfl (by simp; omega) ?_
    refine Sa ?_
    refine CW.no rfl (by simp; omega) ?_
    refine Sa ?_
    refine LW.know (t := 19) (c := false) rfl (by simp; omega) ?_
    refine Sa ?_
    exact QW.body1 Tryz.results77 rfl (fin _ (by unfold countI; rw [if_pos (by omega)]))
  refine LW.know (t := 6) (c := true) rfl (by simpa using h1) ?_
  refine Sa ?_
  refine CW.cond rfl (fun h2 => ?_) (fun h2 => ?_)
  · have h2 : k ≤ 6 := by simpa using h2
    refine Sa ?_
    exact QW.body1 Tryz.results77 rfl (fin _ (by unfold countI; rw [if_neg (by omega), if_neg (by omega), if_neg (by omega), if_neg (by omega)]))
  have h2 : 6 < k := by simpa using h2
  refine Sa ?_
  refine CW.cond rfl (fun h3 => ?_) (fun h3 => ?_)
  · have h3 : k = 7 := by simpa using h3
    refine Sa ?_
    exact QW.body1 Tryz.results77 rfl (fin _ (by unfold countI; rw [if_neg (by omega), if_pos h3]))
  have h3 : k ≠ 7 := by simpa using h3
  refine Sa ?_
  refine CW.cond rfl (fun h4 => ?_) (fun h4 => ?_)
  · have h4 : k = 8 := by simpa using h4
    refine Sa ?_
    exact QW.body1 Tryz.results77 rfl (fin _ (by unfold countI; rw [if_neg (by omega), if_neg (by omega), if_pos h4]))
  have h4 : k ≠ 8 := by simpa using h4
  refine Sa ?_
  refine LW.know (t := 19) (c := true) rfl (by simp; omega) ?_
  refine Sa ?_
  refine CW.cond rfl (fun h5 => ?_) (fun h5 => ?_)
  · have h5 : k ≤ 19 := by simpa using h5
    refine Sa ?_
    exact QW.body1 Tryz.results77 rfl (fin _ (by unfold countI; rw [if_neg (by omega), if_neg (by omega), if_neg (by omega), if_pos (by omega)]))
  have h5 : 19 < k := by simpa using h5
  refine Sa ?_
  exact QW.body1 Tryz.results77 rfl (fin _ (by unfold countI; rw [if_pos (by omega)]))

theorem leaf_ret (n : NodeD) (p : Option Addr) (k c : Nat) (w : World) (ht : n.text.length ≤ 1000) (hr : n.ref.sheet.length ≤ 1000) (hto : n.to.sheet.length ≤ 1000) : Ret Tryz.prog 78 [.agg ⟨nvL ⟨n, .slice p k c⟩⟩] w (fun v w' => v = .bool (plainB n) ∧ Ext w w') := by
  obtain ⟨kd, num, text, ref, to, kids⟩ := n
  simp only at ht hr hto
  refine Ret.enter Tryz.func78 rfl Tryz.ntmps78 (by kernel_rfl) rfl ?_
  refine Sa ?_
  (apply LW.box; exact rfl; exact rfl; exact rfl; intro A w1 hbA hx hA)
  replace hA : Blk w1 A (nvL ⟨⟨kd, num, text, ref, to, kids⟩, .slice p k c⟩) 38 := hA
  by_cases k1 : kd = 1
  · subst k1
    refine Sa ?_
    refine LW.part rfl rfl rfl (fun ht1 => ?_) (fun ht1 => ?_)
    · refine Sa ?_
      refine QW.body1 Tryz.results78 rfl ⟨by have ht1 : text ≠ [] := (by simpa using ht1); simp [plainB, bareN, ht1], hx⟩
    have ht1 : text = [] := by simpa using ht1
    refine Sa ?_
    refine LW.load_agg (cs := refL ref) rfl hA rfl rfl rfl ⟨rfl, rfl, rfl, rfl, rfl, trivial⟩ rfl ?_
    refine Sa ?_
    refine LW.call0 rfl rfl (noRef_ret ref _) ?_
    rintro v w2 ⟨rfl, hx2⟩
    replace hA := hA.ext hx2
    replace hx := hx.trans hx2
    refine Sa ?_
    refine LW.part rfl rfl rfl (fun hr1 => ?_) (fun hr1 => ?_)
    · refine Sa ?_
      refine QW.body1 Tryz.results78 rfl ⟨by have hr1 : ref ≠ refN := (by simpa using hr1); simp [plainB, bareN, hr1], hx⟩
    have hr1 : ref = refN := by simpa using hr1
    refine Sa ?_
    refine LW.load_agg (cs := refL to) rfl hA rfl rfl rfl ⟨rfl, rfl, rfl, rfl, rfl, trivial⟩ rfl ?_
    refine Sa ?_
    refine LW.call0 rfl rfl (noRef_ret to _) ?_
    rintro v w3 ⟨rfl, hx3⟩
    replace hA := hA.ext hx3
    replace hx := hx.trans hx3
    refine Sa ?_
    refine CW.cond rfl (fun ho1 => ?_) (fun ho1 => ?_)
    · refine Sa ?_
      refine QW.body1 Tryz.results78 rfl ⟨by have ho1 : to ≠ refN := (by simpa using ho1); simp [plainB, bareN, ho1], hx⟩
    have ho1 : to = refN := by simpa using ho1
    refine Sa ?_
    refine QW.body1 Tryz.results78 rfl ⟨by simp [plainB, okK, bareN, ht1, hr1, ho1], hx⟩
  by_cases k3 : kd = 3
  · subst k3
    refine Sa ?_
    refine LW.part rfl rfl rfl (fun ht1 => ?_) (fun ht1 => ?_)
    · refine Sa ?_
      refine QW.body1 Tryz.results78 rfl ⟨by have ht1 : text ≠ [] := (by simpa using ht1); simp [plainB, bareN, ht1], hx⟩
    have ht1 : text = [] := by simpa using ht1
    refine Sa ?_
    refine LW.load_agg (cs := refL ref) rfl hA rfl rfl rfl ⟨rfl, rfl, rfl, rfl, rfl, trivial⟩ rfl ?_
    refine Sa ?_
    refine LW.call0 rfl rfl (noRef_ret ref _) ?_
    rintro v w2 ⟨rfl, hx2⟩
    replace hA := hA.ext hx2
    replace hx := hx.trans hx2
    refine Sa ?_
    refine LW.part rfl rfl rfl (fun hr1 => ?_) (fun hr1 => ?_)
    · refine Sa ?_
      refine QW.body1 Tryz.results78 rfl ⟨by have hr1 : ref ≠ refN := (by simpa using hr1); simp [plainB, bareN, hr1], hx⟩
    have hr1 : ref = refN := by simpa using hr1
    refine Sa ?_
    refine LW.load_agg (cs := refL to) rfl hA rfl rfl rfl ⟨rfl, rfl, rfl, rfl, rfl, trivial⟩ rfl ?_
    refine Sa ?_
    refine LW.call0 rfl rfl (noRef_ret to _) ?_
    rintro v w3 ⟨rfl, hx3⟩
    replace hA := hA.ext hx3
    replace hx := hx.trans hx3
    refine Sa ?_
    refine CW.cond rfl (fun ho1 => ?_) (fun ho1 => ?_)
    · refine Sa ?_
      refine QW.body1 Tryz.results78 rfl ⟨by have ho1 : to ≠ refN := (by simpa using ho1); simp [plainB, bareN, ho1], hx⟩
    have ho1 : to = refN := by simpa using ho1
    refine Sa ?_
    refine LW.part rfl rfl rfl (fun hz => ?_) (fun hz => ?_)
    · refine Sa ?_
      refine QW.body1 Tryz.results78 rfl ⟨by have hz : num = 0 := (by simpa using hz); simp [plainB, okK, bareN, ht1, hr1, ho1, hz], hx⟩
    have hz : num ≠ 0 := by simpa using hz
    refine Sa ?_
    refine QW.body1 Tryz.results78 rfl ⟨by simp [plainB, okK, bareN, ht1, hr1, ho1, hz], hx⟩
  by_cases k2 : kd = 2
  · subst k2
    refine Sa ?_
    refine LW.part rfl rfl rfl (fun hn1 => ?_) (fun hn1 => ?_)
    · refine Sa ?_
      refine QW.body1 Tryz.results78 rfl ⟨by have hn1 : num ≠ 0 := (by simpa using hn1); simp [plainB, bareN, hn1], hx⟩
    have hn1 : num = 0 := by simpa using hn1
    refine Sa ?_
    refine LW.load_agg (cs := refL ref) rfl hA rfl rfl rfl ⟨rfl, rfl, rfl, rfl, rfl, trivial⟩ rfl ?_
    refine Sa ?_
    refine LW.call0 rfl rfl (noRef_ret ref _) ?_
    rintro v w2 ⟨rfl, hx2⟩
    replace hA := hA.ext hx2
    replace hx := hx.trans hx2
    refine Sa ?_
    refine LW.part rfl rfl rfl (fun hr1 => ?_) (fun hr1 => ?_)
    · refine Sa ?_
      refine QW.body1 Tryz.results78 rfl ⟨by have hr1 : ref ≠ refN := (by simpa using hr1); simp [plainB, bareN, hr1], hx⟩
    have hr1 : ref = refN := by simpa using hr1
    refine Sa ?_
    refine LW.load_agg (cs := refL to) rfl hA rfl rfl rfl ⟨rfl, rfl, rfl, rfl, rfl, trivial⟩ rfl ?_
    refine Sa ?_
    refine LW.call0 rfl rfl (noRef_ret to _) ?_
    rintro v w3 ⟨rfl, hx3⟩
    replace hA := hA.ext hx3
    replace hx := hx.trans hx3
    refine Sa ?_
    refine CW.cond rfl (fun ho1 => ?_) (fun ho1 => ?_)
    · refine Sa ?_
      refine QW.body1 Tryz.results78 rfl ⟨by have ho1 : to ≠ refN := (by simpa using ho1); simp [plainB, bareN, ho1], hx⟩
    have ho1 : to = refN := by simpa using ho1
    refine Sa ?_
    refine LW.call0 rfl rfl (printable_ret text (by omega) _) ?_
    rintro v w4 ⟨rfl, hx4⟩
    refine Sa ?_
    refine QW.body1 Tryz.results78 rfl ⟨by simp [plainB, okK, bareN, hn1, hr1, ho1], hx.trans hx4⟩
  by_cases k7 : kd = 7
  · subst k7
    refine Sa ?_
    refine LW.part rfl rfl rfl (fun hn1 => ?_) (fun hn1 => ?_)
    · refine Sa ?_
      refine QW.body1 Tryz.results78 rfl ⟨by have hn1 : num ≠ 0 := (by simpa using hn1); simp [plainB, bareN, hn1], hx⟩
    have hn1 : num = 0 := by simpa using hn1
    refine Sa ?_
    refine LW.load_agg (cs := refL ref) rfl hA rfl rfl rfl ⟨rfl, rfl, rfl, rfl, rfl, trivial⟩ rfl ?_
    refine Sa ?_
    refine LW.call0 rfl rfl (noRef_ret ref _) ?_
    rintro v w2 ⟨rfl, hx2⟩
    replace hA := hA.ext hx2
    replace hx := hx.trans hx2
    refine Sa ?_
    refine LW.part rfl rfl rfl (fun hr1 => ?_) (fun hr1 => ?_)
    · refine Sa ?_
      refine QW.body1 Tryz.results78 rfl ⟨by have hr1 : ref ≠ refN := (by simpa using hr1); simp [plainB, bareN, hr1], hx⟩
    have hr1 : ref = refN := by simpa using hr1
    refine Sa ?_
    refine LW.load_agg (cs := refL to) rfl hA rfl rfl rfl ⟨rfl, rfl, rfl, rfl, rfl, trivial⟩ rfl ?_
    refine Sa ?_
    refine LW.call0 rfl rfl (noRef_ret to _) ?_
    rintro v w3 ⟨rfl, hx3⟩
    replace hA := hA.ext hx3
    replace hx := hx.trans hx3
    refine Sa ?_
    refine CW.cond rfl (fun ho1 => ?_) (fun ho1 => ?_)
    · refine Sa ?_
      refine QW.body1 Tryz.results78 rfl ⟨by have ho1 : to ≠ refN := (by simpa using ho1); simp [plainB, bareN, ho1], hx⟩
    have ho1 : to = refN := by simpa using ho1
    refine Sa ?_
    refine LW.call0 rfl rfl (ReadRef_ret text (by omega) _) ?_
    rintro v w4 ⟨rfl, hx4⟩
    obtain ⟨x, hx0⟩ := readV_form text
    rw [hx0]
    replace hA := hA.ext hx4
    have hzz := (hx.trans hx4).size
    refine Sa ?_
    (apply LW.alloc; exact rfl; exact rfl; exact rfl; intro R w5 hbR hx5 hR)
    replace hA := hA.ext hx5
    refine Sa ?_
    (apply LW.store_all; exact rfl; exact rfl; exact rfl; assumption; exact rfl; exact rfl; exact rfl; intro w6 hc6 hR)
    replace hA := hA.chg hc6 (by have := hA.lt; simp; intro h; subst h; exact absurd (hA.inj (by assumption)) (by decide))
    replace hx := (hx.trans (hx4.trans hx5)).step hc6 (by simp; omega)
    refine Sa ?_
    refine LW.call0 rfl rfl (rcalled_ret text (by omega) _) ?_
    rintro v w7 ⟨rfl, hx7⟩
    replace hA := hA.ext hx7
    replace hx := hx.trans hx7
    refine Sa ?_
    refine LW.part rfl rfl rfl (fun q1 => ?_) (fun q1 => ?_)
    rotate_left
    · refine Sa ?_
      refine QW.body1 Tryz.results78 rfl ⟨by simp [plainB, okK, bareN, nameF, q1], hx⟩
    have q1 : fnB text = true := q1
    refine Sa ?_
    refine LW.part rfl rfl rfl (fun q2 => ?_) (fun q2 => ?_)
    rotate_left
    · refine Sa ?_
      refine QW.body1 Tryz.results78 rfl ⟨by have q2 : okRead text = true := (by simpa using q2); simp [plainB, okK, bareN, nameF, q2], hx⟩
    have q2 : okRead text = false := by simpa using q2
    refine Sa ?_
    refine LW.part rfl rfl rfl (fun q3 => ?_) (fun q3 => ?_)
    rotate_left
    · refine Sa ?_
      refine QW.body1 Tryz.results78 rfl ⟨by have q3 : text = trueT := (by simpa [trueT] using q3); simp [plainB, okK, bareN, nameF, q3], hx⟩
    have q3 : text ≠ trueT := by simpa [trueT] using q3
    refine Sa ?_
    refine QW.body1 Tryz.results78 rfl ⟨by by_cases h4 : text = [70, 65, 76, 83, 69] <;> simp [plainB, okK, bareN, nameF, q1, q2, q3, hn1, hr1, ho1, falseT, h4], hx⟩
  by_cases k5 : kd = 5
  · subst k5
    refine Sa ?_
    refine LW.part rfl rfl rfl (fun hn1 => ?_) (fun hn1 => ?_)
    · refine Sa ?_
      refine QW.body1 Tryz.results78 rfl ⟨by have hn1 : num ≠ 0 := (by simpa using hn1); simp [plainB, bareN, hn1], hx⟩
    have hn1 : num = 0 := by simpa using hn1
    refine Sa ?_
    refine LW.part rfl rfl rfl (fun ht1 => ?_) (fun ht1 => ?_)
    · refine Sa ?_
      refine QW.body1 Tryz.results78 rfl ⟨by have ht1 : text ≠ [] := (by simpa using ht1); simp [plainB, bareN, ht1], hx⟩
    have ht1 : text = [] := by simpa using ht1
    refine Sa ?_
    refine LW.load_agg (cs := refL to) rfl hA rfl rfl rfl ⟨rfl, rfl, rfl, rfl, rfl, trivial⟩ rfl ?_
    refine Sa ?_
    refine LW.call0 rfl rfl (noRef_ret to _) ?_
    rintro v w3 ⟨rfl, hx3⟩
    replace hA := hA.ext hx3
    replace hx := hx.trans hx3
    refine Sa ?_
    refine CW.cond rfl (fun ho1 => ?_) (fun ho1 => ?_)
    · refine Sa ?_
      refine QW.body1 Tryz.results78 rfl ⟨by have ho1 : to ≠ refN := (by simpa using ho1); simp [plainB, bareN, ho1], hx⟩
    have ho1 : to = refN := by simpa using ho1
    refine Sa ?_
    refine LW.load_agg (cs := refL ref) rfl hA rfl rfl rfl ⟨rfl, rfl, rfl, rfl, rfl, trivial⟩ rfl ?_
    refine Sa ?_
    refine LW.call0 rfl rfl (rMay_ret ref (by omega) _) ?_
    rintro v w4 ⟨rfl, hx4⟩
    refine Sa ?_
    refine QW.body1 Tryz.results78 rfl ⟨by simp [plainB, okK, bareN, hn1, ht1, ho1], hx.trans hx4⟩
  by_cases k6 : kd = 6
  · subst k6
    refine Sa ?_
    refine LW.part rfl rfl rfl (fun hn1 => ?_) (fun hn1 => ?_)
    · refine Sa ?_
      refine QW.body1 Tryz.results78 rfl ⟨by have hn1 : num ≠ 0 := (by simpa using hn1); simp [plainB, bareN, hn1], hx⟩
    have hn1 : num = 0 := by simpa using hn1
    refine Sa ?_
    refine LW.part rfl rfl rfl (fun ht1 => ?_) (fun ht1 => ?_)
    · refine Sa ?_
      refine QW.body1 Tryz.results78 rfl ⟨by have ht1 : text ≠ [] := (by simpa using ht1); simp [plainB, bareN, ht1], hx⟩
    have ht1 : text = [] := by simpa using ht1
    refine Sa ?_
    refine LW.load_agg (cs := refL ref) rfl hA rfl rfl rfl ⟨rfl, rfl, rfl, rfl, rfl, trivial⟩ rfl ?_
    refine Sa ?_
    refine LW.call0 rfl rfl (rMay_ret ref (by omega) _) ?_
    rintro v w4 ⟨rfl, hx4⟩
    replace hA := hA.ext hx4
    replace hx := hx.trans hx4
    refine Sa ?_
    refine LW.part rfl rfl rfl (fun m1 => ?_) (fun m1 => ?_)
    rotate_left
    · refine Sa ?_
      refine QW.body1 Tryz.results78 rfl ⟨by simp [plainB, okK, bareN, m1], hx⟩
    have m1 : mayB ref = true := m1
    refine Sa ?_
    refine LW.load_agg (cs := refL to) rfl hA rfl rfl rfl ⟨rfl, rfl, rfl, rfl, rfl, trivial⟩ rfl ?_
    refine Sa ?_
    refine LW.call0 rfl rfl (rMay_ret to (by omega) _) ?_
    rintro v w5 ⟨rfl, hx5⟩
    replace hA := hA.ext hx5
    replace hx := hx.trans hx5
    refine Sa ?_
    refine LW.part rfl rfl rfl (fun m2 => ?_) (fun m2 => ?_)
    rotate_left
    · refine Sa ?_
      refine QW.body1 Tryz.results78 rfl ⟨by simp [plainB, okK, bareN, m1, m2], hx⟩
    have m2 : mayB to = true := m2
    refine Sa ?_
    refine LW.load_agg (cs := refL ref) rfl hA rfl rfl rfl ⟨rfl, rfl, rfl, rfl, rfl, trivial⟩ rfl ?_
    refine Sa ?_
    refine LW.load_agg (cs := refL to) rfl hA rfl rfl rfl ⟨rfl, rfl, rfl, rfl, rfl, trivial⟩ rfl ?_
    refine Sa ?_
    refine LW.call0 rfl rfl (span_ret ref to _) ?_
    rintro v w6 ⟨rfl, hx6⟩
    refine Sa ?_
    refine QW.body1 Tryz.results78 rfl ⟨by simp [plainB, okK, bareN, hn1, ht1, m1, m2], hx.trans hx6⟩
  have hb : bareN ⟨kd, num, text, ref, to, kids⟩ = ⟨kd, num, text, ref, to, kids⟩ := by simp [bareN, k1, k2, k3, k5, k6, k7]
  have hok : okK ⟨kd, num, text, ref, to, kids⟩ = true := by simp [okK, k1, k2, k3, k5, k6, k7]
  have hpb : plainB ⟨kd, num, text, ref, to, kids⟩ = (decide (num = 0) && (decide (text = []) && (decide (ref = refN) && decide (to = refN)))) := by rw [plainB, hb, hok, Bool.true_and]
  rw [hpb]
  refine Sa ?_
  refine LW.know (t := 8) (c := true) rfl (by simp [k1]) ?_
  refine Sa ?_
  refine LW.know (t := 13) (c := true) rfl (by simp [k3]) ?_
  refine Sa ?_
  refine LW.part rfl rfl rfl (fun hn1 => ?_) (fun hn1 => ?_)
  · refine Sa ?_
    refine QW.body1 Tryz.results78 rfl ⟨by have hn1 : num ≠ 0 := (by simpa using hn1); simp [hn1], hx⟩
  have hn1 : num = 0 := by simpa using hn1
  refine Sa ?_
  refine LW.know (t := 22) (c := true) rfl (by simp [k2]) ?_
  refine Sa ?_
  refine LW.know (t := 27) (c := true) rfl (by simp [k7]) ?_
  refine Sa ?_
  refine LW.part rfl rfl rfl (fun ht1 => ?_) (fun ht1 => ?_)
  · refine Sa ?_
    refine QW.body1 Tryz.results78 rfl ⟨by have ht1 : text ≠ [] := (by simpa using ht1); simp [ht1], hx⟩
  have ht1 : text = [] := by simpa using ht1
  refine Sa ?_
  refine LW.know (t := 37) (c := true) rfl (by simp [k5]) ?_
  refine Sa ?_
  refine LW.know (t := 42) (c := true) rfl (by simp [k6]) ?_
  refine Sa ?_
  refine LW.load_agg (cs := refL ref) rfl hA rfl rfl rfl ⟨rfl, rfl, rfl, rfl, rfl, trivial⟩ rfl ?_
  refine Sa ?_
  refine LW.call0 rfl rfl (noRef_ret ref _) ?_
  rintro v w2 ⟨rfl, hx2⟩
  replace hA := hA.ext hx2
  replace hx := hx.trans hx2
  refine Sa ?_
  refine LW.part rfl rfl rfl (fun hr1 => ?_) (fun hr1 => ?_)
  · refine Sa ?_
    refine QW.body1 Tryz.results78 rfl ⟨by have hr1 : ref ≠ refN := (by simpa using hr1); simp [hr1], hx⟩
  have hr1 : ref = refN := by simpa using hr1
  refine Sa ?_
  refine LW.know (t := 53) (c := true) rfl (by simp [k6]) ?_
  refine Sa ?_
  refine LW.load_agg (cs := refL to) rfl hA rfl rfl rfl ⟨rfl, rfl, rfl, rfl, rfl, trivial⟩ rfl ?_
  refine Sa ?_
  refine LW.call0 rfl rfl (noRef_ret to _) ?_
  rintro v w3 ⟨rfl, hx3⟩
  replace hA := hA.ext hx3
  replace hx := hx.trans hx3
  refine Sa ?_
  refine CW.cond rfl (fun ho1 => ?_) (fun ho1 => ?_)
  · refine Sa ?_
    refine QW.body1 Tryz.results78 rfl ⟨by have ho1 : to ≠ refN := (by simpa using ho1); simp [ho1], hx⟩
  have ho1 : to = refN := by simpa using ho1
  refine Sa ?_
  refine CW.no rfl (decide_eq_false k1) ?_
  refine Sa ?_
  refine CW.no rfl (decide_eq_false k3) ?_
  refine Sa ?_
  refine CW.no rfl (decide_eq_false k2) ?_
  refine Sa ?_
  refine CW.no rfl (decide_eq_false k7) ?_
  refine Sa ?_
  refine CW.no rfl (decide_eq_false k5) ?_
  refine Sa ?_
  refine CW.no rfl (decide_eq_false k6) ?_
  refine Sa ?_
  refine QW.body1 Tryz.results78 rfl ⟨by simp [hn1, ht1, hr1, ho1], hx⟩
end Go.Proofs.YtiloogjageledaaGreatDoor
