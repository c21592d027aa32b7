/-
 Walks: the law MoveAll.
-/
import Derived.Test.YtiaigmahdjhcoaaGreatDoorPkH
namespace Go.Proofs.YtiaigmahdjhcoaaGreatDoor
open Go Go.E

theorem heavy_ret (ss : List ShD) (sv : Value) (w : World) (h : ShiftsO w sv ss) : Ret Tryz.prog 25 [sv] w (fun v w' => (∃ b, v = .bool b ∧ (b = false → Light ss)) ∧ Ext w w') := by
 obtain ⟨p, c, rfl⟩ := h.slice
 have hl := h.1
 refine Ret.enter Tryz.func25 rfl Tryz.ntmps25 (by kernel_rfl) rfl ?_
 refine Sa ?_
 refine CW.loop (ι := Nat) (fun k w' => k ≤ ss.length ∧ k ≤ 20 ∧ Ext w w' ∧ ∀ i s, i < k → ss[i]? = some s → s.rows.to.length ≤ 100 ∧ s.cols.to.length ≤ 100) (fun k => [(0, .slice p ss.length c), (3, .int .i64 (k : Int))]) (fun k => ss.length - k) 0 ⟨by omega, by omega, Chg.refl _ _, fun i s h => by omega⟩ (Sub.cons rfl (Sub.cons rfl (Sub.nil))) ?_
 rintro k w1 ⟨hk, hk20, hx, hno⟩
 refine Sa ?_
 by_cases h2 : (k : Int) < (ss.length : Int)
 rotate_left
 ·refine LW.know (t := 8) (c := false) rfl (decide_eq_false h2) ?_
  refine Sa ?_
  refine QW.body1 Tryz.results25 rfl ⟨⟨_, rfl, fun hb => ⟨by simp at hb; omega, fun s hs => ?_⟩⟩, hx⟩
  obtain ⟨i, hi, rfl⟩ := List.getElem_of_mem hs
  exact hno i _ (by omega) (List.getElem?_eq_getElem hi)
 refine LW.know (t := 8) (c := true) rfl (decide_eq_true h2) ?_
 refine Sa ?_
 refine Cwc (fun h3 => ?_) fun h3 => ?_
 rotate_left
 ·have h3 : ¬ (k : Int) < 20 := by simpa using h3
  refine Sa ?_
  refine QW.body1 Tryz.results25 rfl ⟨⟨_, rfl, fun hb => ?_⟩, hx⟩
  simp at hb
  omega
 have h3 : (k : Int) < 20 := by simpa using h3
 obtain ⟨s, hs⟩ : ∃ s, ss[k]? = some s := ⟨_, List.getElem?_eq_getElem (by omega)⟩
 obtain ⟨a, rp, rc, cp, cc, rfl, hr, hc, hcell⟩ := h.at hs
 have hrow : w1.cell? (((a.add (((k : Nat) : Int).toNat * 6)).add 1).add 0) = some (.slice rp s.rows.to.length rc) := by
  rw [show ((k : Nat) : Int).toNat = k by omega, Addr.add_add]
  exact cell_ext hx (hcell 1 _ rfl)
 have hcol : w1.cell? (((a.add (((k : Nat) : Int).toNat * 6)).add 3).add 0) = some (.slice cp s.cols.to.length cc) := by
  rw [show ((k : Nat) : Int).toNat = k by omega, Addr.add_add]
  exact cell_ext hx (hcell 3 _ rfl)
 refine Sa ?_
 refine Lo ?_
 refine Ln ?_
 refine Ln ?_
 refine Lp hrow ?_
 refine Sa ?_
 by_cases h4 : (100 : Int) < (s.rows.to.length : Int)
 ·refine LW.know (t := 22) (c := true) rfl (decide_eq_true h4) ?_
  refine Sa ?_
  exact QW.body1 Tryz.results25 rfl ⟨⟨_, rfl, fun hb => by cases hb⟩, hx⟩
 refine LW.know (t := 22) (c := false) rfl (decide_eq_false h4) ?_
 refine Sa ?_
 refine Lo ?_
 try refine Lb ?_
 refine Ln ?_
 try refine Lb ?_
 refine Ln ?_
 try refine Lb ?_
 refine Lp hcol ?_
 refine Sa ?_
 refine Cwc (fun h5 => ?_) fun h5 => ?_
 ·refine Sa ?_
  exact QW.body1 Tryz.results25 rfl ⟨⟨_, rfl, fun hb => by cases hb⟩, hx⟩
 have h5 : ¬ (100 : Int) < (s.cols.to.length : Int) := by simpa using h5
 refine Sa ?_
 refine QW.again (k + 1) ⟨by omega, by omega, hx, fun i u hi hu => ?_⟩ (Sub.cons rfl (Sub.cons rfl (Sub.nil))) (by omega)
 rcases Nat.lt_or_ge i k with h6 | h6
 ·exact hno i u h6 hu
 ·obtain rfl : i = k := by omega
  rw [hs] at hu
  obtain rfl := Option.some.inj hu
  exact ⟨by omega, by omega⟩

set_option maxHeartbeats 4000000 in
theorem MoveAll_ret (l : List NodeD) (lv : Value) (s own : List UInt8) (ss : List ShD) (sv : Value) (hs : s.length ≤ 9223372036854775807) (w : World) (g : Glob w) (hN : NodesO w lv l) (hS : ShiftsO w sv ss) : Ret Tryz.prog 6 [lv, str s, str own, sv] w (fun v w' => v = .bool true ∧ Ext w w') := by
 obtain ⟨p, c, rfl⟩ := hN.slice
 obtain ⟨q, qc, rfl⟩ := hS.slice
 have hll := hN.1
 have hsl := hS.1
 refine Ret.enter Tryz.func6 rfl Tryz.ntmps6 (by kernel_rfl) rfl ?_
 refine Sa ?_
 by_cases a1 : (40 : Int) < (l.length : Int)
 ·refine LW.know (t := 13) (c := true) rfl (decide_eq_true a1) ?_
  have hx0 := Chg.refl [] w
  refine Sa ?_
  refine LW.call0 rfl rfl (awake12_ret _ (g.ext hx0)) ?_
  rintro v w20 ⟨rfl, hx20⟩
  refine Sa ?_
  exact QW.body1 Tryz.results6 rfl ⟨rfl, hx0.trans hx20⟩
 refine LW.know (t := 13) (c := false) rfl (decide_eq_false a1) ?_
 refine Sa ?_
 by_cases a2 : (600 : Int) < (s.length : Int)
 ·refine LW.know (t := 18) (c := true) rfl (decide_eq_true a2) ?_
  have hx0 := Chg.refl [] w
  refine Sa ?_
  refine LW.call0 rfl rfl (awake12_ret _ (g.ext hx0)) ?_
  rintro v w20 ⟨rfl, hx20⟩
  refine Sa ?_
  exact QW.body1 Tryz.results6 rfl ⟨rfl, hx0.trans hx20⟩
 refine LW.know (t := 18) (c := false) rfl (decide_eq_false a2) ?_
 refine Sa ?_
 by_cases a3 : (100 : Int) < (own.length : Int)
 ·refine LW.know (t := 23) (c := true) rfl (decide_eq_true a3) ?_
  have hx0 := Chg.refl [] w
  refine Sa ?_
  refine LW.call0 rfl rfl (awake12_ret _ (g.ext hx0)) ?_
  rintro v w20 ⟨rfl, hx20⟩
  refine Sa ?_
  exact QW.body1 Tryz.results6 rfl ⟨rfl, hx0.trans hx20⟩
 refine LW.know (t := 23) (c := false) rfl (decide_eq_false a3) ?_
 refine Sa ?_
 refine LW.call0 rfl rfl (heavy_ret ss _ w hS) ?_
 rintro v w1 ⟨⟨b, rfl, hb⟩, hx1⟩
 refine Sa ?_
 cases b with
 | true =>
  have hx0 := hx1
  refine LW.know (t := 27) (c := true) rfl rfl ?_
  refine Sa ?_
  refine LW.call0 rfl rfl (awake12_ret _ (g.ext hx0)) ?_
  rintro v w20 ⟨rfl, hx20⟩
  refine Sa ?_
  exact QW.body1 Tryz.results6 rfl ⟨rfl, hx0.trans hx20⟩
 | false =>
 have hR := hS.row (hb rfl)
 refine LW.know (t := 27) (c := false) rfl rfl ?_
 refine Sa ?_
 refine LW.call0 rfl rfl (MayShifts_ret ss _ w1 (hR.ext hx1)) ?_
 rintro v w2 ⟨rfl, hx2⟩
 have hx2' := hx1.trans hx2
 cases hm : maySh ss with
 | false =>
  have hx0 := hx2'
  refine Sa ?_
  refine LW.call0 rfl rfl (awake12_ret _ (g.ext hx0)) ?_
  rintro v w20 ⟨rfl, hx20⟩
  refine Sa ?_
  exact QW.body1 Tryz.results6 rfl ⟨rfl, hx0.trans hx20⟩
 | true =>
 have hmay := maySh_iff.1 hm
 refine Sa ?_
 refine CW.loop (ι := Nat) (fun k w' => k ≤ l.length ∧ Ext w w' ∧ ∀ i n, i < k → l[i]? = some n → n.kids.length ≤ 60 ∧ n.text.length ≤ 300) (fun k => [(0, .slice p l.length c), (1, str s), (2, str own), (3, .slice q ss.length qc), (9, .int .i64 (k : Int))]) (fun k => l.length - k) 0 ⟨by omega, hx2', fun i s h => by omega⟩ (Sub.cons rfl (Sub.cons rfl (Sub.cons rfl (Sub.cons rfl (Sub.cons rfl (Sub.nil)))))) ?_
 rintro k w3 ⟨hk, hx3, hno⟩
 refine Sa ?_
 refine Cwc (fun b1 => ?_) fun b1 => ?_
 ·have b1 : k < l.length := by simp at b1; omega
  obtain ⟨nd, hnd⟩ : ∃ nd, l[k]? = some nd := ⟨_, List.getElem?_eq_getElem b1⟩
  obtain ⟨a, kp, kc, rfl, hk', hcell⟩ := hN.at hnd
  have hkl := hk'.1
  have htl := (hN.2.1 nd (List.mem_of_getElem? hnd)).2.2.1
  have hkid : w3.cell? ((a.add (((k : Nat) : Int).toNat * 14)).add 13) = some (.slice kp nd.kids.length kc) := by
   rw [show ((k : Nat) : Int).toNat = k by omega]
   exact cell_ext hx3 (hcell 13 _ rfl)
  have htxt : w3.cell? ((a.add (((k : Nat) : Int).toNat * 14)).add 2) = some (str nd.text) := by
   rw [show ((k : Nat) : Int).toNat = k by omega]
   exact cell_ext hx3 (hcell 2 _ rfl)
  refine Sa ?_
  refine Lo ?_
  refine Ln ?_
  refine Lp hkid ?_
  refine Sa ?_
  by_cases b2 : (60 : Int) < (nd.kids.length : Int)
  ·refine LW.know (t := 46) (c := true) rfl (decide_eq_true b2) ?_
   have hx0 := hx3
   refine Sa ?_
   refine LW.call0 rfl rfl (awake12_ret _ (g.ext hx0)) ?_
   rintro v w20 ⟨rfl, hx20⟩
   refine Sa ?_
   exact QW.body1 Tryz.results6 rfl ⟨rfl, hx0.trans hx20⟩
  refine LW.know (t := 46) (c := false) rfl (decide_eq_false b2) ?_
  refine Sa ?_
  refine Lo ?_
  try refine Lb ?_
  refine Ln ?_
  try refine Lb ?_
  refine Lp htxt ?_
  refine Sa ?_
  refine Cwc (fun b3 => ?_) fun b3 => ?_
  ·have hx0 := hx3
   refine Sa ?_
   refine LW.call0 rfl rfl (awake12_ret _ (g.ext hx0)) ?_
   rintro v w20 ⟨rfl, hx20⟩
   refine Sa ?_
   exact QW.body1 Tryz.results6 rfl ⟨rfl, hx0.trans hx20⟩
  have b3 : ¬ (300 : Int) < (nd.text.length : Int) := by simpa using b3
  refine Sa ?_
  refine QW.again (k + 1) ⟨by omega, hx3, fun i u hi hu => ?_⟩ (Sub.cons rfl (Sub.cons rfl (Sub.cons rfl (Sub.cons rfl (Sub.cons rfl (Sub.nil)))))) (by omega)
  rcases Nat.lt_or_ge i k with h6 | h6
  ·exact hno i u h6 hu
  ·obtain rfl : i = k := by omega
   rw [hnd] at hu
   obtain rfl := Option.some.inj hu
   exact ⟨by omega, by omega⟩
 have b1 : k = l.length := by simp at b1; omega
 subst b1
 have hfin : ∀ n ∈ l, n.kids.length ≤ 60 ∧ n.text.length ≤ 300 := fun n hn => by
  obtain ⟨i, hi, rfl⟩ := List.getElem_of_mem hn
  exact hno i _ hi (List.getElem?_eq_getElem hi)
 have hNR : NodesR w _ l := hN.row (by omega) (fun n hn => by have := (hfin n hn).1; omega)
 have hshort : ShortT l := fun n hn => ⟨by have := (hfin n hn).2; omega, (hN.2.1 n hn).2.2.2.1, (hN.2.1 n hn).2.2.2.2⟩
 have hR3 := hR.ext hx3
 have g3 := g.ext hx3
 clear hno
 refine Sa ?_
 refine LW.call0 rfl rfl (Nodes_ret l _ own ss _ w3 g3 (hNR.ext hx3) hshort hR3 (fun s hs => May.fine (hmay s hs))) ?_
 rintro v w4 ⟨hN4, hx4⟩
 have hx4' := hx3.trans hx4
 refine Sa ?_
 refine LW.call0 rfl rfl (rNodes_ret l _ own ss _ w4 (hNR.ext hx4') hshort (fun n hn => by have := (hfin n hn).1; omega) (hR.ext hx4') hmay) ?_
 rw [← moveL_eq hmay l]
 rintro v2 w5 ⟨hN5, hx5⟩
 have hx5' := hx4'.trans hx5
 refine Sa ?_
 refine LW.call0 rfl rfl (SameNodes_ret _ _ v v2 w5 (hN4.ext hx5) hN5) ?_
 rintro v w6 ⟨rfl, hx6⟩
 have hx6' := hx5'.trans hx6
 refine Sa ?_
 refine LW.know (t := 65) (c := true) rfl (by simp) ?_
 refine Sa ?_
 refine LW.call0 rfl rfl (mvText_ret s own ss _ hs w6 (g.ext hx6') (hR.ext hx6') hmay) ?_
 rintro v w7 ⟨rfl, hx7⟩
 have hx7' := hx6'.trans hx7
 refine Sa ?_
 refine LW.call0 rfl rfl (rmvText_ret s own ss _ hs w7 (hR.ext hx7') hmay) ?_
 rintro v w8 ⟨rfl, hx8⟩
 have hx8' := hx7'.trans hx8
 refine Sa ?_
 refine LW.know (t := 76) (c := true) rfl (by simp) ?_
 refine Sa ?_
 refine LW.call0 rfl rfl (awake12_ret w8 (g.ext hx8')) ?_
 rintro v w9 ⟨rfl, hx9⟩
 refine Sa ?_
 exact QW.body1 Tryz.results6 rfl ⟨rfl, hx8'.trans hx9⟩
end Go.Proofs.YtiaigmahdjhcoaaGreatDoor
