/-
  Walks: the laws ParseTexts and ParseTrees.
-/
import Derived.Test.YtiloogjageledaaGreatDoorAwake5
import Derived.Test.YtiloogjageledaaGreatDoorRPar6
import Derived.Test.YtiloogjageledaaGreatDoorRTreeB
import Derived.Test.YtiloogjageledaaGreatDoorOpenN
namespace Go.Proofs.YtiloogjageledaaGreatDoor
open Go Go.E

theorem RResV.both {s : List UInt8} {v : Value} {w : World} {lo : Nat} {l : List NodeD} {e : Int} (h : RResV w lo v (parseT s)) (hp : PIs s l e) : ∃ sv, v = .agg ⟨[sv, .int .i64 e]⟩ ∧ NodesR w sv l := by
  obtain ⟨_, h3, h4, _⟩ := hp.facts
  rcases hp with ⟨hp, rfl⟩ | ⟨hp, rfl, _⟩
  · rw [hp] at h
    obtain ⟨sv, rfl, hn⟩ := h
    exact ⟨sv, rfl, hn.row (by omega) (fun n hm => by have := h4 n hm; omega)⟩
  · rw [hp] at h
    exact ⟨_, h, nodesR_nil w⟩

theorem ParseTexts_ret (s : List UInt8) (hs : s.length ≤ 9223372036854775807) (w : World) (g : Glob w) : Ret Tryz.prog 3 [str s] w (fun v w' => v = .bool true ∧ Ext w w') := by
  refine Ret.enter Tryz.func3 rfl Tryz.ntmps3 (by kernel_rfl) rfl ?_
  refine Sa ?_
  refine CW.cond rfl (fun h1 => ?_) (fun h1 => ?_)
  · refine Sa ?_
    refine LW.call0 rfl rfl (awake5_ret w g) ?_
    rintro v w1 ⟨rfl, hx⟩
    refine Sa ?_
    exact QW.body1 Tryz.results3 rfl ⟨rfl, hx⟩
  refine Sa ?_
  refine LW.call0 rfl rfl (Parse_ret s hs w g) ?_
  rintro v w1 ⟨hv, hx1⟩
  obtain ⟨l, e, sv, rfl, hN, hp⟩ := hv.both
  obtain ⟨hsh, hl3, hk3, htb, he0, he6⟩ := hp.facts
  refine Sa ?_
  refine LW.call0 rfl rfl (RParse_ret s hs w1) ?_
  rintro v w2 ⟨hv2, hx2⟩
  obtain ⟨sv2, rfl, hN2⟩ := hv2.both hp
  have hx2' := hx1.trans hx2
  refine Sa ?_
  (apply LW.alloc; exact rfl; exact rfl; exact rfl; intro C w3 hbC hx3 hC)
  have hz2 := hx2'.size
  obtain ⟨p2, c2, rfl⟩ := hN2.slice
  refine Sa ?_
  (apply LW.store_all; exact rfl; exact rfl; exact rfl; assumption; exact rfl; exact rfl; exact rfl; intro w4 hc4 hC)
  have hx24 : Ext w2 w4 := hx3.step hc4 (by simp; omega)
  have hx4 : Ext w w4 := hx2'.trans hx24
  replace hN := (hN.ext hx2).ext hx24
  replace hN2 := hN2.ext hx24
  have hT := Tree_ret l sv
  refine Sa ?_
  refine CW.draw (by kernel_rfl) (by kernel_rfl) ?_
  refine Sq ?_
  refine QL.call0 (v := .bool true) rfl rfl (fun w' hw => (SameNodes_ret l l _ _ w' (hN.ext hw) (hN2.ext hw)).mono (fun v w'' h => ⟨by simpa using h.1, h.2⟩)) ?_
  refine Sq ?_
  refine QL.call0 (v := .int .i64 e) rfl rfl (fun w' hw => Num_ret e w') ?_
  refine Sq ?_
  refine QL.know (t := 28) (c := true) rfl (by simp) ?_
  refine Sq ?_
  refine QL.call0 (v := .bool (treeB l)) rfl rfl (fun w' hw => Tree_ret l sv w' (g.ext (hx4.trans hw)) (hN.ext hw) hsh) ?_
  refine Sq ?_
  refine QL.know (t := 36) (c := true) rfl (by simp [htb]) ?_
  refine Sq ?_
  refine QL.call0 (v := .bool true) rfl rfl (fun w' hw => awake5_ret w' (g.ext (hx4.trans hw))) ?_
  refine Sq ?_
  refine QL.nil fun w5 hx5 => ?_
  refine Sa ?_
  exact QW.body1 Tryz.results3 rfl ⟨rfl, hx4.trans hx5⟩

theorem ParseTrees_ret (l : List NodeD) (v : Value) (w : World) (g : Glob w) (hin : NodesO w v l) : Ret Tryz.prog 4 [v] w (fun v w' => v = .bool true ∧ Ext w w') := by
  obtain ⟨p, c, rfl⟩ := hin.slice
  have hl := hin.1
  refine Ret.enter Tryz.func4 rfl Tryz.ntmps4 (by kernel_rfl) rfl ?_
  refine Sa ?_
  refine CW.loop (ι := Nat) (fun i w' => i ≤ l.length ∧ i ≤ 80 ∧ Ext w w' ∧ ∀ j nd, j < i → l[j]? = some nd → Fine nd) (fun i => [(0, .slice p l.length c), (3, .int .i64 (i : Int))]) (fun i => 80 - i) 0 ⟨by omega, by omega, Chg.refl _ _, by omega⟩ (Sub.cons rfl (Sub.cons rfl (Sub.nil))) ?_
  rintro i w1 ⟨hi, hi8, hx, hall⟩
  replace hin := hin.ext hx
  have fin : l.length ≤ 80 → ∀ w', Ext w w' → i = l.length ∨ i = 80 → ∀ nd ∈ l, Fine nd := fun h8 w' _ he nd hn => by
    obtain ⟨j, hj, rfl⟩ := List.mem_iff_getElem.1 hn
    exact hall j _ (by omega) (List.getElem?_eq_getElem hj)
  refine Sa ?_
  refine LW.part rfl rfl rfl (fun h1 => ?_) (fun h1 => ?_)
  rotate_left
  · have h1 : i = l.length := by simp at h1; omega
    have hfin := fun h => fin h w1 hx (.inl h1)
    clear hall fin
    refine Sa ?_
    refine LW.part rfl rfl rfl (fun h3 => ?_) (fun h3 => ?_)
    · refine Sa ?_
      exact QW.body1 Tryz.results4 rfl ⟨rfl, hx⟩
    have h3 : l.length ≤ 60 := by simp at h3; omega
    obtain ⟨hsh, hkk⟩ := fine_short (hfin (by omega))
    have hN : NodesR w1 _ l := hin.row (by omega) (fun n hn => by have := hkk n hn; omega)
    refine Sa ?_
    refine LW.call0 rfl rfl (Tree_ret l _ w1 (g.ext hx) hN hsh) ?_
    rintro v w2 ⟨rfl, hx2⟩
    refine Sa ?_
    refine LW.call0 rfl rfl (rTree_ret l _ w2 (hN.ext hx2) hsh (fun n hn => by have := hkk n hn; omega)) ?_
    rintro v w3 ⟨rfl, hx3⟩
    have hx3' := (hx.trans hx2).trans hx3
    refine Sa ?_
    refine LW.know (t := 60) (c := true) rfl (by simp) ?_
    refine Sa ?_
    refine LW.call0 rfl rfl (awake5_ret w3 (g.ext hx3')) ?_
    rintro v w4 ⟨rfl, hx4⟩
    refine Sa ?_
    exact QW.body1 Tryz.results4 rfl ⟨rfl, hx3'.trans hx4⟩
  have h1 : i < l.length := by simp at h1; omega
  refine Sa ?_
  refine CW.cond rfl (fun h2 => ?_) (fun h2 => ?_)
  rotate_left
  · have h2 : i = 80 := by simp at h2; omega
    have hfin := fun h => fin h w1 hx (.inr h2)
    clear hall fin
    refine Sa ?_
    refine LW.part rfl rfl rfl (fun h3 => ?_) (fun h3 => ?_)
    · refine Sa ?_
      exact QW.body1 Tryz.results4 rfl ⟨rfl, hx⟩
    have h3 : l.length ≤ 60 := by simp at h3; omega
    obtain ⟨hsh, hkk⟩ := fine_short (hfin (by omega))
    have hN : NodesR w1 _ l := hin.row (by omega) (fun n hn => by have := hkk n hn; omega)
    refine Sa ?_
    refine LW.call0 rfl rfl (Tree_ret l _ w1 (g.ext hx) hN hsh) ?_
    rintro v w2 ⟨rfl, hx2⟩
    refine Sa ?_
    refine LW.call0 rfl rfl (rTree_ret l _ w2 (hN.ext hx2) hsh (fun n hn => by have := hkk n hn; omega)) ?_
    rintro v w3 ⟨rfl, hx3⟩
    have hx3' := (hx.trans hx2).trans hx3
    refine Sa ?_
    refine LW.know (t := 60) (c := true) rfl (by simp) ?_
    refine Sa ?_
    refine LW.call0 rfl rfl (awake5_ret w3 (g.ext hx3')) ?_
    rintro v w4 ⟨rfl, hx4⟩
    refine Sa ?_
    exact QW.body1 Tryz.results4 rfl ⟨rfl, hx3'.trans hx4⟩
  have h2 : i < 80 := by simp at h2; omega
  obtain ⟨nd, hnd⟩ : ∃ nd, l[i]? = some nd := ⟨_, List.getElem?_eq_getElem h1⟩
  obtain ⟨a, kp, kc, rfl, hk, hc⟩ := hin.at hnd
  have hc3 : w1.cell? (((a.add (i * 14)).add 3).add 0) = some (str nd.ref.sheet) := by rw [Go.Deep.add_add]; exact hc 3 _ rfl
  have hc8 : w1.cell? (((a.add (i * 14)).add 8).add 0) = some (str nd.to.sheet) := by rw [Go.Deep.add_add]; exact hc 8 _ rfl
  refine Sa ?_
  refine Lo ?_
  refine Ln ?_
  refine Lp (hc 13 _ rfl) ?_
  refine Sa ?_
  refine LW.part rfl rfl rfl (fun q1 => ?_) (fun q1 => ?_)
  · refine Sa ?_
    refine LW.call0 rfl rfl (awake5_ret w1 (g.ext hx)) ?_
    rintro v w2 ⟨rfl, hx2⟩
    refine Sa ?_
    exact QW.body1 Tryz.results4 rfl ⟨rfl, hx.trans hx2⟩
  have q1 : nd.kids.length ≤ 100 := by simp at q1; omega
  refine Sa ?_
  refine Lo ?_
  refine Lb ?_
  refine Ln ?_
  refine Lb ?_
  refine Lp (hc 2 _ rfl) ?_
  refine Sa ?_
  refine LW.part rfl rfl rfl (fun q2 => ?_) (fun q2 => ?_)
  · refine Sa ?_
    refine LW.call0 rfl rfl (awake5_ret w1 (g.ext hx)) ?_
    rintro v w2 ⟨rfl, hx2⟩
    refine Sa ?_
    exact QW.body1 Tryz.results4 rfl ⟨rfl, hx.trans hx2⟩
  have q2 : nd.text.length ≤ 500 := by simp at q2; omega
  refine Sa ?_
  refine Lo ?_
  refine Lb ?_
  refine Ln ?_
  refine Lb ?_
  refine Ln ?_
  refine Lb ?_
  refine Lp hc3 ?_
  refine Sa ?_
  refine LW.part rfl rfl rfl (fun q3 => ?_) (fun q3 => ?_)
  · refine Sa ?_
    refine LW.call0 rfl rfl (awake5_ret w1 (g.ext hx)) ?_
    rintro v w2 ⟨rfl, hx2⟩
    refine Sa ?_
    exact QW.body1 Tryz.results4 rfl ⟨rfl, hx.trans hx2⟩
  have q3 : nd.ref.sheet.length ≤ 100 := by simp at q3; omega
  refine Sa ?_
  refine Lo ?_
  refine Lb ?_
  refine Ln ?_
  refine Lb ?_
  refine Ln ?_
  refine Lb ?_
  refine Lp hc8 ?_
  refine Sa ?_
  refine CW.cond rfl (fun q4 => ?_) (fun q4 => ?_)
  · refine Sa ?_
    refine LW.call0 rfl rfl (awake5_ret w1 (g.ext hx)) ?_
    rintro v w2 ⟨rfl, hx2⟩
    refine Sa ?_
    exact QW.body1 Tryz.results4 rfl ⟨rfl, hx.trans hx2⟩
  have q4 : nd.to.sheet.length ≤ 100 := by simp at q4; omega
  refine Sa ?_
  refine QW.again (i + 1) ⟨by omega, by omega, hx, fun j nd' hj hn => ?_⟩ (Sub.cons rfl (Sub.cons rfl (Sub.nil))) (by omega)
  by_cases e : j = i
  · subst e
    rw [hnd] at hn
    obtain rfl := Option.some.inj hn
    exact ⟨q1, q2, q3, q4⟩
  · exact hall j nd' (by omega) hn
end Go.Proofs.YtiloogjageledaaGreatDoor
