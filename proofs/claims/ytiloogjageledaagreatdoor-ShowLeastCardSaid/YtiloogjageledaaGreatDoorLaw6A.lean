/-
  Walks: the laws ShowAll and ShowTexts.
-/
import Derived.Test.YtiloogjageledaaGreatDoorPShow
import Derived.Test.YtiloogjageledaaGreatDoorOpenN
namespace Go.Proofs.YtiloogjageledaaGreatDoor
open Go Go.E

theorem ex6_parse : evalT 60 [40, 32, 49, 43, 32, 50, 41, 32, 42, 51] = some (.ok [{ kind := 1, num := 1 }, { kind := 1, num := 2 }, { kind := 16, kids := [0, 1] }, { kind := 1, num := 3 }, { kind := 18, kids := [2, 3] }]) := isOk_eq (by decide +kernel)
def ex6_tree : Tr false := .two 18 (.two 16 (.leaf { kind := 1, num := 1 }) (.leaf { kind := 1, num := 2 })) (.leaf { kind := 1, num := 3 })
theorem ex6_fit : ex6_tree.Fit := by
  refine ⟨by decide, by decide, ⟨by decide, by decide, ⟨by decide, by decide, rfl, by decide +kernel⟩, ⟨by decide, by decide, rfl, by decide +kernel⟩⟩, ⟨by decide, by decide, rfl, by decide +kernel⟩⟩
theorem ex6_print : printT [{ kind := 1, num := 1 }, { kind := 1, num := 2 }, { kind := 16, kids := [0, 1] }, { kind := 1, num := 3 }, { kind := 18, kids := [2, 3] }] = [40, 49, 43, 50, 41, 42, 51] :=
  (printT_of ex6_fit).trans (by decide +kernel)

theorem awake6_ret (w : World) (g : Glob w) : Ret Tryz.prog 28 [] w (fun v w' => v = .bool true ∧ Ext w w') := by
  refine Ret.enter Tryz.func28 rfl Tryz.ntmps28 (by kernel_rfl) rfl ?_
  refine Sa ?_
  refine LW.call0 rfl rfl (Parse_ret [40, 32, 49, 43, 32, 50, 41, 32, 42, 51] (by simp) w g) ?_
  rintro v w1 ⟨hv, hx⟩
  obtain ⟨l, e, sv, rfl, hN, hp⟩ := hv.both
  obtain ⟨rfl, rfl⟩ := hp.det (.inl ⟨parseT_eval ex6_parse, rfl⟩)
  obtain ⟨hsh, _⟩ := hp.facts
  refine Sa ?_
  refine LW.call0 rfl rfl (Print_ret _ sv w1 (g.ext hx) hN hsh hp.num) ?_
  rintro v w2 ⟨rfl, hx2⟩
  rw [ex6_print]
  refine Sa ?_
  exact QW.body1 Tryz.results28 rfl ⟨rfl, hx.trans hx2⟩

theorem ShowTexts_ret (s : List UInt8) (hs : s.length ≤ 9223372036854775807) (w : World) (g : Glob w) : Ret Tryz.prog 6 [str s] w (fun v w' => v = .bool true ∧ Ext w w') := by
  refine Ret.enter Tryz.func6 rfl Tryz.ntmps6 (by kernel_rfl) rfl ?_
  refine Sa ?_
  refine CW.cond rfl (fun h1 => ?_) (fun h1 => ?_)
  · refine Sa ?_
    refine LW.call0 rfl rfl (awake6_ret w g) ?_
    rintro v w1 ⟨rfl, hx⟩
    refine Sa ?_
    exact QW.body1 Tryz.results6 rfl ⟨rfl, hx⟩
  have h1 : s.length ≤ 600 := by simp at h1; omega
  refine Sa ?_
  refine LW.call0 rfl rfl (Parse_ret s hs w g) ?_
  rintro v w1 ⟨hv, hx1⟩
  obtain ⟨l, e, sv, rfl, hN, hp⟩ := hv.both
  obtain ⟨hsh, hl3, hk3, htb, he0, he6⟩ := hp.facts
  have g1 := g.ext hx1
  refine Sa ?_
  refine LW.call0 rfl rfl (Print_ret l sv w1 g1 hN hsh hp.num) ?_
  rintro v w2 ⟨rfl, hx2⟩
  have g2 := g1.ext hx2
  have hN2 := hN.ext hx2
  have hx2' := hx1.trans hx2
  refine Sa ?_
  refine LW.call0 rfl rfl (rPrint_ret l sv w2 hN2 hsh (fun n hn => by have := hk3 n hn; omega) hp.num) ?_
  rintro v w3 ⟨rfl, hx3⟩
  have g3 := g2.ext hx3
  have hN3 := hN2.ext hx3
  have hx3' := hx2'.trans hx3
  refine Sa ?_
  refine CW.no rfl (by simp) ?_
  refine Sa ?_
  refine LW.call0 rfl rfl (Num_ret e w3) ?_
  rintro v w4 ⟨rfl, hx4⟩
  have g4 := g3.ext hx4
  have hN4 := hN3.ext hx4
  have hx4' := hx3'.trans hx4
  refine Sa ?_
  refine CW.cond rfl (fun h2 => ?_) (fun h2 => ?_)
  · have h2 : e ≠ 0 := by simpa using h2
    have hpn : printT l = [] := printT_no (by rw [htb]; simpa using h2)
    rw [hpn]
    refine Sa ?_
    refine LW.call0 rfl rfl (awake6_ret w4 g4) ?_
    rintro v w5 ⟨rfl, hx5⟩
    refine Sa ?_
    exact QW.body1 Tryz.results6 rfl ⟨rfl, hx4'.trans hx5⟩
  have h2 : e = 0 := by simpa using h2
  have hpo : parseT s = .ok l := by
    rcases hp with ⟨h, _⟩ | ⟨_, _, h⟩
    · exact h
    · omega
  obtain ⟨hpp, hpl, _, _⟩ := print_parse hpo
  refine Sa ?_
  refine LW.call0 rfl rfl (Parse_ret (printT l) (by omega) w4 g4) ?_
  rintro v w5 ⟨hv5, hx5⟩
  obtain ⟨l', e', sv', rfl, hN', hp'⟩ := hv5.both
  obtain ⟨rfl, rfl⟩ := hp'.det (.inl ⟨hpp, rfl⟩)
  have g5 := g4.ext hx5
  have hN5 := hN4.ext hx5
  have hx5' := hx4'.trans hx5
  refine Sa ?_
  refine LW.call0 rfl rfl (Num_ret 0 w5) ?_
  rintro v w6 ⟨rfl, hx6⟩
  have hx6' := hx5'.trans hx6
  refine Sa ?_
  refine LW.call0 rfl rfl (SameNodes_ret l' l' sv sv' w6 (hN5.ext hx6) (hN'.ext hx6)) ?_
  rintro v w7 ⟨rfl, hx7⟩
  have hx7' := hx6'.trans hx7
  have hx57 := hx6.trans hx7
  refine Sa ?_
  refine LW.know (t := 44) (c := true) rfl (by simp) ?_
  refine Sa ?_
  refine LW.know (t := 51) (c := true) rfl (by simp; omega) ?_
  refine Sa ?_
  refine LW.call0 rfl rfl (Print_ret l' sv' w7 (g5.ext hx57) (hN'.ext hx57) hsh hp.num) ?_
  rintro v w8 ⟨rfl, hx8⟩
  have hx8' := hx7'.trans hx8
  refine Sa ?_
  refine LW.know (t := 57) (c := true) rfl (by simp) ?_
  refine Sa ?_
  refine LW.call0 rfl rfl (awake6_ret w8 (g.ext hx8')) ?_
  rintro v w9 ⟨rfl, hx9⟩
  refine Sa ?_
  exact QW.body1 Tryz.results6 rfl ⟨rfl, hx8'.trans hx9⟩

theorem ShowAll_ret (l : List NodeD) (v : Value) (w : World) (g : Glob w) (hin : NodesO w v l) : Ret Tryz.prog 5 [v] w (fun v w' => v = .bool true ∧ Ext w w') := by
  obtain ⟨p, c, rfl⟩ := hin.slice
  have hl := hin.1
  refine Ret.enter Tryz.func5 rfl Tryz.ntmps5 (by kernel_rfl) rfl ?_
  refine Sa ?_
  refine CW.loop (ι := Nat) (fun i w' => i ≤ l.length ∧ i ≤ 80 ∧ Ext w w' ∧ ∀ j nd, j < i → l[j]? = some nd → Fine nd) (fun i => [(0, .slice p l.length c), (3, .int .i64 (i : Int))]) (fun i => 80 - i) 0 ⟨by omega, by omega, Chg.refl _ _, by omega⟩ (Sub.cons rfl (Sub.cons rfl (Sub.nil))) ?_
  rintro i w1 ⟨hi, hi8, hx, hall⟩
  replace hin := hin.ext hx
  have fin : l.length ≤ 80 → ∀ w', Ext w w' → i = l.length ∨ i = 80 → ∀ nd ∈ l, Fine nd := fun h8 w' _ he nd hn => by
    obtain ⟨j, hj, rfl⟩ := List.mem_iff_getElem.1 hn
    exact hall j _ (by omega) (List.getElem?_eq_getElem hj)
  refine Sa ?_
  refine LW.part rfl rfl rfl (fun h1 => ?_) (fun h1 => ?_)
  rotate_left
  · have h1 : i = l.length := by simp at h1; omega
    have hfin := fun h => fin h w1 hx (.inl h1)
    clear hall fin
    refine Sa ?_
    refine LW.part rfl rfl rfl (fun h3 => ?_) (fun h3 => ?_)
    · refine Sa ?_
      exact QW.body1 Tryz.results5 rfl ⟨rfl, hx⟩
    have h3 : l.length ≤ 60 := by simp at h3; omega
    obtain ⟨hsh, hkk⟩ := fine_short (hfin (by omega))
    have hN : NodesR w1 _ l := hin.row (by omega) (fun n hn => by have := hkk n hn; omega)
    have hno : NumOk l := numOk_of (fun n hn => (hin.2.1 n hn).1)
    refine Sa ?_
    refine LW.call0 rfl rfl (Print_ret l _ w1 (g.ext hx) hN hsh hno) ?_
    rintro v w2 ⟨rfl, hx2⟩
    refine Sa ?_
    refine LW.call0 rfl rfl (rPrint_ret l _ w2 (hN.ext hx2) hsh (fun n hn => by have := hkk n hn; omega) hno) ?_
    rintro v w3 ⟨rfl, hx3⟩
    have hx3' := (hx.trans hx2).trans hx3
    refine Sa ?_
    refine LW.know (t := 60) (c := true) rfl (by simp) ?_
    refine Sa ?_
    refine LW.call0 rfl rfl (awake6_ret w3 (g.ext hx3')) ?_
    rintro v w4 ⟨rfl, hx4⟩
    refine Sa ?_
    exact QW.body1 Tryz.results5 rfl ⟨rfl, hx3'.trans hx4⟩
  have h1 : i < l.length := by simp at h1; omega
  refine Sa ?_
  refine CW.cond rfl (fun h2 => ?_) (fun h2 => ?_)
  rotate_left
  · have h2 : i = 80 := by simp at h2; omega
    have hfin := fun h => fin h w1 hx (.inr h2)
    clear hall fin
    refine Sa ?_
    refine LW.part rfl rfl rfl (fun h3 => ?_) (fun h3 => ?_)
    · refine Sa ?_
      exact QW.body1 Tryz.results5 rfl ⟨rfl, hx⟩
    have h3 : l.length ≤ 60 := by simp at h3; omega
    obtain ⟨hsh, hkk⟩ := fine_short (hfin (by omega))
    have hN : NodesR w1 _ l := hin.row (by omega) (fun n hn => by have := hkk n hn; omega)
    have hno : NumOk l := numOk_of (fun n hn => (hin.2.1 n hn).1)
    refine Sa ?_
    refine LW.call0 rfl rfl (Print_ret l _ w1 (g.ext hx) hN hsh hno) ?_
    rintro v w2 ⟨rfl, hx2⟩
    refine Sa ?_
    refine LW.call0 rfl rfl (rPrint_ret l _ w2 (hN.ext hx2) hsh (fun n hn => by have := hkk n hn; omega) hno) ?_
    rintro v w3 ⟨rfl, hx3⟩
    have hx3' := (hx.trans hx2).trans hx3
    refine Sa ?_
    refine LW.know (t := 60) (c := true) rfl (by simp) ?_
    refine Sa ?_
    refine LW.call0 rfl rfl (awake6_ret w3 (g.ext hx3')) ?_
    rintro v w4 ⟨rfl, hx4⟩
    refine Sa ?_
    exact QW.body1 Tryz.results5 rfl ⟨rfl, hx3'.trans hx4⟩
  have h2 : i < 80 := by simp at h2; omega
  obtain ⟨nd, hnd⟩ : ∃ nd, l[i]? = some nd := ⟨_, List.getElem?_eq_getElem h1⟩
  obtain ⟨a, kp, kc, rfl, hk, hc⟩ := hin.at hnd
  have hc3 : w1.cell? (((a.add (i * 14)).add 3).add 0) = some (str nd.ref.sheet) := by rw [Go.Deep.add_add]; exact hc 3 _ rfl
  have hc8 : w1.cell? (((a.add (i * 14)).add 8).add 0) = some (str nd.to.sheet) := by rw [Go.Deep.add_add]; exact hc 8 _ rfl
  refine Sa ?_
  refine Lo ?_
  refine Ln ?_
  refine Lp (hc 13 _ rfl) ?_
  refine Sa ?_
  refine LW.part rfl rfl rfl (fun q1 => ?_) (fun q1 => ?_)
  · refine Sa ?_
    refine LW.call0 rfl rfl (awake6_ret w1 (g.ext hx)) ?_
    rintro v w2 ⟨rfl, hx2⟩
    refine Sa ?_
    exact QW.body1 Tryz.results5 rfl ⟨rfl, hx.trans hx2⟩
  have q1 : nd.kids.length ≤ 100 := by simp at q1; omega
  refine Sa ?_
  refine Lo ?_
  refine Lb ?_
  refine Ln ?_
  refine Lb ?_
  refine Lp (hc 2 _ rfl) ?_
  refine Sa ?_
  refine LW.part rfl rfl rfl (fun q2 => ?_) (fun q2 => ?_)
  · refine Sa ?_
    refine LW.call0 rfl rfl (awake6_ret w1 (g.ext hx)) ?_
    rintro v w2 ⟨rfl, hx2⟩
    refine Sa ?_
    exact QW.body1 Tryz.results5 rfl ⟨rfl, hx.trans hx2⟩
  have q2 : nd.text.length ≤ 500 := by simp at q2; omega
  refine Sa ?_
  refine Lo ?_
  refine Lb ?_
  refine Ln ?_
  refine Lb ?_
  refine Ln ?_
  refine Lb ?_
  refine Lp hc3 ?_
  refine Sa ?_
  refine LW.part rfl rfl rfl (fun q3 => ?_) (fun q3 => ?_)
  · refine Sa ?_
    refine LW.call0 rfl rfl (awake6_ret w1 (g.ext hx)) ?_
    rintro v w2 ⟨rfl, hx2⟩
    refine Sa ?_
    exact QW.body1 Tryz.results5 rfl ⟨rfl, hx.trans hx2⟩
  have q3 : nd.ref.sheet.length ≤ 100 := by simp at q3; omega
  refine Sa ?_
  refine Lo ?_
  refine Lb ?_
  refine Ln ?_
  refine Lb ?_
  refine Ln ?_
  refine Lb ?_
  refine Lp hc8 ?_
  refine Sa ?_
  refine CW.cond rfl (fun q4 => ?_) (fun q4 => ?_)
  · refine Sa ?_
    refine LW.call0 rfl rfl (awake6_ret w1 (g.ext hx)) ?_
    rintro v w2 ⟨rfl, hx2⟩
    refine Sa ?_
    exact QW.body1 Tryz.results5 rfl ⟨rfl, hx.trans hx2⟩
  have q4 : nd.to.sheet.length ≤ 100 := by simp at q4; omega
  refine Sa ?_
  refine QW.again (i + 1) ⟨by omega, by omega, hx, fun j nd' hj hn => ?_⟩ (Sub.cons rfl (Sub.cons rfl (Sub.nil))) (by omega)
  by_cases e : j = i
  · subst e
    rw [hnd] at hn
    obtain rfl := Option.some.inj hn
    exact ⟨q1, q2, q3, q4⟩
  · exact hall j nd' (by omega) hn
end Go.Proofs.YtiloogjageledaaGreatDoor
