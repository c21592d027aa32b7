/-
  Walks: the law ShowMade.
-/
import Derived.Test.YtiloogjageledaaGreatDoorMade
namespace Go.Proofs.YtiloogjageledaaGreatDoor
open Go Go.E

theorem text_ne {t : Tr false} (hf : t.Fit) (hn : t.Num) : t.text ≠ [] := (t.head hf hn).1
theorem parseT_empty (l : List NodeD) : parseT [] ≠ .ok l := fun h => by
  obtain ⟨_, h1, _, t, hf, hn, _, h2⟩ := print_parse h
  rw [h2] at h1
  exact text_ne hf hn (List.eq_nil_of_length_eq_zero (by simpa using h1))
/-- What a formula's nodes are as text, told back. -/
theorem made_facts {l : List NodeD} (hsh : Short l) (hno : NumOk l) (hl : l.length ≤ 100000) (ht : l = [] ∨ treeB l = true) :
    (printT l = [] ↔ l = []) ∧ (printT l).length ≤ 400000000 ∧ (∀ e, parseT (printT l) = .error e → l = [] ∨ 300 < (printT l).length ∨ e = 6) ∧ ∀ m, parseT (printT l) = .ok m → l = m := by
  rcases ht with rfl | ht
  · have hp : printT [] = [] := printT_no rfl
    rw [hp]
    exact ⟨by simp, by simp, fun _ _ => .inl rfl, fun m h => absurd h (parseT_empty m)⟩
  · obtain ⟨t, rfl, hf⟩ := tree_of ht
    have hn := hno t hf rfl
    have hlen := t.flat_len 0
    have hle := t.len_le 0 hf hn (fun n hm => (hsh n hm).1)
    simp only [cond_false] at hle
    have hne : t.flat 0 ≠ [] := fun h => by
      have := t.cnt_pos
      rw [h] at hlen
      simp at hlen
      omega
    rw [printT_of hf, parseT_text t hf hn]
    refine ⟨⟨fun h => absurd h (text_ne hf hn), fun h => absurd h hne⟩, by omega, fun e h => ?_, fun m h => ?_⟩
    · split at h
      · rename_i h3
        exact .inr (.inl h3)
      · split at h
        · cases h
        · simp only [Except.error.injEq] at h
          exact .inr (.inr h.symm)
    · split at h
      · cases h
      · split at h
        · simpa using h
        · cases h

theorem ShowMade_ret (ns : List Int) (vn : Value) (w : World) (g : Glob w) (hin : InS .u8 w vn ns) (hb : ∀ z ∈ ns, 0 ≤ z ∧ z ≤ 255) : Ret Tryz.prog 7 [vn] w (fun v w' => v = .bool true ∧ Ext w w') := by
  refine Ret.enter Tryz.func7 rfl Tryz.ntmps7 (by kernel_rfl) rfl ?_
  refine Sa ?_
  refine LW.call0 rfl rfl (Made_ret ns vn w hin hb) ?_
  rintro v w1 ⟨l, ⟨hN, hsh, hno, hk, _, ht, _⟩, hx1⟩
  obtain ⟨f1, f2, f3, f4⟩ := made_facts hsh hno hN.1 ht
  have hl1 := hN.1
  obtain ⟨p, c, rfl⟩ := hN.slice
  have g1 := g.ext hx1
  refine Sa ?_
  refine LW.call0 rfl rfl (Print_ret l _ w1 g1 hN hsh hno) ?_
  rintro v w2 ⟨rfl, hx2⟩
  have hN2 := hN.ext hx2
  have hx2' := hx1.trans hx2
  refine Sa ?_
  refine LW.call0 rfl rfl (rPrint_ret l _ w2 hN2 hsh (fun n hn => by have := hk n hn; omega) hno) ?_
  rintro v w3 ⟨rfl, hx3⟩
  have hN3 := hN2.ext hx3
  have hx3' := hx2'.trans hx3
  refine Sa ?_
  refine LW.know (t := 15) (c := false) rfl (by simp) ?_
  refine Sa ?_
  refine CW.no rfl ?_ ?_
  · simp [f1]
  refine Sa ?_
  refine LW.call0 rfl rfl (Parse_ret (printT l) (by omega) w3 (g.ext hx3')) ?_
  rintro v w4 ⟨hv, hx4⟩
  obtain ⟨m, e, sv, rfl, hN', hp⟩ := hv.both
  have hN4 := hN3.ext hx4
  have hx4' := hx3'.trans hx4
  refine Sa ?_
  refine LW.call0 rfl rfl (Num_ret e w4) ?_
  rintro v w5 ⟨rfl, hx5⟩
  have hx5' := hx4'.trans hx5
  refine Sa ?_
  refine CW.cond rfl (fun h2 => ?_) (fun h2 => ?_)
  · have h2 : e ≠ 0 := by simpa using h2
    have hpe : parseT (printT l) = .error e := by
      rcases hp with ⟨_, h⟩ | ⟨h, _, _⟩
      · exact absurd h h2
      · exact h
    have h3 := f3 e hpe
    refine Sa ?_
    by_cases q1 : l = []
    · refine LW.know (t := 34) (c := true) rfl (by simp [q1]) ?_
      refine Sa ?_
      refine LW.call0 rfl rfl (awake6_ret w5 (g.ext hx5')) ?_
      rintro v w6 ⟨rfl, hx6⟩
      refine Sa ?_
      exact QW.body1 Tryz.results7 rfl ⟨rfl, hx5'.trans hx6⟩
    have q1' : ¬ ((l.length : Nat) : Int) = 0 := fun h => q1 (List.eq_nil_of_length_eq_zero (by omega))
    refine LW.know (t := 34) (c := false) rfl (decide_eq_false q1') ?_
    refine Sa ?_
    by_cases q2 : 300 < (printT l).length
    · refine LW.know (t := 39) (c := true) rfl (decide_eq_true (by omega)) ?_
      refine Sa ?_
      refine LW.call0 rfl rfl (awake6_ret w5 (g.ext hx5')) ?_
      rintro v w6 ⟨rfl, hx6⟩
      refine Sa ?_
      exact QW.body1 Tryz.results7 rfl ⟨rfl, hx5'.trans hx6⟩
    have q3 : e = 6 := by
      rcases h3 with h | h | h
      · exact absurd h q1
      · exact absurd h q2
      · exact h
    refine LW.know (t := 39) (c := false) rfl (decide_eq_false (by omega)) ?_
    refine Sa ?_
    refine LW.call0 rfl rfl (Num_ret e w5) ?_
    rintro v w6 ⟨rfl, hx6⟩
    have hx6' := hx5'.trans hx6
    refine Sa ?_
    refine LW.know (t := 44) (c := true) rfl (decide_eq_true q3) ?_
    refine Sa ?_
    refine LW.call0 rfl rfl (awake6_ret w6 (g.ext hx6')) ?_
    rintro v w7 ⟨rfl, hx7⟩
    refine Sa ?_
    exact QW.body1 Tryz.results7 rfl ⟨rfl, hx6'.trans hx7⟩
  have h2 : e = 0 := by simpa using h2
  have hpo : parseT (printT l) = .ok m := by
    rcases hp with ⟨h, _⟩ | ⟨_, _, h⟩
    · exact h
    · omega
  obtain rfl := f4 m hpo
  refine Sa ?_
  refine LW.call0 rfl rfl (SameNodes_ret l l _ sv w5 (hN4.ext hx5) (hN'.ext hx5)) ?_
  rintro v w6 ⟨rfl, hx6⟩
  have hx6' := hx5'.trans hx6
  refine Sa ?_
  refine LW.know (t := 50) (c := true) rfl (by simp) ?_
  refine Sa ?_
  refine LW.call0 rfl rfl (awake6_ret w6 (g.ext hx6')) ?_
  rintro v w7 ⟨rfl, hx7⟩
  refine Sa ?_
  exact QW.body1 Tryz.results7 rfl ⟨rfl, hx6'.trans hx7⟩
end Go.Proofs.YtiloogjageledaaGreatDoor
