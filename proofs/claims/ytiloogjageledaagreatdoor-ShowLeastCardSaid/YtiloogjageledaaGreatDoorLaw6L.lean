/-
  Walks: the law ShowLeast.
-/
import Derived.Test.YtiloogjageledaaGreatDoorLeast
import Derived.Test.YtiloogjageledaaGreatDoorLaw6M
namespace Go.Proofs.YtiloogjageledaaGreatDoor
open Go Go.E

theorem cut_length {s : List UInt8} {i j : Nat} (h1 : i ≤ j) (h2 : j ≤ s.length) : (cut s i j).length = j - i := by
  unfold cut
  simp
  omega
theorem cut_empty (s : List UInt8) (i : Nat) : cut s i i = [] := by simp [cut]
theorem byte_at {s : List UInt8} {k : Nat} (hk : k < s.length) (c : UInt8) : byte s k = (c.toNat : Int) ↔ s[k] = c := by
  rw [byte_eq hk]
  constructor
  · intro h
    have : s[k].toNat = c.toNat := by omega
    exact UInt8.toNat_inj.1 this
  · intro h; rw [h]

set_option maxHeartbeats 4000000 in
theorem ShowLeast_ret (ns : List Int) (vn : Value) (x : Int) (hx0 : 0 ≤ x) (hx1 : x ≤ 255) (w : World) (g : Glob w) (hin : InS .u8 w vn ns) (hb : ∀ z ∈ ns, 0 ≤ z ∧ z ≤ 255) : Ret Tryz.prog 8 [vn, .int .u8 x] w (fun v w' => v = .bool true ∧ Ext w w') := by
  obtain ⟨np, nc, rfl⟩ := hin.slice
  refine Ret.enter Tryz.func8 rfl Tryz.ntmps8 (by kernel_rfl) rfl ?_
  refine Sa ?_
  refine CW.cond rfl (fun a1 => ?_) (fun a1 => ?_)
  · refine Sa ?_
    refine LW.call0 rfl rfl (awake6_ret w g) ?_
    rintro v wz ⟨rfl, hxz⟩
    refine Sa ?_
    exact QW.body1 Tryz.results8 rfl ⟨rfl, Ext.trans (Chg.refl _ _) hxz⟩
  refine Sa ?_
  refine LW.call0 rfl rfl (Made_ret ns _ w hin hb) ?_
  rintro v w1 ⟨l, ⟨hN, hsh, hno, hk, _, ht, hnp⟩, hw1⟩
  obtain ⟨f1, f2, f3, f4⟩ := made_facts hsh hno hN.1 ht
  have hbal : Bal (printT l) := by
    rcases ht with rfl | ht
    · rw [printT_no rfl]; exact Bal.nil
    · obtain ⟨t, rfl, hf⟩ := tree_of ht
      rw [printT_of hf]
      exact t.bal 0 hf hnp
  refine Sa ?_
  refine LW.call0 rfl rfl (Print_ret l v w1 (g.ext hw1) hN hsh hno) ?_
  rintro v w2 ⟨rfl, hx2⟩
  have hw2 := hw1.trans hx2
  refine Sa ?_
  refine LW.call0 rfl rfl (Parse_ret (printT l) (by omega) w2 (g.ext hw2)) ?_
  rintro v w3 ⟨hv, hx3⟩
  obtain ⟨m, e, sv, rfl, hN', hp⟩ := hv.both
  have hw3 := hw2.trans hx3
  refine Sa ?_
  refine LW.call0 rfl rfl (Num_ret e w3) ?_
  rintro v w4 ⟨rfl, hx4⟩
  have hw4 := hw3.trans hx4
  replace hN' := hN'.ext hx4
  refine Sa ?_
  refine CW.cond rfl (fun a2 => ?_) (fun a2 => ?_)
  · refine Sa ?_
    refine LW.call0 rfl rfl (awake6_ret w4 (g.ext hw4)) ?_
    rintro v wz ⟨rfl, hxz⟩
    refine Sa ?_
    exact QW.body1 Tryz.results8 rfl ⟨rfl, Ext.trans (hw4) hxz⟩
  have a2 : e = 0 := by simpa using a2
  have hpo : parseT (printT l) = .ok m := by
    rcases hp with ⟨h, _⟩ | ⟨_, _, h⟩
    · exact h
    · omega
  obtain rfl := f4 m hpo
  have hshort : ∀ s, parseT s = .ok l → (printT l).length ≤ s.length := fun s h => (print_parse h).2.1
  clear f1 f3 f4 hpo hp ht hno hsh hnp
  obtain ⟨T, hT⟩ : ∃ T, T = printT l := ⟨_, rfl⟩
  rw [← hT] at hbal f2 hshort ⊢
  clear hT
  refine Sa ?_
  refine CW.loop (ι := Nat × Nat) (fun k w' => k.1 ≤ T.length ∧ k.2 ≤ k.1 ∧ Ext w w' ∧ Ext w4 w') (fun k => [(1, .int .u8 x), (5, str T), (6, sv), (8, .int .i64 (k.2 : Int)), (9, .int .i64 (k.1 : Int))]) (fun k => T.length - k.1) (0, 0) ⟨by simp, by simp, hw4, Chg.refl _ _⟩ (Sub.cons rfl (Sub.cons rfl (Sub.cons rfl (Sub.cons rfl (Sub.cons rfl (Sub.nil)))))) ?_
  rintro ⟨i, n⟩ w5 ⟨hi, hni, hw5, hx5⟩
  dsimp only at hi hni
  show CW _ _ _ _ _ [(1, .int .u8 x), (5, str T), (6, sv), (8, .int .i64 (n : Int)), (9, .int .i64 (i : Int))] _
  refine Sa ?_
  refine CW.cond rfl (fun b1 => ?_) (fun b1 => ?_)
  rotate_left
  · refine Sa ?_
    refine LW.call0 rfl rfl (awake6_ret w5 (g.ext hw5)) ?_
    rintro v wz ⟨rfl, hxz⟩
    refine Sa ?_
    exact QW.body1 Tryz.results8 rfl ⟨rfl, Ext.trans (hw5) hxz⟩
  have b1 : i < T.length := by simp at b1; omega
  refine Sa ?_
  refine CW.cond rfl (fun b2 => ?_) (fun b2 => ?_)
  · refine Sa ?_
    refine LW.call0 rfl rfl (awake6_ret w5 (g.ext hw5)) ?_
    rintro v wz ⟨rfl, hxz⟩
    refine Sa ?_
    exact QW.body1 Tryz.results8 rfl ⟨rfl, Ext.trans (hw5) hxz⟩
  refine Sa ?_
  refine LW.part rfl rfl rfl (fun b3 => ?_) (fun b3 => ?_)
  · refine Sa ?_
    exact QW.again (i + 1, n) ⟨b1, by dsimp only; omega, hw5, hx5⟩ (Sub.cons rfl (Sub.cons rfl (Sub.cons rfl (Sub.cons rfl (Sub.cons rfl (Sub.nil)))))) (by show T.length - (i + 1) < T.length - i; omega)
  have b3 : byte T i = 40 := by simpa using b3
  refine Sa ?_
  refine LW.part rfl rfl rfl (fun b4 => ?_) (fun b4 => ?_)
  · have b4 : 0 < i := by simp at b4; omega
    refine Sa ?_
    refine CW.cond rfl (fun b5 => ?_) (fun b5 => ?_)
    · refine Sa ?_
      exact QW.again (i + 1, n) ⟨b1, by dsimp only; omega, hw5, hx5⟩ (Sub.cons rfl (Sub.cons rfl (Sub.cons rfl (Sub.cons rfl (Sub.cons rfl (Sub.nil)))))) (by show T.length - (i + 1) < T.length - i; omega)
    · refine Sa ?_
      refine CW.cond rfl (fun b6 => ?_) (fun b6 => ?_)
      · refine Sa ?_
        exact QW.again (i + 1, n + 1) ⟨b1, by dsimp only; omega, hw5, hx5⟩ (Sub.cons rfl (Sub.cons rfl (Sub.cons rfl (Sub.cons rfl (Sub.cons rfl (Sub.nil)))))) (by show T.length - (i + 1) < T.length - i; omega)
      refine Sa ?_
      refine CW.loop (ι := Nat × Int) (fun k w' => i ≤ k.1 ∧ k.1 ≤ T.length ∧ k.2 = dpt (cut T i k.1) ∧ (k.1 = i ∨ 1 ≤ k.2) ∧ k.2 ≤ k.1 ∧ Ext w w' ∧ Ext w4 w') (fun k => [(5, str T), (6, sv), (9, .int .i64 (i : Int)), (10, .int .i64 k.2), (11, .int .i64 (k.1 : Int))]) (fun k => T.length - k.1) (i, 0) ⟨by simp, hi, by rw [cut_empty]; rfl, .inl rfl, by simp, hw5, hx5⟩ (Sub.cons rfl (Sub.cons rfl (Sub.cons rfl (Sub.cons rfl (Sub.cons rfl (Sub.nil)))))) ?_
      rintro ⟨k, d⟩ w6 ⟨c1, c2, c3, c4, c5, hw6, hx6⟩
      dsimp only at c1 c2 c3 c4 c5
      show CW _ _ _ _ _ [(5, str T), (6, sv), (9, .int .i64 (i : Int)), (10, .int .i64 d), (11, .int .i64 (k : Int))] _
      refine Sa ?_
      refine CW.cond rfl (fun d1 => ?_) (fun d1 => ?_)
      rotate_left
      · have d1 : k = T.length := by simp at d1; omega
        exfalso
        have h1 := bal_end hbal i
        rw [d1, cut_tail] at c3
        omega
      have d1 : k < T.length := by simp at d1; omega
      have hstep := dpt_step c1 d1
      have c7 : 0 ≤ d := by
        rcases c4 with h | h
        · rw [h, cut_empty] at c3
          have : dpt [] = 0 := rfl
          omega
        · omega
      have hb40 : byte T k = 40 ↔ T[k] = 40 := byte_at d1 40
      have hb41 : byte T k = 41 ↔ T[k] = 41 := byte_at d1 41
      refine Sa ?_
      refine CW.cond rfl (fun d2 => ?_) (fun d2 => ?_)
      · have d2 : byte T k = 40 := by simpa using d2
        rw [if_pos (hb40.1 d2)] at hstep
        refine Sa ?_
        refine CW.no rfl (decide_eq_false (show ¬ byte T k = 41 by omega)) ?_
        refine Sa ?_
        refine CW.no rfl (decide_eq_false (by omega)) ?_
        refine Sa ?_
        exact QW.again (k + 1, d + 1) ⟨by dsimp only; omega, d1, by dsimp only; rw [hstep, c3], .inr (by dsimp only; omega), by dsimp only; omega, hw6, hx6⟩ (Sub.cons rfl (Sub.cons rfl (Sub.cons rfl (Sub.cons rfl (Sub.cons rfl (Sub.nil)))))) (by show T.length - (k + 1) < T.length - k; omega)
      have d2 : byte T k ≠ 40 := by simpa using d2
      rw [if_neg (fun h => d2 (hb40.2 h))] at hstep
      have c6 : i < k := by
        rcases Nat.lt_or_ge i k with h | h
        · exact h
        · exfalso
          have : i = k := by omega
          subst this
          exact d2 b3
      refine Sa ?_
      refine CW.cond rfl (fun d3 => ?_) (fun d3 => ?_)
      · have d3 : byte T k = 41 := by simpa using d3
        rw [if_pos (hb41.1 d3)] at hstep
        refine Sa ?_
        refine CW.cond rfl (fun d4 => ?_) (fun d4 => ?_)
        · have d4 : d - 1 = 0 := by simpa using d4
          refine Sa ?_
          refine CW.no rfl (decide_eq_false (by omega)) ?_
          have l1 := cut_length (s := T) (i := 0) (j := i) (by omega) (by omega)
          have l2 := cut_length (s := T) (i := i + 1) (j := k) (by omega) (by omega)
          have l3 := cut_length (s := T) (i := k + 1) (j := T.length) (by omega) (by omega)
          have l1' : (cut T (0 : Int).toNat ((i : Nat) : Int).toNat).length = i := by simpa using l1
          have l2' : (cut T (((i : Nat) : Int) + 1).toNat ((k : Nat) : Int).toNat).length = k - (i + 1) := by
            rw [show (((i : Nat) : Int) + 1).toNat = i + 1 by omega]
            exact l2
          have l3' : (cut T (((k : Nat) : Int) + 1).toNat ((T.length : Nat) : Int).toNat).length = T.length - (k + 1) := by
            rw [show (((k : Nat) : Int) + 1).toNat = k + 1 by omega]
            exact l3
          refine Sa ?_
          refine CW.drawHeld (fun _ => True) (fun _ _ => trivial) (by kernel_rfl) fun w7 hx7 => ?_
          refine Sh ?_
          refine HW.take 2 rfl rfl rfl rfl (fun w _ => Y.gs rfl ⟨by omega, by omega, by omega⟩) rfl (by kernel_rfl) (by kernel_rfl) (by kernel_rfl) (fun _ _ _ h => h) ?_
          refine Sh ?_
          refine HW.take 7 rfl rfl rfl rfl (fun w _ => Y.gs rfl ⟨by omega, by omega, by omega⟩) rfl (by kernel_rfl) (by kernel_rfl) (by kernel_rfl) (fun _ _ _ h => h) ?_
          refine HW.take 8 rfl rfl rfl rfl (fun w _ => Y.go rfl (by rw [l1', l2']; omega)) rfl (by kernel_rfl) (by kernel_rfl) (by kernel_rfl) (fun _ _ _ h => h) ?_
          refine Sh ?_
          refine HW.take 12 rfl rfl rfl rfl (fun w _ => Y.gs rfl ⟨by omega, by omega, by omega⟩) rfl (by kernel_rfl) (by kernel_rfl) (by kernel_rfl) (fun _ _ _ h => h) ?_
          refine HW.take 13 rfl rfl rfl rfl (fun w _ => Y.go rfl (by rw [List.length_append, l1', l2', l3']; omega)) rfl (by kernel_rfl) (by kernel_rfl) (by kernel_rfl) (fun _ _ _ h => h) ?_
          refine HW.one 14 (by kernel_rfl) rfl rfl (fun hS => ?_)
          refine LW.call0 rfl rfl (Parse_ret (cut T (0 : Int).toNat ((i : Nat) : Int).toNat ++ cut T (((i : Nat) : Int) + 1).toNat ((k : Nat) : Int).toNat ++ cut T (((k : Nat) : Int) + 1).toNat ((T.length : Nat) : Int).toNat) (by rw [List.length_append, List.length_append, l1', l2', l3']; omega) w7 (g.ext (hw6.trans hx7))) ?_
          rintro v w8 ⟨hv8, hx8⟩
          obtain ⟨m', e', sv', rfl, hN8, hp8⟩ := hv8.both
          have hw8 := (hw6.trans hx7).trans hx8
          apply LW.nil
          refine QW.held trivial ?_
          refine Sh ?_
          refine HW.done (by kernel_rfl) ?_
          refine Sa ?_
          refine LW.call0 rfl rfl (Num_ret e' w8) ?_
          rintro v w9 ⟨rfl, hx9⟩
          have hw9 := hw8.trans hx9
          refine Sa ?_
          by_cases z1 : e' = 0
          · refine LW.know (t := 110) (c := false) rfl (by simp [z1]) ?_
            refine Sa ?_
            refine LW.call0 rfl rfl (SameNodes_ret l m' _ _ w9 (hN'.ext (((hx6.trans hx7).trans hx8).trans hx9)) (hN8.ext hx9)) ?_
            rintro v w10 ⟨rfl, hx10⟩
            have hne : l ≠ m' := by
              rintro rfl
              rcases hp8 with ⟨h, _⟩ | ⟨_, _, h⟩
              · have := hshort _ h
                rw [List.length_append, List.length_append, l1', l2', l3'] at this
                omega
              · omega
            refine Sa ?_
            refine LW.know (t := 116) (c := true) rfl (by simp [hne]) ?_
            refine Sa ?_
            refine LW.call0 rfl rfl (awake6_ret w10 (g.ext (hw9.trans hx10))) ?_
            rintro v wz ⟨rfl, hxz⟩
            refine Sa ?_
            exact QW.body1 Tryz.results8 rfl ⟨rfl, (hw9.trans hx10).trans hxz⟩
          · refine LW.know (t := 110) (c := true) rfl (by simp [z1]) ?_
            refine Sa ?_
            refine LW.call0 rfl rfl (awake6_ret w9 (g.ext hw9)) ?_
            rintro v wz ⟨rfl, hxz⟩
            refine Sa ?_
            exact QW.body1 Tryz.results8 rfl ⟨rfl, hw9.trans hxz⟩
        · have d4 : d - 1 ≠ 0 := by simpa using d4
          refine Sa ?_
          exact QW.again (k + 1, d - 1) ⟨by dsimp only; omega, d1, by dsimp only; rw [hstep, c3]; omega, .inr (by dsimp only; omega), by dsimp only; omega, hw6, hx6⟩ (Sub.cons rfl (Sub.cons rfl (Sub.cons rfl (Sub.cons rfl (Sub.cons rfl (Sub.nil)))))) (by show T.length - (k + 1) < T.length - k; omega)
      have d3 : byte T k ≠ 41 := by simpa using d3
      rw [if_neg (fun h => d3 (hb41.2 h))] at hstep
      refine Sa ?_
      refine CW.no rfl (decide_eq_false (by omega)) ?_
      refine Sa ?_
      exact QW.again (k + 1, d) ⟨by dsimp only; omega, d1, by dsimp only; rw [hstep, c3]; omega, .inr (by dsimp only; omega), by dsimp only; omega, hw6, hx6⟩ (Sub.cons rfl (Sub.cons rfl (Sub.cons rfl (Sub.cons rfl (Sub.cons rfl (Sub.nil)))))) (by show T.length - (k + 1) < T.length - k; omega)
  · refine Sa ?_
    refine Sa ?_
    refine CW.cond rfl (fun b6 => ?_) (fun b6 => ?_)
    · refine Sa ?_
      exact QW.again (i + 1, n + 1) ⟨b1, by dsimp only; omega, hw5, hx5⟩ (Sub.cons rfl (Sub.cons rfl (Sub.cons rfl (Sub.cons rfl (Sub.cons rfl (Sub.nil)))))) (by show T.length - (i + 1) < T.length - i; omega)
    refine Sa ?_
    refine CW.loop (ι := Nat × Int) (fun k w' => i ≤ k.1 ∧ k.1 ≤ T.length ∧ k.2 = dpt (cut T i k.1) ∧ (k.1 = i ∨ 1 ≤ k.2) ∧ k.2 ≤ k.1 ∧ Ext w w' ∧ Ext w4 w') (fun k => [(5, str T), (6, sv), (9, .int .i64 (i : Int)), (10, .int .i64 k.2), (11, .int .i64 (k.1 : Int))]) (fun k => T.length - k.1) (i, 0) ⟨by simp, hi, by rw [cut_empty]; rfl, .inl rfl, by simp, hw5, hx5⟩ (Sub.cons rfl (Sub.cons rfl (Sub.cons rfl (Sub.cons rfl (Sub.cons rfl (Sub.nil)))))) ?_
    rintro ⟨k, d⟩ w6 ⟨c1, c2, c3, c4, c5, hw6, hx6⟩
    dsimp only at c1 c2 c3 c4 c5
    show CW _ _ _ _ _ [(5, str T), (6, sv), (9, .int .i64 (i : Int)), (10, .int .i64 d), (11, .int .i64 (k : Int))] _
    refine Sa ?_
    refine CW.cond rfl (fun d1 => ?_) (fun d1 => ?_)
    rotate_left
    · have d1 : k = T.length := by simp at d1; omega
      exfalso
      have h1 := bal_end hbal i
      rw [d1, cut_tail] at c3
      omega
    have d1 : k < T.length := by simp at d1; omega
    have hstep := dpt_step c1 d1
    have c7 : 0 ≤ d := by
      rcases c4 with h | h
      · rw [h, cut_empty] at c3
        have : dpt [] = 0 := rfl
        omega
      · omega
    have hb40 : byte T k = 40 ↔ T[k] = 40 := byte_at d1 40
    have hb41 : byte T k = 41 ↔ T[k] = 41 := byte_at d1 41
    refine Sa ?_
    refine CW.cond rfl (fun d2 => ?_) (fun d2 => ?_)
    · have d2 : byte T k = 40 := by simpa using d2
      rw [if_pos (hb40.1 d2)] at hstep
      refine Sa ?_
      refine CW.no rfl (decide_eq_false (show ¬ byte T k = 41 by omega)) ?_
      refine Sa ?_
      refine CW.no rfl (decide_eq_false (by omega)) ?_
      refine Sa ?_
      exact QW.again (k + 1, d + 1) ⟨by dsimp only; omega, d1, by dsimp only; rw [hstep, c3], .inr (by dsimp only; omega), by dsimp only; omega, hw6, hx6⟩ (Sub.cons rfl (Sub.cons rfl (Sub.cons rfl (Sub.cons rfl (Sub.cons rfl (Sub.nil)))))) (by show T.length - (k + 1) < T.length - k; omega)
    have d2 : byte T k ≠ 40 := by simpa using d2
    rw [if_neg (fun h => d2 (hb40.2 h))] at hstep
    have c6 : i < k := by
      rcases Nat.lt_or_ge i k with h | h
      · exact h
      · exfalso
        have : i = k := by omega
        subst this
        exact d2 b3
    refine Sa ?_
    refine CW.cond rfl (fun d3 => ?_) (fun d3 => ?_)
    · have d3 : byte T k = 41 := by simpa using d3
      rw [if_pos (hb41.1 d3)] at hstep
      refine Sa ?_
      refine CW.cond rfl (fun d4 => ?_) (fun d4 => ?_)
      · have d4 : d - 1 = 0 := by simpa using d4
        refine Sa ?_
        refine CW.no rfl (decide_eq_false (by omega)) ?_
        have l1 := cut_length (s := T) (i := 0) (j := i) (by omega) (by omega)
        have l2 := cut_length (s := T) (i := i + 1) (j := k) (by omega) (by omega)
        have l3 := cut_length (s := T) (i := k + 1) (j := T.length) (by omega) (by omega)
        have l1' : (cut T (0 : Int).toNat ((i : Nat) : Int).toNat).length = i := by simpa using l1
        have l2' : (cut T (((i : Nat) : Int) + 1).toNat ((k : Nat) : Int).toNat).length = k - (i + 1) := by
          rw [show (((i : Nat) : Int) + 1).toNat = i + 1 by omega]
          exact l2
        have l3' : (cut T (((k : Nat) : Int) + 1).toNat ((T.length : Nat) : Int).toNat).length = T.length - (k + 1) := by
          rw [show (((k : Nat) : Int) + 1).toNat = k + 1 by omega]
          exact l3
        refine Sa ?_
        refine CW.drawHeld (fun _ => True) (fun _ _ => trivial) (by kernel_rfl) fun w7 hx7 => ?_
        refine Sh ?_
        refine HW.take 2 rfl rfl rfl rfl (fun w _ => Y.gs rfl ⟨by omega, by omega, by omega⟩) rfl (by kernel_rfl) (by kernel_rfl) (by kernel_rfl) (fun _ _ _ h => h) ?_
        refine Sh ?_
        refine HW.take 7 rfl rfl rfl rfl (fun w _ => Y.gs rfl ⟨by omega, by omega, by omega⟩) rfl (by kernel_rfl) (by kernel_rfl) (by kernel_rfl) (fun _ _ _ h => h) ?_
        refine HW.take 8 rfl rfl rfl rfl (fun w _ => Y.go rfl (by rw [l1', l2']; omega)) rfl (by kernel_rfl) (by kernel_rfl) (by kernel_rfl) (fun _ _ _ h => h) ?_
        refine Sh ?_
        refine HW.take 12 rfl rfl rfl rfl (fun w _ => Y.gs rfl ⟨by omega, by omega, by omega⟩) rfl (by kernel_rfl) (by kernel_rfl) (by kernel_rfl) (fun _ _ _ h => h) ?_
        refine HW.take 13 rfl rfl rfl rfl (fun w _ => Y.go rfl (by rw [List.length_append, l1', l2', l3']; omega)) rfl (by kernel_rfl) (by kernel_rfl) (by kernel_rfl) (fun _ _ _ h => h) ?_
        refine HW.one 14 (by kernel_rfl) rfl rfl (fun hS => ?_)
        refine LW.call0 rfl rfl (Parse_ret (cut T (0 : Int).toNat ((i : Nat) : Int).toNat ++ cut T (((i : Nat) : Int) + 1).toNat ((k : Nat) : Int).toNat ++ cut T (((k : Nat) : Int) + 1).toNat ((T.length : Nat) : Int).toNat) (by rw [List.length_append, List.length_append, l1', l2', l3']; omega) w7 (g.ext (hw6.trans hx7))) ?_
        rintro v w8 ⟨hv8, hx8⟩
        obtain ⟨m', e', sv', rfl, hN8, hp8⟩ := hv8.both
        have hw8 := (hw6.trans hx7).trans hx8
        apply LW.nil
        refine QW.held trivial ?_
        refine Sh ?_
        refine HW.done (by kernel_rfl) ?_
        refine Sa ?_
        refine LW.call0 rfl rfl (Num_ret e' w8) ?_
        rintro v w9 ⟨rfl, hx9⟩
        have hw9 := hw8.trans hx9
        refine Sa ?_
        by_cases z1 : e' = 0
        · refine LW.know (t := 110) (c := false) rfl (by simp [z1]) ?_
          refine Sa ?_
          refine LW.call0 rfl rfl (SameNodes_ret l m' _ _ w9 (hN'.ext (((hx6.trans hx7).trans hx8).trans hx9)) (hN8.ext hx9)) ?_
          rintro v w10 ⟨rfl, hx10⟩
          have hne : l ≠ m' := by
            rintro rfl
            rcases hp8 with ⟨h, _⟩ | ⟨_, _, h⟩
            · have := hshort _ h
              rw [List.length_append, List.length_append, l1', l2', l3'] at this
              omega
            · omega
          refine Sa ?_
          refine LW.know (t := 116) (c := true) rfl (by simp [hne]) ?_
          refine Sa ?_
          refine LW.call0 rfl rfl (awake6_ret w10 (g.ext (hw9.trans hx10))) ?_
          rintro v wz ⟨rfl, hxz⟩
          refine Sa ?_
          exact QW.body1 Tryz.results8 rfl ⟨rfl, (hw9.trans hx10).trans hxz⟩
        · refine LW.know (t := 110) (c := true) rfl (by simp [z1]) ?_
          refine Sa ?_
          refine LW.call0 rfl rfl (awake6_ret w9 (g.ext hw9)) ?_
          rintro v wz ⟨rfl, hxz⟩
          refine Sa ?_
          exact QW.body1 Tryz.results8 rfl ⟨rfl, hw9.trans hxz⟩
      · have d4 : d - 1 ≠ 0 := by simpa using d4
        refine Sa ?_
        exact QW.again (k + 1, d - 1) ⟨by dsimp only; omega, d1, by dsimp only; rw [hstep, c3]; omega, .inr (by dsimp only; omega), by dsimp only; omega, hw6, hx6⟩ (Sub.cons rfl (Sub.cons rfl (Sub.cons rfl (Sub.cons rfl (Sub.cons rfl (Sub.nil)))))) (by show T.length - (k + 1) < T.length - k; omega)
    have d3 : byte T k ≠ 41 := by simpa using d3
    rw [if_neg (fun h => d3 (hb41.2 h))] at hstep
    refine Sa ?_
    refine CW.no rfl (decide_eq_false (by omega)) ?_
    refine Sa ?_
    exact QW.again (k + 1, d) ⟨by dsimp only; omega, d1, by dsimp only; rw [hstep, c3]; omega, .inr (by dsimp only; omega), by dsimp only; omega, hw6, hx6⟩ (Sub.cons rfl (Sub.cons rfl (Sub.cons rfl (Sub.cons rfl (Sub.cons rfl (Sub.nil)))))) (by show T.length - (k + 1) < T.length - k; omega)
end Go.Proofs.YtiloogjageledaaGreatDoor
