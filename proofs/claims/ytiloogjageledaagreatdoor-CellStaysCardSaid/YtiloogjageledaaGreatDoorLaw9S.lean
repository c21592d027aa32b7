/-
  Walks: the law CellStays.
-/
import Derived.Test.YtiloogjageledaaGreatDoorCellP
import Derived.Test.YtiloogjageledaaGreatDoorLaw9L
namespace Go.Proofs.YtiloogjageledaaGreatDoor
open Go Go.E

set_option maxHeartbeats 4000000 in
theorem CellStays_ret (s : List UInt8) (hs : s.length ≤ 9223372036854775807) (w : World) (g : Glob w) : Ret Tryz.prog 10 [str s] w (fun v w' => v = .bool true ∧ Ext w w') := by
  obtain ⟨f1, f2⟩ := norm_stays s
  refine Ret.enter Tryz.func10 rfl Tryz.ntmps10 (by kernel_rfl) rfl ?_
  refine Sa ?_
  refine CW.cond rfl (fun h1 => ?_) (fun h1 => ?_)
  · refine Sa ?_
    refine LW.call0 rfl rfl (awake9_ret w g) ?_
    rintro v w1 ⟨rfl, hx⟩
    refine Sa ?_
    exact QW.body1 Tryz.results10 rfl ⟨rfl, hx⟩
  refine Sa ?_
  refine LW.call0 rfl rfl (Norm_ret s hs w g) ?_
  rintro v w1 ⟨rfl, hx1⟩
  generalize normC s = te at f1 f2 ⊢
  obtain ⟨t, e⟩ := te
  dsimp only at f1 f2 ⊢
  refine Sa ?_
  refine LW.call0 rfl rfl (Num_ret e w1) ?_
  rintro v w2 ⟨rfl, hx2⟩
  have hx2' := hx1.trans hx2
  refine Sa ?_
  refine CW.cond rfl (fun h2 => ?_) (fun h2 => ?_)
  · have h2 : e ≠ 0 := by simpa using h2
    obtain rfl := f1 h2
    refine Sa ?_
    refine LW.call0 rfl rfl (awake9_ret w2 (g.ext hx2')) ?_
    rintro v w3 ⟨rfl, hx3⟩
    refine Sa ?_
    exact QW.body1 Tryz.results10 rfl ⟨rfl, hx2'.trans hx3⟩
  have h2 : e = 0 := by simpa using h2
  obtain ⟨k1, k2, k3, k4⟩ := f2 h2
  refine Sa ?_
  refine LW.call0 rfl rfl (Norm_ret t (by omega) w2 (g.ext hx2')) ?_
  rw [k1]
  rintro v w3 ⟨rfl, hx3⟩
  have hx3' := hx2'.trans hx3
  refine Sa ?_
  refine LW.call0 rfl rfl (cMay_ret t (by omega) w3 (g.ext hx3')) ?_
  rw [k2]
  rintro v w4 ⟨rfl, hx4⟩
  have hx4' := hx3'.trans hx4
  refine Sa ?_
  refine LW.call0 rfl rfl (Num_ret 0 w4) ?_
  rintro v w5 ⟨rfl, hx5⟩
  have hx5' := hx4'.trans hx5
  refine Sa ?_
  refine LW.know (t := 36) (c := true) rfl rfl ?_
  refine Sa ?_
  refine LW.know (t := 41) (c := true) rfl (by simp) ?_
  refine Sa ?_
  by_cases z1 : t = []
  · refine LW.know (t := 44) (c := true) rfl (by simp [z1]) ?_
    refine Sa ?_
    refine LW.call0 rfl rfl (awake9_ret w5 (g.ext hx5')) ?_
    rintro v w6 ⟨rfl, hx6⟩
    refine Sa ?_
    exact QW.body1 Tryz.results10 rfl ⟨rfl, hx5'.trans hx6⟩
  have hl : 0 < t.length := List.length_pos_iff.2 z1
  refine LW.know (t := 44) (c := false) rfl (by simp [z1]) ?_
  refine Sa ?_
  by_cases z2 : byte t 0 = 39
  · refine LW.know (t := 49) (c := true) rfl (decide_eq_true z2) ?_
    refine Sa ?_
    refine LW.call0 rfl rfl (awake9_ret w5 (g.ext hx5')) ?_
    rintro v w6 ⟨rfl, hx6⟩
    refine Sa ?_
    exact QW.body1 Tryz.results10 rfl ⟨rfl, hx5'.trans hx6⟩
  refine LW.know (t := 49) (c := false) rfl (decide_eq_false z2) ?_
  refine Sa ?_
  by_cases z3 : byte t 0 = 61
  · refine LW.know (t := 54) (c := true) rfl (decide_eq_true z3) ?_
    refine Sa ?_
    refine LW.call0 rfl rfl (awake9_ret w5 (g.ext hx5')) ?_
    rintro v w6 ⟨rfl, hx6⟩
    refine Sa ?_
    exact QW.body1 Tryz.results10 rfl ⟨rfl, hx5'.trans hx6⟩
  refine LW.know (t := 54) (c := false) rfl (decide_eq_false z3) ?_
  refine Sa ?_
  by_cases z4 : byte t 0 = 45
  · refine LW.know (t := 59) (c := true) rfl (decide_eq_true z4) ?_
    refine Sa ?_
    refine LW.call0 rfl rfl (awake9_ret w5 (g.ext hx5')) ?_
    rintro v w6 ⟨rfl, hx6⟩
    refine Sa ?_
    exact QW.body1 Tryz.results10 rfl ⟨rfl, hx5'.trans hx6⟩
  refine LW.know (t := 59) (c := false) rfl (decide_eq_false z4) ?_
  refine Sa ?_
  have z5 : 48 ≤ byte t 0 ∧ byte t 0 ≤ 57 := by
    rcases k4 with h | h | h | h | h
    · exact absurd h z1
    · exact absurd h z2
    · exact absurd h z3
    · exact absurd h z4
    · exact h
  refine LW.know (t := 63) (c := true) rfl (decide_eq_true z5.1) ?_
  refine Sa ?_
  refine LW.know (t := 70) (c := true) rfl (decide_eq_true z5.2) ?_
  refine Sa ?_
  refine LW.call0 rfl rfl (awake9_ret w5 (g.ext hx5')) ?_
  rintro v w6 ⟨rfl, hx6⟩
  refine Sa ?_
  exact QW.body1 Tryz.results10 rfl ⟨rfl, hx5'.trans hx6⟩
end Go.Proofs.YtiloogjageledaaGreatDoor
