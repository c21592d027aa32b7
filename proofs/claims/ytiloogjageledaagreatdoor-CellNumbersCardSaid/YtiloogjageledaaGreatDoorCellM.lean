/-
  Walks: whether a cell may be.
-/
import Derived.Test.YtiloogjageledaaGreatDoorCell
namespace Go.Proofs.YtiloogjageledaaGreatDoor
open Go Go.E

noncomputable def mayC (s : List UInt8) : Bool :=
  if 300 < s.length then false else if s = [] ∨ byte s 0 = 39 then true else if byte s 0 = 61 then (match parseT (s.drop 1) with
    | .error _ => false
    | .ok l => decide (printT l = s.drop 1))
  else match numC s with
    | some n => decide (Lib.itoa n = s)
    | none => false

theorem cMay_ret (s : List UInt8) (hs : s.length ≤ 9223372036854775807) (w : World) (g : Glob w) : Ret Tryz.prog 34 [str s] w (fun v w' => v = .bool (mayC s) ∧ Ext w w') := by
  refine Ret.enter Tryz.func34 rfl Tryz.ntmps34 (by kernel_rfl) rfl ?_
  refine Sa ?_
  refine CW.cond rfl (fun h1 => ?_) (fun h1 => ?_)
  · have h1 : 300 < s.length := by simp at h1; omega
    refine Sa ?_
    exact QW.body1 Tryz.results34 rfl ⟨by rw [mayC, if_pos h1], Chg.refl _ _⟩
  have h1 : s.length ≤ 300 := by simp at h1; omega
  have n1 : ¬ 300 < s.length := by omega
  refine Sa ?_
  by_cases h2 : s = []
  · refine LW.know (t := 14) (c := true) rfl (by simp [h2]) ?_
    refine Sa ?_
    exact QW.body1 Tryz.results34 rfl ⟨by rw [mayC, if_neg n1, if_pos (.inl h2)], Chg.refl _ _⟩
  have hl : 0 < s.length := List.length_pos_iff.2 h2
  refine LW.know (t := 14) (c := false) rfl (by simp [h2]) ?_
  refine Sa ?_
  refine CW.cond rfl (fun h3 => ?_) (fun h3 => ?_)
  · have h3 : byte s 0 = 39 := by simpa using h3
    refine Sa ?_
    exact QW.body1 Tryz.results34 rfl ⟨by rw [mayC, if_neg n1, if_pos (.inr h3)], Chg.refl _ _⟩
  have h3 : byte s 0 ≠ 39 := by simpa using h3
  have n3 : ¬ (s = [] ∨ byte s 0 = 39) := by simp [h2, h3]
  refine Sa ?_
  refine CW.cond rfl (fun h4 => ?_) (fun h4 => ?_)
  · have h4 : byte s 0 = 61 := by simpa using h4
    have ec : cut s (1 : Int).toNat ((s.length : Nat) : Int).toNat = s.drop 1 := cut_tail s 1
    have hdl : (s.drop 1).length ≤ 300 := by simp; omega
    refine Sz ?_
    refine LW.call0 rfl rfl (Parse_ret (cut s (1 : Int).toNat ((s.length : Nat) : Int).toNat) (by rw [ec]; omega) w g) ?_
    rintro v w1 ⟨hv, hx⟩
    obtain ⟨l, e, sv, rfl, hN, hp⟩ := hv.both
    rw [ec] at hp
    obtain ⟨hsh, _⟩ := hp.facts
    refine Sa ?_
    refine CW.draw (by kernel_rfl) (by kernel_rfl) ?_
    refine Sq ?_
    by_cases h5 : e = 0
    · have hpo : parseT (s.drop 1) = .ok l := by
        rcases hp with ⟨h, _⟩ | ⟨_, _, h⟩
        · exact h
        · omega
      refine QL.know (t := 31) (c := true) rfl (by simp [h5]) ?_
      refine Sq ?_
      refine QL.call0 (v := str (printT l)) rfl rfl (fun w' hw => Print_ret l sv w' (g.ext (hx.trans hw)) (hN.ext hw) hsh hp.num) ?_
      refine Sqz ?_
      refine QL.nil fun w2 hx2 => ?_
      refine Sa ?_
      exact QW.body1 Tryz.results34 rfl ⟨by rw [mayC, if_neg n1, if_neg n3, if_pos h4, hpo, ec], hx.trans hx2⟩
    · have hpe : parseT (s.drop 1) = .error e := by
        rcases hp with ⟨_, h⟩ | ⟨h, _, _⟩
        · exact absurd h h5
        · exact h
      refine QL.know (t := 31) (c := false) rfl (by simp [h5]) ?_
      refine Sqz ?_
      refine QL.nil fun w2 hx2 => ?_
      refine Sa ?_
      exact QW.body1 Tryz.results34 rfl ⟨by rw [mayC, if_neg n1, if_neg n3, if_pos h4, hpe], hx.trans hx2⟩
  have h4 : byte s 0 ≠ 61 := by simpa using h4
  refine Sa ?_
  refine LW.call0 rfl rfl (cnumber_ret s (by omega) w g) ?_
  rintro v w1 ⟨⟨z, rfl, hz⟩, hx⟩
  cases hn : numC s with
  | some n =>
    obtain rfl := hz n hn
    obtain ⟨b0, b1⟩ := numC_bound hn
    refine Sa ?_
    refine LW.call0 rfl rfl (Itoa_ret z b0 b1 w1 (g.ext hx)) ?_
    rintro v w2 ⟨rfl, hx2⟩
    refine Sa ?_
    exact QW.body1 Tryz.results34 rfl ⟨by rw [mayC, if_neg n1, if_neg n3, if_neg h4, hn], hx.trans hx2⟩
  | none =>
    refine Sa ?_
    exact QW.body1 Tryz.results34 rfl ⟨by rw [mayC, if_neg n1, if_neg n3, if_neg h4, hn], hx⟩
end Go.Proofs.YtiloogjageledaaGreatDoor
