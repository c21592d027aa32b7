/-
  Walks: the law CellLong.
-/
import Derived.Test.YtiloogjageledaaGreatDoorCell
namespace Go.Proofs.YtiloogjageledaaGreatDoor
open Go Go.E

theorem ex9_parse : evalT 60 [32, 49, 32, 43, 32, 50] = some (.ok [{ kind := 1, num := 1 }, { kind := 1, num := 2 }, { kind := 16, kids := [0, 1] }]) := isOk_eq (by decide +kernel)
def ex9_tree : Tr false := .two 16 (.leaf { kind := 1, num := 1 }) (.leaf { kind := 1, num := 2 })
theorem ex9_fit : ex9_tree.Fit := ⟨by decide, by decide, ⟨by decide, by decide, rfl, by decide +kernel⟩, ⟨by decide, by decide, rfl, by decide +kernel⟩⟩
theorem ex9_print : printT [{ kind := 1, num := 1 }, { kind := 1, num := 2 }, { kind := 16, kids := [0, 1] }] = [49, 43, 50] :=
  (printT_of ex9_fit).trans (by decide +kernel)
theorem ex9_norm : normC [61, 32, 49, 32, 43, 32, 50] = ([61, 49, 43, 50], 0) := by
  have h : parseT (([61, 32, 49, 32, 43, 32, 50] : List UInt8).drop 1) = .ok [{ kind := 1, num := 1 }, { kind := 1, num := 2 }, { kind := 16, kids := [0, 1] }] := parseT_eval ex9_parse
  rw [normC, if_neg (by decide), if_neg (by decide), if_pos (by decide), h]
  simp only [ex9_print]
  rw [if_neg (by decide)]

theorem awake9_ret (w : World) (g : Glob w) : Ret Tryz.prog 33 [] w (fun v w' => v = .bool true ∧ Ext w w') := by
  refine Ret.enter Tryz.func33 rfl Tryz.ntmps33 (by kernel_rfl) rfl ?_
  refine Sa ?_
  refine LW.call0 rfl rfl (Norm_ret [61, 32, 49, 32, 43, 32, 50] (by simp) w g) ?_
  rintro v w1 ⟨rfl, hx⟩
  rw [ex9_norm]
  refine Sa ?_
  refine LW.call0 rfl rfl (Num_ret 0 w1) ?_
  rintro v w2 ⟨rfl, hx2⟩
  refine Sa ?_
  exact QW.body1 Tryz.results33 rfl ⟨rfl, hx.trans hx2⟩

abbrev ones (k : Nat) : List UInt8 := List.replicate k 49
theorem long_1 (k : Nat) : (normC ([39] ++ ones k)).2 = if k + 1 ≤ 100 then 0 else 4 := by
  have hl : ([39] ++ ones k).length = k + 1 := by simp
  by_cases h : k + 1 ≤ 100
  · rw [normC, if_neg (by omega), if_pos (.inr rfl), if_pos h]
  · rw [normC, if_pos (by omega), if_neg h]
theorem long_2 (k : Nat) : (normC ([120] ++ ones k)).2 = if k + 2 ≤ 100 then 0 else 4 := by
  have hl : ([120] ++ ones k).length = k + 1 := by simp
  have hb : byte ([120] ++ ones k) 0 = 120 := rfl
  have hat : atN ([120] ++ ones k) = 0 := by unfold atN; rw [hb]; simp
  have hn : numC ([120] ++ ones k) = none := by
    have : allD ([120] ++ ones k) = false := by
      simp only [allD, decide_eq_false_iff_not]
      intro hh
      have := hh 0 (by omega) (by omega)
      rw [hb] at this
      exact absurd this (by decide)
    rw [numC, this]
    rfl
  by_cases h1 : 100 < k + 1
  · rw [normC, if_pos (by omega), if_neg (by omega)]
  · rw [normC, if_neg (by omega), if_neg (by rw [hb]; simp), if_neg (by rw [hb]; decide), hn]
    by_cases h2 : k + 2 ≤ 100
    · simp only [hl]
      rw [if_neg (by omega), if_pos h2]
    · simp only [hl]
      rw [if_pos (by omega), if_neg h2]
theorem ones_esc (k : Nat) : quoteT (ones k) = [34] ++ ones k ++ [34] := by
  have : (ones k).flatMap escC = ones k := by
    induction k with
    | zero => rfl
    | succ k ih => rw [ones, List.replicate_succ, List.flatMap_cons, ih]; rfl
  rw [quoteT_esc, this]
  rfl
theorem ones_pr (k : Nat) : prB (ones k) = true := by
  simp only [prB, decide_eq_true_eq]
  intro j hj
  rw [byte_eq hj]
  simp
theorem long_3 (k : Nat) (hk : k ≤ 255) : (normC ([61, 34] ++ ones k ++ [34])).2 = if k + 3 ≤ 100 then 0 else 4 := by
  have hl : ([61, 34] ++ ones k ++ [34]).length = k + 3 := by simp
  have hb : byte ([61, 34] ++ ones k ++ [34]) 0 = 61 := rfl
  have hp : plainB { kind := 2, text := ones k } = true := by simp [plainB, bareN, okK, ones_pr]
  have hf : (Tr.leaf { kind := 2, text := ones k }).Fit := ⟨by simp, by simp, rfl, hp⟩
  have hn : (Tr.leaf { kind := 2, text := ones k }).Num := fun u hu => by
    simp [Tr.toks, leafK] at hu
    subst hu
    simp
  have ht : (Tr.leaf { kind := 2, text := ones k }).text = [34] ++ ones k ++ [34] := by
    rw [leaf_text hp (by simp) (by simp)]
    exact ones_esc k
  have hd : ([61, 34] ++ ones k ++ [34]).drop 1 = [34] ++ ones k ++ [34] := rfl
  have htl : ([34] ++ ones k ++ [34]).length = k + 2 := by simp
  by_cases h : k + 3 ≤ 100
  · have hpt := parseT_text _ hf hn
    rw [ht, if_neg (by omega), if_pos (show (Tr.leaf { kind := 2, text := ones k }).need ≤ 12 from Nat.zero_le 12)] at hpt
    rw [normC, if_neg (by omega), if_neg (by rw [hb]; simp), if_pos hb, hd, hpt]
    simp only [printT_of hf, ht, htl]
    rw [if_neg (by omega), if_pos h]
  · rw [normC, if_pos (by omega), if_neg h]

set_option maxHeartbeats 4000000 in
theorem CellLong_ret (x : Int) (hx0 : 0 ≤ x) (hx1 : x ≤ 255) (w : World) (g : Glob w) : Ret Tryz.prog 9 [.int .u8 x] w (fun v w' => v = .bool true ∧ Ext w w') := by
  obtain ⟨k, rfl⟩ := Int.eq_ofNat_of_zero_le hx0
  refine Ret.enter Tryz.func9 rfl Tryz.ntmps9 (by kernel_rfl) rfl ?_
  refine Sa ?_
  refine CW.loop (ι := Nat) (fun i w' => i ≤ k ∧ Ext w w') (fun i => [(3, .int .i64 (k : Int)), (4, str (ones i)), (5, .int .i64 (i : Int))]) (fun i => k - i) 0 ⟨by omega, Chg.refl _ _⟩ (Sub.cons rfl (Sub.cons rfl (Sub.cons rfl (Sub.nil)))) ?_
  rintro i w1 ⟨hi, hx⟩
  have hil : (ones i).length = i := by simp
  refine Sa ?_
  refine CW.cond rfl (fun h1 => ?_) (fun h1 => ?_)
  · have h1 : i < k := by simp at h1; omega
    refine Sa ?_
    have e : ones i ++ [49] = ones (i + 1) := List.replicate_succ'.symm
    rw [e]
    exact QW.again (i + 1) ⟨h1, hx⟩ (Sub.cons rfl (Sub.cons rfl (Sub.cons rfl (Sub.nil)))) (by omega)
  have h1 : i = k := by simp at h1; omega
  subst h1
  have m1 := long_1 i
  have m2 := long_2 i
  have m3 := long_3 i (by omega)
  refine Sa ?_
  refine LW.call0 rfl rfl (Norm_ret ([39] ++ ones i) (by simp; omega) w1 (g.ext hx)) ?_
  rintro v w2 ⟨rfl, hx2⟩
  replace hx2 := hx.trans hx2
  refine Sa ?_
  refine LW.call0 rfl rfl (Norm_ret ([120] ++ ones i) (by simp; omega) w2 (g.ext hx2)) ?_
  rintro v w3 ⟨rfl, hx3⟩
  replace hx3 := hx2.trans hx3
  refine Sa ?_
  refine LW.call0 rfl rfl (Norm_ret ([61, 34] ++ ones i ++ [34]) (by simp; omega) w3 (g.ext hx3)) ?_
  rintro v w4 ⟨rfl, hx4⟩
  replace hx4 := hx3.trans hx4
  generalize (normC ([39] ++ ones i)).1 = s1
  generalize (normC ([120] ++ ones i)).1 = s2
  generalize (normC ([61, 34] ++ ones i ++ [34])).1 = s3
  generalize (normC ([39] ++ ones i)).2 = e at m1 ⊢
  generalize (normC ([120] ++ ones i)).2 = f at m2 ⊢
  generalize (normC ([61, 34] ++ ones i ++ [34])).2 = d at m3 ⊢
  have d1 : decide (e = 0) = decide ((i : Int) + 1 ≤ 100) := decide_eq_decide.2 (by rw [m1]; split <;> omega)
  have d2 : decide (f = 0) = decide ((i : Int) + 2 ≤ 100) := decide_eq_decide.2 (by rw [m2]; split <;> omega)
  have d3 : decide (d = 0) = decide ((i : Int) + 3 ≤ 100) := decide_eq_decide.2 (by rw [m3]; split <;> omega)
  have e4 : e = 0 ∨ e = 4 := by rw [m1]; split <;> simp
  have f4 : f = 0 ∨ f = 4 := by rw [m2]; split <;> simp
  have g4 : d = 0 ∨ d = 4 := by rw [m3]; split <;> simp
  clear m1 m2 m3
  refine Sa ?_
  refine LW.call0 rfl rfl (Num_ret e w4) ?_
  rintro v w5 ⟨rfl, hx5⟩
  replace hx5 := hx4.trans hx5
  refine Sa ?_
  refine LW.know (t := 47) (c := true) rfl (by rw [d1]; simp) ?_
  refine Sa ?_
  refine LW.call0 rfl rfl (Num_ret f w5) ?_
  rintro v w6 ⟨rfl, hx6⟩
  replace hx6 := hx5.trans hx6
  refine Sa ?_
  refine LW.know (t := 56) (c := true) rfl (by rw [d2]; simp) ?_
  refine Sa ?_
  refine LW.call0 rfl rfl (Num_ret d w6) ?_
  rintro v w7 ⟨rfl, hx7⟩
  replace hx7 := hx6.trans hx7
  refine Sa ?_
  refine LW.know (t := 65) (c := true) rfl (by rw [d3]; simp) ?_
  refine Sa ?_
  refine LW.call0 rfl rfl (Num_ret e w7) ?_
  rintro v w8 ⟨rfl, hx8⟩
  replace hx8 := hx7.trans hx8
  refine Sa ?_
  rcases e4 with rfl | rfl
  · refine LW.know (t := 69) (c := true) rfl rfl ?_
    refine Sa ?_
    refine LW.call0 rfl rfl (Num_ret f _) ?_
    rintro v w9 ⟨rfl, hx9⟩
    replace hx9 := hx8.trans hx9
    refine Sa ?_
    rcases f4 with rfl | rfl
    · refine LW.know (t := 79) (c := true) rfl rfl ?_
      refine Sa ?_
      refine LW.call0 rfl rfl (Num_ret d _) ?_
      rintro v w10 ⟨rfl, hx10⟩
      replace hx10 := hx9.trans hx10
      refine Sa ?_
      rcases g4 with rfl | rfl
      · refine LW.know (t := 89) (c := true) rfl rfl ?_
        refine Sa ?_
        refine LW.call0 rfl rfl (awake9_ret w10 (g.ext hx10)) ?_
        rintro v w11 ⟨rfl, hx11⟩
        refine Sa ?_
        exact QW.body1 Tryz.results9 rfl ⟨rfl, hx10.trans hx11⟩
      · refine LW.know (t := 89) (c := false) rfl rfl ?_
        refine Sa ?_
        refine LW.call0 rfl rfl (Num_ret 4 w10) ?_
        rintro v wc ⟨rfl, hxc⟩
        replace hx10 := hx10.trans hxc
        refine Sa ?_
        refine LW.call0 rfl rfl (awake9_ret wc (g.ext hx10)) ?_
        rintro v w11 ⟨rfl, hx11⟩
        refine Sa ?_
        exact QW.body1 Tryz.results9 rfl ⟨rfl, hx10.trans hx11⟩
    · refine LW.know (t := 79) (c := false) rfl rfl ?_
      refine Sa ?_
      refine LW.call0 rfl rfl (Num_ret 4 w9) ?_
      rintro v wb ⟨rfl, hxb⟩
      replace hx9 := hx9.trans hxb
      clear hxb
      refine Sa ?_
      refine LW.call0 rfl rfl (Num_ret d _) ?_
      rintro v w10 ⟨rfl, hx10⟩
      replace hx10 := hx9.trans hx10
      refine Sa ?_
      rcases g4 with rfl | rfl
      · refine LW.know (t := 89) (c := true) rfl rfl ?_
        refine Sa ?_
        refine LW.call0 rfl rfl (awake9_ret w10 (g.ext hx10)) ?_
        rintro v w11 ⟨rfl, hx11⟩
        refine Sa ?_
        exact QW.body1 Tryz.results9 rfl ⟨rfl, hx10.trans hx11⟩
      · refine LW.know (t := 89) (c := false) rfl rfl ?_
        refine Sa ?_
        refine LW.call0 rfl rfl (Num_ret 4 w10) ?_
        rintro v wc ⟨rfl, hxc⟩
        replace hx10 := hx10.trans hxc
        refine Sa ?_
        refine LW.call0 rfl rfl (awake9_ret wc (g.ext hx10)) ?_
        rintro v w11 ⟨rfl, hx11⟩
        refine Sa ?_
        exact QW.body1 Tryz.results9 rfl ⟨rfl, hx10.trans hx11⟩
  · refine LW.know (t := 69) (c := false) rfl rfl ?_
    refine Sa ?_
    refine LW.call0 rfl rfl (Num_ret 4 w8) ?_
    rintro v wa ⟨rfl, hxa⟩
    replace hx8 := hx8.trans hxa
    clear hxa
    refine Sa ?_
    refine LW.call0 rfl rfl (Num_ret f _) ?_
    rintro v w9 ⟨rfl, hx9⟩
    replace hx9 := hx8.trans hx9
    refine Sa ?_
    rcases f4 with rfl | rfl
    · refine LW.know (t := 79) (c := true) rfl rfl ?_
      refine Sa ?_
      refine LW.call0 rfl rfl (Num_ret d _) ?_
      rintro v w10 ⟨rfl, hx10⟩
      replace hx10 := hx9.trans hx10
      refine Sa ?_
      rcases g4 with rfl | rfl
      · refine LW.know (t := 89) (c := true) rfl rfl ?_
        refine Sa ?_
        refine LW.call0 rfl rfl (awake9_ret w10 (g.ext hx10)) ?_
        rintro v w11 ⟨rfl, hx11⟩
        refine Sa ?_
        exact QW.body1 Tryz.results9 rfl ⟨rfl, hx10.trans hx11⟩
      · refine LW.know (t := 89) (c := false) rfl rfl ?_
        refine Sa ?_
        refine LW.call0 rfl rfl (Num_ret 4 w10) ?_
        rintro v wc ⟨rfl, hxc⟩
        replace hx10 := hx10.trans hxc
        refine Sa ?_
        refine LW.call0 rfl rfl (awake9_ret wc (g.ext hx10)) ?_
        rintro v w11 ⟨rfl, hx11⟩
        refine Sa ?_
        exact QW.body1 Tryz.results9 rfl ⟨rfl, hx10.trans hx11⟩
    · refine LW.know (t := 79) (c := false) rfl rfl ?_
      refine Sa ?_
      refine LW.call0 rfl rfl (Num_ret 4 w9) ?_
      rintro v wb ⟨rfl, hxb⟩
      replace hx9 := hx9.trans hxb
      clear hxb
      refine Sa ?_
      refine LW.call0 rfl rfl (Num_ret d _) ?_
      rintro v w10 ⟨rfl, hx10⟩
      replace hx10 := hx9.trans hx10
      refine Sa ?_
      rcases g4 with rfl | rfl
      · refine LW.know (t := 89) (c := true) rfl rfl ?_
        refine Sa ?_
        refine LW.call0 rfl rfl (awake9_ret w10 (g.ext hx10)) ?_
        rintro v w11 ⟨rfl, hx11⟩
        refine Sa ?_
        exact QW.body1 Tryz.results9 rfl ⟨rfl, hx10.trans hx11⟩
      · refine LW.know (t := 89) (c := false) rfl rfl ?_
        refine Sa ?_
        refine LW.call0 rfl rfl (Num_ret 4 w10) ?_
        rintro v wc ⟨rfl, hxc⟩
        replace hx10 := hx10.trans hxc
        refine Sa ?_
        refine LW.call0 rfl rfl (awake9_ret wc (g.ext hx10)) ?_
        rintro v w11 ⟨rfl, hx11⟩
        refine Sa ?_
        exact QW.body1 Tryz.results9 rfl ⟨rfl, hx10.trans hx11⟩
end Go.Proofs.YtiloogjageledaaGreatDoor
