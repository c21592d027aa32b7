/-
  Walks: the law CellTexts.
-/
import Derived.Test.YtiloogjageledaaGreatDoorLaw9L
namespace Go.Proofs.YtiloogjageledaaGreatDoor
open Go Go.E

theorem Str_ret (s : List UInt8) (hs : s.length ≤ 200) (w : World) : Ret Tryz.prog 83 [str s] w (fun v w' => v = .agg ⟨[.int .i64 2, .int .i64 0, str s]⟩ ∧ Ext w w') := by
  refine Ret.enter Tryz.func83 rfl Tryz.ntmps83 (by kernel_rfl) rfl ?_
  refine Sa ?_
  (apply LW.alloc; exact rfl; exact rfl; exact rfl; intro A w1 hbA hx1 hA)
  refine Sa ?_
  refine CW.no rfl (decide_eq_false (by omega)) ?_
  refine Sa ?_
  (apply LW.store_all; exact rfl; exact rfl; exact rfl; assumption; exact rfl; exact rfl; exact rfl; intro w2 hc2 hA)
  replace hA : Blk w2 A [.int .i64 2, .int .i64 0, str s] 49 := hA
  refine Sa ?_
  exact QW.body_c Tryz.results83 rfl hA rfl rfl rfl ⟨rfl, hx1.step hc2 (by simp; omega)⟩
theorem Plain_text (s : List UInt8) (hs : s.length ≤ 200) (w : World) : Ret Tryz.prog 36 [str (39 :: s)] w (fun v w' => v = .agg ⟨[.int .i64 2, .int .i64 0, str s]⟩ ∧ Ext w w') := by
  have ec : cut (39 :: s) (1 : Int).toNat (((39 :: s).length : Nat) : Int).toNat = s := cut_tail (39 :: s) 1
  have hl : (39 :: s).length = s.length + 1 := rfl
  refine Ret.enter Tryz.func36 rfl Tryz.ntmps36 (by kernel_rfl) rfl ?_
  refine Sa ?_
  (apply LW.alloc; exact rfl; exact rfl; exact rfl; intro A w1 hbA hx1 hA)
  refine Sz ?_
  refine LW.call0 rfl rfl (Str_ret (cut (39 :: s) (1 : Int).toNat (((39 :: s).length : Nat) : Int).toNat) (by rw [ec]; exact hs) w1) ?_
  rw [ec]
  rintro v w2 ⟨rfl, hx2⟩
  replace hA := hA.ext hx2
  have hz1 := hx1.size
  have hz2 := hx2.size
  refine Sa ?_
  (apply LW.store_all; exact rfl; exact rfl; exact rfl; assumption; exact rfl; exact rfl; exact rfl; intro w3 hc3 hA)
  replace hA : Blk w3 A [.int .i64 2, .int .i64 0, str s] 49 := hA
  refine Sa ?_
  exact QW.body_c Tryz.results36 rfl hA rfl rfl rfl ⟨rfl, (hx1.trans hx2).step hc3 (by simp; omega)⟩
theorem Plain_nil (w : World) : Ret Tryz.prog 36 [str []] w (fun v w' => v = .agg ⟨[.int .i64 0, .int .i64 0, str []]⟩ ∧ Ext w w') := by
  refine Ret.enter Tryz.func36 rfl Tryz.ntmps36 (by kernel_rfl) rfl ?_
  refine Sa ?_
  (apply LW.alloc; exact rfl; exact rfl; exact rfl; intro A w1 hbA hx1 hA)
  refine Sa ?_
  (apply LW.store_all; exact rfl; exact rfl; exact rfl; assumption; exact rfl; exact rfl; exact rfl; intro w3 hc3 hA)
  replace hA : Blk w3 A [.int .i64 0, .int .i64 0, str []] 49 := hA
  refine Sa ?_
  exact QW.body_c Tryz.results36 rfl hA rfl rfl rfl ⟨rfl, hx1.step hc3 (by simp; omega)⟩

theorem text_1 {s : List UInt8} (h : s.length ≤ 99) : normC ([39] ++ s) = ([39] ++ s, 0) := by
  have hl : ([39] ++ s).length = s.length + 1 := by simp
  rw [normC, if_neg (by omega), if_pos (.inr rfl)]
theorem text_2 {s : List UInt8} (h : s.length ≤ 99) : normC ([120] ++ s) = if s.length ≤ 98 then (39 :: ([120] ++ s), 0) else ([], 4) := by
  have hl : ([120] ++ s).length = s.length + 1 := by simp
  have hb : byte ([120] ++ s) 0 = 120 := rfl
  have hat : atN ([120] ++ s) = 0 := by unfold atN; rw [hb]; simp
  have hn : numC ([120] ++ s) = none := by
    have : allD ([120] ++ s) = false := by
      simp only [allD, decide_eq_false_iff_not]
      intro hh
      have := hh 0 (by omega) (by omega)
      rw [hb] at this
      exact absurd this (by decide)
    rw [numC, this]
    rfl
  rw [normC, if_neg (by omega), if_neg (by rw [hb]; simp), if_neg (by rw [hb]; decide), hn]
  by_cases h2 : s.length ≤ 98
  · simp only [hl]
    rw [if_neg (by omega), if_pos h2]
  · simp only [hl]
    rw [if_pos (by omega), if_neg h2]

set_option maxHeartbeats 4000000 in
theorem CellTexts_ret (s : List UInt8) (hs : s.length ≤ 9223372036854775807) (w : World) (g : Glob w) : Ret Tryz.prog 12 [str s] w (fun v w' => v = .bool true ∧ Ext w w') := by
  refine Ret.enter Tryz.func12 rfl Tryz.ntmps12 (by kernel_rfl) rfl ?_
  refine Sa ?_
  refine CW.cond rfl (fun h1 => ?_) (fun h1 => ?_)
  · refine Sa ?_
    refine LW.call0 rfl rfl (awake9_ret w g) ?_
    rintro v w1 ⟨rfl, hx⟩
    refine Sa ?_
    exact QW.body1 Tryz.results12 rfl ⟨rfl, hx⟩
  have h1 : s.length ≤ 99 := by simp at h1; omega
  have hl39 : ([39] ++ s).length = s.length + 1 := by simp
  have hl120 : ([120] ++ s).length = s.length + 1 := by simp
  refine Sa ?_
  refine LW.call0 rfl rfl (Norm_ret ([39] ++ s) (by omega) w g) ?_
  rw [text_1 h1]
  rintro v w1 ⟨rfl, hx1⟩
  refine Sa ?_
  refine LW.call0 rfl rfl (Plain_text s (by omega) w1) ?_
  rintro v w2 ⟨rfl, hx2⟩
  replace hx2 := hx1.trans hx2
  refine Sa ?_
  (apply LW.alloc; exact rfl; exact rfl; exact rfl; intro V w3 hbV hx3 hV)
  have hzV := hx2.size
  refine Sa ?_
  (apply LW.store_all; exact rfl; exact rfl; exact rfl; assumption; exact rfl; exact rfl; exact rfl; intro w4 hc4 hV)
  replace hV : Blk w4 V [.int .i64 2, .int .i64 0, str s] 49 := hV
  have hx4 : Ext w w4 := (hx2.trans hx3).step hc4 (by simp; omega)
  refine Sa ?_
  refine LW.call0 rfl rfl (Norm_ret ([120] ++ s) (by omega) w4 (g.ext hx4)) ?_
  rw [text_2 h1]
  by_cases h2 : s.length ≤ 98
  · rw [if_pos h2]
    rintro v w5 ⟨rfl, hx5⟩
    replace hV := hV.ext hx5
    have hx5' := hx4.trans hx5
    refine Sa ?_
    refine LW.call0 rfl rfl (Plain_text ([120] ++ s) (by omega) w5) ?_
    rintro v w6 ⟨rfl, hx6⟩
    replace hV := hV.ext hx6
    have hx6' := hx5'.trans hx6
    refine Sa ?_
    (apply LW.alloc; exact rfl; exact rfl; exact rfl; intro U w7 hbU hx7 hU)
    have hVlt := hV.lt
    have hzU := hx6'.size
    replace hV := hV.ext hx7
    refine Sa ?_
    (apply LW.store_all; exact rfl; exact rfl; exact rfl; assumption; exact rfl; exact rfl; exact rfl; intro w8 hc8 hU)
    have hx8 : Ext w w8 := (hx6'.trans hx7).step hc8 (by simp; omega)
    replace hV := hV.chg hc8 (by simp; omega)
    refine Sa ?_
    refine LW.call0 rfl rfl (Num_ret 0 w8) ?_
    rintro v w9 ⟨rfl, hx9⟩
    have hx9' := hx8.trans hx9
    replace hV := hV.ext hx9
    replace hU := hU.ext hx9
    refine Sa ?_
    refine LW.know (t := 32) (c := true) rfl rfl ?_
    refine Sa ?_
    refine LW.know (t := 38) (c := true) rfl (by simp) ?_
    refine Sa ?_
    refine LW.know (t := 43) (c := true) rfl rfl ?_
    refine Sa ?_
    refine LW.know (t := 49) (c := true) rfl (by simp) ?_
    refine Sa ?_
    refine LW.know (t := 53) (c := false) rfl (decide_eq_false (by omega)) ?_
    refine Sa ?_
    refine LW.call0 rfl rfl (Num_ret 0 _) ?_
    rintro v w10 ⟨rfl, hx10⟩
    have hx10' := hx9'.trans hx10
    replace hU := hU.ext hx10
    refine Sa ?_
    refine LW.know (t := 57) (c := true) rfl rfl ?_
    refine Sa ?_
    refine LW.know (t := 62) (c := true) rfl rfl ?_
    refine Sa ?_
    refine LW.know (t := 71) (c := true) rfl (by simp) ?_
    refine Sa ?_
    refine LW.call0 rfl rfl (awake9_ret w10 (g.ext hx10')) ?_
    rintro v w11 ⟨rfl, hx11⟩
    refine Sa ?_
    exact QW.body1 Tryz.results12 rfl ⟨rfl, hx10'.trans hx11⟩
  · rw [if_neg h2]
    rintro v w5 ⟨rfl, hx5⟩
    replace hV := hV.ext hx5
    have hx5' := hx4.trans hx5
    refine Sa ?_
    refine LW.call0 rfl rfl (Plain_nil w5) ?_
    rintro v w6 ⟨rfl, hx6⟩
    replace hV := hV.ext hx6
    have hx6' := hx5'.trans hx6
    refine Sa ?_
    (apply LW.alloc; exact rfl; exact rfl; exact rfl; intro U w7 hbU hx7 hU)
    have hVlt := hV.lt
    have hzU := hx6'.size
    replace hV := hV.ext hx7
    refine Sa ?_
    (apply LW.store_all; exact rfl; exact rfl; exact rfl; assumption; exact rfl; exact rfl; exact rfl; intro w8 hc8 hU)
    have hx8 : Ext w w8 := (hx6'.trans hx7).step hc8 (by simp; omega)
    replace hV := hV.chg hc8 (by simp; omega)
    refine Sa ?_
    refine LW.call0 rfl rfl (Num_ret 0 w8) ?_
    rintro v w9 ⟨rfl, hx9⟩
    have hx9' := hx8.trans hx9
    replace hV := hV.ext hx9
    replace hU := hU.ext hx9
    refine Sa ?_
    refine LW.know (t := 32) (c := true) rfl rfl ?_
    refine Sa ?_
    refine LW.know (t := 38) (c := true) rfl (by simp) ?_
    refine Sa ?_
    refine LW.know (t := 43) (c := true) rfl rfl ?_
    refine Sa ?_
    refine LW.know (t := 49) (c := true) rfl (by simp) ?_
    refine Sa ?_
    refine LW.know (t := 53) (c := true) rfl (decide_eq_true (by omega)) ?_
    refine Sa ?_
    refine LW.call0 rfl rfl (awake9_ret w9 (g.ext hx9')) ?_
    rintro v w11 ⟨rfl, hx11⟩
    refine Sa ?_
    exact QW.body1 Tryz.results12 rfl ⟨rfl, hx9'.trans hx11⟩
end Go.Proofs.YtiloogjageledaaGreatDoor
