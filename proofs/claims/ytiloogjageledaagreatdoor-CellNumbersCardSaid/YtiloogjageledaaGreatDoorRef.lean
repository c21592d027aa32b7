/-
  Walks of the document's answer: letters, names, columns, decimals, texts of references (chequerref1).
  The walk of chequerref1.ReadRef.
-/
import Derived.Test.YtiloogjageledaaGreatDoorAddr
namespace Go.Proofs.YtiloogjageledaaGreatDoor
open Go Go.E

theorem rcapital_ret (c : Int) (w : World) : Ret Tryz.prog 166 [.int .u8 c] w (fun v w' => v = .bool (capB c) ∧ Ext w w') := by
  refine Ret.enter Tryz.func166 rfl Tryz.ntmps166 (by kernel_rfl) rfl ?_
  refine Sa ?_
  refine LW.part rfl rfl rfl (fun h1 => ?_) (fun h1 => ?_)
  all_goals
    refine Sa ?_
    refine QW.body1 Tryz.results166 rfl ⟨?_, Chg.refl _ _⟩
    simp [capB, h1]
theorem rdigit_ret (c : Int) (w : World) : Ret Tryz.prog 156 [.int .u8 c] w (fun v w' => v = .bool (digB c) ∧ Ext w w') := by
  refine Ret.enter Tryz.func156 rfl Tryz.ntmps156 (by kernel_rfl) rfl ?_
  refine Sa ?_
  refine LW.part rfl rfl rfl (fun h1 => ?_) (fun h1 => ?_)
  all_goals
    refine Sa ?_
    refine QW.body1 Tryz.results156 rfl ⟨?_, Chg.refl _ _⟩
    simp [digB, h1]
theorem rletter_ret (c : Int) (w : World) : Ret Tryz.prog 159 [.int .u8 c] w (fun v w' => v = .bool (letB c) ∧ Ext w w') := by
  refine Ret.enter Tryz.func159 rfl Tryz.ntmps159 (by kernel_rfl) rfl ?_
  refine Sa ?_
  refine LW.part rfl rfl rfl (fun h1 => ?_) (fun h1 => ?_)
  · refine Sa ?_
    refine LW.part rfl rfl rfl (fun h2 => ?_) (fun h2 => ?_)
    · refine Sa ?_
      refine QW.body1 Tryz.results159 rfl ⟨?_, Chg.refl _ _⟩
      simp [letB, capB, h1, h2]
    · refine Sa ?_
      refine LW.part rfl rfl rfl (fun h3 => ?_) (fun h3 => ?_)
      all_goals
        refine Sa ?_
        refine QW.body1 Tryz.results159 rfl ⟨?_, Chg.refl _ _⟩
        simp [letB, capB, h1, h2, h3]
  · refine Sa ?_
    refine LW.part rfl rfl rfl (fun h3 => ?_) (fun h3 => ?_)
    all_goals
      refine Sa ?_
      refine QW.body1 Tryz.results159 rfl ⟨?_, Chg.refl _ _⟩
      simp [letB, capB, h1, h3]

theorem rCol_ret (n : Int) (h0 : -9223372036854775808 ≤ n) (h1 : n ≤ 9223372036854775807) (w : World) : Ret Tryz.prog 87 [.int .i64 n] w (fun v w' => v = str (colT n) ∧ Ext w w') := by
  refine Ret.enter Tryz.func87 rfl Tryz.ntmps87 (by kernel_rfl) rfl ?_
  refine Sa ?_
  refine LW.part rfl rfl rfl (fun h2 => ?_) (fun h2 => ?_)
  · have h2 : n < 0 := by simpa using h2
    refine Sa ?_
    refine QW.body1 Tryz.results87 rfl ⟨?_, Chg.refl _ _⟩
    rw [colT, if_pos (by omega)]
  have h2 : 0 ≤ n := by simpa using h2
  refine Sa ?_
  refine CW.cond rfl (fun h3 => ?_) (fun h3 => ?_)
  · have h3 : 701 < n := by simpa using h3
    refine Sa ?_
    refine QW.body1 Tryz.results87 rfl ⟨?_, Chg.refl _ _⟩
    rw [colT, if_pos (by omega)]
  have h3 : n ≤ 701 := by simpa using h3
  refine Sa ?_
  refine CW.cond rfl (fun h4 => ?_) (fun h4 => ?_)
  · have h4 : n < 26 := by simpa using h4
    refine Sa ?_
    (apply LW.buildSlice; exact rfl; exact rfl; exact rfl; exact rfl; exact rfl; exact rfl; exact rfl; exact rfl; exact rfl; intro b w1 hb hx hB)
    replace hB : Blk w1 b [.int .u8 (65 + n)] 5 := hB
    refine Sa ?_
    refine QW.body1 Tryz.results87 rfl ⟨?_, hx⟩
    rw [colT, if_neg (by omega), if_pos h4]
  · have h4 : 26 ≤ n := by simpa using h4
    refine Sa ?_
    (apply LW.buildSlice; exact rfl; exact rfl; exact rfl; exact rfl; exact rfl; exact rfl; exact rfl; exact rfl; exact rfl; intro b w1 hb hx hB)
    replace hB : Blk w1 b [.int .u8 (65 + n / 26 - 1), .int .u8 (65 + n % 26)] 5 := hB
    refine Sa ?_
    refine QW.body1 Tryz.results87 rfl ⟨?_, hx⟩
    rw [colT, if_neg (by omega), if_neg (by omega)]

theorem rReadCol_ret (s : List UInt8) (hs : s.length ≤ 1000000) (w : World) : Ret Tryz.prog 167 [str s] w (fun v w' => v = readColV s ∧ Ext w w') := by
  match s, hs with
  | [], _ =>
    refine Ret.enter Tryz.func167 rfl Tryz.ntmps167 (by kernel_rfl) rfl ?_
    refine Sa ?_
    refine QW.body2 Tryz.results167 rfl rfl ⟨rfl, Chg.refl _ _⟩
  | a :: b :: c :: l, hs =>
    simp at hs
    refine Ret.enter Tryz.func167 rfl Tryz.ntmps167 (by kernel_rfl) rfl ?_
    refine Sa ?_
    refine LW.part rfl rfl rfl (fun h => ?_) (fun h => ?_)
    · refine Sa ?_
      refine QW.body2 Tryz.results167 rfl rfl ⟨rfl, Chg.refl _ _⟩
    · simp at h; omega
  | [a], _ =>
    refine Ret.enter Tryz.func167 rfl Tryz.ntmps167 (by kernel_rfl) rfl ?_
    refine Sa ?_
    refine LW.call0 rfl rfl (rcapital_ret _ _) ?_
    rintro v w1 ⟨rfl, hx⟩
    refine Sa ?_
    refine LW.part rfl rfl rfl (fun h1 => ?_) (fun h1 => ?_)
    · refine Sa ?_
      refine QW.body2 Tryz.results167 rfl rfl ⟨?_, hx⟩
      have h1 : capB (byte [a] 0) = false := by simpa using h1
      simp [readColV, readCol, h1]
    have h1 : capB (byte [a] 0) = true := by simpa using h1
    refine Sa ?_
    refine LW.call0 rfl rfl (rcapital_ret _ _) ?_
    rintro v w2 ⟨rfl, hx2⟩
    refine Sa ?_
    refine CW.cond rfl (fun h2 => ?_) (fun h2 => ?_)
    · have h2 : capB (byte [a] 0) = false := by simpa using h2
      rw [h1] at h2; cases h2
    have hb := byte_lt [a] 0
    have hb2 : 65 ≤ byte [a] 0 ∧ byte [a] 0 ≤ 90 := by simpa [capB] using h1
    have e0 : byte [a] (0 : Int).toNat = byte [a] 0 := rfl
    refine Sa ?_
    refine QW.body2 Tryz.results167 rfl rfl ⟨?_, hx.trans hx2⟩
    simp [readColV, readCol, h1]
  | [a, b], _ =>
    refine Ret.enter Tryz.func167 rfl Tryz.ntmps167 (by kernel_rfl) rfl ?_
    refine Sa ?_
    refine LW.call0 rfl rfl (rcapital_ret _ _) ?_
    rintro v w1 ⟨rfl, hx⟩
    refine Sa ?_
    refine LW.part rfl rfl rfl (fun h1 => ?_) (fun h1 => ?_)
    · refine Sa ?_
      refine QW.body2 Tryz.results167 rfl rfl ⟨?_, hx⟩
      have h1 : capB (byte [a, b] 0) = false := by simpa using h1
      simp [readColV, readCol, h1]
    have h1 : capB (byte [a, b] 0) = true := by simpa using h1
    refine Sa ?_
    refine LW.call0 rfl rfl (rcapital_ret _ _) ?_
    rintro v w2 ⟨rfl, hx2⟩
    refine Sa ?_
    refine CW.cond rfl (fun h2 => ?_) (fun h2 => ?_)
    · refine Sa ?_
      refine QW.body2 Tryz.results167 rfl rfl ⟨?_, hx.trans hx2⟩
      have h2 : capB (byte [a, b] 1) = false := by simpa using h2
      simp [readColV, readCol, h1, h2]
    have h2 : capB (byte [a, b] 1) = true := by simpa using h2
    have hb := byte_lt [a, b] 0
    have hb2 : 65 ≤ byte [a, b] 0 ∧ byte [a, b] 0 ≤ 90 := by simpa [capB] using h1
    have e0 : byte [a, b] (0 : Int).toNat = byte [a, b] 0 := rfl
    have hc := byte_lt [a, b] 1
    have hc2 : 65 ≤ byte [a, b] 1 ∧ byte [a, b] 1 ≤ 90 := by simpa [capB] using h2
    have e1 : byte [a, b] (1 : Int).toNat = byte [a, b] 1 := rfl
    refine Sa ?_
    refine CW.draw (by kernel_rfl) (by kernel_rfl) ?_
    refine Sq ?_
    refine QL.nil fun w3 hx3 => ?_
    refine Sa ?_
    refine QW.body2 Tryz.results167 rfl rfl ⟨?_, (hx.trans hx2).trans hx3⟩
    simp [readColV, readCol, h1, h2]
    omega


theorem rName_ret (s : List UInt8) (hs : s.length ≤ 1000000) (w : World) : Ret Tryz.prog 168 [str s] w (fun v w' => v = .bool (nameB s) ∧ Ext w w') := by
  refine Ret.enter Tryz.func168 rfl Tryz.ntmps168 (by kernel_rfl) rfl ?_
  refine Sa ?_
  refine CW.loop (ι := Nat) (fun k w' => k ≤ s.length ∧ Ext w w' ∧ (0 < k → letB (byte s 0) = true) ∧ ∀ j, j < k → ldB (byte s j) = true) (fun k => [(0, str s), (3, .int .i64 k)]) (fun k => s.length - k) 0 ⟨by omega, Chg.refl _ _, by omega, by omega⟩ (Sub.cons rfl (Sub.cons rfl (Sub.nil))) ?_
  rintro k w1 ⟨hk, hx, hf, hall⟩
  refine Sa ?_
  refine CW.cond rfl (fun h1 => ?_) (fun h1 => ?_)
  · have h1 : k < s.length := by simpa using h1
    refine Sa ?_
    refine LW.call0 rfl rfl (rletter_ret _ _) ?_
    rintro v w2 ⟨rfl, hx2⟩
    replace hx := hx.trans hx2
    refine Sa ?_
    refine LW.part rfl rfl rfl (fun h2 => ?_) (fun h2 => ?_)
    · have h2 : letB (byte s k) = false := by simpa using h2
      refine Sa ?_
      refine LW.part rfl rfl rfl (fun h3 => ?_) (fun h3 => ?_)
      · have h3 : 0 < k := by simpa using h3
        refine Sa ?_
        refine LW.call0 rfl rfl (rdigit_ret _ _) ?_
        rintro v w3 ⟨rfl, hx3⟩
        replace hx := hx.trans hx3
        refine Sa ?_
        refine CW.cond rfl (fun h4 => ?_) (fun h4 => ?_)
        · have h4 : digB (byte s k) = false := by simpa using h4
          refine Sa ?_
          refine QW.body1 Tryz.results168 rfl ⟨?_, hx⟩
          rw [nameB_at h1 (by simp [ldB, h2, h4])]
        · have h4 : digB (byte s k) = true := by simpa using h4
          refine Sa ?_
          refine QW.again (k + 1) ⟨by omega, hx, fun _ => hf h3, ?_⟩ (Sub.cons rfl (Sub.cons rfl (Sub.nil))) (by omega)
          intro j hj
          by_cases hjk : j = k
          · subst hjk; simp [ldB, h4]
          · exact hall j (by omega)
      · have h3 : k = 0 := by simpa using h3
        subst h3
        refine Sa ?_
        refine QW.body1 Tryz.results168 rfl ⟨?_, hx⟩
        rw [nameB_first h2]
    · have h2 : letB (byte s k) = true := by simpa using h2
      refine Sa ?_
      refine QW.again (k + 1) ⟨by omega, hx, fun _ => ?_, ?_⟩ (Sub.cons rfl (Sub.cons rfl (Sub.nil))) (by omega)
      · by_cases hk0 : k = 0
        · subst hk0; exact h2
        · exact hf (by omega)
      · intro j hj
        by_cases hjk : j = k
        · subst hjk; simp [ldB, h2]
        · exact hall j (by omega)
  · have h1 : k = s.length := by simp at h1; omega
    subst h1
    refine Sa ?_
    refine LW.part rfl rfl rfl (fun h2 => ?_) (fun h2 => ?_)
    · have h2 : 1 ≤ s.length := by simp at h2; omega
      have hne : s ≠ [] := by intro h; rw [h] at h2; simp at h2
      refine Sa ?_
      refine QW.body1 Tryz.results168 rfl ⟨?_, hx⟩
      by_cases h3 : s.length ≤ 12
      · rw [nameB_true hne h3 (hf (by omega)) hall]; simp; omega
      · rw [nameB_long (by omega)]; simp; omega
    · have h2 : s = [] := by
        apply List.eq_nil_of_length_eq_zero
        simp at h2
        omega
      subst h2
      refine Sa ?_
      refine QW.body1 Tryz.results168 rfl ⟨rfl, hx⟩

theorem decDigits_big {u : Nat} (h : 10 ≤ u) : Lib.decDigits u = Lib.decDigits (u / 10) ++ [ch (48 + (u : Int) % 10)] := by
  rw [Lib.decDigits, dif_neg (by omega)]
  congr 2
theorem decDigits_small {u : Nat} (h : u < 10) : Lib.decDigits u = [ch (48 + (u : Int))] := by
  rw [Lib.decDigits, dif_pos h]
  rfl

theorem Digits_ret (k : Int) (h0 : 0 ≤ k) (h1 : k ≤ 9223372036854775807) (w : World) : Ret Tryz.prog 35 [.int .i64 k] w (fun v w' => v = str (Lib.itoa k) ∧ Ext w w') := by
  obtain ⟨m, rfl⟩ := Int.eq_ofNat_of_zero_le h0
  have hit : Lib.itoa (m : Int) = Lib.decDigits m := by unfold Lib.itoa; rw [if_neg (by omega)]; rfl
  have hlen := Lib.itoa_length_le (m : Int) (by omega) h1
  rw [hit] at hlen
  rw [hit]
  refine Ret.enter Tryz.func35 rfl Tryz.ntmps35 (by kernel_rfl) rfl ?_
  refine Sa ?_
  refine CW.loop (ι := Nat × List UInt8) (fun i w' => i.1 ≤ m ∧ Ext w w' ∧ Lib.decDigits m = Lib.decDigits i.1 ++ i.2) (fun i => [(0, .int .i64 (m : Int)), (3, .int .u64 (i.1 : Int)), (4, str i.2)]) (fun i => i.1) (m, []) ⟨by simp, Chg.refl _ _, by simp⟩ (Sub.cons rfl (Sub.cons rfl (Sub.cons rfl (Sub.nil)))) ?_
  rintro ⟨u, acc⟩ w1 ⟨hu, hx, hd⟩
  simp only at hu hd
  have hal : acc.length ≤ 21 := by
    have := congrArg List.length hd
    rw [List.length_append] at this
    omega
  refine Sa ?_
  refine CW.cond rfl (fun h2 => ?_) (fun h2 => ?_)
  · have h2 : 10 ≤ u := by simp at h2; omega
    refine Sa ?_
    (apply LW.buildSlice; exact rfl; exact rfl; exact rfl; exact rfl; exact rfl; exact rfl; exact rfl; exact rfl; exact rfl; intro b w2 hb hx2 hB)
    replace hB : Blk w2 b [.int .u8 (48 + (u : Int) % 10)] 5 := hB
    replace hx := hx.trans hx2
    refine Sa ?_
    refine QW.again (u / 10, [ch (48 + (u : Int) % 10)] ++ acc) ⟨?_, hx, ?_⟩ (Sub.cons rfl (Sub.cons rfl (Sub.cons rfl (Sub.nil)))) ?_
    · simp only; omega
    · simp only; rw [hd, decDigits_big h2]; simp
    · simp only; omega
  · have h2 : u < 10 := by simp at h2; omega
    refine Sa ?_
    (apply LW.buildSlice; exact rfl; exact rfl; exact rfl; exact rfl; exact rfl; exact rfl; exact rfl; exact rfl; exact rfl; intro b w2 hb hx2 hB)
    replace hB : Blk w2 b [.int .u8 (48 + (u : Int))] 5 := hB
    replace hx := hx.trans hx2
    refine Sa ?_
    refine QW.body1 Tryz.results35 rfl ⟨?_, hx⟩
    rw [hd, decDigits_small h2]

theorem rMay_ret (x : RefD) (hs : x.sheet.length ≤ 1000000) (w : World) : Ret Tryz.prog 125 [refV x] w (fun v w' => v = .bool (mayB x) ∧ Ext w w') := by
  obtain ⟨sh, c, r, ac, ar⟩ := x
  simp only [refV]
  refine Ret.enter Tryz.func125 rfl Tryz.ntmps125 (by kernel_rfl) rfl ?_
  refine Sa ?_
  (apply LW.box; exact rfl; exact rfl; exact rfl; intro b w1 hb hx hB)
  refine Sa ?_
  refine LW.part rfl rfl rfl (fun h1 => ?_) (fun h1 => ?_)
  · refine Sa ?_
    refine LW.part rfl rfl rfl (fun h2 => ?_) (fun h2 => ?_)
    · refine Sa ?_
      refine LW.part rfl rfl rfl (fun h3 => ?_) (fun h3 => ?_)
      · refine Sa ?_
        refine LW.part rfl rfl rfl (fun h4 => ?_) (fun h4 => ?_)
        · refine Sa ?_
          refine QW.body1 Tryz.results125 rfl ⟨?_, hx⟩
          simp [mayB, *]
        · refine Sa ?_
          refine QW.body1 Tryz.results125 rfl ⟨?_, hx⟩
          simp [mayB, *]
      · refine Sa ?_
        refine QW.body1 Tryz.results125 rfl ⟨?_, hx⟩
        simp [mayB, *]
    · refine Sa ?_
      refine QW.body1 Tryz.results125 rfl ⟨?_, hx⟩
      simp [mayB, *]
  · refine Sa ?_
    refine LW.call0 rfl rfl (rName_ret _ hs _) ?_
    rintro v w2 ⟨rfl, hx2⟩
    replace hB := hB.ext hx2
    replace hx := hx.trans hx2
    refine Sa ?_
    refine LW.part rfl rfl rfl (fun h0 => ?_) (fun h0 => ?_)
    · refine Sa ?_
      refine LW.part rfl rfl rfl (fun h2 => ?_) (fun h2 => ?_)
      · refine Sa ?_
        refine LW.part rfl rfl rfl (fun h3 => ?_) (fun h3 => ?_)
        · refine Sa ?_
          refine LW.part rfl rfl rfl (fun h4 => ?_) (fun h4 => ?_)
          · refine Sa ?_
            refine QW.body1 Tryz.results125 rfl ⟨?_, hx⟩
            simp [mayB, *]
          · refine Sa ?_
            refine QW.body1 Tryz.results125 rfl ⟨?_, hx⟩
            simp [mayB, *]
        · refine Sa ?_
          refine QW.body1 Tryz.results125 rfl ⟨?_, hx⟩
          simp [mayB, *]
      · refine Sa ?_
        refine QW.body1 Tryz.results125 rfl ⟨?_, hx⟩
        simp [mayB, *]
    · refine Sa ?_
      refine QW.body1 Tryz.results125 rfl ⟨?_, hx⟩
      simp [mayB, *]


theorem RefText_ret (x : RefD) (hs : x.sheet.length ≤ 1000) (w : World) : Ret Tryz.prog 132 [refV x] w (fun v w' => v = str (textT x) ∧ Ext w w') := by
  obtain ⟨sh, c, r, ac, ar⟩ := x
  simp only at hs
  simp only [refV]
  refine Ret.enter Tryz.func132 rfl Tryz.ntmps132 (by kernel_rfl) rfl ?_
  refine Sa ?_
  (apply LW.box; exact rfl; exact rfl; exact rfl; intro b w1 hb hx hB)
  refine Sa ?_
  refine LW.call0 rfl rfl (rMay_ret ⟨sh, c, r, ac, ar⟩ (by simp only; omega) w1) ?_
  rintro v w2 ⟨rfl, hx2⟩
  replace hB := hB.ext hx2
  replace hx := hx.trans hx2
  refine Sa ?_
  refine CW.cond rfl (fun h1 => ?_) (fun h1 => ?_)
  · refine Sa ?_
    refine QW.body1 Tryz.results132 rfl ⟨?_, hx⟩
    have h1 : mayB ⟨sh, c, r, ac, ar⟩ = false := by simpa using h1
    simp [textT, h1]
  have h1 : mayB ⟨sh, c, r, ac, ar⟩ = true := by simpa using h1
  have hm : 0 ≤ c ∧ c ≤ 701 ∧ 0 ≤ r ∧ r ≤ 998 := by
    simp only [mayB, Bool.and_eq_true, decide_eq_true_eq] at h1
    exact ⟨h1.1.1.1.2, h1.1.1.2, h1.1.2, h1.2⟩
  have hl3 := colT_length c
  have hl4 := Lib.itoa_length_le (r + 1) (by omega) (by omega)
  rw [textT, if_pos h1]
  clear h1
  match sh, hs with
  | [], _ =>
    cases ac <;> cases ar
    all_goals
      refine Sa ?_
      refine LW.call0 rfl rfl (rCol_ret c (by omega) (by omega) w2) ?_
      rintro v w3 ⟨rfl, hx3⟩
      replace hB := hB.ext hx3
      replace hx := hx.trans hx3
      refine Sa ?_
      refine LW.call0 rfl rfl (Digits_ret (r + 1) (by omega) (by omega) w3) ?_
      rintro v w4 ⟨rfl, hx4⟩
      replace hx := hx.trans hx4
      refine Sa ?_
      refine QW.body1 Tryz.results132 rfl ⟨?_, hx⟩
      simp [textB, markT]
  | a :: l, hs =>
    simp at hs
    cases ac <;> cases ar
    all_goals
      refine Sa ?_
      refine LW.call0 rfl rfl (rCol_ret c (by omega) (by omega) w2) ?_
      rintro v w3 ⟨rfl, hx3⟩
      replace hB := hB.ext hx3
      replace hx := hx.trans hx3
      refine Sa ?_
      refine LW.call0 rfl rfl (Digits_ret (r + 1) (by omega) (by omega) w3) ?_
      rintro v w4 ⟨rfl, hx4⟩
      replace hx := hx.trans hx4
      refine Sa ?_
      refine QW.body1 Tryz.results132 rfl ⟨?_, hx⟩
      simp [textB, markT]
end Go.Proofs.YtiloogjageledaaGreatDoor

namespace Go.Proofs.YtiloogjageledaaGreatDoor
open Go Go.E

/-- The number that at most four digits tell. -/
def numT (acc : Int) (l : List UInt8) : Int := l.foldl (fun a c => 10 * a + ((c.toNat : Int) - 48)) acc

theorem numT_snoc (acc : Int) (l : List UInt8) (c : UInt8) : numT acc (l ++ [c]) = 10 * numT acc l + ((c.toNat : Int) - 48) := by simp [numT]
def okNum (n : Nat) : Bool := decide (numT 0 (d3 n) = (n : Int))
theorem all_nums : ∀ n : Fin 1000, okNum n.val = true := by decide +kernel
theorem num_itoa {z : Int} (h0 : 0 ≤ z) (h1 : z < 1000) : numT 0 (Lib.itoa z) = z := by
  have := all_nums ⟨z.toNat, by omega⟩
  rw [itoa_d3 h0 h1]
  simp only [okNum, decide_eq_true_eq] at this
  rw [this]; omega

theorem take_snoc' {l : List UInt8} {k : Nat} (h : k < l.length) : l.take (k + 1) = l.take k ++ [l[k]] := by
  rw [List.take_succ_eq_append_getElem h]

theorem byte_drop (l : List UInt8) (a k : Nat) : byte (l.drop a) k = byte l (a + k) := by
  unfold byte
  rw [List.getD_eq_getElem?_getD, List.getD_eq_getElem?_getD, List.getElem?_drop]

theorem no_at {s : List UInt8} (h : okRead s = false) : readV s = .tuple #[refV refZ, .bool false] := by rw [readV, h]; rfl

def rcand (s : List UInt8) : RefD := ⟨candS s, (readCol (spanL capB (cand1 s))).getD 0, numT 0 ((cand3 s).take 4) - 1, Lib.hasPrefix (candR s) [36], Lib.hasPrefix (cand2 s) [36]⟩

theorem cand_is {s : List UInt8} {r : RefD} (h : mayB r = true) (e : textB r = s) : rcand s = r ∧ (readCol (spanL capB (cand1 s))).isSome = true := by
  obtain ⟨q1, q2, q3, q4, q5, q6, q7, q8, _⟩ := parse h
  obtain ⟨_, c0, c1, r0, r1⟩ := may_parts h
  obtain ⟨_, _, hrc⟩ := col_ok c0 c1
  obtain ⟨_, _, hl, _⟩ := itoa_ok (z := r.row + 1) (by omega) (by omega)
  rw [e] at q1 q2 q4 q6 q8
  unfold rcand
  rw [q1, q4, q5, hrc, q8, q2, q3, q6, q7, List.take_of_length_le (by rw [tail3]; omega), tail3, num_itoa (by omega) (by omega)]
  refine ⟨?_, rfl⟩
  rw [show r.row + 1 - 1 = r.row by omega]
  rfl
theorem first33 {s : List UInt8} (hl : 0 < s.length) (h : byte s 0 = 33) : okRead s = false := by
  refine read_no fun r hr e => ?_
  have hc := cut_found (s := s) (k := 0) hl h (fun j hj => by omega)
  have hcs : candS s = [] := by unfold candS; rw [hc]; rfl
  have hsh : r.sheet = [] := by
    have := (parse hr).1
    rw [e, hcs] at this
    exact this.symm
  rw [textB_eq, if_pos hsh, List.nil_append] at e
  subst e
  obtain ⟨c, hm, e⟩ := byte_mem hl
  exact no33 hr c hm (by rw [← e]; exact h)
theorem not_digit {s : List UInt8} {j : Nat} (hl : j < (cand3 s).length) (h : digB (byte (cand3 s) j) = false) : okRead s = false := by
  refine read_no fun r hr e => ?_
  obtain ⟨_, _, _, _, _, _, _, q8, _⟩ := parse hr
  obtain ⟨_, c0, c1, r0, r1⟩ := may_parts hr
  obtain ⟨hd, _, _, _⟩ := itoa_ok (z := r.row + 1) (by omega) (by omega)
  rw [e] at q8
  obtain ⟨c, hm, e2⟩ := byte_mem hl
  rw [q8] at hm
  rw [e2, hd c hm] at h
  cases h

theorem num_bound (l : List UInt8) (h : ∀ j, j < l.length → digB (byte l j) = true) : 0 ≤ numT 0 l ∧ numT 0 l < 10 ^ l.length := by
  have key : ∀ (n : Nat) (l : List UInt8), l.length = n → (∀ j, j < l.length → digB (byte l j) = true) → 0 ≤ numT 0 l ∧ numT 0 l < 10 ^ n := by
    intro n
    induction n with
    | zero =>
      intro l hl _
      have : l = [] := List.eq_nil_of_length_eq_zero hl
      subst this; simp [numT]
    | succ n ih =>
      intro l hl h
      have hne : l ≠ [] := by intro h0; rw [h0] at hl; simp at hl
      have e : l = l.dropLast ++ [l.getLast hne] := (List.dropLast_concat_getLast hne).symm
      have hdl : l.dropLast.length = n := by simp; omega
      have h1 := ih l.dropLast hdl (fun j hj => by
        have := h j (by omega)
        rw [e, byte_append_left hj] at this
        exact this)
      have h2 : digB (((l.getLast hne).toNat : Nat) : Int) = true := by
        have := h n (by omega)
        have e3 : byte l n = ((l.getLast hne).toNat : Int) := by
          rw [byte_eq (by omega)]
          congr 2
          rw [List.getLast_eq_getElem]
          congr 1
          omega
        rw [e3] at this
        exact this
      have h3 : numT 0 l = 10 * numT 0 l.dropLast + (((l.getLast hne).toNat : Int) - 48) := by
        conv => lhs; rw [e]
        exact numT_snoc _ _ _
      simp only [digB, Bool.and_eq_true, decide_eq_true_eq] at h2
      rw [h3, Int.pow_succ]
      constructor <;> omega
  exact key l.length l rfl h

theorem ReadRef_ret (s : List UInt8) (hs : s.length ≤ 1000) (w : World) : Ret Tryz.prog 123 [str s] w (fun v w' => v = readV s ∧ Ext w w') := by
  refine Ret.enter Tryz.func123 rfl Tryz.ntmps123 (by kernel_rfl) rfl ?_
  refine Sa ?_
  (apply LW.alloc; exact rfl; exact rfl; exact rfl; intro R w1 hbR hx hR)
  refine Sa ?_
  (apply LW.alloc; exact rfl; exact rfl; exact rfl; intro C w2 hbC hx2 hC)
  have hRC : R < C := by have := hR.lt; omega
  replace hR : Blk w2 R (refL refZ) 35 := hR.ext hx2
  replace hC : Blk w2 C [str [], .int .i64 0, .int .i64 0, .bool false, .bool false] 35 := hC
  replace hx := hx.trans hx2
  refine Sl ?_
  apply LW.nil; apply QW.then_n
  apply CW.seq; apply CW.region
  refine Sl ?_
  apply LW.nil; apply QW.then_n
  apply CW.seq
  refine CW.cut (ι := Nat) (fun a w' => Ext w w' ∧ Blk w' R (refL refZ) 35 ∧ Blk w' C [str (candS s), .int .i64 0, .int .i64 0, .bool false, .bool false] 35 ∧ a ≤ s.length ∧ s.drop a = candR s)
    (fun a => [(0, str s), (2, .pointer (some ⟨R, 0, none⟩)), (3, .bool false), (4, .pointer (some ⟨C, 0, none⟩)), (5, .int .i64 a)]) ?_ ?_
  · refine Sa ?_
    refine CW.loop (ι := Nat) (fun k w' => k ≤ s.length ∧ Ext w w' ∧ Blk w' R (refL refZ) 35 ∧ Blk w' C [str [], .int .i64 0, .int .i64 0, .bool false, .bool false] 35 ∧ ∀ j, j < k → byte s j ≠ 33)
      (fun k => [(0, str s), (2, .pointer (some ⟨R, 0, none⟩)), (3, .bool false), (4, .pointer (some ⟨C, 0, none⟩)), (5, .int .i64 0), (6, .int .i64 k)]) (fun k => s.length - k) 0 ⟨by omega, hx, hR, hC, by omega⟩ (Sub.cons rfl (Sub.cons rfl (Sub.cons rfl (Sub.cons rfl (Sub.cons rfl (Sub.cons rfl (Sub.nil))))))) ?_
    clear hx hR hC hx2
    rintro k w3 ⟨hk, hx, hR, hC, hall⟩
    refine Sa ?_
    refine CW.cond rfl (fun h1 => ?_) (fun h1 => ?_)
    · have h1 : k < s.length := by simpa using h1
      refine Sa ?_
      refine CW.cond rfl (fun h2 => ?_) (fun h2 => ?_)
      · have h2 : byte s k = 33 := by simpa using h2
        have hcf := cut_found h1 h2 hall
        refine Sa ?_
        refine LW.slice_str (i := 0) (j := k) rfl rfl rfl rfl ⟨_, _, rfl, rfl⟩ (by omega) hk rfl ?_
        refine Sa ?_
        (apply LW.store; exact rfl; exact rfl; exact rfl; assumption; exact rfl; exact rfl; exact rfl; intro w4 hc4 hC4)
        replace hR := hR.chg hc4 (by simp; omega)
        replace hx := hx.step hc4 (by simp; omega)
        refine Sa ?_
        refine CW.cond rfl (fun h3 => ?_) (fun h3 => ?_)
        · have h3 : k = 0 := by simpa using h3
          subst h3
          refine Sa ?_
          (apply LW.store_all; exact rfl; exact rfl; exact rfl; assumption; exact rfl; exact rfl; exact rfl; intro w5 hc5 hR5)
          refine Sa ?_
          refine QW.body_ct Tryz.results123 rfl hR5 rfl rfl rfl rfl ⟨?_, hx.step hc5 (by simp; omega)⟩
          rw [no_at (first33 h1 h2)]
          rfl
        · refine Sa ?_
          refine QW.head (k + 1) ⟨hx, hR, ?_, by omega, ?_⟩ (Sub.cons rfl (Sub.cons rfl (Sub.cons rfl (Sub.cons rfl (Sub.cons rfl (Sub.nil))))))
          · have e : candS s = cut s 0 k := by unfold candS; rw [hcf, cut_head]; rfl
            rw [e]
            exact hC4
          · unfold candR; rw [hcf]; rfl
      · have h2 : byte s k ≠ 33 := by simpa using h2
        refine Sa ?_
        refine QW.again (k + 1) ⟨by omega, hx, hR, hC, ?_⟩ (Sub.cons rfl (Sub.cons rfl (Sub.cons rfl (Sub.cons rfl (Sub.cons rfl (Sub.cons rfl (Sub.nil))))))) (by omega)
        intro j hj
        by_cases hjk : j = k
        · subst hjk; exact h2
        · exact hall j (by omega)
    · have h1 : k = s.length := by simp at h1; omega
      subst h1
      have hcf := cut_none hall
      refine Sa ?_
      refine QW.head 0 ⟨hx, hR, ?_, by omega, ?_⟩ (Sub.cons rfl (Sub.cons rfl (Sub.cons rfl (Sub.cons rfl (Sub.cons rfl (Sub.nil))))))
      · have e : candS s = [] := by unfold candS; rw [hcf]; rfl
        rw [e]; exact hC
      · unfold candR; rw [hcf]; rfl
  clear hx hR hC hx2
  rintro a w3 ⟨hx, hR, hC, ha, had⟩
  have hla : (candR s).length = s.length - a := by rw [← had]; simp
  apply CW.seq
  refine CW.cut (ι := Nat) (fun a w' => Ext w w' ∧ Blk w' R (refL refZ) 35 ∧ Blk w' C [str (candS s), .int .i64 0, .int .i64 0, .bool (Lib.hasPrefix (candR s) [36]), .bool false] 35 ∧ a ≤ s.length ∧ s.drop a = cand1 s)
    (fun a => [(0, str s), (2, .pointer (some ⟨R, 0, none⟩)), (3, .bool false), (4, .pointer (some ⟨C, 0, none⟩)), (5, .int .i64 a)]) ?_ ?_
  · refine Sa ?_
    refine LW.part rfl rfl rfl (fun h1 => ?_) (fun h1 => ?_)
    · have h1 : a < s.length := by simpa using h1
      refine Sa ?_
      refine CW.cond rfl (fun h2 => ?_) (fun h2 => ?_)
      · have h2 : byte s a = 36 := by simpa using h2
        have e1 : 0 < (candR s).length ∧ byte (candR s) 0 = 36 := ⟨by omega, by rw [← had, byte_drop]; exact h2⟩
        refine Sa ?_
        (apply LW.store; exact rfl; exact rfl; exact rfl; assumption; exact rfl; exact rfl; exact rfl; intro w4 hc4 hC4)
        replace hR := hR.chg hc4 (by simp; omega)
        replace hx := hx.step hc4 (by simp; omega)
        refine Sa ?_
        refine QW.head (a + 1) ⟨hx, hR, ?_, by omega, ?_⟩ (Sub.cons rfl (Sub.cons rfl (Sub.cons rfl (Sub.cons rfl (Sub.cons rfl (Sub.nil))))))
        · rw [pre36, decide_eq_true e1]; exact hC4
        · rw [cand1, trim36, if_pos e1, ← had, List.drop_drop]
      · have h2 : byte s a ≠ 36 := by simpa using h2
        have e1 : ¬ (0 < (candR s).length ∧ byte (candR s) 0 = 36) := by
          rintro ⟨_, h⟩
          rw [← had, byte_drop] at h
          exact h2 h
        refine Sa ?_
        refine QW.head a ⟨hx, hR, ?_, ha, ?_⟩ (Sub.cons rfl (Sub.cons rfl (Sub.cons rfl (Sub.cons rfl (Sub.cons rfl (Sub.nil))))))
        · rw [pre36, decide_eq_false e1]; exact hC
        · rw [cand1, trim36, if_neg e1, had]
    · have h1 : a = s.length := by simp at h1; omega
      have e1 : ¬ (0 < (candR s).length ∧ byte (candR s) 0 = 36) := by
        rintro ⟨h, _⟩; omega
      refine Sa ?_
      refine QW.head a ⟨hx, hR, ?_, ha, ?_⟩ (Sub.cons rfl (Sub.cons rfl (Sub.cons rfl (Sub.cons rfl (Sub.cons rfl (Sub.nil))))))
      · rw [pre36, decide_eq_false e1]; exact hC
      · rw [cand1, trim36, if_neg e1, had]
  clear hx hR hC ha had hla a
  rintro a w4 ⟨hx, hR, hC, ha, had⟩
  apply CW.seq; apply CW.region
  refine Sl ?_
  apply LW.nil; apply QW.then_n
  apply CW.seq
  refine CW.cut (ι := Nat) (fun k w' => Ext w w' ∧ Blk w' R (refL refZ) 35 ∧ Blk w' C [str (candS s), .int .i64 0, .int .i64 0, .bool (Lib.hasPrefix (candR s) [36]), .bool false] 35 ∧ a ≤ k ∧ k ≤ s.length ∧ cut s a k = spanL capB (cand1 s) ∧ s.drop k = cand2 s)
    (fun k => [(0, str s), (2, .pointer (some ⟨R, 0, none⟩)), (3, .bool false), (4, .pointer (some ⟨C, 0, none⟩)), (5, .int .i64 a), (7, .int .i64 k)]) ?_ ?_
  · refine Sa ?_
    refine CW.loop (ι := Nat) (fun k w' => a ≤ k ∧ k ≤ s.length ∧ Ext w w' ∧ Blk w' R (refL refZ) 35 ∧ Blk w' C [str (candS s), .int .i64 0, .int .i64 0, .bool (Lib.hasPrefix (candR s) [36]), .bool false] 35 ∧ ∀ j, j < k - a → capB (byte (cand1 s) j) = true)
      (fun k => [(0, str s), (2, .pointer (some ⟨R, 0, none⟩)), (3, .bool false), (4, .pointer (some ⟨C, 0, none⟩)), (5, .int .i64 a), (7, .int .i64 k)]) (fun k => s.length - k) a ⟨by omega, ha, hx, hR, hC, by omega⟩ (Sub.cons rfl (Sub.cons rfl (Sub.cons rfl (Sub.cons rfl (Sub.cons rfl (Sub.cons rfl (Sub.nil))))))) ?_
    clear hx hR hC
    rintro k w5 ⟨hak, hk, hx, hR, hC, hall⟩
    have hl1 : (cand1 s).length = s.length - a := by rw [← had]; simp
    have hbk : byte (cand1 s) (k - a) = byte s k := by
      rw [← had, byte_drop]; congr 1; omega
    have fin : k = s.length ∨ capB (byte s k) = false → cut s a k = spanL capB (cand1 s) ∧ s.drop k = cand2 s := fun h => by
      have sp := span_at capB (cand1 s) (k - a) (by omega) hall (by
        rcases h with h | h
        · exact Or.inl (by omega)
        · exact Or.inr (by rw [hbk]; exact h))
      refine ⟨?_, ?_⟩
      · unfold cut; rw [had]; exact sp.1
      · have : s.drop k = (s.drop a).drop (k - a) := by rw [List.drop_drop]; congr 1; omega
        rw [this, had]; exact sp.2
    refine Sa ?_
    refine LW.part rfl rfl rfl (fun h1 => ?_) (fun h1 => ?_)
    · have h1 : k < s.length := by simpa using h1
      refine Sa ?_
      refine LW.call0 rfl rfl (rcapital_ret _ _) ?_
      rintro v w6 ⟨rfl, hx6⟩
      replace hR := hR.ext hx6
      replace hC := hC.ext hx6
      replace hx := hx.trans hx6
      refine Sa ?_
      refine CW.cond rfl (fun h2 => ?_) (fun h2 => ?_)
      · have h2 : capB (byte s k) = true := h2
        refine Sa ?_
        refine QW.again (k + 1) ⟨by omega, by omega, hx, hR, hC, ?_⟩ (Sub.cons rfl (Sub.cons rfl (Sub.cons rfl (Sub.cons rfl (Sub.cons rfl (Sub.cons rfl (Sub.nil))))))) (by omega)
        intro j hj
        by_cases hjk : j = k - a
        · subst hjk; rw [hbk]; exact h2
        · exact hall j (by omega)
      · have h2 : capB (byte s k) = false := h2
        refine Sa ?_
        exact QW.head k ⟨hx, hR, hC, hak, hk, fin (Or.inr h2)⟩ (Sub.cons rfl (Sub.cons rfl (Sub.cons rfl (Sub.cons rfl (Sub.cons rfl (Sub.cons rfl (Sub.nil)))))))
    · have h1 : k = s.length := by simp at h1; omega
      refine Sa ?_
      exact QW.head k ⟨hx, hR, hC, hak, hk, fin (Or.inl h1)⟩ (Sub.cons rfl (Sub.cons rfl (Sub.cons rfl (Sub.cons rfl (Sub.cons rfl (Sub.cons rfl (Sub.nil)))))))
  clear hx hR hC
  rintro k w5 ⟨hx, hR, hC, hak, hk, hck, hdk⟩
  have hls : (spanL capB (cand1 s)).length ≤ 1000 := by rw [← hck]; simp [cut]; omega
  have hcb := readCol_bound (spanL capB (cand1 s))
  have hl2 : (cand2 s).length = s.length - k := by rw [← hdk]; simp
  apply CW.seq; apply CW.region
  refine Sl ?_
  refine LW.slice_str (i := a) (j := k) rfl rfl rfl ⟨_, _, rfl, rfl⟩ ⟨_, _, rfl, rfl⟩ hak hk rfl ?_
  refine Sl ?_
  rw [hck]
  refine LW.call0 rfl rfl (rReadCol_ret _ (by omega) w5) ?_
  rintro v w6 ⟨rfl, hx6⟩
  rw [readColV_fst]
  replace hR := hR.ext hx6
  replace hC := hC.ext hx6
  replace hx := hx.trans hx6
  refine Sl ?_
  apply LW.nil; apply QW.then_n
  apply CW.seq
  refine CW.cut (ι := Nat) (fun k w' => Ext w w' ∧ Blk w' R (refL refZ) 35 ∧ Blk w' C [str (candS s), .int .i64 0, .int .i64 0, .bool (Lib.hasPrefix (candR s) [36]), .bool (Lib.hasPrefix (cand2 s) [36])] 35 ∧ k ≤ s.length ∧ s.drop k = cand3 s)
    (fun k => [(0, str s), (2, .pointer (some ⟨R, 0, none⟩)), (3, .bool false), (4, .pointer (some ⟨C, 0, none⟩)), (7, .int .i64 k), (8, .int .i64 ((readCol (spanL capB (cand1 s))).getD 0)), (9, .bool (readCol (spanL capB (cand1 s))).isSome)]) ?_ ?_
  · refine Sa ?_
    refine LW.part rfl rfl rfl (fun h1 => ?_) (fun h1 => ?_)
    · have h1 : k < s.length := by simpa using h1
      refine Sa ?_
      refine CW.cond rfl (fun h2 => ?_) (fun h2 => ?_)
      · have h2 : byte s k = 36 := by simpa using h2
        have e1 : 0 < (cand2 s).length ∧ byte (cand2 s) 0 = 36 := ⟨by omega, by rw [← hdk, byte_drop]; exact h2⟩
        refine Sa ?_
        (apply LW.store; exact rfl; exact rfl; exact rfl; assumption; exact rfl; exact rfl; exact rfl; intro w7 hc7 hC7)
        replace hR := hR.chg hc7 (by simp; omega)
        replace hx := hx.step hc7 (by simp; omega)
        refine Sa ?_
        refine QW.head (k + 1) ⟨hx, hR, ?_, by omega, ?_⟩ (Sub.cons rfl (Sub.cons rfl (Sub.cons rfl (Sub.cons rfl (Sub.cons rfl (Sub.cons rfl (Sub.cons rfl (Sub.nil))))))))
        · rw [pre36 (cand2 s), decide_eq_true e1]; exact hC7
        · rw [cand3, trim36, if_pos e1, ← hdk, List.drop_drop]
      · have h2 : byte s k ≠ 36 := by simpa using h2
        have e1 : ¬ (0 < (cand2 s).length ∧ byte (cand2 s) 0 = 36) := by
          rintro ⟨_, h⟩
          rw [← hdk, byte_drop] at h
          exact h2 h
        refine Sa ?_
        refine QW.head k ⟨hx, hR, ?_, hk, ?_⟩ (Sub.cons rfl (Sub.cons rfl (Sub.cons rfl (Sub.cons rfl (Sub.cons rfl (Sub.cons rfl (Sub.cons rfl (Sub.nil))))))))
        · rw [pre36 (cand2 s), decide_eq_false e1]; exact hC
        · rw [cand3, trim36, if_neg e1, hdk]
    · have h1 : k = s.length := by simp at h1; omega
      have e1 : ¬ (0 < (cand2 s).length ∧ byte (cand2 s) 0 = 36) := by
        rintro ⟨h, _⟩; omega
      refine Sa ?_
      refine QW.head k ⟨hx, hR, ?_, hk, ?_⟩ (Sub.cons rfl (Sub.cons rfl (Sub.cons rfl (Sub.cons rfl (Sub.cons rfl (Sub.cons rfl (Sub.cons rfl (Sub.nil))))))))
      · rw [pre36 (cand2 s), decide_eq_false e1]; exact hC
      · rw [cand3, trim36, if_neg e1, hdk]
  clear hx hR hC hak hk hck hdk hl2 hx6 k ha had a
  rintro k w7 ⟨hx, hR, hC, hk, hdk⟩
  have hl3 : (cand3 s).length = s.length - k := by rw [← hdk]; simp
  apply CW.seq; apply CW.region
  refine Sl ?_
  apply LW.nil; apply QW.then_n
  apply CW.seq; apply CW.seq; apply CW.region
  refine Sl ?_
  apply LW.nil; apply QW.then_n
  refine CW.cut (ι := Unit) (fun _ w' => Ext w w' ∧ Blk w' R (refL refZ) 35 ∧ Blk w' C [str (candS s), .int .i64 0, .int .i64 0, .bool (Lib.hasPrefix (candR s) [36]), .bool (Lib.hasPrefix (cand2 s) [36])] 35 ∧ 0 ≤ numT 0 ((cand3 s).take 4) ∧ numT 0 ((cand3 s).take 4) ≤ 10000)
    (fun _ => [(0, str s), (2, .pointer (some ⟨R, 0, none⟩)), (3, .bool false), (4, .pointer (some ⟨C, 0, none⟩)), (8, .int .i64 ((readCol (spanL capB (cand1 s))).getD 0)), (9, .bool (readCol (spanL capB (cand1 s))).isSome), (10, .int .i64 (numT 0 ((cand3 s).take 4)))]) ?_ ?_
  · refine Sa ?_
    refine CW.loop (ι := Nat) (fun i w' => i ≤ 4 ∧ k + i ≤ s.length ∧ Ext w w' ∧ Blk w' R (refL refZ) 35 ∧ Blk w' C [str (candS s), .int .i64 0, .int .i64 0, .bool (Lib.hasPrefix (candR s) [36]), .bool (Lib.hasPrefix (cand2 s) [36])] 35 ∧ ∀ j, j < i → digB (byte (cand3 s) j) = true)
      (fun i => [(0, str s), (2, .pointer (some ⟨R, 0, none⟩)), (3, .bool false), (4, .pointer (some ⟨C, 0, none⟩)), (7, .int .i64 k), (8, .int .i64 ((readCol (spanL capB (cand1 s))).getD 0)), (9, .bool (readCol (spanL capB (cand1 s))).isSome), (10, .int .i64 (numT 0 ((cand3 s).take i))), (11, .int .i64 ((k + i : Nat) : Int))]) (fun i => 4 - i) 0 ⟨by omega, hk, hx, hR, hC, by omega⟩ (Sub.cons rfl (Sub.cons rfl (Sub.cons rfl (Sub.cons rfl (Sub.cons rfl (Sub.cons rfl (Sub.cons rfl (Sub.cons rfl (Sub.cons rfl (Sub.nil)))))))))) ?_
    clear hx hR hC
    rintro i w8 ⟨hi, hki, hx, hR, hC, hall⟩
    have hnb := num_bound ((cand3 s).take i) (fun j hj => by
      have hji : j < i := by simp at hj; omega
      have hjl : j < (cand3 s).length := by omega
      have := hall j hji
      have e : byte ((cand3 s).take i) j = byte (cand3 s) j := by
        unfold byte
        rw [List.getD_eq_getElem?_getD, List.getD_eq_getElem?_getD, List.getElem?_take, if_pos hji]
      rw [e]; exact this)
    have hnl : ((cand3 s).take i).length = i := by simp; omega
    rw [hnl] at hnb
    have hpw : (10 : Int) ^ i ≤ 10000 := by
      have : i = 0 ∨ i = 1 ∨ i = 2 ∨ i = 3 ∨ i = 4 := by omega
      rcases this with rfl | rfl | rfl | rfl | rfl <;> decide
    have fin : (k + i = s.length ∨ i = 4) → (cand3 s).take i = (cand3 s).take 4 := fun h => by
      rcases h with h | h
      · rw [List.take_of_length_le (by omega), List.take_of_length_le (by omega)]
      · rw [h]
    refine Sa ?_
    refine LW.part rfl rfl rfl (fun h1 => ?_) (fun h1 => ?_)
    · have h1 : k + i < s.length := by simp at h1; omega
      refine Sa ?_
      refine CW.cond rfl (fun h2 => ?_) (fun h2 => ?_)
      · have h2 : i < 4 := by simp at h2; omega
        refine Sa ?_
        refine LW.call0 rfl rfl (rdigit_ret _ _) ?_
        rintro v w9 ⟨rfl, hx9⟩
        replace hR := hR.ext hx9
        replace hC := hC.ext hx9
        replace hx := hx.trans hx9
        have hbi : byte (cand3 s) i = byte s (k + i) := by rw [← hdk, byte_drop]
        have hbl := byte_lt s (k + i)
        refine Sa ?_
        refine CW.cond rfl (fun h3 => ?_) (fun h3 => ?_)
        · have h3 : digB (byte (cand3 s) i) = false := by
            have h3 : (!digB (byte s (k + i))) = true := h3
            rw [hbi]; simpa using h3
          refine Sa ?_
          (apply LW.store_all; exact rfl; exact rfl; exact rfl; assumption; exact rfl; exact rfl; exact rfl; intro w10 hc10 hR10)
          refine Sa ?_
          refine QW.body_ct Tryz.results123 rfl hR10 rfl rfl rfl rfl ⟨?_, hx.step hc10 (by simp; omega)⟩
          rw [no_at (not_digit (by omega) h3)]
          rfl
        · have h3 : digB (byte (cand3 s) i) = true := by
            have h3 : (!digB (byte s (k + i))) = false := h3
            rw [hbi]; simpa using h3
          have h4 : 48 ≤ byte s (k + i) ∧ byte s (k + i) ≤ 57 := by rw [hbi] at h3; simpa [digB] using h3
          have e4 : byte s ((k + i : Nat) : Int).toNat = byte s (k + i) := rfl
          refine Sa ?_
          have hil : i < (cand3 s).length := by omega
          have e5 : numT 0 ((cand3 s).take (i + 1)) = 10 * numT 0 ((cand3 s).take i) + (byte s (k + i) - 48) := by
            rw [take_snoc' hil, numT_snoc, ← byte_eq hil, hbi]
          refine QW.again (i + 1) ⟨by omega, by omega, hx, hR, hC, ?_⟩ (Sub.cons rfl (Sub.cons rfl (Sub.cons rfl (Sub.cons rfl (Sub.cons rfl (Sub.cons rfl (Sub.cons rfl (Sub.cons (by rw [e5]; exact rfl) (Sub.cons rfl Sub.nil))))))))) (by omega)
          intro j hj
          by_cases hjk : j = i
          · subst hjk; exact h3
          · exact hall j (by omega)
      · have h2 : i = 4 := by simp at h2; omega
        subst h2
        refine Sa ?_
        exact QW.head () ⟨hx, hR, hC, hnb.1, by omega⟩ (Sub.cons rfl (Sub.cons rfl (Sub.cons rfl (Sub.cons rfl (Sub.cons rfl (Sub.cons rfl (Sub.cons rfl (Sub.nil))))))))
    · have h1 : k + i = s.length := by simp at h1; omega
      have e6 := fin (Or.inl h1)
      rw [e6] at hnb
      refine Sa ?_
      refine QW.head () ⟨hx, hR, hC, hnb.1, by omega⟩ (Sub.cons rfl (Sub.cons rfl (Sub.cons rfl (Sub.cons rfl (Sub.cons rfl (Sub.cons rfl (Sub.cons (by rw [← e6]; exact rfl) Sub.nil)))))))
  clear hx hR hC hk hdk hl3 k
  rintro _ w8 ⟨hx, hR, hC, hn0, hn1⟩
  have hl6 : (candS s).length ≤ 1000 := by
    unfold candS; split
    · exact Nat.le_trans (cut_len1 s [33]) hs
    · simp
  refine Sa ?_
  (apply LW.store; exact rfl; exact rfl; exact rfl; assumption; exact rfl; exact rfl; exact rfl; intro w9 hc9 hC)
  replace hR := hR.chg hc9 (by simp; omega)
  replace hx := hx.step hc9 (by simp; omega)
  refine Sa ?_
  (apply LW.store; exact rfl; exact rfl; exact rfl; assumption; exact rfl; exact rfl; exact rfl; intro w10 hc10 hC)
  replace hR := hR.chg hc10 (by simp; omega)
  replace hx := hx.step hc10 (by simp; omega)
  replace hC : Blk w10 C (refL (rcand s)) 35 := hC
  have bad : (mayB (rcand s) = false ∨ textT (rcand s) ≠ s ∨ (readCol (spanL capB (cand1 s))).isSome = false) → okRead s = false := fun h => read_no fun r hr e => by
    obtain ⟨e1, e2⟩ := cand_is hr e
    rcases h with h | h | h
    · rw [e1, hr] at h; cases h
    · rw [e1, textT, if_pos hr] at h; exact h e
    · rw [e2] at h; cases h
  refine Sa ?_
  cases hrc : (readCol (spanL capB (cand1 s))).isSome with
  | false =>
    have hbad := bad (Or.inr (Or.inr hrc))
    refine Sa ?_
    (apply LW.store_all; exact rfl; exact rfl; exact rfl; assumption; exact rfl; exact rfl; exact rfl; intro w20 hc20 hR20)
    refine Sa ?_
    refine QW.body_ct Tryz.results123 rfl hR20 rfl rfl rfl rfl ⟨?_, hx.step hc20 (by simp; omega)⟩
    rw [no_at hbad]
    rfl
  | true =>
    refine Sa ?_
    refine LW.call0 rfl rfl (rMay_ret (rcand s) (Nat.le_trans hl6 (by omega)) w10) ?_
    rintro v w11 ⟨rfl, hx11⟩
    replace hR := hR.ext hx11
    replace hC := hC.ext hx11
    replace hx := hx.trans hx11
    cases hm : mayB (rcand s) with
    | false =>
      have hbad := bad (Or.inl hm)
      refine Sa ?_
      (apply LW.store_all; exact rfl; exact rfl; exact rfl; assumption; exact rfl; exact rfl; exact rfl; intro w20 hc20 hR20)
      refine Sa ?_
      refine QW.body_ct Tryz.results123 rfl hR20 rfl rfl rfl rfl ⟨?_, hx.step hc20 (by simp; omega)⟩
      rw [no_at hbad]
      rfl
    | true =>
      refine Sa ?_
      refine LW.call0 rfl rfl (RefText_ret (rcand s) hl6 w11) ?_
      rintro v w12 ⟨rfl, hx12⟩
      replace hR := hR.ext hx12
      replace hC := hC.ext hx12
      replace hx := hx.trans hx12
      refine Sa ?_
      refine CW.cond rfl (fun h1 => ?_) (fun h1 => ?_)
      · have h1 : textT (rcand s) ≠ s := by simpa using h1
        have hbad := bad (Or.inr (Or.inl h1))
        refine Sa ?_
        (apply LW.store_all; exact rfl; exact rfl; exact rfl; assumption; exact rfl; exact rfl; exact rfl; intro w20 hc20 hR20)
        refine Sa ?_
        refine QW.body_ct Tryz.results123 rfl hR20 rfl rfl rfl rfl ⟨?_, hx.step hc20 (by simp; omega)⟩
        rw [no_at hbad]
        rfl
      · have h1 : textT (rcand s) = s := by simpa using h1
        refine Sa ?_
        (apply LW.store_all; exact rfl; exact rfl; exact rfl; assumption; exact rfl; exact rfl; exact rfl; intro w20 hc20 hR20)
        refine Sa ?_
        refine QW.body_ct Tryz.results123 rfl hR20 rfl rfl rfl rfl ⟨?_, hx.step hc20 (by simp; omega)⟩
        rw [textT, if_pos hm] at h1
        obtain ⟨e1, e2⟩ := read_text hm
        rw [h1] at e1 e2
        rw [readV, if_pos e1, e2]
        rfl
end Go.Proofs.YtiloogjageledaaGreatDoor
