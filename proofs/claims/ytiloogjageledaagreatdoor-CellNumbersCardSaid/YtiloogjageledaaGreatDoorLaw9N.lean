/-
  Walks: the law CellNumbers.
-/
import Derived.Test.YtiloogjageledaaGreatDoorCellP
import Derived.Test.YtiloogjageledaaGreatDoorLaw9L
import Derived.Test.YtiloogjageledaaGreatDoorEngI
namespace Go.Proofs.YtiloogjageledaaGreatDoor
open Go Go.E

theorem Digits_neg (m : Nat) (h0 : 1 ≤ m) (h1 : m ≤ 9223372036854775808) (w : World) : Ret Tryz.prog 35 [.int .i64 (-(m : Int))] w (fun v w' => v = str (45 :: Lib.decDigits m) ∧ Ext w w') := by
  have hlen : (Lib.decDigits m).length ≤ 21 := by
    have := Lib.itoa_length_le (-(m : Int)) (by omega) (by omega)
    unfold Lib.itoa at this
    rw [if_pos (by omega), show (-(m : Int)).natAbs = m by omega] at this
    simp at this
    omega
  refine Ret.enter Tryz.func35 rfl Tryz.ntmps35 (by kernel_rfl) rfl ?_
  refine Sa ?_
  refine LW.conv (z := 18446744073709551616 - (m : Int)) rfl rfl rfl rfl rfl (by simp [IntKind.wrap, IntKind.bits, IntKind.signed]; omega) rfl ?_
  refine Sa ?_
  refine CW.yes rfl (decide_eq_true (show -(m : Int) < 0 by omega)) ?_
  refine Sa ?_
  refine LW.neg (z := (m : Int)) rfl (by simp [IntKind.wrap, IntKind.bits, IntKind.signed]; omega) rfl ?_
  refine Sa ?_
  refine CW.loop (ι := Nat × List UInt8) (fun i w' => i.1 ≤ m ∧ Ext w w' ∧ Lib.decDigits m = Lib.decDigits i.1 ++ i.2) (fun i => [(0, .int .i64 (-(m : Int))), (3, .int .u64 (i.1 : Int)), (4, str i.2)]) (fun i => i.1) (m, []) ⟨by simp, Chg.refl _ _, by simp⟩ (Sub.cons rfl (Sub.cons rfl (Sub.cons rfl (Sub.nil)))) ?_
  rintro ⟨u, acc⟩ w1 ⟨hu, hx, hd⟩
  simp only at hu hd
  have hal : acc.length ≤ 21 := by
    have := congrArg List.length hd
    rw [List.length_append] at this
    omega
  refine Sa ?_
  refine CW.cond rfl (fun h2 => ?_) (fun h2 => ?_)
  · have h2 : 10 ≤ u := by simp at h2; omega
    refine Sa ?_
    (apply LW.buildSlice; exact rfl; exact rfl; exact rfl; exact rfl; exact rfl; exact rfl; exact rfl; exact rfl; exact rfl; intro b w2 hb hx2 hB)
    replace hB : Blk w2 b [.int .u8 (48 + (u : Int) % 10)] 5 := hB
    replace hx := hx.trans hx2
    refine Sa ?_
    refine QW.again (u / 10, [ch (48 + (u : Int) % 10)] ++ acc) ⟨?_, hx, ?_⟩ (Sub.cons rfl (Sub.cons rfl (Sub.cons rfl (Sub.nil)))) ?_
    · simp only; omega
    · simp only; rw [hd, decDigits_big h2]; simp
    · simp only; omega
  · have h2 : u < 10 := by simp at h2; omega
    refine Sa ?_
    (apply LW.buildSlice; exact rfl; exact rfl; exact rfl; exact rfl; exact rfl; exact rfl; exact rfl; exact rfl; exact rfl; intro b w2 hb hx2 hB)
    replace hB : Blk w2 b [.int .u8 (48 + (u : Int))] 5 := hB
    replace hx := hx.trans hx2
    refine Sa ?_
    refine CW.yes rfl (decide_eq_true (show -(m : Int) < 0 by omega)) ?_
    refine Sa ?_
    refine QW.body1 Tryz.results35 rfl ⟨?_, hx⟩
    rw [hd, decDigits_small h2]
    rfl
theorem itoa_neg (m : Nat) (h0 : 1 ≤ m) : Lib.itoa (-(m : Int)) = 45 :: Lib.decDigits m := by
  unfold Lib.itoa
  rw [if_pos (by omega), show (-(m : Int)).natAbs = m by omega]
theorem Digits_all (n : Int) (h0 : -9223372036854775808 ≤ n) (h1 : n ≤ 9223372036854775807) (w : World) : Ret Tryz.prog 35 [.int .i64 n] w (fun v w' => v = str (Lib.itoa n) ∧ Ext w w') := by
  by_cases hn : 0 ≤ n
  · exact Digits_ret n hn h1 w
  · obtain ⟨m, rfl⟩ : ∃ m : Nat, n = -(m : Int) := ⟨n.natAbs, by omega⟩
    rw [itoa_neg m (by omega)]
    exact Digits_neg m (by omega) (by omega) w

/-! ### Noughts ahead -/

abbrev nough (k : Nat) : List UInt8 := List.replicate k 48
theorem numT_nough (k : Nat) (l : List UInt8) : numT 0 (nough k ++ l) = numT 0 l := by
  induction k with
  | zero => rfl
  | succ k ih => rw [nough, List.replicate_succ]; exact ih
/-- A number's digits with noughts ahead, a sign ahead of all. -/
def padT (k : Nat) (n : Int) : List UInt8 := if n < 0 then 45 :: (nough k ++ Lib.decDigits (-n).toNat) else nough k ++ Lib.decDigits n.toNat
theorem nough_dig {k : Nat} {u : Nat} : ∀ c ∈ nough k ++ Lib.decDigits u, digB (c.toNat : Int) = true := fun c hc => by
  rcases List.mem_append.1 hc with hc | hc
  · rw [List.eq_of_mem_replicate hc]; decide
  · exact (dec_facts u u (Nat.le_refl _)).1 c hc
theorem mag_pad {k u : Nat} (h : u ≤ 9223372036854775808) : Lib.parseMag (nough k ++ Lib.decDigits u) = .ok u := by
  obtain ⟨d1, d2, d3, _⟩ := dec_facts u u (Nat.le_refl _)
  have hne : nough k ++ Lib.decDigits u ≠ [] := by simp [d2]
  have hv : numT 0 (nough k ++ Lib.decDigits u) = u := by rw [numT_nough, d3]
  rw [Lib.parseMag, if_neg hne, uint_ok _ 0 nough_dig (by rw [show ((0 : Nat) : Int) = 0 from rfl, hv]; omega), show ((0 : Nat) : Int) = 0 from rfl, hv]
  simp
theorem numC_pad {k : Nat} {n : Int} (h0 : -9223372036854775808 ≤ n) (h1 : n ≤ 9223372036854775807) : numC (padT k n) = some n ∧ padT k n ≠ [] ∧ byte (padT k n) 0 ≠ 39 ∧ byte (padT k n) 0 ≠ 61 := by
  by_cases hn : 0 ≤ n
  · rw [padT, if_neg (by omega)]
    obtain ⟨d1, d2, d3, _⟩ := dec_facts n.toNat n.toNat (Nat.le_refl _)
    have hne : nough k ++ Lib.decDigits n.toNat ≠ [] := by simp [d2]
    have hl := List.length_pos_iff.2 hne
    have hb := dig_bytes nough_dig hl
    simp only [digB, Bool.and_eq_true, decide_eq_true_eq] at hb
    have hD : allD (nough k ++ Lib.decDigits n.toNat) = true := by
      simp only [allD, decide_eq_true_eq]
      exact fun j hj _ => dig_bytes nough_dig hj
    refine ⟨?_, hne, by omega, by omega⟩
    have hm := mag_pad (k := k) (u := n.toNat) (by omega)
    have ha : Lib.atoiAll (nough k ++ Lib.decDigits n.toNat) = .ok n := by
      cases hd : nough k ++ Lib.decDigits n.toNat with
      | nil => exact absurd hd hne
      | cons c r =>
        rw [hd] at hm hb
        have hc : byte (c :: r) 0 = (c.toNat : Int) := rfl
        rw [hc] at hb
        simp only [Lib.atoiAll]
        rw [if_neg (by omega), hm]
        have h45 : ¬ c.toNat = 45 := by omega
        simp only [h45, not_false_eq_true, true_and, false_and, if_false]
        rw [if_neg (by omega)]
        congr 1
        omega
    rw [numC, hD, ha]
    rfl
  · rw [padT, if_pos (by omega)]
    have hb : byte (45 :: (nough k ++ Lib.decDigits (-n).toNat)) 0 = 45 := rfl
    have hat : atN (45 :: (nough k ++ Lib.decDigits (-n).toNat)) = 1 := by unfold atN; rw [hb]; simp
    have hD : allD (45 :: (nough k ++ Lib.decDigits (-n).toNat)) = true := by
      simp only [allD, decide_eq_true_eq]
      intro j hj h1
      rw [hat] at h1
      match j, h1 with
      | j + 1, _ => exact dig_bytes nough_dig (j := j) (by simpa using hj)
    have hm := mag_pad (k := k) (u := (-n).toNat) (by omega)
    have ha : Lib.atoiAll (45 :: (nough k ++ Lib.decDigits (-n).toNat)) = .ok n := by
      simp only [Lib.atoiAll]
      rw [if_pos (by decide), hm]
      simp only
      rw [if_neg (by simp), if_neg (by intro h; omega), if_pos (by decide)]
      congr 1
      omega
    refine ⟨?_, by simp, by rw [hb]; decide, by rw [hb]; decide⟩
    rw [numC, hD, ha]
    rfl
theorem dec_len {u : Nat} (h : u ≤ 9223372036854775808) : (Lib.decDigits u).length ≤ 21 := by
  by_cases h0 : u = 0
  · subst h0; decide +kernel
  · have := Lib.itoa_length_le (-(u : Int)) (by omega) (by omega)
    rw [itoa_neg u (by omega)] at this
    simp at this
    omega
theorem pad_len {k : Nat} {n : Int} (hk : k ≤ 20) (h0 : -9223372036854775808 ≤ n) (h1 : n ≤ 9223372036854775807) : (padT k n).length ≤ 60 := by
  unfold padT
  split
  · have := dec_len (u := (-n).toNat) (by omega)
    simp
    omega
  · have := dec_len (u := n.toNat) (by omega)
    simp
    omega
theorem norm_pad {k : Nat} {n : Int} (hk : k ≤ 20) (h0 : -9223372036854775808 ≤ n) (h1 : n ≤ 9223372036854775807) : normC (padT k n) = (Lib.itoa n, 0) := by
  obtain ⟨a, b, c, d⟩ := numC_pad (k := k) h0 h1
  have := pad_len hk h0 h1
  rw [normC, if_neg (by omega), if_neg (by rintro (h | h); exact b h; exact c h), if_neg d, a]
theorem norm_big : normC [57, 50, 50, 51, 51, 55, 50, 48, 51, 54, 56, 53, 52, 55, 55, 53, 56, 48, 56] = ([39, 57, 50, 50, 51, 51, 55, 50, 48, 51, 54, 56, 53, 52, 55, 55, 53, 56, 48, 56], 0) := by
  have h : numC [57, 50, 50, 51, 51, 55, 50, 48, 51, 54, 56, 53, 52, 55, 55, 53, 56, 48, 56] = none := by decide +kernel
  rw [normC, if_neg (by decide), if_neg (by decide), if_neg (by decide), h]
  rfl
theorem vNum_ret (n : Int) (w : World) : Ret Tryz.prog 84 [.int .i64 n] w (fun v w' => v = .agg ⟨[.int .i64 1, .int .i64 n, str []]⟩ ∧ Ext w w') := by
  refine Ret.enter Tryz.func84 rfl Tryz.ntmps84 (by kernel_rfl) rfl ?_
  refine Sa ?_
  (apply LW.alloc; exact rfl; exact rfl; exact rfl; intro A w1 hbA hx1 hA)
  refine Sa ?_
  (apply LW.store_all; exact rfl; exact rfl; exact rfl; assumption; exact rfl; exact rfl; exact rfl; intro w2 hc2 hA)
  replace hA : Blk w2 A [.int .i64 1, .int .i64 n, str []] 49 := hA
  refine Sa ?_
  exact QW.body_c Tryz.results84 rfl hA rfl rfl rfl ⟨rfl, hx1.step hc2 (by simp; omega)⟩
theorem Plain_num (n : Int) (h0 : -9223372036854775808 ≤ n) (h1 : n ≤ 9223372036854775807) (w : World) (g : Glob w) : Ret Tryz.prog 36 [str (Lib.itoa n)] w (fun v w' => v = .agg ⟨[.int .i64 1, .int .i64 n, str []]⟩ ∧ Ext w w') := by
  obtain ⟨c1, c2, c3⟩ := numC_itoa h0 h1
  have hlen := Lib.itoa_length_le n h0 h1
  have hl := List.length_pos_iff.2 c2
  generalize hS : Lib.itoa n = S at *
  refine Ret.enter Tryz.func36 rfl Tryz.ntmps36 (by kernel_rfl) rfl ?_
  refine Sa ?_
  (apply LW.alloc; exact rfl; exact rfl; exact rfl; intro A w1 hbA hx1 hA)
  refine Sa ?_
  refine CW.no rfl (decide_eq_false c2) ?_
  refine Sa ?_
  refine CW.no rfl (decide_eq_false (show ¬ byte S 0 = 39 by omega)) ?_
  refine Sa ?_
  refine LW.call0 rfl rfl (cnumber_ret S (by omega) w1 (g.ext hx1)) ?_
  rintro v w2 ⟨⟨z, rfl, hz⟩, hx2⟩
  obtain rfl := hz n c1
  rw [c1]
  replace hA := hA.ext hx2
  have hx2' := hx1.trans hx2
  refine Sa ?_
  refine LW.know (t := 22) (c := true) rfl rfl ?_
  refine Sa ?_
  refine LW.call0 rfl rfl (Itoa_ret z h0 h1 w2 (g.ext hx2')) ?_
  rw [hS]
  rintro v w3 ⟨rfl, hx3⟩
  replace hA := hA.ext hx3
  have hx3' := hx2'.trans hx3
  refine Sa ?_
  refine CW.yes rfl (decide_eq_true rfl) ?_
  refine Sa ?_
  refine LW.call0 rfl rfl (vNum_ret z w3) ?_
  rintro v w4 ⟨rfl, hx4⟩
  replace hA := hA.ext hx4
  have hx4' := hx3'.trans hx4
  have hz1 := hx1.size
  refine Sa ?_
  (apply LW.store_all; exact rfl; exact rfl; exact rfl; assumption; exact rfl; exact rfl; exact rfl; intro w5 hc5 hA)
  replace hA : Blk w5 A [.int .i64 1, .int .i64 z, str []] 49 := hA
  refine Sa ?_
  exact QW.body_c Tryz.results36 rfl hA rfl rfl rfl ⟨rfl, hx4'.step hc5 (by simp; omega)⟩

set_option maxHeartbeats 4000000 in
theorem CellNumbers_ret (n : Int) (h0 : -9223372036854775808 ≤ n) (h1 : n ≤ 9223372036854775807) (x : Int) (hx0 : 0 ≤ x) (hx1 : x ≤ 255) (w : World) (g : Glob w) : Ret Tryz.prog 11 [.int .i64 n, .int .u8 x] w (fun v w' => v = .bool true ∧ Ext w w') := by
  obtain ⟨K, hK⟩ : ∃ K : Nat, (K : Int) = x % 20 := ⟨(x % 20).toNat, by omega⟩
  have hK20 : K ≤ 20 := by omega
  have hlen := Lib.itoa_length_le n h0 h1
  have hnp := norm_pad (k := K) hK20 h0 h1
  refine Ret.enter Tryz.func11 rfl Tryz.ntmps11 (by kernel_rfl) rfl ?_
  refine Sa ?_
  refine LW.call0 rfl rfl (Digits_all n h0 h1 w) ?_
  rintro v w1 ⟨rfl, hw1⟩
  refine Sa ?_
  refine CW.cond rfl (fun a1 => ?_) (fun a1 => ?_)
  · have a1 : n < 0 := by simpa using a1
    have hdl := dec_len (u := (-n).toNat) (by omega)
    have ei : Lib.itoa n = 45 :: Lib.decDigits (-n).toNat := by
      obtain ⟨m, rfl⟩ : ∃ m : Nat, n = -(m : Int) := ⟨n.natAbs, by omega⟩
      rw [itoa_neg m (by omega), show (-(-(m : Int))).toNat = m by omega]
    have eil : (Lib.itoa n).length = (Lib.decDigits (-n).toNat).length + 1 := by rw [ei]; rfl
    have ec : cut (Lib.itoa n) (1 : Int).toNat (((Lib.itoa n).length : Nat) : Int).toNat = nough 0 ++ Lib.decDigits (-n).toNat := by
      have := cut_tail (Lib.itoa n) 1
      rw [ei] at this ⊢
      exact this
    rw [padT, if_pos a1] at hnp
    refine Sz ?_
    rw [ec]
    generalize Lib.decDigits (-n).toNat = E at *
    refine Sa ?_
    refine CW.loop (ι := Nat) (fun k w' => k ≤ K ∧ Ext w w') (fun k => [(0, .int .i64 n), (1, .int .u8 x), (5, str (Lib.itoa n)), (6, .bool (decide (n < 0))), (7, str (nough k ++ E)), (8, .int .i64 (k : Int))]) (fun k => K - k) 0 ⟨by omega, hw1⟩ (Sub.cons rfl (Sub.cons rfl (Sub.cons rfl (Sub.cons rfl (Sub.cons rfl (Sub.cons rfl (Sub.nil))))))) ?_
    rintro k w2 ⟨hk, hw2⟩
    have hnl : (nough k).length = k := by simp
    refine Sa ?_
    refine CW.cond rfl (fun b1 => ?_) (fun b1 => ?_)
    · have b1 : k < K := by simp at b1; omega
      refine Sa ?_
      have e : [48] ++ (nough k ++ E) = nough (k + 1) ++ E := by simp [nough, List.replicate_succ]
      rw [e]
      exact QW.again (k + 1) ⟨b1, hw2⟩ (Sub.cons rfl (Sub.cons rfl (Sub.cons rfl (Sub.cons rfl (Sub.cons rfl (Sub.cons rfl (Sub.nil))))))) (by omega)
    have b1 : k = K := by simp at b1; omega
    subst b1
    refine Sa ?_
    refine CW.yes rfl (decide_eq_true a1) ?_
    refine Sa ?_
    refine LW.call0 rfl rfl (Norm_ret (45 :: (nough k ++ E)) (by simp; omega) w2 (g.ext hw2)) ?_
    rw [hnp]
    rintro v w3 ⟨rfl, hx3⟩
    have hw3 := hw2.trans hx3
    refine Sa ?_
    refine LW.call0 rfl rfl (Plain_num n h0 h1 w3 (g.ext hw3)) ?_
    rintro v w4 ⟨rfl, hx4⟩
    have hw4 := hw3.trans hx4
    refine Sa ?_
    (apply LW.alloc; exact rfl; exact rfl; exact rfl; intro V w5 hbV hx5 hV)
    have hz4 := hw4.size
    refine Sa ?_
    (apply LW.store_all; exact rfl; exact rfl; exact rfl; assumption; exact rfl; exact rfl; exact rfl; intro w6 hc6 hV)
    replace hV : Blk w6 V [.int .i64 1, .int .i64 n, str []] 49 := hV
    have hw6 : Ext w w6 := (hw4.trans hx5).step hc6 (by simp; omega)
    refine Sa ?_
    refine LW.call0 rfl rfl (Norm_ret [57, 50, 50, 51, 51, 55, 50, 48, 51, 54, 56, 53, 52, 55, 55, 53, 56, 48, 56] (by simp) w6 (g.ext hw6)) ?_
    rw [norm_big]
    rintro v w7 ⟨rfl, hx7⟩
    replace hV := hV.ext hx7
    have hw7 := hw6.trans hx7
    refine Sa ?_
    refine LW.call0 rfl rfl (Num_ret 0 w7) ?_
    rintro v w8 ⟨rfl, hx8⟩
    replace hV := hV.ext hx8
    have hw8 := hw7.trans hx8
    refine Sa ?_
    refine LW.know (t := 48) (c := true) rfl rfl ?_
    refine Sa ?_
    refine LW.know (t := 53) (c := true) rfl (by simp) ?_
    refine Sa ?_
    refine LW.know (t := 58) (c := true) rfl rfl ?_
    refine Sa ?_
    refine LW.know (t := 64) (c := true) rfl (by simp) ?_
    refine Sa ?_
    refine LW.call0 rfl rfl (Num_ret 0 w8) ?_
    rintro v w9 ⟨rfl, hx9⟩
    have hw9 := hw8.trans hx9
    refine Sa ?_
    refine LW.know (t := 69) (c := true) rfl rfl ?_
    refine Sa ?_
    refine LW.know (t := 73) (c := true) rfl rfl ?_
    refine Sa ?_
    refine LW.call0 rfl rfl (awake9_ret w9 (g.ext hw9)) ?_
    rintro v w10 ⟨rfl, hx10⟩
    refine Sa ?_
    exact QW.body1 Tryz.results11 rfl ⟨rfl, hw9.trans hx10⟩
  · have a1 : ¬ n < 0 := by simpa using a1
    rw [padT, if_neg a1, ← itoa_nat (by omega)] at hnp
    refine Sa ?_
    refine CW.loop (ι := Nat) (fun k w' => k ≤ K ∧ Ext w w') (fun k => [(0, .int .i64 n), (1, .int .u8 x), (5, str (Lib.itoa n)), (6, .bool (decide (n < 0))), (7, str (nough k ++ Lib.itoa n)), (8, .int .i64 (k : Int))]) (fun k => K - k) 0 ⟨by omega, hw1⟩ (Sub.cons rfl (Sub.cons rfl (Sub.cons rfl (Sub.cons rfl (Sub.cons rfl (Sub.cons rfl (Sub.nil))))))) ?_
    rintro k w2 ⟨hk, hw2⟩
    have hnl : (nough k).length = k := by simp
    refine Sa ?_
    refine CW.cond rfl (fun b1 => ?_) (fun b1 => ?_)
    · have b1 : k < K := by simp at b1; omega
      refine Sa ?_
      have e : [48] ++ (nough k ++ Lib.itoa n) = nough (k + 1) ++ Lib.itoa n := by simp [nough, List.replicate_succ]
      rw [e]
      exact QW.again (k + 1) ⟨b1, hw2⟩ (Sub.cons rfl (Sub.cons rfl (Sub.cons rfl (Sub.cons rfl (Sub.cons rfl (Sub.cons rfl (Sub.nil))))))) (by omega)
    have b1 : k = K := by simp at b1; omega
    subst b1
    refine Sa ?_
    refine CW.no rfl (decide_eq_false a1) ?_
    refine Sa ?_
    refine LW.call0 rfl rfl (Norm_ret (nough k ++ Lib.itoa n) (by simp; omega) w2 (g.ext hw2)) ?_
    rw [hnp]
    rintro v w3 ⟨rfl, hx3⟩
    have hw3 := hw2.trans hx3
    refine Sa ?_
    refine LW.call0 rfl rfl (Plain_num n h0 h1 w3 (g.ext hw3)) ?_
    rintro v w4 ⟨rfl, hx4⟩
    have hw4 := hw3.trans hx4
    refine Sa ?_
    (apply LW.alloc; exact rfl; exact rfl; exact rfl; intro V w5 hbV hx5 hV)
    have hz4 := hw4.size
    refine Sa ?_
    (apply LW.store_all; exact rfl; exact rfl; exact rfl; assumption; exact rfl; exact rfl; exact rfl; intro w6 hc6 hV)
    replace hV : Blk w6 V [.int .i64 1, .int .i64 n, str []] 49 := hV
    have hw6 : Ext w w6 := (hw4.trans hx5).step hc6 (by simp; omega)
    refine Sa ?_
    refine LW.call0 rfl rfl (Norm_ret [57, 50, 50, 51, 51, 55, 50, 48, 51, 54, 56, 53, 52, 55, 55, 53, 56, 48, 56] (by simp) w6 (g.ext hw6)) ?_
    rw [norm_big]
    rintro v w7 ⟨rfl, hx7⟩
    replace hV := hV.ext hx7
    have hw7 := hw6.trans hx7
    refine Sa ?_
    refine LW.call0 rfl rfl (Num_ret 0 w7) ?_
    rintro v w8 ⟨rfl, hx8⟩
    replace hV := hV.ext hx8
    have hw8 := hw7.trans hx8
    refine Sa ?_
    refine LW.know (t := 48) (c := true) rfl rfl ?_
    refine Sa ?_
    refine LW.know (t := 53) (c := true) rfl (by simp) ?_
    refine Sa ?_
    refine LW.know (t := 58) (c := true) rfl rfl ?_
    refine Sa ?_
    refine LW.know (t := 64) (c := true) rfl (by simp) ?_
    refine Sa ?_
    refine LW.call0 rfl rfl (Num_ret 0 w8) ?_
    rintro v w9 ⟨rfl, hx9⟩
    have hw9 := hw8.trans hx9
    refine Sa ?_
    refine LW.know (t := 69) (c := true) rfl rfl ?_
    refine Sa ?_
    refine LW.know (t := 73) (c := true) rfl rfl ?_
    refine Sa ?_
    refine LW.call0 rfl rfl (awake9_ret w9 (g.ext hw9)) ?_
    rintro v w10 ⟨rfl, hx10⟩
    refine Sa ?_
    exact QW.body1 Tryz.results11 rfl ⟨rfl, hw9.trans hx10⟩
end Go.Proofs.YtiloogjageledaaGreatDoor
