/-
  Plain: what is kept stays.
-/
import Derived.Test.YtiloogjageledaaGreatDoorCellM
namespace Go.Proofs.YtiloogjageledaaGreatDoor
open Go Go.E

theorem numT_ge : ∀ (r : List UInt8) (x : Int), 0 ≤ x → (∀ c ∈ r, digB (c.toNat : Int) = true) → x ≤ numT x r
  | [], x, _, _ => by simp [numT]
  | c :: r, x, hx, hd => by
    have hc := hd c (by simp)
    simp only [digB, Bool.and_eq_true, decide_eq_true_eq] at hc
    have ih := numT_ge r (10 * x + ((c.toNat : Int) - 48)) (by omega) (fun d h => hd d (by simp [h]))
    have e : numT x (c :: r) = numT (10 * x + ((c.toNat : Int) - 48)) r := rfl
    rw [e]
    omega
theorem uint_ok : ∀ (l : List UInt8) (acc : Nat), (∀ c ∈ l, digB (c.toNat : Int) = true) → numT (acc : Int) l ≤ 9223372036854775808 → Lib.parseUint10 acc l = .ok (numT (acc : Int) l).toNat
  | [], acc, _, _ => by simp [Lib.parseUint10, numT]
  | c :: r, acc, hd, hb => by
    have hc := hd c (by simp)
    simp only [digB, Bool.and_eq_true, decide_eq_true_eq] at hc
    have hdr : ∀ d ∈ r, digB (d.toNat : Int) = true := fun d h => hd d (by simp [h])
    have e : numT (acc : Int) (c :: r) = numT (((acc * 10 + (c.toNat - 48) : Nat)) : Int) r := by
      have e1 : numT (acc : Int) (c :: r) = numT (10 * (acc : Int) + ((c.toNat : Int) - 48)) r := rfl
      rw [e1]
      congr 1
      omega
    rw [e] at hb ⊢
    have hge := numT_ge r (((acc * 10 + (c.toNat - 48) : Nat)) : Int) (by omega) hdr
    rw [Lib.parseUint10, if_pos (by omega), if_neg (by omega), if_neg (by omega)]
    exact uint_ok r _ hdr hb
theorem mag_ok {u : Nat} (h : u ≤ 9223372036854775808) : Lib.parseMag (Lib.decDigits u) = .ok u := by
  obtain ⟨d1, d2, d3, _⟩ := dec_facts u u (Nat.le_refl _)
  rw [Lib.parseMag, if_neg d2, uint_ok _ 0 d1 (by rw [show ((0 : Nat) : Int) = 0 from rfl, d3]; omega), show ((0 : Nat) : Int) = 0 from rfl, d3]
  simp
theorem dig_bytes {l : List UInt8} (h : ∀ c ∈ l, digB (c.toNat : Int) = true) {j : Nat} (hj : j < l.length) : digB (byte l j) = true := by
  rw [byte_eq hj]
  exact h _ (List.getElem_mem hj)
theorem numC_itoa {n : Int} (h0 : -9223372036854775808 ≤ n) (h1 : n ≤ 9223372036854775807) : numC (Lib.itoa n) = some n ∧ Lib.itoa n ≠ [] ∧ (byte (Lib.itoa n) 0 = 45 ∨ 48 ≤ byte (Lib.itoa n) 0 ∧ byte (Lib.itoa n) 0 ≤ 57) := by
  by_cases hn : 0 ≤ n
  · obtain ⟨d1, d2, d3, _⟩ := dec_facts n.toNat n.toNat (Nat.le_refl _)
    rw [itoa_nat hn]
    have hl := List.length_pos_iff.2 d2
    have hb := dig_bytes d1 hl
    have hb' := hb
    simp only [digB, Bool.and_eq_true, decide_eq_true_eq] at hb'
    have hD : allD (Lib.decDigits n.toNat) = true := by
      simp only [allD, decide_eq_true_eq]
      exact fun j hj _ => dig_bytes d1 hj
    refine ⟨?_, d2, .inr hb'⟩
    have hm := mag_ok (u := n.toNat) (by omega)
    have ha : Lib.atoiAll (Lib.decDigits n.toNat) = .ok n := by
      cases hd : Lib.decDigits n.toNat with
      | nil => exact absurd hd d2
      | cons c r =>
        rw [hd] at hm hb'
        have hc : byte (c :: r) 0 = (c.toNat : Int) := rfl
        rw [hc] at hb'
        simp only [Lib.atoiAll]
        rw [if_neg (by omega), hm]
        have h45 : ¬ c.toNat = 45 := by omega
        simp only [h45, not_false_eq_true, true_and, false_and, if_false]
        rw [if_neg (by omega)]
        congr 1
        omega
    rw [numC, hD, ha]
    rfl
  · have e : Lib.itoa n = 45 :: Lib.decDigits (-n).toNat := by
      unfold Lib.itoa
      rw [if_pos (by omega), show n.natAbs = (-n).toNat by omega]
    obtain ⟨d1, d2, d3, _⟩ := dec_facts (-n).toNat (-n).toNat (Nat.le_refl _)
    have hb : byte (45 :: Lib.decDigits (-n).toNat) 0 = 45 := rfl
    have hat : atN (45 :: Lib.decDigits (-n).toNat) = 1 := by unfold atN; rw [hb]; simp
    have hD : allD (45 :: Lib.decDigits (-n).toNat) = true := by
      simp only [allD, decide_eq_true_eq]
      intro j hj h1
      rw [hat] at h1
      match j, h1 with
      | j + 1, _ => exact dig_bytes d1 (j := j) (by simpa using hj)
    have hm := mag_ok (u := (-n).toNat) (by omega)
    have ha : Lib.atoiAll (45 :: Lib.decDigits (-n).toNat) = .ok n := by
      simp only [Lib.atoiAll]
      rw [if_pos (by decide), hm]
      simp only
      rw [if_neg (by simp), if_neg (by intro h; omega), if_pos (by decide)]
      congr 1
      omega
    rw [e]
    refine ⟨?_, by simp, .inl hb⟩
    rw [numC, hD, ha]
    rfl
theorem norm_keeps {t : List UInt8} (hl : t.length ≤ 100) (h : t = [] ∨ byte t 0 = 39) : normC t = (t, 0) ∧ mayC t = true :=
  ⟨by rw [normC, if_neg (by omega), if_pos h], by rw [mayC, if_neg (by omega), if_pos h]⟩
theorem norm_stays (s : List UInt8) : ((normC s).2 ≠ 0 → (normC s).1 = []) ∧ ((normC s).2 = 0 → normC (normC s).1 = ((normC s).1, 0) ∧ mayC (normC s).1 = true ∧ (normC s).1.length ≤ 100 ∧ ((normC s).1 = [] ∨ byte (normC s).1 0 = 39 ∨ byte (normC s).1 0 = 61 ∨ byte (normC s).1 0 = 45 ∨ 48 ≤ byte (normC s).1 0 ∧ byte (normC s).1 0 ≤ 57)) := by
  have hnil : ∀ e : Int, (e ≠ 0 → ([] : List UInt8) = []) ∧ (e = 0 → normC [] = ([], 0) ∧ mayC [] = true ∧ ([] : List UInt8).length ≤ 100 ∧ (([] : List UInt8) = [] ∨ byte [] 0 = 39 ∨ byte [] 0 = 61 ∨ byte [] 0 = 45 ∨ 48 ≤ byte [] 0 ∧ byte [] 0 ≤ 57)) := fun e => ⟨fun _ => rfl, fun _ => ⟨(norm_keeps (by simp) (.inl rfl)).1, (norm_keeps (by simp) (.inl rfl)).2, by simp, .inl rfl⟩⟩
  by_cases h1 : 100 < s.length
  · have e : normC s = ([], 4) := by rw [normC, if_pos h1]
    rw [e]
    exact hnil 4
  by_cases h2 : s = [] ∨ byte s 0 = 39
  · have e : normC s = (s, 0) := by rw [normC, if_neg h1, if_pos h2]
    rw [e]
    refine ⟨fun h => absurd rfl h, fun _ => ⟨e, (norm_keeps (by omega) h2).2, by simp only; omega, ?_⟩⟩
    rcases h2 with h | h
    · exact .inl h
    · exact .inr (.inl h)
  by_cases h3 : byte s 0 = 61
  · cases hp : parseT (s.drop 1) with
    | error e =>
      have e1 : normC s = ([], e) := by rw [normC, if_neg h1, if_neg h2, if_pos h3, hp]
      rw [e1]
      exact hnil e
    | ok l =>
      by_cases h4 : 100 < (printT l).length + 1
      · have e1 : normC s = ([], 4) := by rw [normC, if_neg h1, if_neg h2, if_pos h3, hp]; simp only [if_pos h4]
        rw [e1]
        exact hnil 4
      · have e1 : normC s = (61 :: printT l, 0) := by rw [normC, if_neg h1, if_neg h2, if_pos h3, hp]; simp only [if_neg h4]
        rw [e1]
        have hpp := (print_parse hp).1
        have hd : (61 :: printT l).drop 1 = printT l := rfl
        have hlen : (61 :: printT l).length = (printT l).length + 1 := rfl
        have hb : byte (61 :: printT l) 0 = 61 := rfl
        refine ⟨fun h => absurd rfl h, fun _ => ⟨?_, ?_, by simp only [hlen]; omega, .inr (.inr (.inl hb))⟩⟩
        · simp only
          rw [normC, if_neg (by omega), if_neg (by rw [hb]; simp), if_pos hb, hd, hpp]
          simp only [if_neg h4]
        · simp only
          rw [mayC, if_neg (by omega), if_neg (by rw [hb]; simp), if_pos hb, hd, hpp]
          simp
  cases hn : numC s with
  | some n =>
    have e1 : normC s = (Lib.itoa n, 0) := by rw [normC, if_neg h1, if_neg h2, if_neg h3, hn]
    rw [e1]
    obtain ⟨b0, b1⟩ := numC_bound hn
    obtain ⟨c1, c2, c3⟩ := numC_itoa b0 b1
    have hlen := Lib.itoa_length_le n b0 b1
    have n39 : ¬ (Lib.itoa n = [] ∨ byte (Lib.itoa n) 0 = 39) := by
      rintro (h | h)
      · exact c2 h
      · omega
    refine ⟨fun h => absurd rfl h, fun _ => ⟨?_, ?_, by simp only; omega, by simp only; omega⟩⟩
    · simp only
      rw [normC, if_neg (by omega), if_neg n39, if_neg (by omega), c1]
    · simp only
      rw [mayC, if_neg (by omega), if_neg n39, if_neg (by omega), c1]
      simp
  | none =>
    by_cases h5 : 100 ≤ s.length
    · have e1 : normC s = ([], 4) := by rw [normC, if_neg h1, if_neg h2, if_neg h3, hn]; simp only [if_pos h5]
      rw [e1]
      exact hnil 4
    · have e1 : normC s = (39 :: s, 0) := by rw [normC, if_neg h1, if_neg h2, if_neg h3, hn]; simp only [if_neg h5]
      rw [e1]
      have hk := norm_keeps (t := 39 :: s) (by simp; omega) (.inr rfl)
      exact ⟨fun h => absurd rfl h, fun _ => ⟨hk.1, hk.2, by simp; omega, .inr (.inl rfl)⟩⟩
end Go.Proofs.YtiloogjageledaaGreatDoor
