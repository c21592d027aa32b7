/-
  Plain laws of digits: what they spell, whoever reads them. No program in sight.
-/
import Derived.Test.YtfpklhgkndnjjaaDoorLexQ
import Derived.Test.YtfpklhgkndnjjaaDoorRefB
import Derived.Lib.AtoiAllCases
namespace Go.Proofs.YtfpklhgkndnjjaaDoor
open Go Go.E

theorem numT_cons (acc : Int) (c : UInt8) (r : List UInt8) : numT acc (c :: r) = numT (10 * acc + ((c.toNat : Int) - 48)) r := rfl
theorem numT_mono : ∀ (l : List UInt8) (acc : Int), 0 ≤ acc → (∀ c ∈ l, 48 ≤ c.toNat) → acc ≤ numT acc l
  | [], acc, _, _ => Int.le_refl _
  | c :: r, acc, h, hd => by
    rw [numT_cons]
    have hc := hd c (by simp)
    have := numT_mono r (10 * acc + ((c.toNat : Int) - 48)) (by omega) (fun x hx => hd x (by simp [hx]))
    omega
theorem parse_digits : ∀ (l : List UInt8) (acc : Nat), acc < 18446744073709551616 → (∀ c ∈ l, 48 ≤ c.toNat ∧ c.toNat ≤ 57) →
    Lib.parseUint10 acc l = if numT acc l < 18446744073709551616 then .ok (numT acc l).toNat else .range
  | [], acc, h, _ => by
    have : numT acc [] = acc := rfl
    simp only [Lib.parseUint10, this]
    rw [if_pos (by omega)]
    rfl
  | c :: r, acc, h, hd => by
    have hc := hd c (by simp)
    have hr : ∀ x ∈ r, 48 ≤ x.toNat ∧ x.toNat ≤ 57 := fun x hx => hd x (by simp [hx])
    have e : (10 * (acc : Int) + ((c.toNat : Int) - 48)) = ((acc * 10 + (c.toNat - 48) : Nat) : Int) := by omega
    have hm := numT_mono r (10 * (acc : Int) + ((c.toNat : Int) - 48)) (by omega) (fun x hx => (hr x hx).1)
    simp only [Lib.parseUint10]
    rw [if_pos hc, numT_cons]
    split
    · rw [if_neg (by omega)]
    · split
      · rw [if_neg (by omega)]
      · rw [parse_digits r _ (by omega) hr, e]
theorem atoi_digits {l : List UInt8} (h : l ≠ []) (hd : ∀ c ∈ l, digB (c.toNat : Int) = true) : Lib.atoiAll l = if numT 0 l ≤ 9223372036854775807 then .ok (numT 0 l) else .range := by
  have hd' : ∀ c ∈ l, 48 ≤ c.toNat ∧ c.toNat ≤ 57 := fun c hc => by
    have := hd c hc
    simp [digB] at this
    omega
  have hp := parse_digits l 0 (by omega) hd'
  have hm := numT_mono l 0 (by omega) (fun c hc => (hd' c hc).1)
  cases l with
  | nil => exact absurd rfl h
  | cons c r =>
    have hc := hd' c (by simp)
    rw [Lib.atoiAll_plain c r (by omega) (by omega)]
    have e : Lib.parseMag (c :: r) = Lib.parseUint10 0 (c :: r) := by simp [Lib.parseMag]
    rw [e, hp]
    simp only [Int.natCast_zero] at *
    by_cases h1 : numT 0 (c :: r) < 18446744073709551616
    · rw [if_pos h1]
      simp only [Lib.signless]
      by_cases h2 : numT 0 (c :: r) ≤ 9223372036854775807
      · rw [if_pos h2, if_neg (by omega)]
        congr 1
        omega
      · rw [if_neg h2, if_pos (by omega)]
    · rw [if_neg h1, if_neg (by omega)]
      rfl
theorem span_all (p : Int → Bool) : ∀ (l : List UInt8), ∀ c ∈ spanL p l, p (c.toNat : Int) = true
  | [], c, hc => by simp [spanL] at hc
  | d :: r, c, hc => by
    have ih := span_all p r
    simp only [spanL] at hc ih
    cases hd : p (d.toNat : Int)
    · simp [hd] at hc
    · simp only [List.takeWhile_cons, hd, if_true, List.mem_cons] at hc
      rcases hc with rfl | hc
      · exact hd
      · exact ih c hc
theorem numO_is {l : List UInt8} (h : spanL digB l ≠ []) : numO l = if numT 0 (spanL digB l) ≤ 9223372036854775807 ∧ (byte (spanL digB l) 0 ≠ 48 ∨ (spanL digB l).length = 1) then some (⟨1, [], numT 0 (spanL digB l), refN, 0⟩, (spanL digB l).length) else none := by
  have ha := atoi_digits h (span_all digB l)
  by_cases h1 : numT 0 (spanL digB l) ≤ 9223372036854775807
  · rw [if_pos h1] at ha
    rw [numO_ok ha]
    simp only [h1, true_and]
  · rw [if_neg h1] at ha
    rw [numO_bad (by intro z hz; rw [ha] at hz; cases hz), if_neg (by intro hh; exact h1 hh.1)]
end Go.Proofs.YtfpklhgkndnjjaaDoor
