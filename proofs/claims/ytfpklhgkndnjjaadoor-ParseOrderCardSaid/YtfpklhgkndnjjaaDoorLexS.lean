/-
  Plain laws of texts between signs: no program in sight.
-/
import Derived.Test.YtfpklhgkndnjjaaDoorLexP
namespace Go.Proofs.YtfpklhgkndnjjaaDoor
open Go Go.E

theorem drop_at {s : List UInt8} {i : Nat} (h : i < s.length) : ∃ c, s.drop i = c :: s.drop (i + 1) ∧ byte s i = (c.toNat : Int) :=
  ⟨s[i], List.drop_eq_getElem_cons h, byte_eq h⟩
theorem u8_34 {c : UInt8} (h : (c.toNat : Int) = 34) : c = 34 := UInt8.toNat_inj.1 (by simpa using (by omega : c.toNat = 34))
theorem u8_ne34 {c : UInt8} (h : (c.toNat : Int) ≠ 34) : c ≠ 34 := by
  rintro rfl
  exact h rfl
theorem u8_lt32 {c : UInt8} (h : (c.toNat : Int) < 32) : c < 32 := UInt8.lt_iff_toNat_lt.2 (by simpa using (by omega : c.toNat < 32))
theorem u8_ge32 {c : UInt8} (h : ¬ (c.toNat : Int) < 32) : ¬ c < 32 := fun hh => h (by have := UInt8.lt_iff_toNat_lt.1 hh; simp at this; omega)

theorem scan_end {s : List UInt8} {i : Nat} (h : s.length ≤ i) : scanT (s.drop i) = none := by
  rw [List.drop_eq_nil_of_le h]; rfl
theorem scan_two {s : List UInt8} {i : Nat} (h : i + 1 < s.length) (h1 : byte s i = 34) (h2 : byte s (i + 1) = 34) : scanT (s.drop i) = (scanT (s.drop (i + 2))).map fun x => (34 :: x.1, x.2 + 2) := by
  obtain ⟨c, e, hc⟩ := drop_at (show i < s.length by omega)
  obtain ⟨d, e2, hd⟩ := drop_at h
  rw [e, e2]
  obtain rfl := u8_34 (hc.symm.trans h1)
  obtain rfl := u8_34 (hd.symm.trans h2)
  simp [scanT]
theorem scan_quote {s : List UInt8} {i : Nat} (h : i < s.length) (h1 : byte s i = 34) (h2 : i + 1 < s.length → byte s (i + 1) ≠ 34) : scanT (s.drop i) = some ([], 1) := by
  obtain ⟨c, e, hc⟩ := drop_at h
  rw [e]
  obtain rfl := u8_34 (hc.symm.trans h1)
  by_cases hl : i + 1 < s.length
  · obtain ⟨d, e2, hd⟩ := drop_at hl
    rw [e2]
    have := u8_ne34 (c := d) (by rw [← hd]; exact h2 hl)
    simp [scanT, this]
  · rw [List.drop_eq_nil_of_le (by omega)]
    simp [scanT]
theorem scan_low {s : List UInt8} {i : Nat} (h : i < s.length) (h1 : byte s i < 32) : scanT (s.drop i) = none := by
  obtain ⟨c, e, hc⟩ := drop_at h
  rw [e]
  have h3 := u8_lt32 (c := c) (by rw [← hc]; exact h1)
  have h4 := u8_ne34 (c := c) (by omega)
  cases s.drop (i + 1) with
  | nil => simp [scanT, h4]
  | cons d r => simp [scanT, h4, h3]
theorem scan_go {s : List UInt8} {i : Nat} (h : i < s.length) (h1 : byte s i ≠ 34) (h2 : ¬ byte s i < 32) : scanT (s.drop i) = (scanT (s.drop (i + 1))).map fun x => (ch (byte s i) :: x.1, x.2 + 1) := by
  obtain ⟨c, e, hc⟩ := drop_at h
  rw [e]
  have h3 := u8_ge32 (c := c) (by rw [← hc]; exact h2)
  have h4 := u8_ne34 (c := c) (by rw [← hc]; exact h1)
  have h5 : ch (byte s i) = c := by rw [hc]; simp [ch]
  rw [h5]
  cases s.drop (i + 1) with
  | nil => simp [scanT, h4]
  | cons d r => simp [scanT, h4, h3]

/-- What has been gone through, and what is left. -/
def ScanAt (s : List UInt8) (a i : Nat) (out : List UInt8) : Prop := a ≤ i ∧ scanT (s.drop a) = (scanT (s.drop i)).map fun x => (out ++ x.1, x.2 + (i - a))
theorem ScanAt.start (s : List UInt8) (a : Nat) : ScanAt s a a [] := ⟨Nat.le_refl _, by simp⟩
theorem ScanAt.go {s : List UInt8} {a i j : Nat} {out : List UInt8} {c : UInt8} (h : ScanAt s a i out) (hj : i ≤ j) (e : scanT (s.drop i) = (scanT (s.drop j)).map fun x => (c :: x.1, x.2 + (j - i))) : ScanAt s a j (out ++ [c]) := by
  refine ⟨by have := h.1; omega, ?_⟩
  rw [h.2, e, Option.map_map]
  congr 1
  funext x
  have := h.1
  simp
  omega
end Go.Proofs.YtfpklhgkndnjjaaDoor
