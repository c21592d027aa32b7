/-
  Plain laws of letters, names, columns: no program in sight.
-/
import Derived.Test.YtfpklhgkndnjjaaDoorEng
import Derived.Lib.ItoaNum
import Derived.Lib.Strings
import Derived.Lib.IndexMore
import Derived.Lib.AtoiAll
namespace Go.Proofs.YtfpklhgkndnjjaaDoor
open Go Go.E

def capB (c : Int) : Bool := decide (65 ≤ c) && decide (c ≤ 90)
def digB (c : Int) : Bool := decide (48 ≤ c) && decide (c ≤ 57)
def letB (c : Int) : Bool := capB c || (decide (97 ≤ c) && decide (c ≤ 122))
/-- A letter or a digit. -/
def ldB (c : Int) : Bool := letB c || digB c

def nameB (l : List UInt8) : Bool := decide (l ≠ []) && decide (l.length ≤ 12) && letB (byte l 0) && decide (∀ j, j < l.length → ldB (byte l j) = true)

theorem nameB_nil : nameB [] = false := rfl
theorem nameB_long {l : List UInt8} (h : 12 < l.length) : nameB l = false := by simp [nameB]; intros; omega
theorem nameB_first {l : List UInt8} (h : letB (byte l 0) = false) : nameB l = false := by simp [nameB, h]
theorem nameB_at {l : List UInt8} {k : Nat} (hk : k < l.length) (h : ldB (byte l k) = false) : nameB l = false := by
  simp only [nameB, Bool.and_eq_false_iff, decide_eq_false_iff_not]
  exact Or.inr fun hh => by rw [hh k hk] at h; cases h
theorem nameB_true {l : List UInt8} (h0 : l ≠ []) (h1 : l.length ≤ 12) (h2 : letB (byte l 0) = true) (h3 : ∀ j, j < l.length → ldB (byte l j) = true) : nameB l = true := by
  simp [nameB, h0, h1, h2]
  exact h3

def colT (n : Int) : List UInt8 :=
  if n < 0 ∨ 701 < n then [] else if n < 26 then [ch (65 + n)] else [ch (65 + n / 26 - 1), ch (65 + n % 26)]

/-- A column's number, of its letters. -/
def readCol (l : List UInt8) : Option Int :=
  match l with
  | [_] => if capB (byte l 0) then some (byte l 0 - 65) else none
  | [_, _] => if capB (byte l 0) && capB (byte l 1) then some ((byte l 0 - 65 + 1) * 26 + (byte l 1 - 65)) else none
  | _ => none
def readColV (l : List UInt8) : Value := match readCol l with
  | some n => .tuple #[.int .i64 n, .bool true]
  | none => .tuple #[.int .i64 0, .bool false]

/-- A reference, as data. -/
structure RefD where
  sheet : List UInt8
  col : Int
  row : Int
  ac : Bool
  ar : Bool
deriving DecidableEq

def refL (x : RefD) : List Value := [str x.sheet, .int .i64 x.col, .int .i64 x.row, .bool x.ac, .bool x.ar]
def refV (x : RefD) : Value := .agg ⟨[str x.sheet, .int .i64 x.col, .int .i64 x.row, .bool x.ac, .bool x.ar]⟩

def mayB (x : RefD) : Bool := (decide (x.sheet = []) || nameB x.sheet) && decide (0 ≤ x.col) && decide (x.col ≤ 701) && decide (0 ≤ x.row) && decide (x.row ≤ 998)

def markT (b : Bool) : List UInt8 := if b then [36] else []

/-- A reference's text, where it may be. -/
def textB (x : RefD) : List UInt8 := (if x.sheet = [] then [] else x.sheet ++ [33]) ++ (markT x.ac ++ colT x.col ++ markT x.ar ++ Lib.itoa (x.row + 1))
def textT (x : RefD) : List UInt8 := if mayB x then textB x else []

/-- As far as the bytes are of a kind. -/
def spanL (p : Int → Bool) (s : List UInt8) : List UInt8 := s.takeWhile fun c => p c.toNat
def restL (p : Int → Bool) (s : List UInt8) : List UInt8 := s.dropWhile fun c => p c.toNat

theorem span_at (p : Int → Bool) : ∀ (s : List UInt8) (k : Nat), k ≤ s.length → (∀ j, j < k → p (byte s j) = true) → (k = s.length ∨ p (byte s k) = false) → s.take k = spanL p s ∧ s.drop k = restL p s
  | [], k, hk, _, _ => by simp [spanL, restL]
  | c :: s, 0, _, _, h => by
    rcases h with h | h
    · simp at h
    · have hc : p (c.toNat : Int) = false := h
      simp [spanL, restL, hc]
  | c :: s, k + 1, hk, hall, h => by
    have hc : p (c.toNat : Int) = true := hall 0 (by omega)
    have ih := span_at p s k (by simpa using hk) (fun j hj => hall (j + 1) (by omega)) (by
      rcases h with h | h
      · exact Or.inl (by simpa using h)
      · exact Or.inr h)
    simp [spanL, restL, hc] at ih ⊢
    exact ih

theorem cut_head (s : List UInt8) (k : Nat) : cut s 0 k = s.take k := by simp [cut]
theorem cut_tail (s : List UInt8) (k : Nat) : cut s k s.length = s.drop k := by
  unfold cut; exact List.take_of_length_le (by simp)

/-- What Read makes of a text's parts. -/
def candS (s : List UInt8) : List UInt8 := if (Lib.cut s [33]).2.2 then (Lib.cut s [33]).1 else []
def candR (s : List UInt8) : List UInt8 := if (Lib.cut s [33]).2.2 then (Lib.cut s [33]).2.1 else s
def cand1 (s : List UInt8) : List UInt8 := Lib.trimPrefix (candR s) [36]
def cand2 (s : List UInt8) : List UInt8 := restL capB (cand1 s)
def cand3 (s : List UInt8) : List UInt8 := Lib.trimPrefix (cand2 s) [36]

theorem spanL_length (p : Int → Bool) (s : List UInt8) : (spanL p s).length ≤ s.length := by
  unfold spanL; exact (List.takeWhile_sublist _).length_le
theorem restL_length (p : Int → Bool) (s : List UInt8) : (restL p s).length ≤ s.length := by
  unfold restL; exact (List.dropWhile_sublist _).length_le
theorem trimPrefix_length (s p : List UInt8) : (Lib.trimPrefix s p).length ≤ s.length := by
  unfold Lib.trimPrefix; split <;> simp
theorem cut_len1 (s p : List UInt8) : (Lib.cut s p).1.length ≤ s.length := by
  unfold Lib.cut; split <;> simp
  omega
theorem cut_len2 (s p : List UInt8) : (Lib.cut s p).2.1.length ≤ s.length := by
  unfold Lib.cut; split <;> simp

theorem colT_length (n : Int) : (colT n).length ≤ 2 := by
  unfold colT; split
  · simp
  · split <;> simp
theorem markT_length (b : Bool) : (markT b).length ≤ 1 := by cases b <;> simp [markT]

end Go.Proofs.YtfpklhgkndnjjaaDoor
