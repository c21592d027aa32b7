/-
  Plain laws of tokens: no program in sight.
-/
import Derived.Test.YtfpklhgkndnjjaaDoorAddrC
namespace Go.Proofs.YtfpklhgkndnjjaaDoor
open Go Go.E

def begB (c : Int) : Bool := capB c || (decide (97 ≤ c) && decide (c ≤ 122)) || decide (c = 36)
def wiB (c : Int) : Bool := begB c || digB c || decide (c = 33)
def spB (c : Int) : Bool := decide (c = 32)
/-- A capital or a digit. -/
def cdB (c : Int) : Bool := capB c || digB c
/-- The name of a function. -/
def fnB (l : List UInt8) : Bool := decide (l ≠ []) && decide (l.length ≤ 12) && capB (byte l 0) && decide (∀ j, j < l.length → cdB (byte l j) = true)

theorem fnB_nil : fnB [] = false := rfl
theorem fnB_long {l : List UInt8} (h : 12 < l.length) : fnB l = false := by simp [fnB]; intros; omega
theorem fnB_first {l : List UInt8} (h : capB (byte l 0) = false) : fnB l = false := by simp [fnB, h]
theorem fnB_at {l : List UInt8} {k : Nat} (hk : k < l.length) (h : cdB (byte l k) = false) : fnB l = false := by
  simp only [fnB, Bool.and_eq_false_iff, decide_eq_false_iff_not]
  exact Or.inr fun hh => by rw [hh k hk] at h; cases h
theorem fnB_true {l : List UInt8} (h0 : l ≠ []) (h1 : l.length ≤ 12) (h2 : capB (byte l 0) = true) (h3 : ∀ j, j < l.length → cdB (byte l j) = true) : fnB l = true := by
  simp [fnB, h0, h1, h2]
  exact h3

/-- A token, as data. -/
structure TokD where
  kind : Int
  text : List UInt8
  num : Int
  ref : RefD
  at_ : Int
deriving DecidableEq
def tokL (x : TokD) : List Value := [.int .i64 x.kind, str x.text, .int .i64 x.num, str x.ref.sheet, .int .i64 x.ref.col, .int .i64 x.ref.row, .bool x.ref.ac, .bool x.ref.ar, .int .i64 x.at_]
def refN : RefD := ⟨[], 0, 0, false, false⟩

theorem byte_drop' (l : List UInt8) (a k : Nat) : byte (l.drop a) k = byte l (a + k) := by
  simp [byte, List.getD_eq_getElem?_getD, List.getElem?_drop]

theorem cut_mid {s : List UInt8} {a k : Nat} : cut s a k = (s.take k).drop a := by rw [cut, List.drop_take]

/-- From a place on, as far as the bytes are of a kind. -/
theorem span_from (p : Int → Bool) (s : List UInt8) (a k : Nat) (ha : a ≤ k) (hk : k ≤ s.length) (hall : ∀ j, a ≤ j → j < k → p (byte s j) = true) (h : k = s.length ∨ p (byte s k) = false) :
    (s.take k).drop a = spanL p (s.drop a) ∧ k = a + (spanL p (s.drop a)).length := by
  have := span_at p (s.drop a) (k - a) (by simp; omega) (fun j hj => by rw [byte_drop']; exact hall _ (by omega) (by omega)) (by
    rcases h with h | h
    · exact Or.inl (by simp; omega)
    · exact Or.inr (by rw [byte_drop', show a + (k - a) = k by omega]; exact h))
  have e : (s.take k).drop a = (s.drop a).take (k - a) := by rw [List.drop_take]
  have h2 := congrArg List.length this.1
  rw [e, this.1]
  refine ⟨rfl, ?_⟩
  rw [← h2]
  simp
  omega

/-- What each reader makes of what stands ahead of it: a token, and of how many bytes; or none. -/
def numO (l : List UInt8) : Option (TokD × Nat) :=
  let sp := spanL digB l
  match Lib.atoiAll sp with
  | .ok z => if byte sp 0 ≠ 48 ∨ sp.length = 1 then some (⟨1, [], z, refN, 0⟩, sp.length) else none
  | _ => none
def wordO (l : List UInt8) : Option (TokD × Nat) :=
  let sp := spanL wiB l
  if okRead sp then some (⟨4, [], 0, candV sp, 0⟩, sp.length) else if fnB sp then some (⟨3, sp, 0, refN, 0⟩, sp.length) else none
def deadT : List UInt8 := [35, 82, 69, 70, 33]
def signsT : List (List UInt8) := [[60, 62], [60, 61], [62, 61], [43], [45], [42], [47], [38], [61], [60], [62], [40], [41], [44], [58]]
def signO (l : List UInt8) : Option (TokD × Nat) :=
  if Lib.hasPrefix l deadT then some (⟨6, [], 0, refN, 0⟩, 5) else (signsT.find? fun s => Lib.hasPrefix l s).map fun s => (⟨5, s, 0, refN, 0⟩, s.length)
def scanT : List UInt8 → Option (List UInt8 × Nat)
  | [] => none
  | [c] => if c = 34 then some ([], 1) else none
  | c :: d :: r =>
    if c = 34 then (if d = 34 then (scanT r).map fun x => (34 :: x.1, x.2 + 2) else some ([], 1))
    else if c < 32 then none else (scanT (d :: r)).map fun x => (c :: x.1, x.2 + 1)
def textO (l : List UInt8) : Option (TokD × Nat) := (scanT (l.drop 1)).map fun x => (⟨2, x.1, 0, refN, 0⟩, x.2 + 1)
def oneO (l : List UInt8) : Option (TokD × Nat) :=
  if digB (byte l 0) then numO l else if byte l 0 = 34 then textO l else if begB (byte l 0) then wordO l else signO l

theorem numO_ok {l : List UInt8} {z : Int} (h : Lib.atoiAll (spanL digB l) = .ok z) : numO l = if byte (spanL digB l) 0 ≠ 48 ∨ (spanL digB l).length = 1 then some (⟨1, [], z, refN, 0⟩, (spanL digB l).length) else none := by
  simp only [numO, h]
theorem numO_bad {l : List UInt8} (h : ∀ z, Lib.atoiAll (spanL digB l) ≠ .ok z) : numO l = none := by
  unfold numO
  cases e : Lib.atoiAll (spanL digB l) with
  | ok z => exact absurd e (h z)
  | _ => simp only [e]
theorem find_first {α : Type} (p : α → Bool) (d : α) : ∀ (l : List α) (k : Nat), k < l.length → (∀ j, j < k → p (l.getD j d) = false) → p (l.getD k d) = true → l.find? p = some (l.getD k d)
  | [], k, hk, _, _ => by simp at hk
  | x :: r, 0, _, _, h => by
    have h : p x = true := h
    simp [List.find?, h]
  | x :: r, k + 1, hk, hn, h => by
    have h0 : p x = false := hn 0 (by omega)
    have ih := find_first p d r k (by simpa using hk) (fun j hj => hn (j + 1) (by omega)) h
    simp only [List.find?, h0]
    exact ih
theorem find_none {α : Type} (p : α → Bool) (d : α) : ∀ (l : List α), (∀ j, j < l.length → p (l.getD j d) = false) → l.find? p = none
  | [], _ => rfl
  | x :: r, hn => by
    have h0 : p x = false := hn 0 (by simp)
    simp only [List.find?, h0]
    exact find_none p d r (fun j hj => hn (j + 1) (by simp; omega))
theorem pre_le {s p : List UInt8} (h : Lib.hasPrefix s p = true) : p.length ≤ s.length := (List.isPrefixOf_iff_prefix.1 h).length_le
theorem span_pos {p : Int → Bool} {l : List UInt8} (hl : 0 < l.length) (h : p (byte l 0) = true) : 0 < (spanL p l).length ∧ byte (spanL p l) 0 = byte l 0 := by
  cases l with
  | nil => simp at hl
  | cons c r =>
    have hc : p (c.toNat : Int) = true := h
    simp [spanL, hc]
    rfl
theorem span_le (p : Int → Bool) (l : List UInt8) : (spanL p l).length ≤ l.length := (List.takeWhile_prefix _).length_le
end Go.Proofs.YtfpklhgkndnjjaaDoor
