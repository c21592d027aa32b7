/-
  Plain laws of tokens: no program in sight.
  Plain laws of texts between signs: no program in sight.
  Plain laws of lists of tokens: no program in sight.
  Plain laws of digits: what they spell, whoever reads them. No program in sight.
  Walks: what bytes are of (lex).
  Walks: numbers, words (lex).
  Walks: words, signs (lex).
  Walks: texts between signs (lex).
  Walks: the tokens of a text (lex).
-/
import Derived.Test.YtiloogjageledaaGreatDoorAddr
import Derived.Test.YtiloogjageledaaGreatDoorRef
import Derived.Lib.AtoiAllCases
import Derived.Test.YtiloogjageledaaGreatDoorTab
import Derived.Test.YtiloogjageledaaGreatDoorEngB
namespace Go.Proofs.YtiloogjageledaaGreatDoor
open Go Go.E

def begB (c : Int) : Bool := capB c || (decide (97 ≤ c) && decide (c ≤ 122)) || decide (c = 36)
def wiB (c : Int) : Bool := begB c || digB c || decide (c = 33)
def spB (c : Int) : Bool := decide (c = 32)
/-- A capital or a digit. -/
def cdB (c : Int) : Bool := capB c || digB c
/-- The name of a function. -/
def fnB (l : List UInt8) : Bool := decide (l ≠ []) && decide (l.length ≤ 12) && capB (byte l 0) && decide (∀ j, j < l.length → cdB (byte l j) = true)

theorem fnB_nil : fnB [] = false := rfl
theorem fnB_long {l : List UInt8} (h : 12 < l.length) : fnB l = false := by simp [fnB]; intros; omega
theorem fnB_first {l : List UInt8} (h : capB (byte l 0) = false) : fnB l = false := by simp [fnB, h]
theorem fnB_at {l : List UInt8} {k : Nat} (hk : k < l.length) (h : cdB (byte l k) = false) : fnB l = false := by
  simp only [fnB, Bool.and_eq_false_iff, decide_eq_false_iff_not]
  exact Or.inr fun hh => by rw [hh k hk] at h; cases h
theorem fnB_true {l : List UInt8} (h0 : l ≠ []) (h1 : l.length ≤ 12) (h2 : capB (byte l 0) = true) (h3 : ∀ j, j < l.length → cdB (byte l j) = true) : fnB l = true := by
  simp [fnB, h0, h1, h2]
  exact h3

/-- A token, as data. -/
structure TokD where
  kind : Int
  text : List UInt8
  num : Int
  ref : RefD
  at_ : Int
deriving DecidableEq
def tokL (x : TokD) : List Value := [.int .i64 x.kind, str x.text, .int .i64 x.num, str x.ref.sheet, .int .i64 x.ref.col, .int .i64 x.ref.row, .bool x.ref.ac, .bool x.ref.ar, .int .i64 x.at_]
def refN : RefD := ⟨[], 0, 0, false, false⟩

theorem byte_drop' (l : List UInt8) (a k : Nat) : byte (l.drop a) k = byte l (a + k) := by
  simp [byte, List.getD_eq_getElem?_getD, List.getElem?_drop]

theorem cut_mid {s : List UInt8} {a k : Nat} : cut s a k = (s.take k).drop a := by rw [cut, List.drop_take]

/-- From a place on, as far as the bytes are of a kind. -/
theorem span_from (p : Int → Bool) (s : List UInt8) (a k : Nat) (ha : a ≤ k) (hk : k ≤ s.length) (hall : ∀ j, a ≤ j → j < k → p (byte s j) = true) (h : k = s.length ∨ p (byte s k) = false) :
    (s.take k).drop a = spanL p (s.drop a) ∧ k = a + (spanL p (s.drop a)).length := by
  have := span_at p (s.drop a) (k - a) (by simp; omega) (fun j hj => by rw [byte_drop']; exact hall _ (by omega) (by omega)) (by
    rcases h with h | h
    · exact Or.inl (by simp; omega)
    · exact Or.inr (by rw [byte_drop', show a + (k - a) = k by omega]; exact h))
  have e : (s.take k).drop a = (s.drop a).take (k - a) := by rw [List.drop_take]
  have h2 := congrArg List.length this.1
  rw [e, this.1]
  refine ⟨rfl, ?_⟩
  rw [← h2]
  simp
  omega

/-- What each reader makes of what stands ahead of it: a token, and of how many bytes; or none. -/
def numO (l : List UInt8) : Option (TokD × Nat) :=
  let sp := spanL digB l
  match Lib.atoiAll sp with
  | .ok z => if byte sp 0 ≠ 48 ∨ sp.length = 1 then some (⟨1, [], z, refN, 0⟩, sp.length) else none
  | _ => none
def wordO (l : List UInt8) : Option (TokD × Nat) :=
  let sp := spanL wiB l
  if okRead sp then some (⟨4, [], 0, candV sp, 0⟩, sp.length) else if fnB sp then some (⟨3, sp, 0, refN, 0⟩, sp.length) else none
def deadT : List UInt8 := [35, 82, 69, 70, 33]
def signsT : List (List UInt8) := [[60, 62], [60, 61], [62, 61], [43], [45], [42], [47], [38], [61], [60], [62], [40], [41], [44], [58]]
def signO (l : List UInt8) : Option (TokD × Nat) :=
  if Lib.hasPrefix l deadT then some (⟨6, [], 0, refN, 0⟩, 5) else (signsT.find? fun s => Lib.hasPrefix l s).map fun s => (⟨5, s, 0, refN, 0⟩, s.length)
def scanT : List UInt8 → Option (List UInt8 × Nat)
  | [] => none
  | [c] => if c = 34 then some ([], 1) else none
  | c :: d :: r =>
    if c = 34 then (if d = 34 then (scanT r).map fun x => (34 :: x.1, x.2 + 2) else some ([], 1))
    else if c < 32 then none else (scanT (d :: r)).map fun x => (c :: x.1, x.2 + 1)
def textO (l : List UInt8) : Option (TokD × Nat) := (scanT (l.drop 1)).map fun x => (⟨2, x.1, 0, refN, 0⟩, x.2 + 1)
def oneO (l : List UInt8) : Option (TokD × Nat) :=
  if digB (byte l 0) then numO l else if byte l 0 = 34 then textO l else if begB (byte l 0) then wordO l else signO l

theorem numO_ok {l : List UInt8} {z : Int} (h : Lib.atoiAll (spanL digB l) = .ok z) : numO l = if byte (spanL digB l) 0 ≠ 48 ∨ (spanL digB l).length = 1 then some (⟨1, [], z, refN, 0⟩, (spanL digB l).length) else none := by
  simp only [numO, h]
theorem numO_bad {l : List UInt8} (h : ∀ z, Lib.atoiAll (spanL digB l) ≠ .ok z) : numO l = none := by
  unfold numO
  cases e : Lib.atoiAll (spanL digB l) with
  | ok z => exact absurd e (h z)
  | _ => simp only [e]
theorem find_first {α : Type} (p : α → Bool) (d : α) : ∀ (l : List α) (k : Nat), k < l.length → (∀ j, j < k → p (l.getD j d) = false) → p (l.getD k d) = true → l.find? p = some (l.getD k d)
  | [], k, hk, _, _ => by simp at hk
  | x :: r, 0, _, _, h => by
    have h : p x = true := h
    simp [List.find?, h]
  | x :: r, k + 1, hk, hn, h => by
    have h0 : p x = false := hn 0 (by omega)
    have ih := find_first p d r k (by simpa using hk) (fun j hj => hn (j + 1) (by omega)) h
    simp only [List.find?, h0]
    exact ih
theorem find_none {α : Type} (p : α → Bool) (d : α) : ∀ (l : List α), (∀ j, j < l.length → p (l.getD j d) = false) → l.find? p = none
  | [], _ => rfl
  | x :: r, hn => by
    have h0 : p x = false := hn 0 (by simp)
    simp only [List.find?, h0]
    exact find_none p d r (fun j hj => hn (j + 1) (by simp; omega))
theorem pre_le {s p : List UInt8} (h : Lib.hasPrefix s p = true) : p.length ≤ s.length := (List.isPrefixOf_iff_prefix.1 h).length_le
theorem span_pos {p : Int → Bool} {l : List UInt8} (hl : 0 < l.length) (h : p (byte l 0) = true) : 0 < (spanL p l).length ∧ byte (spanL p l) 0 = byte l 0 := by
  cases l with
  | nil => simp at hl
  | cons c r =>
    have hc : p (c.toNat : Int) = true := h
    simp [spanL, hc]
    rfl
theorem span_le (p : Int → Bool) (l : List UInt8) : (spanL p l).length ≤ l.length := (List.takeWhile_prefix _).length_le
end Go.Proofs.YtiloogjageledaaGreatDoor

namespace Go.Proofs.YtiloogjageledaaGreatDoor
open Go Go.E

theorem drop_at {s : List UInt8} {i : Nat} (h : i < s.length) : ∃ c, s.drop i = c :: s.drop (i + 1) ∧ byte s i = (c.toNat : Int) :=
  ⟨s[i], List.drop_eq_getElem_cons h, byte_eq h⟩
theorem u8_34 {c : UInt8} (h : (c.toNat : Int) = 34) : c = 34 := UInt8.toNat_inj.1 (by simpa using (by omega : c.toNat = 34))
theorem u8_ne34 {c : UInt8} (h : (c.toNat : Int) ≠ 34) : c ≠ 34 := by
  rintro rfl
  exact h rfl
theorem u8_lt32 {c : UInt8} (h : (c.toNat : Int) < 32) : c < 32 := UInt8.lt_iff_toNat_lt.2 (by simpa using (by omega : c.toNat < 32))
theorem u8_ge32 {c : UInt8} (h : ¬ (c.toNat : Int) < 32) : ¬ c < 32 := fun hh => h (by have := UInt8.lt_iff_toNat_lt.1 hh; simp at this; omega)

theorem scan_end {s : List UInt8} {i : Nat} (h : s.length ≤ i) : scanT (s.drop i) = none := by
  rw [List.drop_eq_nil_of_le h]; rfl
theorem scan_two {s : List UInt8} {i : Nat} (h : i + 1 < s.length) (h1 : byte s i = 34) (h2 : byte s (i + 1) = 34) : scanT (s.drop i) = (scanT (s.drop (i + 2))).map fun x => (34 :: x.1, x.2 + 2) := by
  obtain ⟨c, e, hc⟩ := drop_at (show i < s.length by omega)
  obtain ⟨d, e2, hd⟩ := drop_at h
  rw [e, e2]
  obtain rfl := u8_34 (hc.symm.trans h1)
  obtain rfl := u8_34 (hd.symm.trans h2)
  simp [scanT]
theorem scan_quote {s : List UInt8} {i : Nat} (h : i < s.length) (h1 : byte s i = 34) (h2 : i + 1 < s.length → byte s (i + 1) ≠ 34) : scanT (s.drop i) = some ([], 1) := by
  obtain ⟨c, e, hc⟩ := drop_at h
  rw [e]
  obtain rfl := u8_34 (hc.symm.trans h1)
  by_cases hl : i + 1 < s.length
  · obtain ⟨d, e2, hd⟩ := drop_at hl
    rw [e2]
    have := u8_ne34 (c := d) (by rw [← hd]; exact h2 hl)
    simp [scanT, this]
  · rw [List.drop_eq_nil_of_le (by omega)]
    simp [scanT]
theorem scan_low {s : List UInt8} {i : Nat} (h : i < s.length) (h1 : byte s i < 32) : scanT (s.drop i) = none := by
  obtain ⟨c, e, hc⟩ := drop_at h
  rw [e]
  have h3 := u8_lt32 (c := c) (by rw [← hc]; exact h1)
  have h4 := u8_ne34 (c := c) (by omega)
  cases s.drop (i + 1) with
  | nil => simp [scanT, h4]
  | cons d r => simp [scanT, h4, h3]
theorem scan_go {s : List UInt8} {i : Nat} (h : i < s.length) (h1 : byte s i ≠ 34) (h2 : ¬ byte s i < 32) : scanT (s.drop i) = (scanT (s.drop (i + 1))).map fun x => (ch (byte s i) :: x.1, x.2 + 1) := by
  obtain ⟨c, e, hc⟩ := drop_at h
  rw [e]
  have h3 := u8_ge32 (c := c) (by rw [← hc]; exact h2)
  have h4 := u8_ne34 (c := c) (by rw [← hc]; exact h1)
  have h5 : ch (byte s i) = c := by rw [hc]; simp [ch]
  rw [h5]
  cases s.drop (i + 1) with
  | nil => simp [scanT, h4]
  | cons d r => simp [scanT, h4, h3]

/-- What has been gone through, and what is left. -/
def ScanAt (s : List UInt8) (a i : Nat) (out : List UInt8) : Prop := a ≤ i ∧ scanT (s.drop a) = (scanT (s.drop i)).map fun x => (out ++ x.1, x.2 + (i - a))
theorem ScanAt.start (s : List UInt8) (a : Nat) : ScanAt s a a [] := ⟨Nat.le_refl _, by simp⟩
theorem ScanAt.go {s : List UInt8} {a i j : Nat} {out : List UInt8} {c : UInt8} (h : ScanAt s a i out) (hj : i ≤ j) (e : scanT (s.drop i) = (scanT (s.drop j)).map fun x => (c :: x.1, x.2 + (j - i))) : ScanAt s a j (out ++ [c]) := by
  refine ⟨by have := h.1; omega, ?_⟩
  rw [h.2, e, Option.map_map]
  congr 1
  funext x
  have := h.1
  simp
  omega
end Go.Proofs.YtiloogjageledaaGreatDoor

namespace Go.Proofs.YtiloogjageledaaGreatDoor
open Go Go.E

/-- The tokens of what is left, which begins at a place. -/
def lexF (l : List UInt8) (a : Nat) : Option (List TokD) :=
  match _h : l.drop (spanL spB l).length with
  | [] => some [⟨0, [], 0, refN, ((a + (spanL spB l).length : Nat) : Int)⟩]
  | c :: r => match oneO (c :: r) with
    | none => none
    | some (t, k) => if _hk : k = 0 then none else (lexF ((c :: r).drop k) (a + (spanL spB l).length + k)).map ({ t with at_ := ((a + (spanL spB l).length : Nat) : Int) } :: ·)
termination_by l.length
decreasing_by
  have := congrArg List.length _h
  simp at this
  simp
  omega
def lexT (s : List UInt8) : Option (List TokD) := lexF s 0

theorem lexF_end {l : List UInt8} {a : Nat} (h : l.drop (spanL spB l).length = []) : lexF l a = some [⟨0, [], 0, refN, ((a + (spanL spB l).length : Nat) : Int)⟩] := by
  rw [lexF]
  split
  · rfl
  · rename_i c r e
    rw [h] at e; cases e
theorem lexF_bad {l l' : List UInt8} {a : Nat} (h : l.drop (spanL spB l).length = l') (hl : l' ≠ []) (h1 : oneO l' = none) : lexF l a = none := by
  rw [lexF]
  split
  · rename_i e
    rw [h] at e; exact absurd e hl
  · rename_i c r e
    rw [h] at e
    subst e
    rw [h1]
theorem lexF_go {l l' : List UInt8} {a k : Nat} {t : TokD} (h : l.drop (spanL spB l).length = l') (hl : l' ≠ []) (h1 : oneO l' = some (t, k)) (hk : 0 < k) :
    lexF l a = (lexF (l'.drop k) (a + (spanL spB l).length + k)).map ({ t with at_ := ((a + (spanL spB l).length : Nat) : Int) } :: ·) := by
  rw [lexF]
  split
  · rename_i e
    rw [h] at e; exact absurd e hl
  · rename_i c r e
    rw [h] at e
    subst e
    rw [h1]
    simp only
    rw [dif_neg (by omega)]

/-- What each token takes. -/
theorem numO_len {l : List UInt8} {t : TokD} {k : Nat} (h : numO l = some (t, k)) : k = (spanL digB l).length ∧ t.kind = 1 := by
  unfold numO at h
  simp only at h
  split at h
  · split at h
    · simp only [Option.some.injEq, Prod.mk.injEq] at h
      exact ⟨h.2.symm, by rw [← h.1]⟩
    · cases h
  · cases h
theorem okRead_nil : okRead [] = false := by decide +kernel
theorem wordO_len {l : List UInt8} {t : TokD} {k : Nat} (h : wordO l = some (t, k)) : k = (spanL wiB l).length ∧ 0 < k := by
  unfold wordO at h
  simp only at h
  split at h
  · rename_i hr
    simp only [Option.some.injEq, Prod.mk.injEq] at h
    refine ⟨h.2.symm, ?_⟩
    rw [← h.2]
    cases e : spanL wiB l with
    | nil => rw [e, okRead_nil] at hr; cases hr
    | cons _ _ => simp
  · split at h
    · rename_i hr
      simp only [Option.some.injEq, Prod.mk.injEq] at h
      refine ⟨h.2.symm, ?_⟩
      rw [← h.2]
      cases e : spanL wiB l with
      | nil => rw [e, fnB_nil] at hr; cases hr
      | cons _ _ => simp
    · cases h
theorem textO_pos {l : List UInt8} {t : TokD} {k : Nat} (h : textO l = some (t, k)) : 0 < k := by
  unfold textO at h
  cases e : scanT (l.drop 1) with
  | none => rw [e] at h; cases h
  | some x =>
    rw [e] at h
    simp only [Option.map_some, Option.some.injEq, Prod.mk.injEq] at h
    omega
theorem signO_pos {l : List UInt8} {t : TokD} {k : Nat} (h : signO l = some (t, k)) : 0 < k := by
  unfold signO at h
  split at h
  · simp only [Option.some.injEq, Prod.mk.injEq] at h
    omega
  · cases e : signsT.find? fun s => Lib.hasPrefix l s with
    | none => rw [e] at h; cases h
    | some x =>
      rw [e] at h
      simp only [Option.map_some, Option.some.injEq, Prod.mk.injEq] at h
      have hm := List.mem_of_find?_eq_some e
      have : ∀ s ∈ signsT, 0 < s.length := by decide
      have := this x hm
      omega
theorem oneO_pos {l : List UInt8} (hl : l ≠ []) {t : TokD} {k : Nat} (h : oneO l = some (t, k)) : 0 < k := by
  unfold oneO at h
  split at h
  · rename_i hd
    rw [(numO_len h).1]
    exact (span_pos (List.length_pos_iff.2 hl) hd).1
  · split at h
    · exact textO_pos h
    · split at h
      · exact (wordO_len h).2
      · exact signO_pos h

theorem lexF_congr {l m : List UInt8} {a b : Nat} (h : l.drop (spanL spB l).length = m.drop (spanL spB m).length) (ha : a + (spanL spB l).length = b + (spanL spB m).length) : lexF l a = lexF m b := by
  cases e : m.drop (spanL spB m).length with
  | nil => rw [lexF_end (h.trans e), lexF_end e, ha]
  | cons c r =>
    cases ho : oneO (c :: r) with
    | none => rw [lexF_bad (h.trans e) (by simp) ho, lexF_bad e (by simp) ho]
    | some x =>
      obtain ⟨t, k⟩ := x
      have hk := oneO_pos (by simp) ho
      rw [lexF_go (h.trans e) (by simp) ho hk, lexF_go e (by simp) ho hk, ha]

/-- No token takes more than there is. -/
theorem scan_le : ∀ (l : List UInt8) {x : List UInt8 × Nat}, scanT l = some x → x.2 ≤ l.length
  | [], x, h => by simp [scanT] at h
  | [c], x, h => by
    simp only [scanT] at h
    split at h
    · simp only [Option.some.injEq] at h
      subst h; simp
    · cases h
  | c :: d :: r, x, h => by
    simp only [scanT] at h
    split at h
    · split at h
      · cases e : scanT r with
        | none => rw [e] at h; cases h
        | some y =>
          rw [e] at h
          simp only [Option.map_some, Option.some.injEq] at h
          have := scan_le r e
          subst h
          simp
          omega
      · simp only [Option.some.injEq] at h
        subst h; simp
    · split at h
      · cases h
      · cases e : scanT (d :: r) with
        | none => rw [e] at h; cases h
        | some y =>
          rw [e] at h
          simp only [Option.map_some, Option.some.injEq] at h
          have := scan_le (d :: r) e
          subst h
          simp at this ⊢
          omega
theorem oneO_le {l : List UInt8} {t : TokD} {k : Nat} (h : oneO l = some (t, k)) : k ≤ l.length := by
  unfold oneO at h
  split at h
  · rw [(numO_len h).1]; exact span_le _ _
  · split at h
    · unfold textO at h
      cases e : scanT (l.drop 1) with
      | none => rw [e] at h; cases h
      | some x =>
        rw [e] at h
        simp only [Option.map_some, Option.some.injEq, Prod.mk.injEq] at h
        have := scan_le _ e
        cases l with
        | nil => cases e
        | cons c r =>
          simp at this ⊢
          omega
    · split at h
      · rw [(wordO_len h).1]; exact span_le _ _
      · unfold signO at h
        split at h
        · rename_i hp
          simp only [Option.some.injEq, Prod.mk.injEq] at h
          have := pre_le hp
          have h5 : deadT.length = 5 := rfl
          omega
        · cases e : signsT.find? fun s => Lib.hasPrefix l s with
          | none => rw [e] at h; cases h
          | some x =>
            rw [e] at h
            simp only [Option.map_some, Option.some.injEq, Prod.mk.injEq] at h
            have := pre_le (List.find?_some e)
            omega

/-- No more tokens than bytes, and one. -/
theorem lexF_len : ∀ (n : Nat) (l : List UInt8) (a : Nat) {out : List TokD}, l.length ≤ n → lexF l a = some out → out.length ≤ l.length + 1
  | n, l, a, out, hn, h => by
    cases e : l.drop (spanL spB l).length with
    | nil =>
      rw [lexF_end e] at h
      simp only [Option.some.injEq] at h
      subst h; simp
    | cons c r =>
      have hl := congrArg List.length e
      simp at hl
      cases ho : oneO (c :: r) with
      | none => rw [lexF_bad e (by simp) ho] at h; cases h
      | some x =>
        obtain ⟨t, k⟩ := x
        have hk := oneO_pos (by simp) ho
        have hk2 := oneO_le ho
        rw [lexF_go e (by simp) ho hk] at h
        cases hr : lexF ((c :: r).drop k) (a + (spanL spB l).length + k) with
        | none => rw [hr] at h; cases h
        | some y =>
          rw [hr] at h
          simp only [Option.map_some, Option.some.injEq] at h
          subst h
          match n with
          | 0 => omega
          | n + 1 =>
            have hd : ((c :: r).drop k).length = r.length + 1 - k := by simp
            have := lexF_len n ((c :: r).drop k) _ (by rw [hd]; omega) hr
            simp only [List.length_cons]
            rw [hd] at this
            omega
theorem lexT_len {s : List UInt8} {l : List TokD} (h : lexT s = some l) : l.length ≤ s.length + 1 := lexF_len _ s 0 (Nat.le_refl _) h

/-- What has been gone through, and what is left. -/
def LexAt (s : List UInt8) (a : Nat) (out : List TokD) : Prop := lexT s = (lexF (s.drop a) a).map (out ++ ·)
theorem LexAt.start (s : List UInt8) : LexAt s 0 [] := by simp [LexAt, lexT]
theorem LexAt.end {s : List UInt8} {a : Nat} {out : List TokD} (h : LexAt s a out) (he : a + (spanL spB (s.drop a)).length = s.length) : lexT s = some (out ++ [⟨0, [], 0, refN, (s.length : Int)⟩]) := by
  rw [h, lexF_end (by rw [List.drop_drop, he, List.drop_length]), he]
  rfl
theorem LexAt.bad {s : List UInt8} {a c : Nat} {out : List TokD} (h : LexAt s a out) (he : a + (spanL spB (s.drop a)).length = c) (hc : c < s.length) (h1 : oneO (s.drop c) = none) : lexT s = none := by
  rw [h, lexF_bad (l' := s.drop c) (by rw [List.drop_drop, he]) (by intro hn; have := congrArg List.length hn; simp at this; omega) h1]
  rfl
theorem LexAt.go {s : List UInt8} {a c k : Nat} {out : List TokD} {t : TokD} (h : LexAt s a out) (he : a + (spanL spB (s.drop a)).length = c) (hc : c < s.length) (h1 : oneO (s.drop c) = some (t, k)) : LexAt s (c + k) (out ++ [{ t with at_ := (c : Int) }]) := by
  have hne : s.drop c ≠ [] := by intro hn; have := congrArg List.length hn; simp at this; omega
  unfold LexAt
  rw [h, lexF_go (l' := s.drop c) (by rw [List.drop_drop, he]) hne h1 (oneO_pos hne h1), he, List.drop_drop, Option.map_map]
  congr 1
  funext x
  simp
/-- A blank more. -/
theorem LexAt.blank {s : List UInt8} {a : Nat} {out : List TokD} (h : LexAt s a out) (ha : a < s.length) (hb : byte s a = 32) : LexAt s (a + 1) out := by
  unfold LexAt
  rw [h]
  have e : (spanL spB (s.drop a)).length = (spanL spB (s.drop (a + 1))).length + 1 := by
    obtain ⟨c, e, hc⟩ := drop_at ha
    rw [e]
    have : spB (c.toNat : Int) = true := by simp [spB]; omega
    simp [spanL, this]
  have e2 : (s.drop a).drop (spanL spB (s.drop a)).length = (s.drop (a + 1)).drop (spanL spB (s.drop (a + 1))).length := by
    rw [List.drop_drop, List.drop_drop, e]
    congr 1
    omega
  have e3 : a + (spanL spB (s.drop a)).length = a + 1 + (spanL spB (s.drop (a + 1))).length := by omega
  rw [lexF_congr e2 e3]
end Go.Proofs.YtiloogjageledaaGreatDoor

namespace Go.Proofs.YtiloogjageledaaGreatDoor
open Go Go.E

theorem numT_cons (acc : Int) (c : UInt8) (r : List UInt8) : numT acc (c :: r) = numT (10 * acc + ((c.toNat : Int) - 48)) r := rfl
theorem numT_mono : ∀ (l : List UInt8) (acc : Int), 0 ≤ acc → (∀ c ∈ l, 48 ≤ c.toNat) → acc ≤ numT acc l
  | [], acc, _, _ => Int.le_refl _
  | c :: r, acc, h, hd => by
    rw [numT_cons]
    have hc := hd c (by simp)
    have := numT_mono r (10 * acc + ((c.toNat : Int) - 48)) (by omega) (fun x hx => hd x (by simp [hx]))
    omega
theorem parse_digits : ∀ (l : List UInt8) (acc : Nat), acc < 18446744073709551616 → (∀ c ∈ l, 48 ≤ c.toNat ∧ c.toNat ≤ 57) →
    Lib.parseUint10 acc l = if numT acc l < 18446744073709551616 then .ok (numT acc l).toNat else .range
  | [], acc, h, _ => by
    have : numT acc [] = acc := rfl
    simp only [Lib.parseUint10, this]
    rw [if_pos (by omega)]
    rfl
  | c :: r, acc, h, hd => by
    have hc := hd c (by simp)
    have hr : ∀ x ∈ r, 48 ≤ x.toNat ∧ x.toNat ≤ 57 := fun x hx => hd x (by simp [hx])
    have e : (10 * (acc : Int) + ((c.toNat : Int) - 48)) = ((acc * 10 + (c.toNat - 48) : Nat) : Int) := by omega
    have hm := numT_mono r (10 * (acc : Int) + ((c.toNat : Int) - 48)) (by omega) (fun x hx => (hr x hx).1)
    simp only [Lib.parseUint10]
    rw [if_pos hc, numT_cons]
    split
    · rw [if_neg (by omega)]
    · split
      · rw [if_neg (by omega)]
      · rw [parse_digits r _ (by omega) hr, e]
theorem atoi_digits {l : List UInt8} (h : l ≠ []) (hd : ∀ c ∈ l, digB (c.toNat : Int) = true) : Lib.atoiAll l = if numT 0 l ≤ 9223372036854775807 then .ok (numT 0 l) else .range := by
  have hd' : ∀ c ∈ l, 48 ≤ c.toNat ∧ c.toNat ≤ 57 := fun c hc => by
    have := hd c hc
    simp [digB] at this
    omega
  have hp := parse_digits l 0 (by omega) hd'
  have hm := numT_mono l 0 (by omega) (fun c hc => (hd' c hc).1)
  cases l with
  | nil => exact absurd rfl h
  | cons c r =>
    have hc := hd' c (by simp)
    rw [Lib.atoiAll_plain c r (by omega) (by omega)]
    have e : Lib.parseMag (c :: r) = Lib.parseUint10 0 (c :: r) := by simp [Lib.parseMag]
    rw [e, hp]
    simp only [Int.natCast_zero] at *
    by_cases h1 : numT 0 (c :: r) < 18446744073709551616
    · rw [if_pos h1]
      simp only [Lib.signless]
      by_cases h2 : numT 0 (c :: r) ≤ 9223372036854775807
      · rw [if_pos h2, if_neg (by omega)]
        congr 1
        omega
      · rw [if_neg h2, if_pos (by omega)]
    · rw [if_neg h1, if_neg (by omega)]
      rfl
theorem span_all (p : Int → Bool) : ∀ (l : List UInt8), ∀ c ∈ spanL p l, p (c.toNat : Int) = true
  | [], c, hc => by simp [spanL] at hc
  | d :: r, c, hc => by
    have ih := span_all p r
    simp only [spanL] at hc ih
    cases hd : p (d.toNat : Int)
    · simp [hd] at hc
    · simp only [List.takeWhile_cons, hd, if_true, List.mem_cons] at hc
      rcases hc with rfl | hc
      · exact hd
      · exact ih c hc
theorem numO_is {l : List UInt8} (h : spanL digB l ≠ []) : numO l = if numT 0 (spanL digB l) ≤ 9223372036854775807 ∧ (byte (spanL digB l) 0 ≠ 48 ∨ (spanL digB l).length = 1) then some (⟨1, [], numT 0 (spanL digB l), refN, 0⟩, (spanL digB l).length) else none := by
  have ha := atoi_digits h (span_all digB l)
  by_cases h1 : numT 0 (spanL digB l) ≤ 9223372036854775807
  · rw [if_pos h1] at ha
    rw [numO_ok ha]
    simp only [h1, true_and]
  · rw [if_neg h1] at ha
    rw [numO_bad (by intro z hz; rw [ha] at hz; cases hz), if_neg (by intro hh; exact h1 hh.1)]
end Go.Proofs.YtiloogjageledaaGreatDoor

namespace Go.Proofs.YtiloogjageledaaGreatDoor
open Go Go.E

theorem ldigit_ret (c : Int) (w : World) : Ret Tryz.prog 147 [.int .u8 c] w (fun v w' => v = .bool (digB c) ∧ Ext w w') := by
  refine Ret.enter Tryz.func147 rfl Tryz.ntmps147 (by kernel_rfl) rfl ?_
  refine Sa ?_
  refine LW.part rfl rfl rfl (fun h1 => ?_) (fun h1 => ?_)
  all_goals
    refine Sa ?_
    refine QW.body1 Tryz.results147 rfl ⟨?_, Chg.refl _ _⟩
    simp [digB, h1]
theorem lcapital_ret (c : Int) (w : World) : Ret Tryz.prog 184 [.int .u8 c] w (fun v w' => v = .bool (capB c) ∧ Ext w w') := by
  refine Ret.enter Tryz.func184 rfl Tryz.ntmps184 (by kernel_rfl) rfl ?_
  refine Sa ?_
  refine LW.part rfl rfl rfl (fun h1 => ?_) (fun h1 => ?_)
  all_goals
    refine Sa ?_
    refine QW.body1 Tryz.results184 rfl ⟨?_, Chg.refl _ _⟩
    simp [capB, h1]
theorem space_ret (c : Int) (w : World) : Ret Tryz.prog 108 [.int .u8 c] w (fun v w' => v = .bool (spB c) ∧ Ext w w') := by
  refine Ret.enter Tryz.func108 rfl Tryz.ntmps108 (by kernel_rfl) rfl ?_
  refine Sa ?_
  refine QW.body1 Tryz.results108 rfl ⟨rfl, Chg.refl _ _⟩
theorem begins_ret (c : Int) (w : World) : Ret Tryz.prog 150 [.int .u8 c] w (fun v w' => v = .bool (begB c) ∧ Ext w w') := by
  refine Ret.enter Tryz.func150 rfl Tryz.ntmps150 (by kernel_rfl) rfl ?_
  refine Sa ?_
  refine LW.call0 rfl rfl (lcapital_ret _ _) ?_
  rintro v w' ⟨rfl, hx⟩
  refine Sa ?_
  refine LW.part rfl rfl rfl (fun h1 => ?_) (fun h1 => ?_)
  · refine Sa ?_
    refine QW.body1 Tryz.results150 rfl ⟨?_, hx⟩
    simp [begB, h1]
  · refine Sa ?_
    refine LW.part rfl rfl rfl (fun h2 => ?_) (fun h2 => ?_)
    · refine Sa ?_
      refine LW.part rfl rfl rfl (fun h3 => ?_) (fun h3 => ?_)
      all_goals
        refine Sa ?_
        refine QW.body1 Tryz.results150 rfl ⟨?_, hx⟩
        simp [begB, h1, h2, h3]
    · refine Sa ?_
      refine QW.body1 Tryz.results150 rfl ⟨?_, hx⟩
      simp [begB, h1, h2]
theorem within_ret (c : Int) (w : World) : Ret Tryz.prog 185 [.int .u8 c] w (fun v w' => v = .bool (wiB c) ∧ Ext w w') := by
  refine Ret.enter Tryz.func185 rfl Tryz.ntmps185 (by kernel_rfl) rfl ?_
  refine Sa ?_
  refine LW.call0 rfl rfl (begins_ret _ _) ?_
  rintro v w1 ⟨rfl, hx⟩
  refine Sa ?_
  refine LW.part rfl rfl rfl (fun h1 => ?_) (fun h1 => ?_)
  · refine Sa ?_
    refine QW.body1 Tryz.results185 rfl ⟨?_, hx⟩
    simp [wiB, h1]
  · refine Sa ?_
    refine LW.call0 rfl rfl (ldigit_ret _ _) ?_
    rintro v w2 ⟨rfl, hx2⟩
    replace hx := hx.trans hx2
    refine Sa ?_
    refine LW.part rfl rfl rfl (fun h2 => ?_) (fun h2 => ?_)
    all_goals
      refine Sa ?_
      refine QW.body1 Tryz.results185 rfl ⟨?_, hx⟩
      simp [wiB, h1, h2]

theorem lwhile_ret (p : Int → Bool) (f : Nat) (hp : ∀ (c : Int) (w : World), Ret Tryz.prog f [.int .u8 c] w (fun v w' => v = .bool (p c) ∧ Ext w w')) (s : List UInt8) (hs : s.length ≤ 1000000) (a : Nat) (ha : a ≤ s.length) (b : Nat) (w : World) (hB : Blk w b [str s, .int .i64 a] 145) :
    Ret Tryz.prog 107 [.pointer (some ⟨b, 0, none⟩), .func (.func f) #[] #[]] w
    (fun v w' => v = str (spanL p (s.drop a)) ∧ Chg [b] w w' ∧ Blk w' b [str s, .int .i64 ((a + (spanL p (s.drop a)).length : Nat) : Int)] 145) := by
  refine Ret.enter Tryz.func107 rfl Tryz.ntmps107 (by kernel_rfl) rfl ?_
  refine Sa ?_
  refine CW.loop (ι := Nat) (fun k w' => a ≤ k ∧ k ≤ s.length ∧ Ext w w' ∧ ∀ j, a ≤ j → j < k → p (byte s j) = true) (fun k => [(0, .pointer (some ⟨b, 0, none⟩)), (1, .func (.func f) #[] #[]), (5, .int .i64 k)]) (fun k => s.length - k) a ⟨by omega, ha, Chg.refl _ _, by omega⟩ (Sub.cons rfl (Sub.cons rfl (Sub.cons rfl (Sub.nil)))) ?_
  rintro k w1 ⟨hak, hk, hx, hall⟩
  replace hB := hB.ext hx
  refine Sa ?_
  refine LW.part rfl rfl rfl (fun h1 => ?_) (fun h1 => ?_)
  · have h1 : k < s.length := by simpa using h1
    refine Sa ?_
    refine LW.call (fs := []) (cs := []) rfl rfl rfl (hp _ _) ?_
    rintro v w2 ⟨rfl, hx2⟩
    replace hB := hB.ext hx2
    replace hx := hx.trans hx2
    refine Sa ?_
    refine CW.cond rfl (fun h2 => ?_) (fun h2 => ?_)
    · have h2 : p (byte s k) = true := h2
      refine Sa ?_
      refine QW.again (k + 1) ⟨by omega, by omega, hx, ?_⟩ (Sub.cons rfl (Sub.cons rfl (Sub.cons rfl (Sub.nil)))) (by omega)
      intro j hja hj
      by_cases hjk : j = k
      · subst hjk; exact h2
      · exact hall j hja (by omega)
    · have h2 : p (byte s k) = false := h2
      obtain ⟨e1, e2⟩ := span_from p s a k hak hk hall (Or.inr h2)
      refine Sa ?_
      refine CW.draw (by kernel_rfl) (by kernel_rfl) ?_
      refine Sq ?_
      refine QL.slice_str (i := a) (j := k) rfl rfl rfl ⟨_, _, rfl, rfl⟩ ⟨_, _, rfl, rfl⟩ hak hk rfl ?_
      refine Sq ?_
      refine QL.nil fun w4 hx4 => ?_
      replace hB := hB.ext hx4
      replace hx := hx.trans hx4
      refine Sa ?_
      (apply LW.store; exact rfl; exact rfl; exact rfl; assumption; exact rfl; exact rfl; exact rfl; intro w3 hc hB2)
      refine Sa ?_
      refine QW.body1 Tryz.results107 rfl ⟨?_, hx.chg.same hc, ?_⟩
      · rw [← e1, cut_mid]
      · rw [← e2]
        exact hB2
  · have h1 : k = s.length := by simp at h1; omega
    obtain ⟨e1, e2⟩ := span_from p s a k hak hk hall (Or.inl h1)
    refine Sa ?_
    refine CW.draw (by kernel_rfl) (by kernel_rfl) ?_
    refine Sq ?_
    refine QL.slice_str (i := a) (j := k) rfl rfl rfl ⟨_, _, rfl, rfl⟩ ⟨_, _, rfl, rfl⟩ hak hk rfl ?_
    refine Sq ?_
    refine QL.nil fun w4 hx4 => ?_
    replace hB := hB.ext hx4
    replace hx := hx.trans hx4
    refine Sa ?_
    (apply LW.store; exact rfl; exact rfl; exact rfl; assumption; exact rfl; exact rfl; exact rfl; intro w3 hc hB2)
    refine Sa ?_
    refine QW.body1 Tryz.results107 rfl ⟨?_, hx.chg.same hc, ?_⟩
    · rw [← e1, cut_mid]
    · rw [← e2]
      exact hB2
end Go.Proofs.YtiloogjageledaaGreatDoor

namespace Go.Proofs.YtiloogjageledaaGreatDoor
open Go Go.E

/-- What a reader of a token leaves. -/
def TokR (s : List UInt8) (a b : Nat) (w : World) (o : Option (TokD × Nat)) (v : Value) (w' : World) : Prop :=
  ∃ t ok a', v = .tuple #[.agg ⟨tokL t⟩, .bool ok] ∧ Chg [b] w w' ∧ Blk w' b [str s, .int .i64 ((a' : Nat) : Int)] 145 ∧ a' ≤ s.length ∧ a ≤ a' ∧ o = if ok then some (t, a' - a) else none

theorem _root_.Go.E.Chg.fresh {S S' : List Nat} {a b c : World} (h : Chg S a b) (k : Chg S' b c) (hs : ∀ j, j ∈ S' → a.heap.size ≤ j) : Chg S a c :=
  (Chg.trans h k).mono fun j hj hl => by
    rcases List.mem_append.1 hj with hj | hj
    · exact hj
    · have := hs j hj
      omega

theorem lName_ret (s : List UInt8) (w : World) (hs : s.length ≤ 1000000) : Ret Tryz.prog 165 [str s] w (fun v w' => v = .bool (fnB s) ∧ Ext w w') := by
  refine Ret.enter Tryz.func165 rfl Tryz.ntmps165 (by kernel_rfl) rfl ?_
  refine Sa ?_
  refine LW.part rfl rfl rfl (fun h0 => ?_) (fun h0 => ?_)
  · have h0 : s = [] := by simpa using h0
    subst h0
    refine Sa ?_
    refine QW.body1 Tryz.results165 rfl ⟨rfl, Chg.refl _ _⟩
  have h0 : s ≠ [] := by simpa using h0
  have hp : 0 < s.length := List.length_pos_iff.2 h0
  refine Sa ?_
  refine LW.part rfl rfl rfl (fun h1 => ?_) (fun h1 => ?_)
  · have h1 : 12 < s.length := by simp at h1; omega
    refine Sa ?_
    refine QW.body1 Tryz.results165 rfl ⟨by rw [fnB_long h1], Chg.refl _ _⟩
  have h1 : s.length ≤ 12 := by simp at h1; omega
  refine Sa ?_
  refine LW.call0 rfl rfl (lcapital_ret _ _) ?_
  rintro v w1 ⟨rfl, hx⟩
  refine Sa ?_
  refine CW.cond rfl (fun h2 => ?_) (fun h2 => ?_)
  · refine Sa ?_
    refine QW.body1 Tryz.results165 rfl ⟨?_, hx⟩
    rw [fnB_first]
    simpa using h2
  have h2 : capB (byte s 0) = true := by simpa using h2
  refine Sa ?_
  refine CW.loop (ι := Nat) (fun k w' => k ≤ s.length ∧ Ext w w' ∧ ∀ j, j < k → cdB (byte s j) = true) (fun k => [(0, str s), (18, .int .i64 s.length), (19, .int .i64 k)]) (fun k => s.length - k) 0 ⟨by omega, hx, by omega⟩ (Sub.cons rfl (Sub.cons rfl (Sub.cons rfl (Sub.nil)))) ?_
  rintro k w2 ⟨hk, hx2, hall⟩
  refine Sa ?_
  refine CW.cond rfl (fun h3 => ?_) (fun h3 => ?_)
  · have h3 : k < s.length := by simpa using h3
    refine Sa ?_
    refine LW.call0 rfl rfl (lcapital_ret _ _) ?_
    rintro v w3 ⟨rfl, hx3⟩
    refine Sa ?_
    refine LW.part rfl rfl rfl (fun h4 => ?_) (fun h4 => ?_)
    · refine Sa ?_
      refine LW.call0 rfl rfl (ldigit_ret _ _) ?_
      rintro v w4 ⟨rfl, hx4⟩
      refine Sa ?_
      refine CW.cond rfl (fun h5 => ?_) (fun h5 => ?_)
      · refine Sa ?_
        refine QW.body1 Tryz.results165 rfl ⟨?_, (hx2.trans hx3).trans hx4⟩
        rw [fnB_at h3]
        simp at h4 h5
        simp [cdB, h4, h5]
      · refine Sa ?_
        refine QW.again (k + 1) ⟨by omega, (hx2.trans hx3).trans hx4, ?_⟩ (Sub.cons rfl (Sub.cons rfl (Sub.cons rfl (Sub.nil)))) (by omega)
        intro j hj
        by_cases hjk : j = k
        · subst hjk; simp at h5; simp [cdB, h5]
        · exact hall j (by omega)
    · refine Sa ?_
      refine QW.again (k + 1) ⟨by omega, hx2.trans hx3, ?_⟩ (Sub.cons rfl (Sub.cons rfl (Sub.cons rfl (Sub.nil)))) (by omega)
      intro j hj
      by_cases hjk : j = k
      · subst hjk; simp at h4; simp [cdB, h4]
      · exact hall j (by omega)
  · have h3 : k = s.length := by simp at h3; omega
    subst h3
    refine Sa ?_
    refine QW.body1 Tryz.results165 rfl ⟨?_, hx2⟩
    rw [fnB_true h0 h1 h2 hall]

theorem number_ret (s : List UInt8) (hs : s.length ≤ 1000) (a : Nat) (ha : a < s.length) (hd : digB (byte s a) = true) (b : Nat) (w0 w : World) (g : Glob w0) (h0 : Ext w0 w) (hb0 : w0.heap.size ≤ b) (hB : Blk w b [str s, .int .i64 a] 145) :
    Ret Tryz.prog 148 [.pointer (some ⟨b, 0, none⟩)] w (TokR s a b w (numO (s.drop a))) := by
  have hlen := span_le digB (s.drop a)
  have hlen2 : (s.drop a).length = s.length - a := by simp
  obtain ⟨hsp, hs0⟩ := span_pos (p := digB) (l := s.drop a) (by omega) (by rw [byte_drop']; exact hd)
  have hbl := hB.lt
  refine Ret.enter Tryz.func148 rfl Tryz.ntmps148 (by kernel_rfl) rfl ?_
  refine Sa ?_
  (apply LW.alloc; exact rfl; exact rfl; exact rfl; intro C w1 hbC hx hC)
  have hCb : b < C := by omega
  replace hB := hB.ext hx
  refine Sa ?_
  refine LW.call (fs := []) (cs := []) rfl rfl rfl (lwhile_ret digB _ ldigit_ret s (by omega) a (by omega) b w1 hB) ?_
  rintro v w2 ⟨rfl, hc2, hB⟩
  replace hC := hC.chg hc2 (by simp; omega)
  have hcc : Chg [b] w w2 := (Chg.trans hx hc2).mono (by simp)
  have hx2 : Ext w0 w2 := (h0.trans hx).step hc2 (by simpa using hb0)
  refine Sa ?_
  refine LW.call0 rfl rfl (Atoi_ret _ (by omega) w2 (g.ext hx2)) ?_
  rintro v w3 ⟨hv, hx3⟩
  replace hC := hC.ext hx3
  replace hB := hB.ext hx3
  replace hcc := hcc.ext hx3
  unfold AtoiV at hv
  by_cases hok : ∃ z, Lib.atoiAll (spanL digB (s.drop a)) = .ok z
  · obtain ⟨z, hat⟩ := hok
    rw [hat] at hv
    rw [numO_ok hat]
    simp only at hv
    subst hv
    refine Sa ?_
    (first | (apply LW.eql_nil; exact rfl; exact rfl; exact rfl; exact rfl) | (apply LW.eql_nil_nil; exact rfl; exact rfl; exact rfl; exact rfl))
    refine Sa ?_
    refine LW.part rfl rfl rfl (fun h3 => ?_) (fun h3 => ?_)
    · refine Sa ?_
      (apply LW.store_all; exact rfl; exact rfl; exact rfl; assumption; exact rfl; exact rfl; exact rfl; intro w4 hc4 hC)
      replace hC : Blk w4 C (tokL ⟨1, [], z, refN, 0⟩) 102 := hC
      replace hB := hB.chg hc4 (by simp; omega)
      replace hcc := hcc.fresh hc4 (by simp; omega)
      refine Sa ?_
      refine QW.body_ct Tryz.results148 rfl hC rfl rfl rfl rfl ⟨_, _, _, rfl, hcc, hB, by omega, by omega, ?_⟩
      have h3 : byte (spanL digB (s.drop a)) 0 ≠ 48 := by simpa using h3
      simp only [h3, ne_eq, not_false_eq_true, true_or, if_true, Nat.add_sub_cancel_left]
    · refine Sa ?_
      (apply LW.store_all; exact rfl; exact rfl; exact rfl; assumption; exact rfl; exact rfl; exact rfl; intro w4 hc4 hC)
      replace hC : Blk w4 C (tokL ⟨1, [], z, refN, 0⟩) 102 := hC
      replace hB := hB.chg hc4 (by simp; omega)
      replace hcc := hcc.fresh hc4 (by simp; omega)
      refine Sa ?_
      refine QW.body_ct Tryz.results148 rfl hC rfl rfl rfl rfl ⟨_, _, _, rfl, hcc, hB, by omega, by omega, ?_⟩
      have h3 : byte (spanL digB (s.drop a)) 0 = 48 := by simpa using h3
      simp only [h3, ne_eq, not_true_eq_false, false_or, Nat.add_sub_cancel_left, decide_eq_true_eq]
      by_cases h4 : (spanL digB (s.drop a)).length = 1
      · simp [h4]
      · have h5 : ¬ ((spanL digB (s.drop a)).length : Int) = 1 := by omega
        simp [h4, h5]
  · have hbad : ∀ z, Lib.atoiAll (spanL digB (s.drop a)) ≠ .ok z := fun z hz => hok ⟨z, hz⟩
    rw [numO_bad hbad]
    obtain ⟨z, t, x, rfl⟩ : ∃ z t x, v = .tuple #[.int .i64 z, .iface t x] := by
      split at hv
      · rename_i z hz
        exact absurd hz (hbad z)
      · exact hv
    refine Sa ?_
    (first | (apply LW.eql_nil; exact rfl; exact rfl; exact rfl; exact rfl) | (apply LW.eql_nil_nil; exact rfl; exact rfl; exact rfl; exact rfl))
    refine Sa ?_
    (apply LW.store_all; exact rfl; exact rfl; exact rfl; assumption; exact rfl; exact rfl; exact rfl; intro w4 hc4 hC)
    replace hC : Blk w4 C (tokL ⟨1, [], z, refN, 0⟩) 102 := hC
    replace hB := hB.chg hc4 (by simp; omega)
    replace hcc := hcc.fresh hc4 (by simp; omega)
    refine Sa ?_
    refine QW.body_ct Tryz.results148 rfl hC rfl rfl rfl rfl ⟨_, _, _, rfl, hcc, hB, by omega, by omega, rfl⟩
end Go.Proofs.YtiloogjageledaaGreatDoor

namespace Go.Proofs.YtiloogjageledaaGreatDoor
open Go Go.E

theorem word_ret (s : List UInt8) (hs : s.length ≤ 1000) (a : Nat) (ha : a < s.length) (b : Nat) (w0 w : World) (g : Glob w0) (h0 : Ext w0 w) (hb0 : w0.heap.size ≤ b) (hB : Blk w b [str s, .int .i64 a] 145) :
    Ret Tryz.prog 151 [.pointer (some ⟨b, 0, none⟩)] w (TokR s a b w (wordO (s.drop a))) := by
  have hlen := span_le wiB (s.drop a)
  have hlen2 : (s.drop a).length = s.length - a := by simp
  have hbl := hB.lt
  refine Ret.enter Tryz.func151 rfl Tryz.ntmps151 (by kernel_rfl) rfl ?_
  refine Sa ?_
  (apply LW.alloc; exact rfl; exact rfl; exact rfl; intro C w1 hbC hx hC)
  have hCb : b < C := by omega
  replace hB := hB.ext hx
  refine Sa ?_
  refine LW.call (fs := []) (cs := []) rfl rfl rfl (lwhile_ret wiB _ within_ret s (by omega) a (by omega) b w1 hB) ?_
  rintro v w2 ⟨rfl, hc2, hB⟩
  replace hC := hC.chg hc2 (by simp; omega)
  have hcc : Chg [b] w w2 := (Chg.trans hx hc2).mono (by simp)
  have hx2 : Ext w0 w2 := (h0.trans hx).step hc2 (by simpa using hb0)
  refine Sa ?_
  refine LW.call0 rfl rfl (Read_ret _ (by omega) w2 (g.ext hx2)) ?_
  rintro v w3 ⟨rfl, hx3⟩
  replace hC := hC.ext hx3
  replace hB := hB.ext hx3
  replace hcc := hcc.ext hx3
  have hz3 := hcc.size
  cases hr : okRead (spanL wiB (s.drop a)) with
  | true =>
    rw [readV, if_pos hr]
    refine Sa ?_
    (apply LW.alloc; exact rfl; exact rfl; exact rfl; intro F w4 hbF hx4 hF)
    have hCF : C < F := by have := hC.lt; omega
    replace hC := hC.ext hx4
    replace hB := hB.ext hx4
    replace hcc := hcc.ext hx4
    refine Sa ?_
    (apply LW.store_all; exact rfl; exact rfl; exact rfl; assumption; exact rfl; exact rfl; exact rfl; intro w5 hc5 hF)
    replace hF : Blk w5 F (refL (candV (spanL wiB (s.drop a)))) 35 := hF
    replace hC := hC.chg hc5 (by simp; omega)
    replace hB := hB.chg hc5 (by simp; omega)
    replace hcc := hcc.fresh hc5 (by simp; omega)
    refine Sa ?_
    (apply LW.store_all; exact rfl; exact rfl; exact rfl; assumption; exact rfl; exact rfl; exact rfl; intro w6 hc6 hC)
    replace hC : Blk w6 C (tokL ⟨4, [], 0, candV (spanL wiB (s.drop a)), 0⟩) 102 := hC
    replace hB := hB.chg hc6 (by simp; omega)
    replace hcc := hcc.fresh hc6 (by simp; omega)
    refine Sa ?_
    refine QW.body_ct Tryz.results151 rfl hC rfl rfl rfl rfl ⟨_, _, _, rfl, hcc, hB, by omega, by omega, ?_⟩
    simp [wordO, hr]
  | false =>
    rw [no_at hr]
    refine Sa ?_
    (apply LW.alloc; exact rfl; exact rfl; exact rfl; intro F w4 hbF hx4 hF)
    have hCF : C < F := by have := hC.lt; omega
    replace hC := hC.ext hx4
    replace hB := hB.ext hx4
    replace hcc := hcc.ext hx4
    refine Sa ?_
    (apply LW.store_all; exact rfl; exact rfl; exact rfl; assumption; exact rfl; exact rfl; exact rfl; intro w5 hc5 hF)
    replace hC := hC.chg hc5 (by simp; omega)
    replace hB := hB.chg hc5 (by simp; omega)
    replace hcc := hcc.fresh hc5 (by simp; omega)
    refine Sa ?_
    refine LW.call0 rfl rfl (lName_ret _ w5 (by omega)) ?_
    rintro v w7 ⟨rfl, hx7⟩
    replace hC := hC.ext hx7
    replace hB := hB.ext hx7
    replace hcc := hcc.ext hx7
    refine Sa ?_
    (apply LW.store_all; exact rfl; exact rfl; exact rfl; assumption; exact rfl; exact rfl; exact rfl; intro w6 hc6 hC)
    replace hC : Blk w6 C (tokL ⟨3, spanL wiB (s.drop a), 0, refN, 0⟩) 102 := hC
    replace hB := hB.chg hc6 (by simp; omega)
    replace hcc := hcc.fresh hc6 (by simp; omega)
    refine Sa ?_
    refine QW.body_ct Tryz.results151 rfl hC rfl rfl rfl rfl ⟨_, _, _, rfl, hcc, hB, by omega, by omega, ?_⟩
    simp [wordO, hr]

theorem sign_val (k : Nat) (hk : k < 15) : (signsT.map str)[k]? = some (str (signsT.getD k [])) := by
  have : signsT.length = 15 := rfl
  simp [List.getD_eq_getElem?_getD, List.getElem?_eq_getElem (show k < signsT.length by omega)]

theorem signL_ret (s : List UInt8) (hs : s.length ≤ 1000) (a : Nat) (ha : a < s.length) (b : Nat) (w : World) (hB : Blk w b [str s, .int .i64 a] 145) :
    Ret Tryz.prog 152 [.pointer (some ⟨b, 0, none⟩)] w (TokR s a b w (signO (s.drop a))) := by
  have hlen2 : (s.drop a).length = s.length - a := by simp
  have hbl := hB.lt
  refine Ret.enter Tryz.func152 rfl Tryz.ntmps152 (by kernel_rfl) rfl ?_
  refine Sa ?_
  (apply LW.alloc; exact rfl; exact rfl; exact rfl; intro C w1 hbC hx hC)
  have hCb : b < C := by omega
  replace hB := hB.ext hx
  refine Sa ?_
  refine CW.draw (by kernel_rfl) (by kernel_rfl) ?_
  refine Sq ?_
  refine QL.slice_str (i := a) (j := s.length) rfl rfl rfl ⟨_, _, rfl, rfl⟩ rfl (by omega) (by omega) rfl ?_
  refine Sq ?_
  refine QL.call0 rfl rfl (fun w' _ => HasPrefix_ret _ _ w') ?_
  refine Sq ?_
  refine QL.nil fun w2 hx2 => ?_
  rw [cut_tail]
  replace hC := hC.ext hx2
  replace hB := hB.ext hx2
  replace hx := hx.trans hx2
  refine Sa ?_
  refine CW.cond rfl (fun hd => ?_) (fun hd => ?_)
  · have hp5 := pre_le hd
    simp only [List.length_cons, List.length_nil] at hp5
    refine Sa ?_
    (apply LW.store; exact rfl; exact rfl; exact rfl; assumption; exact rfl; exact rfl; exact rfl; intro w3 hc3 hB)
    replace hC := hC.chg hc3 (by simp; omega)
    have hcc : Chg [b] w w3 := (Chg.trans hx hc3).mono (by simp)
    refine Sa ?_
    (apply LW.store_all; exact rfl; exact rfl; exact rfl; assumption; exact rfl; exact rfl; exact rfl; intro w4 hc4 hC)
    replace hC : Blk w4 C (tokL ⟨6, [], 0, refN, 0⟩) 102 := hC
    replace hB : Blk w4 b [str s, .int .i64 ((a + 5 : Nat) : Int)] 145 := hB.chg hc4 (by simp; omega)
    replace hcc := hcc.fresh hc4 (by simp; omega)
    refine Sa ?_
    refine QW.body_ct Tryz.results152 rfl hC rfl rfl rfl rfl ⟨_, _, _, rfl, hcc, hB, by omega, by omega, ?_⟩
    have hd : Lib.hasPrefix (s.drop a) deadT = true := hd
    simp [signO, hd]
  have hd : Lib.hasPrefix (s.drop a) deadT = false := hd
  refine Sa ?_
  (apply LW.buildSlice; exact rfl; exact rfl; exact rfl; exact rfl; exact rfl; exact rfl; exact rfl; exact rfl; exact rfl; intro A w3 hbA hx3 hA)
  replace hA : Blk w3 A (signsT.map str) 9 := hA
  have hAC : C < A := by have := hC.lt; omega
  replace hC := hC.ext hx3
  replace hB := hB.ext hx3
  replace hx := hx.trans hx3
  have hz3 := hx.size
  refine Sa ?_
  refine CW.loop (ι := Nat) (fun k w' => k ≤ 15 ∧ Ext w3 w' ∧ ∀ j, j < k → Lib.hasPrefix (s.drop a) (signsT.getD j []) = false) (fun k => [(0, .pointer (some ⟨b, 0, none⟩)), (2, .pointer (some ⟨C, 0, none⟩)), (24, .slice (some ⟨A, 0, none⟩) 15 15), (25, .int .i64 15), (26, .int .i64 k)]) (fun k => 15 - k) 0 ⟨by omega, Chg.refl _ _, by omega⟩ (Sub.cons rfl (Sub.cons rfl (Sub.cons rfl (Sub.cons rfl (Sub.cons rfl (Sub.nil)))))) ?_
  rintro k w5 ⟨hk, hx5, hall⟩
  replace hA := hA.ext hx5
  replace hC := hC.ext hx5
  replace hB := hB.ext hx5
  replace hx := hx.trans hx5
  refine Sa ?_
  refine CW.cond rfl (fun h1 => ?_) (fun h1 => ?_)
  · have h1 : k < 15 := by simp at h1; omega
    refine Sa ?_
    refine LW.idx_slice (j := k) rfl rfl rfl rfl rfl (by omega) (by simp; omega) (by show 0 + _ * 1 = _; omega) rfl ?_
    refine Sa ?_
    refine LW.load rfl hA (sign_val k h1) rfl rfl rfl ?_
    refine Sa ?_
    refine CW.draw (by kernel_rfl) (by kernel_rfl) ?_
    refine Sq ?_
    refine QL.slice_str (i := a) (j := s.length) rfl rfl rfl ⟨_, _, rfl, rfl⟩ rfl (by omega) (by omega) rfl ?_
    refine Sq ?_
    refine QL.call0 rfl rfl (fun w' _ => HasPrefix_ret _ _ w') ?_
    refine Sq ?_
    refine QL.nil fun w6 hx6 => ?_
    rw [cut_tail]
    replace hC := hC.ext hx6
    replace hB := hB.ext hx6
    replace hx := hx.trans hx6
    replace hx5 := hx5.trans hx6
    refine Sa ?_
    refine CW.cond rfl (fun h2 => ?_) (fun h2 => ?_)
    · have h2 : Lib.hasPrefix (s.drop a) (signsT.getD k []) = true := h2
      have hp := pre_le h2
      refine Sa ?_
      (apply LW.store; exact rfl; exact rfl; exact rfl; assumption; exact rfl; exact rfl; exact rfl; intro w7 hc7 hB)
      replace hC := hC.chg hc7 (by simp; omega)
      have hcc : Chg [b] w w7 := (Chg.trans hx hc7).mono (by simp)
      refine Sa ?_
      (apply LW.store_all; exact rfl; exact rfl; exact rfl; assumption; exact rfl; exact rfl; exact rfl; intro w8 hc8 hC)
      replace hC : Blk w8 C (tokL ⟨5, signsT.getD k [], 0, refN, 0⟩) 102 := hC
      replace hB : Blk w8 b [str s, .int .i64 ((a + (signsT.getD k []).length : Nat) : Int)] 145 := hB.chg hc8 (by simp; omega)
      replace hcc := hcc.fresh hc8 (by simp; omega)
      refine Sa ?_
      refine QW.body_ct Tryz.results152 rfl hC rfl rfl rfl rfl ⟨_, _, _, rfl, hcc, hB, by omega, by omega, ?_⟩
      simp only [signO, hd, find_first (fun x => Lib.hasPrefix (s.drop a) x) [] signsT k h1 hall h2]
      simp
    · have h2 : Lib.hasPrefix (s.drop a) (signsT.getD k []) = false := h2
      refine Sa ?_
      refine QW.again (k + 1) ⟨by omega, hx5, ?_⟩ (Sub.cons rfl (Sub.cons rfl (Sub.cons rfl (Sub.cons rfl (Sub.cons rfl (Sub.nil)))))) (by omega)
      intro j hj
      by_cases hjk : j = k
      · subst hjk; exact h2
      · exact hall j (by omega)
  · have h1 : k = 15 := by simp at h1; omega
    subst h1
    refine Sa ?_
    (apply LW.store_all; exact rfl; exact rfl; exact rfl; assumption; exact rfl; exact rfl; exact rfl; intro w8 hc8 hC)
    replace hC : Blk w8 C (tokL ⟨0, [], 0, refN, 0⟩) 102 := hC
    replace hB := hB.chg hc8 (by simp; omega)
    have hcc : Chg [b] w w8 := (hx.mono (S' := [b]) (by simp)).fresh hc8 (by simp; omega)
    refine Sa ?_
    refine QW.body_ct Tryz.results152 rfl hC rfl rfl rfl rfl ⟨_, _, a, rfl, hcc, hB, by omega, by omega, ?_⟩
    simp only [signO, hd, find_none (fun x => Lib.hasPrefix (s.drop a) x) [] signsT hall]
    simp
end Go.Proofs.YtiloogjageledaaGreatDoor

namespace Go.Proofs.YtiloogjageledaaGreatDoor
open Go Go.E

theorem own_snoc {w : World} {lo : Nat} {e : TypeId} {v : Value} {out : List UInt8} {z : Int} (h0 : 0 ≤ z) (h1 : z ≤ 255) (h : Own w lo e 1 v (out.length + 1) (bcells out ++ [.int .u8 z])) : Own w lo e 1 v (out ++ [ch z]).length (bcells (out ++ [ch z])) := by
  have e1 : bcells (out ++ [ch z]) = bcells out ++ [.int .u8 z] := by simp [bcells, ch_toNat h0 h1]
  rw [e1]
  simpa using h

theorem textQ_ret (s : List UInt8) (hs : s.length ≤ 1000) (a : Nat) (ha : a < s.length) (b : Nat) (w : World) (hB : Blk w b [str s, .int .i64 a] 145) :
    Ret Tryz.prog 149 [.pointer (some ⟨b, 0, none⟩)] w (TokR s a b w (textO (s.drop a))) := by
  have hbl := hB.lt
  refine Ret.enter Tryz.func149 rfl Tryz.ntmps149 (by kernel_rfl) rfl ?_
  refine Sa ?_
  (apply LW.alloc; exact rfl; exact rfl; exact rfl; intro C w1 hbC hx hC)
  have hCb : b < C := by omega
  replace hB := hB.ext hx
  have hz1 : C < w1.heap.size := hC.lt
  have hzx := hx.size
  refine Sa ?_
  refine CW.loop (ι := Nat × List UInt8 × Value) (fun k w' => k.1 ≤ s.length ∧ k.2.1.length ≤ k.1 ∧ Ext w1 w' ∧ Own w' w1.heap.size 5 1 k.2.2 k.2.1.length (bcells k.2.1) ∧ ScanAt s (a + 1) k.1 k.2.1) (fun k => [(0, .pointer (some ⟨b, 0, none⟩)), (2, .pointer (some ⟨C, 0, none⟩)), (4, k.2.2), (5, .int .i64 k.1)]) (fun k => s.length - k.1) (a + 1, [], .slice none 0 0) ⟨by simp; omega, by simp, Chg.refl _ _, Own.nil _ _ _ _, ScanAt.start _ _⟩ (Sub.cons rfl (Sub.cons rfl (Sub.cons rfl (Sub.cons rfl (Sub.nil))))) ?_
  rintro ⟨i, out, v⟩ w2 ⟨hi, ho, hx2, hown, hsc⟩
  simp only at hi ho hown hsc
  show CW _ _ _ _ _ [(0, .pointer (some ⟨b, 0, none⟩)), (2, .pointer (some ⟨C, 0, none⟩)), (4, v), (5, .int .i64 i)] _
  have ha1 := hsc.1
  have hcv : C ∉ vblk v := hown.old hz1
  have hbv : b ∉ vblk v := hown.old (by omega)
  replace hC := hC.ext hx2
  replace hB := hB.ext hx2
  have hz2 := hx2.size
  refine Sa ?_
  refine CW.cond rfl (fun h1 => ?_) (fun h1 => ?_)
  · have h1 : i < s.length := by simp at h1; omega
    refine Sa ?_
    have hby := byte_lt s i
    refine LW.part rfl rfl rfl (fun h2 => ?_) (fun h2 => ?_)
    · have h2 : byte s i = 34 := by simpa using h2
      refine Sa ?_
      refine LW.part rfl rfl rfl (fun h3 => ?_) (fun h3 => ?_)
      · have h3 : i + 1 < s.length := by simp at h3; omega
        refine Sa ?_
        refine CW.cond rfl (fun h4 => ?_) (fun h4 => ?_)
        · have h4 : byte s (i + 1) = 34 := by simpa using h4
          refine Sa ?_
          refine Sa ?_
          (apply LW.buildSlice; exact rfl; exact rfl; exact rfl; exact rfl; exact rfl; exact rfl; exact rfl; exact rfl; exact rfl; intro A w3 hbA hx3 hA)
          replace hown := hown.ext hx3
          replace hx2 := hx2.trans hx3
          have hz3 := hx2.size
          refine Sa ?_
          refine LW.append rfl rfl rfl rfl rfl rfl hown (by omega) hA rfl rfl rfl (by show (out.length + 1) * 2 ≤ 140737488355328; omega) rfl ?_
          intro v' w4 hc4 hown' hv'
          replace hx2 := hx2.step hc4 (fun k hk => (hown.lt hk).1)
          refine Sa ?_
          refine QW.again (i + 2, out ++ [ch (byte s i)], v') ⟨by show i + 2 ≤ _; omega, by show (out ++ _).length ≤ i + 2; simp; omega, hx2, own_snoc hby.1 (by omega) hown', ScanAt.go hsc (by omega) ?_⟩ (Sub.cons rfl (Sub.cons rfl (Sub.cons rfl (Sub.cons rfl (Sub.nil))))) (by show s.length - (i + 2) < s.length - i; omega)
          rw [scan_two h3 h2 h4, show i + 2 - i = 2 by omega, h2]
          rfl
        · have h4 : i + 1 < s.length → byte s (i + 1) ≠ 34 := fun _ => by simpa using h4
          refine Sa ?_
          refine CW.yes rfl (by simpa using h2) ?_
          refine Sa ?_
          (apply LW.store; exact rfl; exact rfl; exact rfl; assumption; exact rfl; exact rfl; exact rfl; intro w5 hc5 hB)
          replace hB : Blk w5 b [str s, .int .i64 ((i + 1 : Nat) : Int)] 145 := hB
          replace hC := hC.chg hc5 (by simp; omega)
          have hcc : Chg [b] w w5 := (Chg.trans (hx.trans hx2) hc5).mono (by simp)
          replace hown := hown.chg hc5 (fun j hj hb => hbv (by simp at hb; subst hb; exact hj))
          refine Sa ?_
          refine LW.string_own rfl hown rfl rfl rfl rfl rfl rfl rfl ?_
          refine Sa ?_
          (apply LW.store_all; exact rfl; exact rfl; exact rfl; assumption; exact rfl; exact rfl; exact rfl; intro w8 hc8 hC)
          replace hC : Blk w8 C (tokL ⟨2, out, 0, refN, 0⟩) 102 := hC
          replace hB := hB.chg hc8 (by simp; omega)
          replace hcc := hcc.fresh hc8 (by simp; omega)
          refine Sa ?_
          refine QW.body_ct Tryz.results149 rfl hC rfl rfl rfl rfl ⟨_, _, _, rfl, hcc, hB, by omega, by omega, ?_⟩
          have e := hsc.2
          rw [scan_quote h1 h2 h4] at e
          simp only [textO, List.drop_drop]
          rw [e]
          simp
          omega
      · have h3 : ¬ i + 1 < s.length := by simp at h3; omega
        have h4 : i + 1 < s.length → byte s (i + 1) ≠ 34 := fun h => absurd h h3
        refine Sa ?_
        refine CW.yes rfl (by simpa using h2) ?_
        refine Sa ?_
        (apply LW.store; exact rfl; exact rfl; exact rfl; assumption; exact rfl; exact rfl; exact rfl; intro w5 hc5 hB)
        replace hB : Blk w5 b [str s, .int .i64 ((i + 1 : Nat) : Int)] 145 := hB
        replace hC := hC.chg hc5 (by simp; omega)
        have hcc : Chg [b] w w5 := (Chg.trans (hx.trans hx2) hc5).mono (by simp)
        replace hown := hown.chg hc5 (fun j hj hb => hbv (by simp at hb; subst hb; exact hj))
        refine Sa ?_
        refine LW.string_own rfl hown rfl rfl rfl rfl rfl rfl rfl ?_
        refine Sa ?_
        (apply LW.store_all; exact rfl; exact rfl; exact rfl; assumption; exact rfl; exact rfl; exact rfl; intro w8 hc8 hC)
        replace hC : Blk w8 C (tokL ⟨2, out, 0, refN, 0⟩) 102 := hC
        replace hB := hB.chg hc8 (by simp; omega)
        replace hcc := hcc.fresh hc8 (by simp; omega)
        refine Sa ?_
        refine QW.body_ct Tryz.results149 rfl hC rfl rfl rfl rfl ⟨_, _, _, rfl, hcc, hB, by omega, by omega, ?_⟩
        have e := hsc.2
        rw [scan_quote h1 h2 h4] at e
        simp only [textO, List.drop_drop]
        rw [e]
        simp
        omega
    · have h2 : byte s i ≠ 34 := by simpa using h2
      refine Sa ?_
      refine CW.no rfl (by simpa using h2) ?_
      refine Sa ?_
      refine CW.cond rfl (fun h5 => ?_) (fun h5 => ?_)
      · have h5 : byte s i < 32 := by simpa using h5
        refine Sa ?_
        (apply LW.store_all; exact rfl; exact rfl; exact rfl; assumption; exact rfl; exact rfl; exact rfl; intro w8 hc8 hC)
        replace hC : Blk w8 C (tokL ⟨0, [], 0, refN, 0⟩) 102 := hC
        replace hB := hB.chg hc8 (by simp; omega)
        have hcc : Chg [b] w w8 := ((hx.trans hx2).mono (S' := [b]) (by simp)).fresh hc8 (by simp; omega)
        refine Sa ?_
        refine QW.body_ct Tryz.results149 rfl hC rfl rfl rfl rfl ⟨_, _, a, rfl, hcc, hB, by omega, by omega, ?_⟩
        have e := hsc.2
        rw [scan_low (i := i) (by omega) h5] at e
        simp only [textO, List.drop_drop]
        rw [e]
        simp
      · have h5 : ¬ byte s i < 32 := by simpa using h5
        refine Sa ?_
        refine Sa ?_
        (apply LW.buildSlice; exact rfl; exact rfl; exact rfl; exact rfl; exact rfl; exact rfl; exact rfl; exact rfl; exact rfl; intro A w3 hbA hx3 hA)
        replace hown := hown.ext hx3
        replace hx2 := hx2.trans hx3
        have hz3 := hx2.size
        refine Sa ?_
        refine LW.append rfl rfl rfl rfl rfl rfl hown (by omega) hA rfl rfl rfl (by show (out.length + 1) * 2 ≤ 140737488355328; omega) rfl ?_
        intro v' w4 hc4 hown' hv'
        replace hx2 := hx2.step hc4 (fun k hk => (hown.lt hk).1)
        refine Sa ?_
        refine QW.again (i + 1, out ++ [ch (byte s i)], v') ⟨by show i + 1 ≤ _; omega, by show (out ++ _).length ≤ i + 1; simp; omega, hx2, own_snoc hby.1 (by omega) hown', ScanAt.go hsc (by omega) ?_⟩ (Sub.cons rfl (Sub.cons rfl (Sub.cons rfl (Sub.cons rfl (Sub.nil))))) (by show s.length - (i + 1) < s.length - i; omega)
        rw [scan_go h1 h2 h5, show i + 1 - i = 1 by omega]
  · have h1 : i = s.length := by simp at h1; omega
    refine Sa ?_
    (apply LW.store_all; exact rfl; exact rfl; exact rfl; assumption; exact rfl; exact rfl; exact rfl; intro w8 hc8 hC)
    replace hC : Blk w8 C (tokL ⟨0, [], 0, refN, 0⟩) 102 := hC
    replace hB := hB.chg hc8 (by simp; omega)
    have hcc : Chg [b] w w8 := ((hx.trans hx2).mono (S' := [b]) (by simp)).fresh hc8 (by simp; omega)
    refine Sa ?_
    refine QW.body_ct Tryz.results149 rfl hC rfl rfl rfl rfl ⟨_, _, a, rfl, hcc, hB, by omega, by omega, ?_⟩
    have e := hsc.2
    rw [scan_end (i := i) (by omega)] at e
    simp only [textO, List.drop_drop]
    rw [e]
    simp
end Go.Proofs.YtiloogjageledaaGreatDoor

namespace Go.Proofs.YtiloogjageledaaGreatDoor
open Go Go.E

def byF (c : Int) : Nat := if digB c then 148 else if c = 34 then 149 else if begB c then 151 else 152
theorem by_ret (c : Int) (w : World) : Ret Tryz.prog 109 [.int .u8 c] w (fun v w' => v = .func (.func (byF c)) #[] #[] ∧ Ext w w') := by
  refine Ret.enter Tryz.func109 rfl Tryz.ntmps109 (by kernel_rfl) rfl ?_
  refine Sa ?_
  refine LW.call0 rfl rfl (ldigit_ret _ _) ?_
  rintro v w1 ⟨rfl, hx⟩
  refine Sa ?_
  refine CW.cond rfl (fun h1 => ?_) (fun h1 => ?_)
  · refine Sa ?_
    refine QW.body1 Tryz.results109 rfl ⟨?_, hx⟩
    simp [byF, h1]
  · refine Sa ?_
    refine CW.cond rfl (fun h2 => ?_) (fun h2 => ?_)
    · have h2 : c = 34 := by simpa using h2
      refine Sa ?_
      refine QW.body1 Tryz.results109 rfl ⟨?_, hx⟩
      rw [byF, h1, if_neg (by simp), if_pos h2]
    · have h2 : c ≠ 34 := by simpa using h2
      refine Sa ?_
      refine LW.call0 rfl rfl (begins_ret _ _) ?_
      rintro v w2 ⟨rfl, hx2⟩
      replace hx := hx.trans hx2
      refine Sa ?_
      refine CW.cond rfl (fun h3 => ?_) (fun h3 => ?_)
      all_goals
        refine Sa ?_
        refine QW.body1 Tryz.results109 rfl ⟨?_, hx⟩
        simp [byF, h1, h2, h3]

theorem one_ret (s : List UInt8) (hs : s.length ≤ 1000) (a : Nat) (ha : a < s.length) (b : Nat) (w0 w : World) (g : Glob w0) (h0 : Ext w0 w) (hb0 : w0.heap.size ≤ b) (hB : Blk w b [str s, .int .i64 a] 145) :
    Ret Tryz.prog (byF (byte s a)) [.pointer (some ⟨b, 0, none⟩)] w (TokR s a b w (oneO (s.drop a))) := by
  have e : byte (s.drop a) 0 = byte s a := by rw [byte_drop']; rfl
  unfold byF oneO
  rw [e]
  cases h1 : digB (byte s a)
  · by_cases h2 : byte s a = 34
    · simp only [Bool.false_eq_true, if_false, h2, if_true]
      exact textQ_ret s hs a ha b w hB
    · cases h3 : begB (byte s a)
      · simp only [Bool.false_eq_true, if_false, h2]
        exact signL_ret s hs a ha b w hB
      · simp only [Bool.false_eq_true, if_false, h2, if_true]
        exact word_ret s hs a ha b w0 w g h0 hb0 hB
  · simp only [if_true]
    exact number_ret s hs a ha h1 b w0 w g h0 hb0 hB

/-- What the tokens of a text are told as. -/
def LexV (s : List UInt8) (v : Value) (w : World) (lo : Nat) : Prop :=
  if 300 < s.length then v = .tuple #[.slice none 0 0, .int .i64 4]
  else match lexT s with
    | none => v = .tuple #[.slice none 0 0, .int .i64 5]
    | some l => ∃ sv, v = .tuple #[sv, .int .i64 0] ∧ Own w lo 102 9 sv l.length (l.flatMap tokL)

theorem own_tok {w : World} {lo : Nat} {e : TypeId} {v : Value} {out : List TokD} {t : TokD} (h : Own w lo e 9 v (out.length + 1) (out.flatMap tokL ++ tokL t)) : Own w lo e 9 v (out ++ [t]).length ((out ++ [t]).flatMap tokL) := by
  simpa using h

theorem Lex_ret (s : List UInt8) (hs : s.length ≤ 9223372036854775807) (w : World) (g : Glob w) : Ret Tryz.prog 65 [str s] w (fun v w' => LexV s v w' w.heap.size ∧ Ext w w') := by
  refine Ret.enter Tryz.func65 rfl Tryz.ntmps65 (by kernel_rfl) rfl ?_
  refine Sa ?_
  refine CW.cond rfl (fun h1 => ?_) (fun h1 => ?_)
  · have h1 : 300 < s.length := by simp at h1; omega
    refine Sa ?_
    refine QW.body2 Tryz.results65 rfl rfl ⟨?_, Chg.refl _ _⟩
    rw [LexV, if_pos h1]
  have h1 : ¬ 300 < s.length := by simp at h1; omega
  refine Sa ?_
  (apply LW.box; exact rfl; exact rfl; exact rfl; intro b w1 hbb hx hB)
  replace hB : Blk w1 b [str s, .int .i64 ((0 : Nat) : Int)] 145 := hB
  have hz1 : b < w1.heap.size := hB.lt
  refine Sa ?_
  refine CW.loop (ι := Nat × List TokD × Value) (fun k w' => k.1 ≤ s.length ∧ k.2.1.length ≤ k.1 ∧ Ext w w' ∧ w1.heap.size ≤ w'.heap.size ∧ Blk w' b [str s, .int .i64 k.1] 145 ∧ Own w' w1.heap.size 102 9 k.2.2 k.2.1.length (k.2.1.flatMap tokL) ∧ LexAt s k.1 k.2.1) (fun k => [(0, str s), (4, .pointer (some ⟨b, 0, none⟩)), (5, k.2.2)]) (fun k => s.length - k.1) (0, [], .slice none 0 0) ⟨by simp, by simp, hx, Nat.le_refl _, hB, Own.nil _ _ _ _, LexAt.start _⟩ (Sub.cons rfl (Sub.cons rfl (Sub.cons rfl (Sub.nil)))) ?_
  rintro ⟨a, out, v⟩ w2 ⟨ha, ho, hx2, hz2, hB2, hown, hla⟩
  clear hB
  simp only at ha ho hB2 hown hla
  show CW _ _ _ _ _ [(0, str s), (4, .pointer (some ⟨b, 0, none⟩)), (5, v)] _
  have hbv : b ∉ vblk v := hown.old hz1
  refine Sa ?_
  refine LW.call0 rfl rfl (lwhile_ret spB _ space_ret s (by omega) a (by omega) b w2 hB2) ?_
  rintro u w3 ⟨rfl, hc3, hB3⟩
  have hx3 := hx2.step hc3 (by simp; omega)
  have hz3 := hc3.size
  have hown3 := hown.chg hc3 (fun j hj hb => hbv (by simp at hb; subst hb; exact hj))
  generalize hc : a + (spanL spB (s.drop a)).length = c at hB3
  have hcl : c ≤ s.length := by
    have := span_le spB (s.drop a)
    simp at this
    omega
  refine Sa ?_
  refine CW.cond rfl (fun h2 => ?_) (fun h2 => ?_)
  · have h2 : c = s.length := by simp at h2; omega
    refine Sa ?_
    (apply LW.buildSlice; exact rfl; exact rfl; exact rfl; exact rfl; exact rfl; exact rfl; exact rfl; exact rfl; exact rfl; intro A w4 hbA hx4 hA)
    replace hA : Blk w4 A (tokL ⟨0, [], 0, refN, (s.length : Int)⟩) 102 := by rw [← h2]; exact hA
    have hz4 := hx4.size
    refine Sa ?_
    refine LW.append rfl rfl rfl rfl rfl rfl (hown3.ext hx4) (by omega) hA rfl rfl rfl (by show (out.length + 1) * 81 ≤ 140737488355328; omega) rfl ?_
    intro v' w5 hc5 hown5 _
    refine Sa ?_
    refine QW.body2 Tryz.results65 rfl rfl ⟨?_, (hx3.trans hx4).step hc5 (fun k hk => ?_)⟩
    · rw [LexV, if_neg h1, hla.end (by omega)]
      refine ⟨_, rfl, ?_⟩
      obtain ⟨hl, hh⟩ := own_tok hown5
      refine ⟨hl, ?_⟩
      rcases hh with hh | ⟨gg, cap, sp, e1, e2, e3, e4, e5⟩
      · exact .inl hh
      · exact .inr ⟨gg, cap, sp, e1, e2, e3, e4, by have := hx.size; omega⟩
    · have := (hown.lt hk).1
      have := hx.size
      omega
  have h2 : c < s.length := by simp at h2; omega
  refine Sa ?_
  refine LW.call0 rfl rfl (by_ret _ _) ?_
  rintro u w4 ⟨rfl, hx4⟩
  have hz4 := hx4.size
  refine Sa ?_
  refine LW.call (fs := []) (cs := []) rfl rfl rfl (one_ret s (by omega) c h2 b w w4 g (hx3.trans hx4) (by omega) (hB3.ext hx4)) ?_
  rintro u w5 ⟨t, ok, a', rfl, hc5, hB5, hal, hca, ho5⟩
  have hx5 := (hx3.trans hx4).step hc5 (by simp; omega)
  have hz5 := hc5.size
  have hown5 := (hown3.ext hx4).chg hc5 (fun j hj hb => hbv (by simp at hb; subst hb; exact hj))
  refine Sa ?_
  (apply LW.alloc; exact rfl; exact rfl; exact rfl; intro C w6 hbC hx6 hC)
  have hz6 := hx6.size
  refine Sa ?_
  (apply LW.store_all; exact rfl; exact rfl; exact rfl; assumption; exact rfl; exact rfl; exact rfl; intro w7 hc7 hC)
  replace hC : Blk w7 C (tokL t) 102 := hC
  have hx7 := (hx5.trans hx6).step hc7 (by simp; omega)
  have hz7 := hc7.size
  have hB7 := (hB5.ext hx6).chg hc7 (by simp; omega)
  have hown7 := (hown5.ext hx6).chg hc7 (fun j hj hb => by
    simp at hb
    have := (hown5.lt hj).2
    omega)
  refine Sa ?_
  cases ok with
  | false =>
    refine Sa ?_
    refine QW.body2 Tryz.results65 rfl rfl ⟨?_, hx7⟩
    rw [LexV, if_neg h1, hla.bad hc h2 (by simpa using ho5)]
  | true =>
    have ho5 : oneO (s.drop c) = some (t, a' - c) := by simpa using ho5
    have hpos := oneO_pos (by intro hn; have := congrArg List.length hn; simp at this; omega) ho5
    refine Sa ?_
    (apply LW.store; exact rfl; exact rfl; exact rfl; assumption; exact rfl; exact rfl; exact rfl; intro w8 hc8 hC)
    replace hC : Blk w8 C (tokL { t with at_ := (c : Int) }) 102 := hC
    have hx8 := hx7.step hc8 (by simp; omega)
    have hz8 := hc8.size
    have hB8 := hB7.chg hc8 (by simp; omega)
    have hown8 := hown7.chg hc8 (fun j hj hb => by
      simp at hb
      have := (hown5.lt hj).2
      omega)
    refine Sa ?_
    (apply LW.buildSlice; exact rfl; exact rfl; exact rfl; exact rfl; exact rfl; exact rfl; exact rfl; exact rfl; exact rfl; intro A w9 hbA hx9 hA)
    replace hA : Blk w9 A (tokL { t with at_ := (c : Int) }) 102 := hA
    have hz9 := hx9.size
    refine Sa ?_
    refine LW.append rfl rfl rfl rfl rfl rfl (hown8.ext hx9) (by omega) hA rfl rfl rfl (by show (out.length + 1) * 81 ≤ 140737488355328; omega) rfl ?_
    intro v' w10 hc10 hown10 _
    have hz10 := hc10.size
    refine Sa ?_
    refine QW.again (a', out ++ [{ t with at_ := (c : Int) }], v') ⟨hal, by simp; omega, ?_, by omega, ?_, own_tok hown10, ?_⟩ (Sub.cons rfl (Sub.cons rfl (Sub.cons rfl (Sub.nil)))) (by show s.length - a' < s.length - a; omega)
    · refine (hx8.trans hx9).step hc10 (fun k hk => ?_)
      have := (hown.lt hk).1
      omega
    · exact (hB8.ext hx9).chg hc10 hbv
    · have := hla.go hc h2 ho5
      rwa [show c + (a' - c) = a' by omega] at this
end Go.Proofs.YtiloogjageledaaGreatDoor
