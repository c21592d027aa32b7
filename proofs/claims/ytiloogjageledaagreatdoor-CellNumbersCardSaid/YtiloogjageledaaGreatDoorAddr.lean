/-
  Plain laws of letters, names, columns: no program in sight.
  Walks: letters, names, columns (addr, chequerref1).
  Walks: columns and texts of references (addr).
  Walks: texts of references, and what texts tell (addr).
  The walk of addr.Read.
  Plain laws: a reference's text tells the reference. No program in sight.
-/
import Derived.Test.YtiloogjageledaaGreatDoorEng
import Derived.Lib.ItoaNum
import Derived.Lib.Strings
import Derived.Lib.IndexMore
import Derived.Lib.AtoiAll
import Derived.Test.YtiloogjageledaaGreatDoorTab
import Derived.Test.YtiloogjageledaaGreatDoorGlob
import Derived.Lib.ItoaLen
namespace Go.Proofs.YtiloogjageledaaGreatDoor
open Go Go.E

def capB (c : Int) : Bool := decide (65 ≤ c) && decide (c ≤ 90)
def digB (c : Int) : Bool := decide (48 ≤ c) && decide (c ≤ 57)
def letB (c : Int) : Bool := capB c || (decide (97 ≤ c) && decide (c ≤ 122))
/-- A letter or a digit. -/
def ldB (c : Int) : Bool := letB c || digB c

def nameB (l : List UInt8) : Bool := decide (l ≠ []) && decide (l.length ≤ 12) && letB (byte l 0) && decide (∀ j, j < l.length → ldB (byte l j) = true)

theorem nameB_nil : nameB [] = false := rfl
theorem nameB_long {l : List UInt8} (h : 12 < l.length) : nameB l = false := by simp [nameB]; intros; omega
theorem nameB_first {l : List UInt8} (h : letB (byte l 0) = false) : nameB l = false := by simp [nameB, h]
theorem nameB_at {l : List UInt8} {k : Nat} (hk : k < l.length) (h : ldB (byte l k) = false) : nameB l = false := by
  simp only [nameB, Bool.and_eq_false_iff, decide_eq_false_iff_not]
  exact Or.inr fun hh => by rw [hh k hk] at h; cases h
theorem nameB_true {l : List UInt8} (h0 : l ≠ []) (h1 : l.length ≤ 12) (h2 : letB (byte l 0) = true) (h3 : ∀ j, j < l.length → ldB (byte l j) = true) : nameB l = true := by
  simp [nameB, h0, h1, h2]
  exact h3

def colT (n : Int) : List UInt8 :=
  if n < 0 ∨ 701 < n then [] else if n < 26 then [ch (65 + n)] else [ch (65 + n / 26 - 1), ch (65 + n % 26)]

/-- A column's number, of its letters. -/
def readCol (l : List UInt8) : Option Int :=
  match l with
  | [_] => if capB (byte l 0) then some (byte l 0 - 65) else none
  | [_, _] => if capB (byte l 0) && capB (byte l 1) then some ((byte l 0 - 65 + 1) * 26 + (byte l 1 - 65)) else none
  | _ => none
def readColV (l : List UInt8) : Value := match readCol l with
  | some n => .tuple #[.int .i64 n, .bool true]
  | none => .tuple #[.int .i64 0, .bool false]

/-- A reference, as data. -/
structure RefD where
  sheet : List UInt8
  col : Int
  row : Int
  ac : Bool
  ar : Bool
deriving DecidableEq

def refL (x : RefD) : List Value := [str x.sheet, .int .i64 x.col, .int .i64 x.row, .bool x.ac, .bool x.ar]
def refV (x : RefD) : Value := .agg ⟨[str x.sheet, .int .i64 x.col, .int .i64 x.row, .bool x.ac, .bool x.ar]⟩

def mayB (x : RefD) : Bool := (decide (x.sheet = []) || nameB x.sheet) && decide (0 ≤ x.col) && decide (x.col ≤ 701) && decide (0 ≤ x.row) && decide (x.row ≤ 998)

def markT (b : Bool) : List UInt8 := if b then [36] else []

/-- A reference's text, where it may be. -/
def textB (x : RefD) : List UInt8 := (if x.sheet = [] then [] else x.sheet ++ [33]) ++ (markT x.ac ++ colT x.col ++ markT x.ar ++ Lib.itoa (x.row + 1))
def textT (x : RefD) : List UInt8 := if mayB x then textB x else []

/-- As far as the bytes are of a kind. -/
def spanL (p : Int → Bool) (s : List UInt8) : List UInt8 := s.takeWhile fun c => p c.toNat
def restL (p : Int → Bool) (s : List UInt8) : List UInt8 := s.dropWhile fun c => p c.toNat

theorem span_at (p : Int → Bool) : ∀ (s : List UInt8) (k : Nat), k ≤ s.length → (∀ j, j < k → p (byte s j) = true) → (k = s.length ∨ p (byte s k) = false) → s.take k = spanL p s ∧ s.drop k = restL p s
  | [], k, hk, _, _ => by simp [spanL, restL]
  | c :: s, 0, _, _, h => by
    rcases h with h | h
    · simp at h
    · have hc : p (c.toNat : Int) = false := h
      simp [spanL, restL, hc]
  | c :: s, k + 1, hk, hall, h => by
    have hc : p (c.toNat : Int) = true := hall 0 (by omega)
    have ih := span_at p s k (by simpa using hk) (fun j hj => hall (j + 1) (by omega)) (by
      rcases h with h | h
      · exact Or.inl (by simpa using h)
      · exact Or.inr h)
    simp [spanL, restL, hc] at ih ⊢
    exact ih

theorem cut_head (s : List UInt8) (k : Nat) : cut s 0 k = s.take k := by simp [cut]
theorem cut_tail (s : List UInt8) (k : Nat) : cut s k s.length = s.drop k := by
  unfold cut; exact List.take_of_length_le (by simp)

/-- What Read makes of a text's parts. -/
def candS (s : List UInt8) : List UInt8 := if (Lib.cut s [33]).2.2 then (Lib.cut s [33]).1 else []
def candR (s : List UInt8) : List UInt8 := if (Lib.cut s [33]).2.2 then (Lib.cut s [33]).2.1 else s
def cand1 (s : List UInt8) : List UInt8 := Lib.trimPrefix (candR s) [36]
def cand2 (s : List UInt8) : List UInt8 := restL capB (cand1 s)
def cand3 (s : List UInt8) : List UInt8 := Lib.trimPrefix (cand2 s) [36]

theorem spanL_length (p : Int → Bool) (s : List UInt8) : (spanL p s).length ≤ s.length := by
  unfold spanL; exact (List.takeWhile_sublist _).length_le
theorem restL_length (p : Int → Bool) (s : List UInt8) : (restL p s).length ≤ s.length := by
  unfold restL; exact (List.dropWhile_sublist _).length_le
theorem trimPrefix_length (s p : List UInt8) : (Lib.trimPrefix s p).length ≤ s.length := by
  unfold Lib.trimPrefix; split <;> simp
theorem cut_len1 (s p : List UInt8) : (Lib.cut s p).1.length ≤ s.length := by
  unfold Lib.cut; split <;> simp
  omega
theorem cut_len2 (s p : List UInt8) : (Lib.cut s p).2.1.length ≤ s.length := by
  unfold Lib.cut; split <;> simp

theorem colT_length (n : Int) : (colT n).length ≤ 2 := by
  unfold colT; split
  · simp
  · split <;> simp
theorem markT_length (b : Bool) : (markT b).length ≤ 1 := by cases b <;> simp [markT]

end Go.Proofs.YtiloogjageledaaGreatDoor

namespace Go.Proofs.YtiloogjageledaaGreatDoor
open Go Go.E

theorem capital_ret (c : Int) (w : World) : Ret Tryz.prog 195 [.int .u8 c] w (fun v w' => v = .bool (capB c) ∧ Ext w w') := by
  refine Ret.enter Tryz.func195 rfl Tryz.ntmps195 (by kernel_rfl) rfl ?_
  refine Sa ?_
  refine LW.part rfl rfl rfl (fun h1 => ?_) (fun h1 => ?_)
  all_goals
    refine Sa ?_
    refine QW.body1 Tryz.results195 rfl ⟨?_, Chg.refl _ _⟩
    simp [capB, h1]
theorem digit_ret (c : Int) (w : World) : Ret Tryz.prog 180 [.int .u8 c] w (fun v w' => v = .bool (digB c) ∧ Ext w w') := by
  refine Ret.enter Tryz.func180 rfl Tryz.ntmps180 (by kernel_rfl) rfl ?_
  refine Sa ?_
  refine LW.part rfl rfl rfl (fun h1 => ?_) (fun h1 => ?_)
  all_goals
    refine Sa ?_
    refine QW.body1 Tryz.results180 rfl ⟨?_, Chg.refl _ _⟩
    simp [digB, h1]
theorem letter_ret (c : Int) (w : World) : Ret Tryz.prog 179 [.int .u8 c] w (fun v w' => v = .bool (letB c) ∧ Ext w w') := by
  refine Ret.enter Tryz.func179 rfl Tryz.ntmps179 (by kernel_rfl) rfl ?_
  refine Sa ?_
  refine LW.call0 rfl rfl (capital_ret _ _) ?_
  rintro v w' ⟨rfl, hx⟩
  refine Sa ?_
  refine LW.part rfl rfl rfl (fun h1 => ?_) (fun h1 => ?_)
  · refine Sa ?_
    refine QW.body1 Tryz.results179 rfl ⟨?_, hx⟩
    simp [letB, h1]
  · refine Sa ?_
    refine LW.part rfl rfl rfl (fun h2 => ?_) (fun h2 => ?_)
    all_goals
      refine Sa ?_
      refine QW.body1 Tryz.results179 rfl ⟨?_, hx⟩
      simp [letB, h1, h2]

theorem Name_ret (s : List UInt8) (w : World) (hs : s.length ≤ 1000000) : Ret Tryz.prog 140 [str s] w (fun v w' => v = .bool (nameB s) ∧ Ext w w') := by
  refine Ret.enter Tryz.func140 rfl Tryz.ntmps140 (by kernel_rfl) rfl ?_
  refine Sa ?_
  refine LW.part rfl rfl rfl (fun h0 => ?_) (fun h0 => ?_)
  · have h0 : s = [] := by simpa using h0
    subst h0
    refine Sa ?_
    refine QW.body1 Tryz.results140 rfl ⟨rfl, Chg.refl _ _⟩
  have h0 : s ≠ [] := by simpa using h0
  have hp : 0 < s.length := List.length_pos_iff.2 h0
  refine Sa ?_
  refine LW.part rfl rfl rfl (fun h1 => ?_) (fun h1 => ?_)
  · have h1 : 12 < s.length := by simp at h1; omega
    refine Sa ?_
    refine QW.body1 Tryz.results140 rfl ⟨by rw [nameB_long h1], Chg.refl _ _⟩
  have h1 : s.length ≤ 12 := by simp at h1; omega
  refine Sa ?_
  refine LW.call0 rfl rfl (letter_ret _ _) ?_
  rintro v w1 ⟨rfl, hx⟩
  refine Sa ?_
  refine CW.cond rfl (fun h2 => ?_) (fun h2 => ?_)
  · refine Sa ?_
    refine QW.body1 Tryz.results140 rfl ⟨?_, hx⟩
    rw [nameB_first]
    simpa using h2
  have h2 : letB (byte s 0) = true := by simpa using h2
  refine Sa ?_
  refine CW.loop (ι := Nat) (fun k w' => k ≤ s.length ∧ Ext w w' ∧ ∀ j, j < k → ldB (byte s j) = true) (fun k => [(0, str s), (18, .int .i64 s.length), (19, .int .i64 k)]) (fun k => s.length - k) 0 ⟨by omega, hx, by omega⟩ (Sub.cons rfl (Sub.cons rfl (Sub.cons rfl (Sub.nil)))) ?_
  rintro k w2 ⟨hk, hx2, hall⟩
  refine Sa ?_
  refine CW.cond rfl (fun h3 => ?_) (fun h3 => ?_)
  · have h3 : k < s.length := by simpa using h3
    refine Sa ?_
    refine LW.call0 rfl rfl (letter_ret _ _) ?_
    rintro v w3 ⟨rfl, hx3⟩
    refine Sa ?_
    refine LW.part rfl rfl rfl (fun h4 => ?_) (fun h4 => ?_)
    · refine Sa ?_
      refine LW.call0 rfl rfl (digit_ret _ _) ?_
      rintro v w4 ⟨rfl, hx4⟩
      refine Sa ?_
      refine CW.cond rfl (fun h5 => ?_) (fun h5 => ?_)
      · refine Sa ?_
        refine QW.body1 Tryz.results140 rfl ⟨?_, (hx2.trans hx3).trans hx4⟩
        rw [nameB_at h3]
        simp at h4 h5
        simp [ldB, h4, h5]
      · refine Sa ?_
        refine QW.again (k + 1) ⟨by omega, (hx2.trans hx3).trans hx4, ?_⟩ (Sub.cons rfl (Sub.cons rfl (Sub.cons rfl (Sub.nil)))) (by omega)
        intro j hj
        by_cases hjk : j = k
        · subst hjk; simp at h5; simp [ldB, h5]
        · exact hall j (by omega)
    · refine Sa ?_
      refine QW.again (k + 1) ⟨by omega, hx2.trans hx3, ?_⟩ (Sub.cons rfl (Sub.cons rfl (Sub.cons rfl (Sub.nil)))) (by omega)
      intro j hj
      by_cases hjk : j = k
      · subst hjk; simp at h4; simp [ldB, h4]
      · exact hall j (by omega)
  · have h3 : k = s.length := by simp at h3; omega
    subst h3
    refine Sa ?_
    refine QW.body1 Tryz.results140 rfl ⟨?_, hx2⟩
    rw [nameB_true h0 h1 h2 hall]
end Go.Proofs.YtiloogjageledaaGreatDoor

namespace Go.Proofs.YtiloogjageledaaGreatDoor
open Go Go.E

theorem mark_ret (b : Bool) (w : World) : Ret Tryz.prog 197 [.bool b] w (fun v w' => v = str (markT b) ∧ Ext w w') := by
  cases b
  all_goals
    refine Ret.enter Tryz.func197 rfl Tryz.ntmps197 (by kernel_rfl) rfl ?_
    refine Sa ?_
    refine QW.body1 Tryz.results197 rfl ⟨rfl, Chg.refl _ _⟩

theorem Col_ret (n : Int) (h0 : -9223372036854775808 ≤ n) (h1 : n ≤ 9223372036854775807) (w : World) : Ret Tryz.prog 198 [.int .i64 n] w (fun v w' => v = str (colT n) ∧ Ext w w') := by
  refine Ret.enter Tryz.func198 rfl Tryz.ntmps198 (by kernel_rfl) rfl ?_
  refine Sa ?_
  refine LW.part rfl rfl rfl (fun h2 => ?_) (fun h2 => ?_)
  · have h2 : n < 0 := by simpa using h2
    refine Sa ?_
    refine QW.body1 Tryz.results198 rfl ⟨?_, Chg.refl _ _⟩
    rw [colT, if_pos (by omega)]
  have h2 : 0 ≤ n := by simpa using h2
  refine Sa ?_
  refine CW.cond rfl (fun h3 => ?_) (fun h3 => ?_)
  · have h3 : 701 < n := by simpa using h3
    refine Sa ?_
    refine QW.body1 Tryz.results198 rfl ⟨?_, Chg.refl _ _⟩
    rw [colT, if_pos (by omega)]
  have h3 : n ≤ 701 := by simpa using h3
  refine Sa ?_
  refine CW.cond rfl (fun h4 => ?_) (fun h4 => ?_)
  · have h4 : n < 26 := by simpa using h4
    refine Sa ?_
    refine QW.body1 Tryz.results198 rfl ⟨?_, Chg.refl _ _⟩
    rw [colT, if_neg (by omega), if_pos h4]
    rfl
  · have h4 : 26 ≤ n := by simpa using h4
    refine Sa ?_
    refine QW.body1 Tryz.results198 rfl ⟨?_, Chg.refl _ _⟩
    rw [colT, if_neg (by omega), if_neg (by omega)]
    rfl

theorem May_ret (x : RefD) (hs : x.sheet.length ≤ 1000000) (w : World) : Ret Tryz.prog 119 [refV x] w (fun v w' => v = .bool (mayB x) ∧ Ext w w') := by
  obtain ⟨sh, c, r, ac, ar⟩ := x
  simp only [refV]
  refine Ret.enter Tryz.func119 rfl Tryz.ntmps119 (by kernel_rfl) rfl ?_
  refine Sa ?_
  (apply LW.box; exact rfl; exact rfl; exact rfl; intro b w1 hb hx hB)
  refine Sa ?_
  refine LW.part rfl rfl rfl (fun h1 => ?_) (fun h1 => ?_)
  · refine Sa ?_
    refine LW.part rfl rfl rfl (fun h2 => ?_) (fun h2 => ?_)
    · refine Sa ?_
      refine LW.part rfl rfl rfl (fun h3 => ?_) (fun h3 => ?_)
      · refine Sa ?_
        refine LW.part rfl rfl rfl (fun h4 => ?_) (fun h4 => ?_)
        · refine Sa ?_
          refine QW.body1 Tryz.results119 rfl ⟨?_, hx⟩
          simp [mayB, *]
        · refine Sa ?_
          refine QW.body1 Tryz.results119 rfl ⟨?_, hx⟩
          simp [mayB, *]
      · refine Sa ?_
        refine QW.body1 Tryz.results119 rfl ⟨?_, hx⟩
        simp [mayB, *]
    · refine Sa ?_
      refine QW.body1 Tryz.results119 rfl ⟨?_, hx⟩
      simp [mayB, *]
  · refine Sa ?_
    refine LW.call0 rfl rfl (Name_ret _ _ hs) ?_
    rintro v w2 ⟨rfl, hx2⟩
    replace hB := hB.ext hx2
    replace hx := hx.trans hx2
    refine Sa ?_
    refine LW.part rfl rfl rfl (fun h0 => ?_) (fun h0 => ?_)
    · refine Sa ?_
      refine LW.part rfl rfl rfl (fun h2 => ?_) (fun h2 => ?_)
      · refine Sa ?_
        refine LW.part rfl rfl rfl (fun h3 => ?_) (fun h3 => ?_)
        · refine Sa ?_
          refine LW.part rfl rfl rfl (fun h4 => ?_) (fun h4 => ?_)
          · refine Sa ?_
            refine QW.body1 Tryz.results119 rfl ⟨?_, hx⟩
            simp [mayB, *]
          · refine Sa ?_
            refine QW.body1 Tryz.results119 rfl ⟨?_, hx⟩
            simp [mayB, *]
        · refine Sa ?_
          refine QW.body1 Tryz.results119 rfl ⟨?_, hx⟩
          simp [mayB, *]
      · refine Sa ?_
        refine QW.body1 Tryz.results119 rfl ⟨?_, hx⟩
        simp [mayB, *]
    · refine Sa ?_
      refine QW.body1 Tryz.results119 rfl ⟨?_, hx⟩
      simp [mayB, *]
end Go.Proofs.YtiloogjageledaaGreatDoor

namespace Go.Proofs.YtiloogjageledaaGreatDoor
open Go Go.E

theorem ReadCol_ret (s : List UInt8) (hs : s.length ≤ 1000000) (w : World) : Ret Tryz.prog 194 [str s] w (fun v w' => v = readColV s ∧ Ext w w') := by
  match s, hs with
  | [], _ =>
    refine Ret.enter Tryz.func194 rfl Tryz.ntmps194 (by kernel_rfl) rfl ?_
    refine Sa ?_
    refine QW.body2 Tryz.results194 rfl rfl ⟨rfl, Chg.refl _ _⟩
  | a :: b :: c :: l, hs =>
    simp at hs
    refine Ret.enter Tryz.func194 rfl Tryz.ntmps194 (by kernel_rfl) rfl ?_
    refine Sa ?_
    refine CW.cond rfl (fun h => ?_) (fun h => ?_)
    · refine Sa ?_
      refine QW.body2 Tryz.results194 rfl rfl ⟨rfl, Chg.refl _ _⟩
    · simp at h; omega
  | [a], _ =>
    refine Ret.enter Tryz.func194 rfl Tryz.ntmps194 (by kernel_rfl) rfl ?_
    refine Sa ?_
    refine CW.rounds 2 ?_
    refine Sa ?_
    refine LW.call0 rfl rfl (capital_ret _ _) ?_
    rintro v w1 ⟨rfl, hx⟩
    refine Sa ?_
    refine CW.cond rfl (fun h1 => ?_) (fun h1 => ?_)
    · refine Sa ?_
      refine QW.body2 Tryz.results194 rfl rfl ⟨?_, hx⟩
      have h1 : capB (byte [a] 0) = false := by simpa using h1
      simp [readColV, readCol, h1]
    have h1 : capB (byte [a] 0) = true := by simpa using h1
    have hb := byte_lt [a] 0
    have hb2 : 65 ≤ byte [a] 0 ∧ byte [a] 0 ≤ 90 := by simpa [capB] using h1
    have e0 : byte [a] (0 : Int).toNat = byte [a] 0 := rfl
    refine Sa ?_
    refine QW.body2 Tryz.results194 rfl rfl ⟨?_, hx⟩
    simp [readColV, readCol, h1]
  | [a, b], _ =>
    refine Ret.enter Tryz.func194 rfl Tryz.ntmps194 (by kernel_rfl) rfl ?_
    refine Sa ?_
    refine CW.rounds 3 ?_
    refine Sa ?_
    refine LW.call0 rfl rfl (capital_ret _ _) ?_
    rintro v w1 ⟨rfl, hx⟩
    refine Sa ?_
    refine CW.cond rfl (fun h1 => ?_) (fun h1 => ?_)
    · refine Sa ?_
      refine QW.body2 Tryz.results194 rfl rfl ⟨?_, hx⟩
      have h1 : capB (byte [a, b] 0) = false := by simpa using h1
      simp [readColV, readCol, h1]
    have h1 : capB (byte [a, b] 0) = true := by simpa using h1
    have hb := byte_lt [a, b] 0
    have hb2 : 65 ≤ byte [a, b] 0 ∧ byte [a, b] 0 ≤ 90 := by simpa [capB] using h1
    have e0 : byte [a, b] (0 : Int).toNat = byte [a, b] 0 := rfl
    refine Sa ?_
    refine LW.call0 rfl rfl (capital_ret _ _) ?_
    rintro v w2 ⟨rfl, hx2⟩
    refine Sa ?_
    refine CW.cond rfl (fun h3 => ?_) (fun h3 => ?_)
    · refine Sa ?_
      refine QW.body2 Tryz.results194 rfl rfl ⟨?_, hx.trans hx2⟩
      have h3 : capB (byte [a, b] 1) = false := by simpa using h3
      simp [readColV, readCol, h1, h3]
    have h3 : capB (byte [a, b] 1) = true := by simpa using h3
    have hc := byte_lt [a, b] 1
    have hc2 : 65 ≤ byte [a, b] 1 ∧ byte [a, b] 1 ≤ 90 := by simpa [capB] using h3
    have e1 : byte [a, b] (0 + 1 : Int).toNat = byte [a, b] 1 := rfl
    refine Sa ?_
    refine QW.body2 Tryz.results194 rfl rfl ⟨?_, hx.trans hx2⟩
    simp [readColV, readCol, h1, h3]

theorem Text_ret (x : RefD) (hs : x.sheet.length ≤ 1000) (w : World) (g : Glob w) :
    Ret Tryz.prog 171 [refV x] w (fun v w' => v = str (textT x) ∧ Ext w w') := by
  obtain ⟨sh, c, r, ac, ar⟩ := x
  simp only at hs
  simp only [refV]
  refine Ret.enter Tryz.func171 rfl Tryz.ntmps171 (by kernel_rfl) rfl ?_
  refine Sa ?_
  (apply LW.box; exact rfl; exact rfl; exact rfl; intro b w1 hb hx hB)
  refine Sa ?_
  refine LW.call0 rfl rfl (May_ret ⟨sh, c, r, ac, ar⟩ (by simp only; omega) w1) ?_
  rintro v w2 ⟨rfl, hx2⟩
  replace hB := hB.ext hx2
  replace hx := hx.trans hx2
  refine Sa ?_
  refine CW.cond rfl (fun h1 => ?_) (fun h1 => ?_)
  · refine Sa ?_
    refine QW.body1 Tryz.results171 rfl ⟨?_, hx⟩
    have h1 : mayB ⟨sh, c, r, ac, ar⟩ = false := by simpa using h1
    simp [textT, h1]
  have h1 : mayB ⟨sh, c, r, ac, ar⟩ = true := by simpa using h1
  have hl1 := markT_length ac
  have hl2 := markT_length ar
  have hl3 := colT_length c
  have hm : 0 ≤ c ∧ c ≤ 701 ∧ 0 ≤ r ∧ r ≤ 998 := by
    simp only [mayB, Bool.and_eq_true, decide_eq_true_eq] at h1
    exact ⟨h1.1.1.1.2, h1.1.1.2, h1.1.2, h1.2⟩
  have hl4 := Lib.itoa_length_le (r + 1) (by omega) (by omega)
  refine Sa ?_
  refine CW.draw (by kernel_rfl) (by kernel_rfl) ?_
  refine Sq ?_
  refine QL.call0 rfl rfl (fun w3 _ => mark_ret ac w3) ?_
  refine Sq ?_
  refine QL.call0 rfl rfl (fun w3 _ => Col_ret c (by omega) (by omega) w3) ?_
  refine Sq ?_
  refine QL.call0 rfl rfl (fun w3 _ => mark_ret ar w3) ?_
  refine Sq ?_
  refine QL.call0 rfl rfl (fun w3 h3 => Itoa_ret (r + 1) (by omega) (by omega) w3 (g.ext (hx.trans h3))) ?_
  refine Sq ?_
  refine QL.nil fun w3 hx3 => ?_
  replace hB := hB.ext hx3
  replace hx := hx.trans hx3
  refine Sa ?_
  refine CW.cond rfl (fun h2 => ?_) (fun h2 => ?_)
  · have h2 : sh ≠ [] := by simpa using h2
    refine Sa ?_
    refine QW.body1 Tryz.results171 rfl ⟨?_, hx⟩
    rw [textT, if_pos h1]
    simp [textB, h2]
  · have h2 : sh = [] := by simpa using h2
    refine Sa ?_
    refine QW.body1 Tryz.results171 rfl ⟨?_, hx⟩
    rw [textT, if_pos h1]
    simp [textB, h2]

theorem sign_ret (s : List UInt8) (b : Nat) (w : World) (hB : Blk w b [str s] 194) : Ret Tryz.prog 192 [.pointer (some ⟨b, 0, none⟩)] w
    (fun v w' => v = .bool (Lib.hasPrefix s [36]) ∧ Chg [b] w w' ∧ Blk w' b [str (Lib.trimPrefix s [36])] 194) := by
  refine Ret.enter Tryz.func192 rfl Tryz.ntmps192 (by kernel_rfl) rfl ?_
  refine Sa ?_
  refine LW.call0 rfl rfl (CutPrefix_ret s [36] w) ?_
  rintro v w1 ⟨rfl, hx⟩
  replace hB := hB.ext hx
  refine Sa ?_
  (apply LW.store; exact rfl; exact rfl; exact rfl; assumption; exact rfl; exact rfl; exact rfl; intro w2 hc hB2)
  refine Sa ?_
  exact QW.body1 Tryz.results192 rfl ⟨rfl, hx.chg.same hc, hB2⟩

theorem while_ret (p : Int → Bool) (f : Nat) (hp : ∀ (c : Int) (w : World), Ret Tryz.prog f [.int .u8 c] w (fun v w' => v = .bool (p c) ∧ Ext w w')) (s : List UInt8) (hs : s.length ≤ 1000000) (b : Nat) (w : World) (hB : Blk w b [str s] 194) :
    Ret Tryz.prog 193 [.pointer (some ⟨b, 0, none⟩), .func (.func f) #[] #[]] w
    (fun v w' => v = str (spanL p s) ∧ Chg [b] w w' ∧ Blk w' b [str (restL p s)] 194) := by
  refine Ret.enter Tryz.func193 rfl Tryz.ntmps193 (by kernel_rfl) rfl ?_
  refine Sa ?_
  refine CW.loop (ι := Nat) (fun k w' => k ≤ s.length ∧ Ext w w' ∧ ∀ j, j < k → p (byte s j) = true) (fun k => [(0, .pointer (some ⟨b, 0, none⟩)), (1, .func (.func f) #[] #[]), (5, .int .i64 k)]) (fun k => s.length - k) 0 ⟨by omega, Chg.refl _ _, by omega⟩ (Sub.cons rfl (Sub.cons rfl (Sub.cons rfl (Sub.nil)))) ?_
  rintro k w1 ⟨hk, hx, hall⟩
  replace hB := hB.ext hx
  refine Sa ?_
  refine LW.part rfl rfl rfl (fun h1 => ?_) (fun h1 => ?_)
  · have h1 : k < s.length := by simpa using h1
    refine Sa ?_
    refine LW.call (fs := []) (cs := []) rfl rfl rfl (hp _ _) ?_
    rintro v w2 ⟨rfl, hx2⟩
    replace hB := hB.ext hx2
    replace hx := hx.trans hx2
    refine Sa ?_
    refine CW.cond rfl (fun h2 => ?_) (fun h2 => ?_)
    · have h2 : p (byte s k) = true := h2
      refine Sa ?_
      refine QW.again (k + 1) ⟨by omega, hx, ?_⟩ (Sub.cons rfl (Sub.cons rfl (Sub.cons rfl (Sub.nil)))) (by omega)
      intro j hj
      by_cases hjk : j = k
      · subst hjk; exact h2
      · exact hall j (by omega)
    · have h2 : p (byte s k) = false := h2
      have hsp := span_at p s k hk hall (Or.inr h2)
      refine Sa ?_
      refine LW.slice_str (i := 0) (j := k) rfl rfl rfl rfl ⟨_, _, rfl, rfl⟩ (by omega) hk rfl ?_
      refine Sa ?_
      refine LW.slice_str (i := k) (j := s.length) rfl rfl rfl ⟨_, _, rfl, rfl⟩ rfl hk (by omega) rfl ?_
      refine Sa ?_
      (apply LW.store; exact rfl; exact rfl; exact rfl; assumption; exact rfl; exact rfl; exact rfl; intro w3 hc hB2)
      refine Sa ?_
      refine QW.body1 Tryz.results193 rfl ⟨?_, hx.chg.same hc, ?_⟩
      · rw [cut_head, hsp.1]
      · rw [← hsp.2, ← cut_tail]
        exact hB2
  · have h1 : k = s.length := by simp at h1; omega
    have hsp := span_at p s k hk hall (Or.inl h1)
    refine Sa ?_
    refine LW.slice_str (i := 0) (j := k) rfl rfl rfl rfl ⟨_, _, rfl, rfl⟩ (by omega) hk rfl ?_
    refine Sa ?_
    refine LW.slice_str (i := k) (j := s.length) rfl rfl rfl ⟨_, _, rfl, rfl⟩ rfl hk (by omega) rfl ?_
    refine Sa ?_
    (apply LW.store; exact rfl; exact rfl; exact rfl; assumption; exact rfl; exact rfl; exact rfl; intro w3 hc hB2)
    refine Sa ?_
    refine QW.body1 Tryz.results193 rfl ⟨?_, hx.chg.same hc, ?_⟩
    · rw [cut_head, hsp.1]
    · rw [← hsp.2, ← cut_tail]
      exact hB2

def rowOf (s : List UInt8) : Option Int := match Lib.atoiAll (spanL digB (cand3 s)) with
  | .ok n => some n
  | _ => none
/-- What Read makes of a text, ahead of its test. -/
def candV (s : List UInt8) : RefD := ⟨candS s, (readCol (spanL capB (cand1 s))).getD 0, IntKind.i64.wrap ((rowOf s).getD 0 - 1), Lib.hasPrefix (candR s) [36], Lib.hasPrefix (cand2 s) [36]⟩
def okRead (s : List UInt8) : Bool := (readCol (spanL capB (cand1 s))).isSome && (rowOf s).isSome && decide (textT (candV s) = s) && !decide (s = [])
def refZ : RefD := ⟨[], 0, 0, false, false⟩
def readV (s : List UInt8) : Value := if okRead s then .tuple #[refV (candV s), .bool true] else .tuple #[refV refZ, .bool false]

theorem readColV_fst (s : List UInt8) : readColV s = .tuple #[.int .i64 ((readCol s).getD 0), .bool (readCol s).isSome] := by
  unfold readColV; cases readCol s <;> rfl
theorem readCol_bound (s : List UInt8) : -1000000 ≤ (readCol s).getD 0 ∧ (readCol s).getD 0 ≤ 1000000 := by
  unfold readCol
  split
  · rename_i a
    have := byte_lt [a] 0
    split <;> simp <;> omega
  · rename_i a b
    have := byte_lt [a, b] 0
    have := byte_lt [a, b] 1
    split <;> simp <;> omega
  · simp

end Go.Proofs.YtiloogjageledaaGreatDoor

namespace Go.Proofs.YtiloogjageledaaGreatDoor
open Go Go.E

theorem Read_ret (s : List UInt8) (hs : s.length ≤ 1000) (w : World) (g : Glob w) : Ret Tryz.prog 164 [str s] w (fun v w' => v = readV s ∧ Ext w w') := by
  refine Ret.enter Tryz.func164 rfl Tryz.ntmps164 (by kernel_rfl) rfl ?_
  refine Sa ?_
  (apply LW.alloc; exact rfl; exact rfl; exact rfl; intro R w1 hbR hx hR)
  refine Sa ?_
  (apply LW.alloc; exact rfl; exact rfl; exact rfl; intro C w2 hbC hx2 hC)
  have hRC : R < C := by have := hR.lt; omega
  replace hR : Blk w2 R (refL refZ) 35 := hR.ext hx2
  replace hC : Blk w2 C (refL refZ) 35 := hC
  replace hx := hx.trans hx2
  refine Sa ?_
  (apply LW.box; exact rfl; exact rfl; exact rfl; intro X w3 hbX hx3 hX)
  have hCX : C < X := by have := hC.lt; omega
  replace hR := hR.ext hx3
  replace hC := hC.ext hx3
  replace hX : Blk w3 X [str s] 194 := hX
  replace hx := hx.trans hx3
  refine Sa ?_
  refine LW.call0 rfl rfl (Cut_ret s [33] (by omega) w3 (g.ext hx)) ?_
  rintro v w4 ⟨rfl, hx4⟩
  replace hR := hR.ext hx4
  replace hC := hC.ext hx4
  replace hX := hX.ext hx4
  replace hx := hx.trans hx4
  refine Sl ?_
  apply LW.nil; apply QW.then_n
  refine CW.cut (ι := Unit) (fun _ w' => Ext w w' ∧ Blk w' R (refL refZ) 35 ∧ Blk w' C [str (candS s), .int .i64 0, .int .i64 0, .bool false, .bool false] 35 ∧ Blk w' X [str (candR s)] 194)
    (fun _ => [(0, str s), (2, .pointer (some ⟨R, 0, none⟩)), (3, .bool false), (4, .pointer (some ⟨C, 0, none⟩)), (5, .pointer (some ⟨X, 0, none⟩))]) ?_ ?_
  · refine Sa ?_
    refine CW.cond rfl (fun h1 => ?_) (fun h1 => ?_)
    · refine Sa ?_
      (apply LW.store; exact rfl; exact rfl; exact rfl; assumption; exact rfl; exact rfl; exact rfl; intro w5 hc5 hC5)
      replace hR := hR.chg hc5 (by simp; omega)
      replace hX := hX.chg hc5 (by simp; omega)
      replace hx := hx.step hc5 (by simp; omega)
      refine Sa ?_
      (apply LW.store; exact rfl; exact rfl; exact rfl; assumption; exact rfl; exact rfl; exact rfl; intro w6 hc6 hX6)
      replace hR := hR.chg hc6 (by simp; omega)
      replace hC5 := hC5.chg hc6 (by simp; omega)
      replace hx := hx.step hc6 (by simp; omega)
      refine Sa ?_
      refine QW.head () ⟨hx, hR, ?_, ?_⟩ (Sub.cons rfl (Sub.cons rfl (Sub.cons rfl (Sub.cons rfl (Sub.cons rfl (Sub.nil))))))
      · simpa [candS, h1, refL, refZ] using hC5
      · simpa [candR, h1] using hX6
    · refine Sa ?_
      refine QW.head () ⟨hx, hR, ?_, ?_⟩ (Sub.cons rfl (Sub.cons rfl (Sub.cons rfl (Sub.cons rfl (Sub.cons rfl (Sub.nil))))))
      · simpa [candS, h1, refL, refZ] using hC
      · simpa [candR, h1] using hX
  clear hx hR hC hX hx2 hx3 hx4
  rintro _ w5 ⟨hx, hR, hC, hX⟩
  have hl0 : (candR s).length ≤ s.length := by
    unfold candR; split
    · exact cut_len2 s [33]
    · omega
  have hl1 : (cand1 s).length ≤ 1000 := Nat.le_trans (trimPrefix_length _ _) (by omega)
  have hl2 : (cand2 s).length ≤ 1000 := Nat.le_trans (restL_length _ _) hl1
  have hl3 : (cand3 s).length ≤ 1000 := Nat.le_trans (trimPrefix_length _ _) hl2
  have hl4 : (spanL capB (cand1 s)).length ≤ 1000 := Nat.le_trans (spanL_length _ _) hl1
  have hl5 : (spanL digB (cand3 s)).length ≤ 1000 := Nat.le_trans (spanL_length _ _) hl3
  have hl6 : (candS s).length ≤ 1000 := by
    unfold candS; split
    · exact Nat.le_trans (cut_len1 s [33]) hs
    · simp
  refine Sa ?_
  refine LW.call (fs := [.pointer (some ⟨X, 0, none⟩)]) (cs := []) rfl rfl rfl (sign_ret _ X w5 hX) ?_
  rintro v w6 ⟨rfl, hc6, hX⟩
  replace hR := hR.chg hc6 (by simp; omega)
  replace hC := hC.chg hc6 (by simp; omega)
  replace hx := hx.step hc6 (by simp; omega)
  refine Sa ?_
  (apply LW.store; exact rfl; exact rfl; exact rfl; assumption; exact rfl; exact rfl; exact rfl; intro w7 hc7 hC)
  replace hR := hR.chg hc7 (by simp; omega)
  replace hX := hX.chg hc7 (by simp; omega)
  replace hx := hx.step hc7 (by simp; omega)
  refine Sa ?_
  refine LW.call (fs := [.pointer (some ⟨X, 0, none⟩)]) (cs := []) rfl rfl rfl (while_ret capB _ capital_ret (cand1 s) (by omega) X w7 hX) ?_
  rintro v w8 ⟨rfl, hc8, hX⟩
  replace hR := hR.chg hc8 (by simp; omega)
  replace hC := hC.chg hc8 (by simp; omega)
  replace hx := hx.step hc8 (by simp; omega)
  refine Sa ?_
  refine LW.call0 rfl rfl (ReadCol_ret _ (by omega) w8) ?_
  rintro v w9 ⟨rfl, hx9⟩
  rw [readColV_fst]
  replace hR := hR.ext hx9
  replace hC := hC.ext hx9
  replace hX := hX.ext hx9
  replace hx := hx.trans hx9
  refine Sa ?_
  refine LW.call (fs := [.pointer (some ⟨X, 0, none⟩)]) (cs := []) rfl rfl rfl (sign_ret (cand2 s) X w9 hX) ?_
  rintro v w10 ⟨rfl, hc10, hX⟩
  replace hR := hR.chg hc10 (by simp; omega)
  replace hC := hC.chg hc10 (by simp; omega)
  replace hx := hx.step hc10 (by simp; omega)
  refine Sa ?_
  (apply LW.store; exact rfl; exact rfl; exact rfl; assumption; exact rfl; exact rfl; exact rfl; intro w11 hc11 hC)
  replace hR := hR.chg hc11 (by simp; omega)
  replace hX := hX.chg hc11 (by simp; omega)
  replace hx := hx.step hc11 (by simp; omega)
  refine Sa ?_
  refine LW.call (fs := [.pointer (some ⟨X, 0, none⟩)]) (cs := []) rfl rfl rfl (while_ret digB _ digit_ret (cand3 s) (by omega) X w11 hX) ?_
  rintro v w12 ⟨rfl, hc12, hX⟩
  replace hR := hR.chg hc12 (by simp; omega)
  replace hC := hC.chg hc12 (by simp; omega)
  replace hx := hx.step hc12 (by simp; omega)
  refine Sa ?_
  refine LW.call0 rfl rfl (Atoi_ret _ (by omega) w12 (g.ext hx)) ?_
  rintro v w13 ⟨hv, hx13⟩
  replace hR := hR.ext hx13
  replace hC := hC.ext hx13
  replace hX := hX.ext hx13
  replace hx := hx.trans hx13
  have hcb := readCol_bound (spanL capB (cand1 s))
  cases hro : rowOf s with
  | some z =>
    have hv : v = .tuple #[.int .i64 z, .nilIface] := by
      unfold rowOf at hro
      unfold AtoiV at hv
      split at hro
      · rename_i m hm
        rw [hm] at hv
        simp only [Option.some.injEq] at hro
        subst hro
        exact hv
      · cases hro
    subst hv
    refine Sa ?_
    refine LW.arith (op := .sub) rfl rfl rfl rfl rfl ?_
    refine Sa ?_
    (apply LW.store; exact rfl; exact rfl; exact rfl; assumption; exact rfl; exact rfl; exact rfl; intro w14 hc14 hC)
    replace hR := hR.chg hc14 (by simp; omega)
    replace hx := hx.step hc14 (by simp; omega)
    refine Sa ?_
    (apply LW.store; exact rfl; exact rfl; exact rfl; assumption; exact rfl; exact rfl; exact rfl; intro w15 hc15 hC)
    replace hR := hR.chg hc15 (by simp; omega)
    replace hx := hx.step hc15 (by simp; omega)
    replace hC : Blk w15 C (refL (candV s)) 35 := by
      have e : refL (candV s) = [str (candS s), .int .i64 ((readCol (spanL capB (cand1 s))).getD 0), .int .i64 (IntKind.i64.wrap (z - 1)), .bool (Lib.hasPrefix (candR s) [36]), .bool (Lib.hasPrefix (cand2 s) [36])] := by
        simp [refL, candV, hro]
      rw [e]
      exact hC
    refine Sa ?_
    cases hrc : readCol (spanL capB (cand1 s)) with
    | none =>
      have hbad : okRead s = false := by simp [okRead, hrc]
      refine Sa ?_
      (apply LW.store_all; exact rfl; exact rfl; exact rfl; assumption; exact rfl; exact rfl; exact rfl; intro w20 hc20 hR20)
      refine Sa ?_
      refine QW.body_ct Tryz.results164 rfl hR20 rfl rfl rfl rfl ⟨?_, hx.step hc20 (by simp; omega)⟩
      rw [readV, hbad]
      rfl
    | some cz =>
      refine Sa ?_
      refine LW.call0 rfl rfl (Text_ret (candV s) hl6 w15 (g.ext hx)) ?_
      rintro v w16 ⟨rfl, hx16⟩
      replace hR := hR.ext hx16
      replace hC := hC.ext hx16
      replace hx := hx.trans hx16
      refine Sa ?_
      refine LW.part rfl rfl rfl (fun h1 => ?_) (fun h1 => ?_)
      · have hbad : okRead s = false := by
          have h1 : ¬ textT (candV s) = s := by simpa using h1
          simp [okRead, h1]
        refine Sa ?_
        (apply LW.store_all; exact rfl; exact rfl; exact rfl; assumption; exact rfl; exact rfl; exact rfl; intro w20 hc20 hR20)
        refine Sa ?_
        refine QW.body_ct Tryz.results164 rfl hR20 rfl rfl rfl rfl ⟨?_, hx.step hc20 (by simp; omega)⟩
        rw [readV, hbad]
        rfl
      · have h1 : textT (candV s) = s := by simpa using h1
        refine Sa ?_
        refine CW.cond rfl (fun h2 => ?_) (fun h2 => ?_)
        · have hbad : okRead s = false := by
            have h2 : s = [] := by simpa using h2
            simp [okRead, h2]
          refine Sa ?_
          (apply LW.store_all; exact rfl; exact rfl; exact rfl; assumption; exact rfl; exact rfl; exact rfl; intro w20 hc20 hR20)
          refine Sa ?_
          refine QW.body_ct Tryz.results164 rfl hR20 rfl rfl rfl rfl ⟨?_, hx.step hc20 (by simp; omega)⟩
          rw [readV, hbad]
          rfl
        · have h2 : ¬ s = [] := by simpa using h2
          have hgood : okRead s = true := by simp [okRead, hrc, hro, h1, h2]
          refine Sa ?_
          (apply LW.store_all; exact rfl; exact rfl; exact rfl; assumption; exact rfl; exact rfl; exact rfl; intro w20 hc20 hR20)
          refine Sa ?_
          refine QW.body_ct Tryz.results164 rfl hR20 rfl rfl rfl rfl ⟨?_, hx.step hc20 (by simp; omega)⟩
          rw [readV, if_pos hgood]
          rfl
  | none =>
    have hv : ∃ z t x, v = .tuple #[.int .i64 z, .iface t x] := by
      unfold rowOf at hro
      unfold AtoiV at hv
      cases ha : Lib.atoiAll (spanL digB (cand3 s)) <;> simp only [ha, reduceCtorEq] at hro hv <;> exact hv
    obtain ⟨z, te, xe, rfl⟩ := hv
    have hbad : okRead s = false := by simp [okRead, hro]
    refine Sa ?_
    refine LW.arith (op := .sub) rfl rfl rfl rfl rfl ?_
    refine Sa ?_
    (apply LW.store; exact rfl; exact rfl; exact rfl; assumption; exact rfl; exact rfl; exact rfl; intro w14 hc14 hC)
    replace hR := hR.chg hc14 (by simp; omega)
    replace hx := hx.step hc14 (by simp; omega)
    refine Sa ?_
    (apply LW.store; exact rfl; exact rfl; exact rfl; assumption; exact rfl; exact rfl; exact rfl; intro w15 hc15 hC)
    replace hR := hR.chg hc15 (by simp; omega)
    replace hx := hx.step hc15 (by simp; omega)
    cases hrc : readCol (spanL capB (cand1 s)) with
    | none =>
      refine Sa ?_
      (apply LW.store_all; exact rfl; exact rfl; exact rfl; assumption; exact rfl; exact rfl; exact rfl; intro w20 hc20 hR20)
      refine Sa ?_
      refine QW.body_ct Tryz.results164 rfl hR20 rfl rfl rfl rfl ⟨?_, hx.step hc20 (by simp; omega)⟩
      rw [readV, hbad]
      rfl
    | some cz =>
      refine Sa ?_
      (apply LW.store_all; exact rfl; exact rfl; exact rfl; assumption; exact rfl; exact rfl; exact rfl; intro w20 hc20 hR20)
      refine Sa ?_
      refine QW.body_ct Tryz.results164 rfl hR20 rfl rfl rfl rfl ⟨?_, hx.step hc20 (by simp; omega)⟩
      rw [readV, hbad]
      rfl
end Go.Proofs.YtiloogjageledaaGreatDoor

namespace Go.Proofs.YtiloogjageledaaGreatDoor
open Go Go.E

theorem byte_is {l : List UInt8} {i : Nat} {c : UInt8} (hi : i < l.length) : byte l i = (c.toNat : Int) ↔ l[i]? = some c := by
  rw [byte_eq hi, List.getElem?_eq_getElem hi]
  constructor
  · intro h
    have : l[i].toNat = c.toNat := by omega
    rw [UInt8.toNat_inj.1 this]
  · intro h
    simp only [Option.some.injEq] at h
    rw [h]

theorem occ33 (s : List UInt8) (i : Nat) : Lib.occAt s [33] i = decide (s[i]? = some 33) := by
  unfold Lib.occAt
  cases h : s.drop i with
  | nil =>
    have : s.length ≤ i := by
      have := congrArg List.length h
      simp at this; omega
    simp [List.getElem?_eq_none this]
  | cons c r =>
    have hlt : i < s.length := by
      have := congrArg List.length h
      simp at this; omega
    have : s[i]? = some c := by
      have := congrArg (fun l : List UInt8 => l[0]?) h
      simpa using this
    rw [this]
    rw [Bool.eq_iff_iff]
    simp [List.isPrefixOf]
    exact eq_comm

theorem cut_found {s : List UInt8} {k : Nat} (hk : k < s.length) (h : byte s k = 33) (hn : ∀ j, j < k → byte s j ≠ 33) : Lib.cut s [33] = (s.take k, s.drop (k + 1), true) := by
  have hi : Lib.index s [33] = k := by
    refine Lib.index_hit (fun j hj => ?_) (by omega) ?_
    · rw [occ33, decide_eq_false_iff_not]
      intro hh
      exact hn j hj ((byte_is (c := 33) (by omega)).2 hh)
    · rw [occ33, decide_eq_true_eq]
      exact (byte_is (c := 33) hk).1 h
  unfold Lib.cut
  rw [hi, if_pos (by omega)]
  simp
theorem cut_none {s : List UInt8} (hn : ∀ j, j < s.length → byte s j ≠ 33) : Lib.cut s [33] = (s, [], false) := by
  have hi : Lib.index s [33] = -1 := by
    refine Lib.index_past (i := s.length) (by simp) (fun j hj => ?_) (by simp)
    rw [occ33, decide_eq_false_iff_not]
    intro hh
    exact hn j hj ((byte_is (c := 33) hj).2 hh)
  unfold Lib.cut
  rw [hi, if_neg (by omega)]

theorem pre36 (l : List UInt8) : Lib.hasPrefix l [36] = decide (0 < l.length ∧ byte l 0 = 36) := by
  cases l with
  | nil => rfl
  | cons c r =>
    rw [Bool.eq_iff_iff]
    have := byte_is (l := c :: r) (i := 0) (c := 36) (by simp)
    simp [Lib.hasPrefix, List.isPrefixOf]
    rw [show (36 : Int) = (((36 : UInt8).toNat : Nat) : Int) from rfl, this]
    simp [eq_comm]
theorem trim36 (l : List UInt8) : Lib.trimPrefix l [36] = if 0 < l.length ∧ byte l 0 = 36 then l.drop 1 else l := by
  unfold Lib.trimPrefix
  rw [pre36]
  simp only [decide_eq_true_eq]
  rfl

/-- Three digits. -/
def d3 (n : Nat) : List UInt8 :=
  if n < 10 then [ch (48 + (n : Int))] else if n < 100 then [ch (48 + ((n / 10 : Nat) : Int)), ch (48 + (n : Int) % 10)] else [ch (48 + ((n / 100 : Nat) : Int)), ch (48 + ((n / 10 : Nat) : Int) % 10), ch (48 + (n : Int) % 10)]
theorem decDigits_small' {u : Nat} (h : u < 10) : Lib.decDigits u = [ch (48 + (u : Int))] := by
  rw [Lib.decDigits, dif_pos h]
  rfl
theorem decDigits_big' {u : Nat} (h : 10 ≤ u) : Lib.decDigits u = Lib.decDigits (u / 10) ++ [ch (48 + (u : Int) % 10)] := by
  rw [Lib.decDigits, dif_neg (by omega)]
  congr 2
theorem d3_eq {n : Nat} (h : n < 1000) : Lib.decDigits n = d3 n := by
  unfold d3
  split
  · rename_i h1; exact decDigits_small' h1
  · rename_i h1
    rw [decDigits_big' (by omega)]
    split
    · rw [decDigits_small' (by omega)]; rfl
    · rw [decDigits_big' (by omega), decDigits_small' (by omega)]
      have : n / 10 / 10 = n / 100 := by omega
      rw [this]; rfl
def okDigits (n : Nat) : Bool := (d3 n).all (fun c => digB (c.toNat : Int)) && decide (0 < (d3 n).length) && decide ((d3 n).length ≤ 3) && decide (Lib.atoiAll (d3 n) = .ok (n : Int))
theorem all_digits : ∀ n : Fin 1000, okDigits n.val = true := by decide +kernel
theorem itoa_d3 {z : Int} (h0 : 0 ≤ z) (h1 : z < 1000) : Lib.itoa z = d3 z.toNat := by
  unfold Lib.itoa
  rw [if_neg (by omega), d3_eq (by omega)]
theorem itoa_ok {z : Int} (h0 : 0 ≤ z) (h1 : z < 1000) : (∀ c ∈ Lib.itoa z, digB (c.toNat : Int) = true) ∧ 0 < (Lib.itoa z).length ∧ (Lib.itoa z).length ≤ 3 ∧ Lib.atoiAll (Lib.itoa z) = .ok z := by
  have := all_digits ⟨z.toNat, by omega⟩
  rw [itoa_d3 h0 h1]
  simp only [okDigits, Bool.and_eq_true, List.all_eq_true, decide_eq_true_eq] at this
  obtain ⟨⟨⟨a1, a2⟩, a3⟩, a4⟩ := this
  exact ⟨a1, a2, a3, by rw [a4]; congr 1; omega⟩

def okCol (n : Nat) : Bool := (colT (n : Int)).all (fun c => capB (c.toNat : Int)) && decide (0 < (colT (n : Int)).length) && decide (readCol (colT (n : Int)) = some (n : Int))
theorem all_cols : ∀ n : Fin 702, okCol n.val = true := by decide +kernel
theorem col_ok {z : Int} (h0 : 0 ≤ z) (h1 : z ≤ 701) : (∀ c ∈ colT z, capB (c.toNat : Int) = true) ∧ 0 < (colT z).length ∧ readCol (colT z) = some z := by
  have := all_cols ⟨z.toNat, by omega⟩
  have e : ((z.toNat : Nat) : Int) = z := by omega
  simp only [okCol, e, Bool.and_eq_true, List.all_eq_true, decide_eq_true_eq] at this
  exact ⟨this.1.1, this.1.2, this.2⟩

theorem may_parts {r : RefD} (h : mayB r = true) : (r.sheet = [] ∨ nameB r.sheet = true) ∧ 0 ≤ r.col ∧ r.col ≤ 701 ∧ 0 ≤ r.row ∧ r.row ≤ 998 := by
  simp only [mayB, Bool.and_eq_true, Bool.or_eq_true, decide_eq_true_eq] at h
  exact ⟨h.1.1.1.1, h.1.1.1.2, h.1.1.2, h.1.2, h.2⟩
theorem name_parts {l : List UInt8} (h : nameB l = true) : l ≠ [] ∧ l.length ≤ 12 ∧ ∀ j, j < l.length → ldB (byte l j) = true := by
  simp only [nameB, Bool.and_eq_true, decide_eq_true_eq] at h
  exact ⟨h.1.1.1, h.1.1.2, h.2⟩

def tail3 (r : RefD) : List UInt8 := Lib.itoa (r.row + 1)
def tail2 (r : RefD) : List UInt8 := markT r.ar ++ tail3 r
def tail1 (r : RefD) : List UInt8 := colT r.col ++ tail2 r
def tail0 (r : RefD) : List UInt8 := markT r.ac ++ tail1 r

theorem textB_eq (r : RefD) : textB r = (if r.sheet = [] then [] else r.sheet ++ [33]) ++ tail0 r := by
  simp [textB, tail0, tail1, tail2, tail3]

theorem take_span (p : Int → Bool) : ∀ (a b : List UInt8), (∀ c ∈ a, p (c.toNat : Int) = true) → (b = [] ∨ p (byte b 0) = false) → spanL p (a ++ b) = a ∧ restL p (a ++ b) = b
  | [], b, _, hb => by
    cases b with
    | nil => simp [spanL, restL]
    | cons c r =>
      have hc : p (c.toNat : Int) = false := by
        rcases hb with hb | hb
        · cases hb
        · exact hb
      simp [spanL, restL, hc]
  | c :: a, b, ha, hb => by
    have hc := ha c (by simp)
    obtain ⟨h1, h2⟩ := take_span p a b (fun d hd => ha d (by simp [hd])) hb
    simp only [spanL, restL] at h1 h2 ⊢
    simp [hc, h1, h2]

theorem byte_append_left {a b : List UInt8} {j : Nat} (h : j < a.length) : byte (a ++ b) j = byte a j := by
  unfold byte
  rw [List.getD_eq_getElem?_getD, List.getD_eq_getElem?_getD, List.getElem?_append_left h]
theorem byte_mem {l : List UInt8} {j : Nat} (h : j < l.length) : ∃ c ∈ l, byte l j = (c.toNat : Int) := ⟨l[j], List.getElem_mem h, byte_eq h⟩

theorem cap_not (z : Int) (h : capB z = true) : z ≠ 33 ∧ z ≠ 36 ∧ digB z = false := by
  simp [capB] at h
  refine ⟨by omega, by omega, ?_⟩
  simp [digB]; omega
theorem dig_not (z : Int) (h : digB z = true) : z ≠ 33 ∧ z ≠ 36 ∧ capB z = false := by
  simp [digB] at h
  refine ⟨by omega, by omega, ?_⟩
  simp [capB]; omega
theorem ld_not (z : Int) (h : ldB z = true) : z ≠ 33 ∧ z ≠ 36 := by
  simp [ldB, letB, capB, digB] at h
  omega

theorem no33 {r : RefD} (h : mayB r = true) : ∀ c ∈ tail0 r, (c.toNat : Int) ≠ 33 := by
  obtain ⟨_, c0, c1, r0, r1⟩ := may_parts h
  obtain ⟨hc, _, _⟩ := col_ok c0 c1
  obtain ⟨hd, _, _, _⟩ := itoa_ok (z := r.row + 1) (by omega) (by omega)
  intro c hm
  have mk : ∀ b, c ∈ markT b → (c.toNat : Int) ≠ 33 := fun b hb => by
    cases b
    · simp [markT] at hb
    · simp [markT] at hb; subst hb; decide
  simp only [tail0, tail1, tail2, tail3, List.mem_append] at hm
  rcases hm with hm | hm | hm | hm
  · exact mk _ hm
  · exact (cap_not _ (hc c hm)).1
  · exact mk _ hm
  · exact (dig_not _ (hd c hm)).1

/-- The parts of a reference's text. -/
theorem parse {r : RefD} (h : mayB r = true) :
    candS (textB r) = r.sheet ∧ candR (textB r) = tail0 r ∧ Lib.hasPrefix (tail0 r) [36] = r.ac ∧ cand1 (textB r) = tail1 r ∧ spanL capB (tail1 r) = colT r.col ∧ cand2 (textB r) = tail2 r ∧
    Lib.hasPrefix (tail2 r) [36] = r.ar ∧ cand3 (textB r) = tail3 r ∧ spanL digB (tail3 r) = tail3 r := by
  obtain ⟨hs, c0, c1, r0, r1⟩ := may_parts h
  obtain ⟨hc, hcl, _⟩ := col_ok c0 c1
  obtain ⟨hd, hdl, _, _⟩ := itoa_ok (z := r.row + 1) (by omega) (by omega)
  have h33 := no33 h
  have e0 : candS (textB r) = r.sheet ∧ candR (textB r) = tail0 r := by
    rw [textB_eq]
    by_cases hsh : r.sheet = []
    · rw [if_pos hsh, List.nil_append]
      have hcut := cut_none (s := tail0 r) (fun j hj => by
        obtain ⟨c, hm, e⟩ := byte_mem hj
        rw [e]; exact h33 c hm)
      simp [candS, candR, hcut, hsh]
    · rw [if_neg hsh]
      have hn : nameB r.sheet = true := hs.resolve_left hsh
      obtain ⟨_, _, hld⟩ := name_parts hn
      have hcut := cut_found (s := r.sheet ++ [33] ++ tail0 r) (k := r.sheet.length) (by simp)
        (by
          refine (byte_is (c := 33) (by simp)).2 ?_
          simp)
        (fun j hj => by
          rw [List.append_assoc, byte_append_left hj]
          exact (ld_not _ (hld j hj)).1)
      have t1 : (r.sheet ++ [33] ++ tail0 r).take r.sheet.length = r.sheet := by rw [List.append_assoc, List.take_left]
      have t2 : (r.sheet ++ [33] ++ tail0 r).drop (r.sheet.length + 1) = tail0 r := by
        have : (r.sheet ++ [33]).length = r.sheet.length + 1 := by simp
        rw [← this, List.drop_left]
      rw [t1, t2] at hcut
      unfold candS candR
      rw [hcut]
      exact ⟨rfl, rfl⟩
  have bcol : byte (tail1 r) 0 ≠ 36 := by
    obtain ⟨c, hm, e⟩ := byte_mem hcl
    rw [tail1, byte_append_left hcl, e]
    exact (cap_not _ (hc c hm)).2.1
  have bdig : byte (tail3 r) 0 ≠ 36 ∧ capB (byte (tail3 r) 0) = false := by
    obtain ⟨c, hm, e⟩ := byte_mem hdl
    rw [tail3, e]
    exact (dig_not _ (hd c hm)).2
  have p0 : Lib.hasPrefix (tail0 r) [36] = r.ac ∧ Lib.trimPrefix (tail0 r) [36] = tail1 r := by
    rw [pre36, trim36]
    cases ha : r.ac with
    | true =>
      have e : tail0 r = 36 :: tail1 r := by simp [tail0, markT, ha]
      have b : byte (36 :: tail1 r) 0 = 36 := rfl
      rw [e]; simp [b]
    | false =>
      have e : tail0 r = tail1 r := by simp [tail0, markT, ha]
      rw [e]; simp [bcol]
  have p2 : Lib.hasPrefix (tail2 r) [36] = r.ar ∧ Lib.trimPrefix (tail2 r) [36] = tail3 r := by
    rw [pre36, trim36]
    cases ha : r.ar with
    | true =>
      have e : tail2 r = 36 :: tail3 r := by simp [tail2, markT, ha]
      have b : byte (36 :: tail3 r) 0 = 36 := rfl
      rw [e]; simp [b]
    | false =>
      have e : tail2 r = tail3 r := by simp [tail2, markT, ha]
      rw [e]; simp [bdig.1]
  have hb2 : capB (byte (tail2 r) 0) = false := by
    cases ha : r.ar with
    | true =>
      have e : tail2 r = 36 :: tail3 r := by simp [tail2, markT, ha]
      rw [e]; rfl
    | false =>
      have e : tail2 r = tail3 r := by simp [tail2, markT, ha]
      rw [e]; exact bdig.2
  have s1 := take_span capB (colT r.col) (tail2 r) hc (Or.inr hb2)
  have s3 := take_span digB (tail3 r) [] hd (Or.inl rfl)
  rw [List.append_nil] at s3
  have k1 : cand1 (textB r) = tail1 r := by rw [cand1, e0.2, p0.2]
  have k2 : cand2 (textB r) = tail2 r := by rw [cand2, k1]; exact s1.2
  exact ⟨e0.1, e0.2, p0.1, k1, s1.1, k2, p2.1, by rw [cand3, k2, p2.2], s3.1⟩

theorem textB_ne {r : RefD} (h : mayB r = true) : textB r ≠ [] := by
  obtain ⟨_, _, _, r0, r1⟩ := may_parts h
  obtain ⟨_, hdl, _, _⟩ := itoa_ok (z := r.row + 1) (by omega) (by omega)
  intro he
  have := congrArg List.length he
  simp [textB] at this
  have h2 := this.2.2.2.2
  rw [h2] at hdl; simp at hdl

/-- A reference's text is told as it. -/
theorem read_text {r : RefD} (h : mayB r = true) : okRead (textB r) = true ∧ candV (textB r) = r := by
  obtain ⟨q1, q2, q3, q4, q5, q6, q7, q8, q9⟩ := parse h
  obtain ⟨_, c0, c1, r0, r1⟩ := may_parts h
  obtain ⟨_, _, hrc⟩ := col_ok c0 c1
  obtain ⟨_, _, _, hat⟩ := itoa_ok (z := r.row + 1) (by omega) (by omega)
  have hro : rowOf (textB r) = some (r.row + 1) := by
    unfold rowOf
    rw [q8, q9, tail3, hat]
  have hv : candV (textB r) = r := by
    unfold candV
    rw [q1, q4, q5, hrc, hro, q2, q3, q6, q7]
    have : IntKind.i64.wrap ((some (r.row + 1)).getD 0 - 1) = r.row := by
      rw [Option.getD_some, show r.row + 1 - 1 = r.row by omega]
      exact wrap_i64 (by omega) (by omega)
    rw [this]
    rfl
  refine ⟨?_, hv⟩
  unfold okRead
  rw [hv, q4, q5, hrc, hro, textT, if_pos h]
  simp [textB_ne h]
theorem read_is {s : List UInt8} (h : okRead s = true) : mayB (candV s) = true ∧ textB (candV s) = s := by
  simp only [okRead, Bool.and_eq_true, decide_eq_true_eq, Bool.not_eq_true', decide_eq_false_iff_not] at h
  obtain ⟨⟨_, h1⟩, h2⟩ := h
  unfold textT at h1
  split at h1
  · rename_i hm; exact ⟨hm, h1⟩
  · exact absurd h1.symm h2
theorem read_no {s : List UInt8} (h : ∀ r, mayB r = true → textB r ≠ s) : okRead s = false := by
  cases hk : okRead s
  · rfl
  · obtain ⟨a, b⟩ := read_is hk
    exact absurd b (h _ a)
end Go.Proofs.YtiloogjageledaaGreatDoor
