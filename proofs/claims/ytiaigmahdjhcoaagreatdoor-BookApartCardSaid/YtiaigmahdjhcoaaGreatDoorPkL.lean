/-
 Joined by program out of the texts BookP BookL Book1 Book2 Book3 Book4 Book5 Book6 Book7 Book8 Book9 BookA.
-/
import Derived.Test.YtiaigmahdjhcoaaGreatDoorPkG
import Derived.Test.YtiaigmahdjhcoaaGreatDoorPkE
namespace Go.Proofs.YtiaigmahdjhcoaaGreatDoor
open Go Go.E
structure SheetD where
 name : List UInt8
 cols : Int
 rows : List (List (List UInt8))
deriving DecidableEq
abbrev BookD := List SheetD
def atB (b : BookD) (nm : List UInt8) : Option Nat := b.findIdx? (fun s => decide (s.name = nm))
def idxZ : Option Nat → Int
 | some i => i
 | none => -1
def inB (s : SheetD) (row col : Int) : Bool := decide (0 ≤ row) && decide (row < s.rows.length) && (decide (0 ≤ col) && decide (col < (s.rows.getD row.toNat []).length))
def cellB (s : SheetD) (row col : Int) : List UInt8 := (s.rows.getD row.toNat []).getD col.toNat []
def hasB (b : BookD) (nm : List UInt8) (row col : Int) : Bool := match atB b nm with
 | none => false
 | some i => match b[i]? with
  | none => false
  | some s => inB s row col
def getB (b : BookD) (nm : List UInt8) (row col : Int) : List UInt8 := match atB b nm with
 | none => []
 | some i => match b[i]? with
  | none => []
  | some s => if inB s row col then cellB s row col else []
theorem atB_some {b : BookD} {nm : List UInt8} {i : Nat} (h : atB b nm = some i) : ∃ s, b[i]? = some s ∧ s.name = nm := by
 unfold atB at h
 rw [List.findIdx?_eq_some_iff_getElem] at h
 obtain ⟨hlt, e, _⟩ := h
 exact ⟨b[i], List.getElem?_eq_getElem hlt, by simpa using e⟩
theorem atB_none {b : BookD} {x : List UInt8} (h : ∀ i s, i < b.length → b[i]? = some s → s.name ≠ x) : atB b x = none := by
 unfold atB
 rw [List.findIdx?_eq_none_iff]
 intro s hs
 obtain ⟨i, hi, rfl⟩ := List.getElem_of_mem hs
 have := h i _ hi (List.getElem?_eq_getElem hi)
 simpa using this
theorem atB_is {b : BookD} {x : List UInt8} {k : Nat} {s : SheetD} (hk : b[k]? = some s) (hs : s.name = x) (h : ∀ i u, i < k → b[i]? = some u → u.name ≠ x) : atB b x = some k := by
 unfold atB
 rw [List.findIdx?_eq_some_iff_getElem]
 obtain ⟨hlt, e⟩ := List.getElem?_eq_some_iff.1 hk
 refine ⟨hlt, by rw [e]; simpa using hs, fun j hj => ?_⟩
 have := h j _ hj (List.getElem?_eq_getElem (by omega))
 simpa using this
noncomputable def maySh (s : SheetD) : Bool := nameB s.name && decide (0 ≤ s.cols) && decide (s.cols ≤ 12) && decide (s.rows.length ≤ 24) && s.rows.all fun r => decide ((r.length : Int) = s.cols) && r.all mayC
noncomputable def mayBk : Option (List UInt8) → BookD → Bool
 | _, [] => true
 | p, s :: r => (match p with | none => true | some q => Op.bytesLess q s.name) && maySh s && mayBk (some s.name) r
noncomputable def mayBook (b : BookD) : Bool := decide (b.length ≤ 5) && mayBk none b
def setS (s : SheetD) (row col : Nat) (t : List UInt8) : SheetD := { s with rows := s.rows.modify row fun r => r.set col t }
def setB (b : BookD) (i row col : Nat) (t : List UInt8) : BookD := b.modify i fun s => setS s row col t
noncomputable def setRes (b : BookD) (nm : List UInt8) (row col : Int) (t : List UInt8) : BookD × Int :=
 if mayBook b && mayC t then (match atB b nm with
  | none => ([], 2)
  | some i => if hasB b nm row col then (setB b i row.toNat col.toNat t, 0) else ([], 2)) else ([], 1)
def textR : Elem (List UInt8) := fun _ _ cs s => cs = [str s] ∧ s.length ≤ 1000000
abbrev TextsQ (ok : Addr → Prop) : World → Value → List (List UInt8) → Prop := ListR 1 ok textR
def rowR (okT : Nat → Addr → Prop) : Elem (List (List UInt8)) := fun i w cs r => ∃ v, cs = [v] ∧ TextsQ (okT i) w v r
abbrev RowsQ (okR : Addr → Prop) (okT : Nat → Addr → Prop) : World → Value → List (List (List UInt8)) → Prop := ListR 1 okR (rowR okT)
def sheetL (s : SheetD) (rv : Value) : List Value := [str s.name, .int .i64 s.cols, rv]
def sheetR (okR : Nat → Addr → Prop) (okT : Nat → Nat → Addr → Prop) : Elem SheetD := fun i w cs s => ∃ rv, cs = sheetL s rv ∧ s.name.length ≤ 1000000 ∧ RowsQ (okR i) (okT i) w rv s.rows
abbrev SheetsQ (okS : Addr → Prop) (okR : Nat → Addr → Prop) (okT : Nat → Nat → Addr → Prop) : World → Value → BookD → Prop := ListR 3 okS (sheetR okR okT)
abbrev any1 : Addr → Prop := fun _ => True
abbrev TextsR := TextsQ any1
abbrev RowsR := RowsQ any1 (fun _ => any1)
abbrev SheetsR := SheetsQ any1 (fun _ => any1) (fun _ _ => any1)
theorem textR.chg {i : Nat} {w w' : World} {cs : List Value} {s : List UInt8} (h : textR i w cs s) : textR i w' cs s := h
theorem TextsQ.chg {S : List Nat} {ok : Addr → Prop} {w w' : World} {v : Value} {l : List (List UInt8)} (h : TextsQ ok w v l) (x : Chg S w w') (hs : l ≠ [] → ∀ a, ok a → a.block ∉ S) : TextsQ ok w' v l := ListR.chg h x hs fun _ _ _ _ h => h
theorem RowsQ.chg {S : List Nat} {okR : Addr → Prop} {okT : Nat → Addr → Prop} {w w' : World} {v : Value} {l : List (List (List UInt8))} (h : RowsQ okR okT w v l) (x : Chg S w w') (hs : ∀ a, okR a → a.block ∉ S) (ht : ∀ i x a, l[i]? = some x → x ≠ [] → okT i a → a.block ∉ S) : RowsQ okR okT w' v l :=
 ListR.chg h x (fun _ => hs) fun i y _ hi ⟨v, h1, h2⟩ => ⟨v, h1, h2.chg x (fun hn a ha => ht i y a hi hn ha)⟩
theorem SheetsQ.chg {S : List Nat} {okS : Addr → Prop} {okR : Nat → Addr → Prop} {okT : Nat → Nat → Addr → Prop} {w w' : World} {v : Value} {l : BookD} (h : SheetsQ okS okR okT w v l) (x : Chg S w w') (hs : ∀ a, okS a → a.block ∉ S) (hr : ∀ i a, i < l.length → okR i a → a.block ∉ S) (ht : ∀ i s r y a, l[i]? = some s → s.rows[r]? = some y → y ≠ [] → okT i r a → a.block ∉ S) : SheetsQ okS okR okT w' v l :=
 ListR.chg h x (fun _ => hs) fun i s _ hi ⟨v, h1, h2, h3⟩ => ⟨v, h1, h2, h3.chg x (fun a ha => hr i a (List.getElem?_eq_some_iff.1 hi).1 ha) (fun r y a hr hn ha => ht i s r y a hi hr hn ha)⟩
theorem TextsQ.ext {ok : Addr → Prop} {w w' : World} {v : Value} {l : List (List UInt8)} (h : TextsQ ok w v l) (x : Ext w w') : TextsQ ok w' v l := TextsQ.chg h x (by simp)
theorem RowsQ.ext {okR : Addr → Prop} {okT : Nat → Addr → Prop} {w w' : World} {v : Value} {l : List (List (List UInt8))} (h : RowsQ okR okT w v l) (x : Ext w w') : RowsQ okR okT w' v l := RowsQ.chg h x (by simp) (by simp)
theorem SheetsQ.ext {okS : Addr → Prop} {okR : Nat → Addr → Prop} {okT : Nat → Nat → Addr → Prop} {w w' : World} {v : Value} {l : BookD} (h : SheetsQ okS okR okT w v l) (x : Ext w w') : SheetsQ okS okR okT w' v l := SheetsQ.chg h x (by simp) (by simp) (by simp)
theorem RowsQ.of {okR : Addr → Prop} {okT : Nat → Addr → Prop} {w : World} {v : Value} {l : List (List (List UInt8))} (h : RowsQ okR okT w v l) : RowsR w v l :=
 ListR.map h (fun _ _ => trivial) fun _ _ _ _ ⟨v, h1, h2⟩ => ⟨v, h1, ListR.map h2 (fun _ _ => trivial) fun _ _ _ _ h => h⟩
theorem SheetsQ.of {okS : Addr → Prop} {okR : Nat → Addr → Prop} {okT : Nat → Nat → Addr → Prop} {w : World} {v : Value} {l : BookD} (h : SheetsQ okS okR okT w v l) : SheetsR w v l :=
 ListR.map h (fun _ _ => trivial) fun _ _ _ _ ⟨v, h1, h2, h3⟩ => ⟨v, h1, h2, RowsQ.of h3⟩
theorem TextsQ.at {ok : Addr → Prop} {w : World} {p : Option Addr} {c : Nat} {l : List (List UInt8)} (h : TextsQ ok w (.slice p l.length c) l) {i : Nat} {s : List UInt8} (hi : l[i]? = some s) : ∃ a, p = some a ∧ ok a ∧ s.length ≤ 1000000 ∧ w.cell? (a.add (((i : Nat) : Int).toNat * 1)) = some (str s) := by
 obtain ⟨a, u, h1, h2, ⟨h3, h4⟩, h5⟩ := h.at1 hi
 simp only [List.cons.injEq, and_true] at h3
 subst h3
 exact ⟨a, h1, h2, h4, h5⟩
theorem RowsQ.at {okR : Addr → Prop} {okT : Nat → Addr → Prop} {w : World} {p : Option Addr} {c : Nat} {l : List (List (List UInt8))} (h : RowsQ okR okT w (.slice p l.length c) l) {i : Nat} {r : List (List UInt8)} (hi : l[i]? = some r) : ∃ a q k, p = some a ∧ okR a ∧ TextsQ (okT i) w (.slice q r.length k) r ∧ w.cell? (a.add (((i : Nat) : Int).toNat * 1)) = some (.slice q r.length k) := by
 obtain ⟨a, u, h1, h2, ⟨v, h3, h4⟩, h5⟩ := h.at1 hi
 simp only [List.cons.injEq, and_true] at h3
 subst h3
 obtain ⟨q, k, rfl⟩ := h4.slice
 exact ⟨a, q, k, h1, h2, h4, h5⟩
theorem SheetsQ.at {okS : Addr → Prop} {okR : Nat → Addr → Prop} {okT : Nat → Nat → Addr → Prop} {w : World} {p : Option Addr} {c : Nat} {l : BookD} (h : SheetsQ okS okR okT w (.slice p l.length c) l) {i : Nat} {s : SheetD} (hi : l[i]? = some s) : ∃ a q k, p = some a ∧ okS a ∧ s.name.length ≤ 1000000 ∧ RowsQ (okR i) (okT i) w (.slice q s.rows.length k) s.rows ∧ ∀ j u, (sheetL s (.slice q s.rows.length k))[j]? = some u → w.cell? ((a.add (((i : Nat) : Int).toNat * 3)).add j) = some u := by
 obtain ⟨a, cs, h1, h2, h3, ⟨rv, rfl, h4, h5⟩, h6⟩ := ListR.at h hi
 obtain ⟨q, k, rfl⟩ := h5.slice
 exact ⟨a, q, k, h1, h2, h4, h5, h6⟩
end Go.Proofs.YtiaigmahdjhcoaaGreatDoor
namespace Go.Proofs.YtiaigmahdjhcoaaGreatDoor
open Go Go.E
theorem less_irrefl : ∀ a : List UInt8, Op.bytesLess a a = false
 | [] => rfl
 | x :: l => by simp [Op.bytesLess, less_irrefl l]
theorem less_trans : ∀ {a b c : List UInt8}, Op.bytesLess a b = true → Op.bytesLess b c = true → Op.bytesLess a c = true
 | [], b, [], h, k => by cases b <;> simp [Op.bytesLess] at h k
 | [], _, _ :: _, _, _ => by simp [Op.bytesLess]
 | _ :: _, [], _, h, _ => by simp [Op.bytesLess] at h
 | _ :: _, _ :: _, [], _, k => by simp [Op.bytesLess] at k
 | x :: a, y :: b, z :: c, h, k => by
  simp only [Op.bytesLess, Bool.or_eq_true, Bool.and_eq_true, decide_eq_true_eq, beq_iff_eq] at h k ⊢
  rcases h with h | ⟨rfl, h⟩
  ·rcases k with k | ⟨rfl, k⟩
   ·exact .inl (UInt8.lt_trans h k)
   ·exact .inl h
  ·rcases k with k | ⟨rfl, k⟩
   ·exact .inl k
   ·exact .inr ⟨rfl, less_trans h k⟩
theorem less_ne {a b : List UInt8} (h : Op.bytesLess a b = true) : a ≠ b := fun e => by
 subst e
 rw [less_irrefl] at h
 cases h
theorem mayBk_rise : ∀ {b : BookD} {p : Option (List UInt8)}, mayBk p b = true → (∀ s ∈ b, maySh s = true ∧ ∀ q, p = some q → Op.bytesLess q s.name = true) ∧ b.Pairwise (fun s u => Op.bytesLess s.name u.name = true)
 | [], _, _ => ⟨by simp, .nil⟩
 | s :: r, p, h => by
  simp only [mayBk, Bool.and_eq_true] at h
  obtain ⟨⟨h1, h2⟩, h3⟩ := h
  obtain ⟨h4, h5⟩ := mayBk_rise h3
  refine ⟨fun u hu => ?_, .cons (fun u hu => (h4 u hu).2 _ rfl) h5⟩
  rcases List.mem_cons.1 hu with rfl | hu
  ·refine ⟨h2, fun q hq => ?_⟩
   subst hq
   exact h1
  ·refine ⟨(h4 u hu).1, fun q hq => ?_⟩
   subst hq
   exact less_trans h1 ((h4 u hu).2 _ rfl)
theorem mayBk_of : ∀ {b : BookD} {p : Option (List UInt8)}, (∀ s ∈ b, maySh s = true ∧ ∀ q, p = some q → Op.bytesLess q s.name = true) → b.Pairwise (fun s u => Op.bytesLess s.name u.name = true) → mayBk p b = true
 | [], _, _, _ => rfl
 | s :: r, p, h, k => by
  obtain ⟨k1, k2⟩ := List.pairwise_cons.1 k
  simp only [mayBk, Bool.and_eq_true]
  refine ⟨⟨?_, (h s (List.mem_cons_self ..)).1⟩, mayBk_of (fun u hu => ⟨(h u (List.mem_cons_of_mem _ hu)).1, fun q hq => ?_⟩) k2⟩
  ·cases p with
   | none => rfl
   | some q => exact (h s (List.mem_cons_self ..)).2 q rfl
  ·simp only [Option.some.injEq] at hq
   rw [← hq]
   exact k1 u hu
theorem mayBook_iff {b : BookD} : mayBook b = true ↔ b.length ≤ 5 ∧ (∀ s ∈ b, maySh s = true) ∧ b.Pairwise (fun s u => Op.bytesLess s.name u.name = true) := by
 unfold mayBook
 rw [Bool.and_eq_true, decide_eq_true_eq]
 constructor
 ·rintro ⟨h1, h2⟩
  exact ⟨h1, fun s hs => ((mayBk_rise h2).1 s hs).1, (mayBk_rise h2).2⟩
 ·rintro ⟨h1, h2, h3⟩
  exact ⟨h1, mayBk_of (fun s hs => ⟨h2 s hs, fun q hq => by cases hq⟩) h3⟩
theorem atB_of {b : BookD} (h : b.Pairwise (fun s u => Op.bytesLess s.name u.name = true)) {i : Nat} {s : SheetD} (hi : b[i]? = some s) : atB b s.name = some i := by
 refine atB_is hi rfl fun j u hj hu => ?_
 obtain ⟨hl, e⟩ := List.getElem?_eq_some_iff.1 hi
 obtain ⟨hl', e'⟩ := List.getElem?_eq_some_iff.1 hu
 have := List.pairwise_iff_getElem.1 h j i hl' hl hj
 rw [e, e'] at this
 exact less_ne this
theorem atB_name {b : BookD} {i : Nat} {f : SheetD → SheetD} (hf : ∀ s, (f s).name = s.name) (nm : List UInt8) : atB (b.modify i f) nm = atB b nm := by
 unfold atB
 induction b generalizing i with
 | nil => simp
 | cons s r ih =>
  cases i with
  | zero => simp [List.findIdx?_cons, hf]
  | succ i => simp [List.findIdx?_cons, ih]
theorem setB_get (b : BookD) (i row col : Nat) (t : List UInt8) (j : Nat) : (setB b i row col t)[j]? = if i = j then (b[j]?).map (fun s => setS s row col t) else b[j]? := by
 unfold setB
 rw [List.getElem?_modify]
 split <;> simp
theorem setS_row (s : SheetD) (row col : Nat) (t : List UInt8) (r : Nat) : (setS s row col t).rows.getD r [] = if r = row then (s.rows.getD r []).set col t else s.rows.getD r [] := by
 simp only [setS, List.getD_eq_getElem?_getD, List.getElem?_modify]
 by_cases h : row = r
 ·subst h
  cases h1 : s.rows[row]? with
  | none => simp
  | some x => simp
 ·rw [if_neg (fun e => h e.symm)]
  cases h1 : s.rows[r]? with
  | none => simp
  | some x => simp [h]
theorem setS_in (s : SheetD) (row col : Nat) (t : List UInt8) (r c : Int) : inB (setS s row col t) r c = inB s r c := by
 unfold inB
 rw [setS_row]
 have e : (setS s row col t).rows.length = s.rows.length := by simp [setS]
 rw [e]
 split <;> simp
theorem setS_may {s : SheetD} {row col : Nat} {t : List UInt8} (h : maySh s = true) (ht : mayC t = true) : maySh (setS s row col t) = true := by
 simp only [maySh, Bool.and_eq_true, decide_eq_true_eq, List.all_eq_true] at h ⊢
 obtain ⟨h1, h2⟩ := h
 refine ⟨by simpa [setS] using h1, fun r hr => ?_⟩
 obtain ⟨k, hk⟩ := List.getElem?_of_mem hr
 cases h3 : s.rows[k]? with
 | none => simp [setS, List.getElem?_modify, h3] at hk
 | some x =>
  have h4 := h2 x (List.mem_of_getElem? h3)
  have hk : (if row = k then x.set col t else x) = r := by simpa [setS, List.getElem?_modify, h3] using hk
  split at hk
  ·subst hk
   refine ⟨by simpa [setS] using h4.1, fun c hc => ?_⟩
   rcases List.mem_or_eq_of_mem_set hc with h5 | h5
   ·exact h4.2 c h5
   ·rw [h5]; exact ht
  ·subst hk
   exact ⟨by simpa [setS] using h4.1, h4.2⟩
theorem setB_may {b : BookD} {i row col : Nat} {t : List UInt8} (h : mayBook b = true) (ht : mayC t = true) : mayBook (setB b i row col t) = true := by
 rw [mayBook_iff] at h ⊢
 obtain ⟨h1, h2, h3⟩ := h
 have hn : (setB b i row col t).map SheetD.name = b.map SheetD.name := by
  apply List.ext_getElem?
  intro j
  rw [List.getElem?_map, List.getElem?_map, setB_get]
  split
  ·cases b[j]? <;> simp [setS]
  ·rfl
 refine ⟨by simpa [setB] using h1, fun s hs => ?_, ?_⟩
 ·obtain ⟨k, hk⟩ := List.getElem?_of_mem hs
  rw [setB_get] at hk
  split at hk
  ·cases h4 : b[k]? with
   | none => rw [h4] at hk; simp at hk
   | some u =>
    rw [h4] at hk
    simp only [Option.map_some, Option.some.injEq] at hk
    subst hk
    exact setS_may (h2 u (List.mem_of_getElem? h4)) ht
  ·exact h2 s (List.mem_of_getElem? hk)
 ·have h5 : (b.map SheetD.name).Pairwise (fun x y => Op.bytesLess x y = true) := List.pairwise_map.2 h3
  rw [← hn] at h5
  exact List.pairwise_map.1 h5
theorem setB_cell {b : BookD} (hb : b.Pairwise (fun s u => Op.bytesLess s.name u.name = true)) {i row col : Nat} {t : List UInt8} {s : SheetD} {x : List (List UInt8)} (hi : b[i]? = some s) (hr : s.rows[row]? = some x) (hc : col < x.length)
  {j : Nat} {u : SheetD} {r c : Nat} {y : List (List UInt8)} (hj : b[j]? = some u) (hr' : u.rows[r]? = some y) (hc' : c < y.length) :
  getB (setB b i row col t) u.name r c = if j = i ∧ r = row ∧ c = col then t else getB b u.name r c := by
 have ha := atB_of hb hj
 have hin : inB u r c = true := by
  have := (List.getElem?_eq_some_iff.1 hr').1
  simp only [inB, List.getD_eq_getElem?_getD, Int.toNat_natCast, hr', Option.getD_some, Bool.and_eq_true, decide_eq_true_eq]
  omega
 have e1 : getB b u.name r c = y.getD c [] := by
  unfold getB
  rw [ha]
  simp only [hj, if_pos hin, cellB]
  simp [List.getD_eq_getElem?_getD, hr']
 rw [e1]
 unfold getB
 rw [show atB (setB b i row col t) u.name = some j by rw [setB, atB_name (f := fun s => setS s row col t) (fun _ => rfl)]; exact ha]
 simp only [setB_get, hj]
 by_cases h : i = j
 ·subst h
  rw [if_pos rfl]
  simp only [Option.map_some, setS_in, if_pos hin, cellB]
  rw [setS_row]
  rw [hi] at hj
  obtain rfl := Option.some.inj hj
  by_cases h2 : r = row
  ·subst h2
   rw [hr] at hr'
   obtain rfl := Option.some.inj hr'
   simp only [Int.toNat_natCast, if_true, true_and, List.getD_eq_getElem?_getD, hr, Option.getD_some, List.getElem?_set]
   by_cases h3 : c = col
   ·subst h3
    simp [hc]
   ·rw [if_neg h3, if_neg (fun e => h3 e.symm)]
  ·simp only [Int.toNat_natCast, h2, false_and, and_false, if_false]
   simp [List.getD_eq_getElem?_getD, hr']
 ·rw [if_neg h]
  simp only [if_pos hin, cellB]
  rw [if_neg (fun e => h e.1.symm)]
  simp [List.getD_eq_getElem?_getD, hr']
theorem setB_same {b : BookD} {i row col : Nat} {t : List UInt8} {s : SheetD} {x : List (List UInt8)} (hi : b[i]? = some s) (hr : s.rows[row]? = some x) (hc : col < x.length) : setB b i row col t = b ↔ x.getD col [] = t := by
 constructor
 ·intro h
  have h1 : (setB b i row col t)[i]? = b[i]? := by rw [h]
  rw [setB_get, if_pos rfl, hi] at h1
  simp only [Option.map_some, Option.some.injEq] at h1
  have h2 := setS_row s row col t row
  rw [h1, if_pos rfl] at h2
  simp only [List.getD_eq_getElem?_getD, hr, Option.getD_some] at h2 ⊢
  have h3 : (x.set col t)[col]? = x[col]? := by rw [← h2]
  rw [← h3]
  simp [hc]
 ·intro h
  apply List.ext_getElem?
  intro j
  rw [setB_get]
  split
  ·rename_i e
   subst e
   rw [hi]
   simp only [Option.map_some, Option.some.injEq]
   have : s.rows.modify row (fun r => r.set col t) = s.rows := by
    apply List.ext_getElem?
    intro k
    rw [List.getElem?_modify]
    split
    ·rename_i e
     subst e
     rw [hr]
     rw [← h, List.getD_eq_getElem?_getD, List.getElem?_eq_getElem hc]
     simp
    ·simp
   unfold setS
   rw [this]
  ·rfl
end Go.Proofs.YtiaigmahdjhcoaaGreatDoor
namespace Go.Proofs.YtiaigmahdjhcoaaGreatDoor
open Go Go.E
theorem findF_ret (s : SheetD) (rp : Option Addr) (rl rc A : Nat) (x : List UInt8) (w : World) (hA : Blk w A [str x] 9) : Ret Tryz.prog 107 [.agg ⟨sheetL s (.slice rp rl rc)⟩, .pointer (some ⟨A, 0, none⟩)] w (fun v w' => v = .bool (decide (s.name = x)) ∧ Ext w w') := by
 refine Ret.enter Tryz.func107 rfl Tryz.ntmps107 (by kernel_rfl) rfl ?_
 refine Sa ?_
 refine Lwb fun X w1 hbX hx1 hX => ?_
 replace hX : Blk w1 X (sheetL s (.slice rp rl rc)) 47 := hX
 replace hA := hA.ext hx1
 refine Sa ?_
 exact QW.body1 Tryz.results107 rfl ⟨by simp, hx1⟩
theorem idxSheet_ret (b : List SheetD) (sv : Value) (A : Nat) (x : List UInt8) (w : World) (h : SheetsR w sv b) (hA : Blk w A [str x] 9) : Ret Tryz.prog 106 [sv, .func (.func 107) ⟨[]⟩ ⟨[.pointer (some ⟨A, 0, none⟩)]⟩] w (fun v w' => v = .int .i64 (idxZ (atB b x)) ∧ Ext w w') := by
 obtain ⟨p, c, rfl⟩ := h.slice
 have hl := h.1
 refine Ret.enter Tryz.func106 rfl Tryz.ntmps106 (by kernel_rfl) rfl ?_
 refine Sa ?_
 refine CW.loop (ι := Nat) (fun k w' => k ≤ b.length ∧ Ext w w' ∧ ∀ i u, i < k → b[i]? = some u → u.name ≠ x) (fun k => [(0, .slice p b.length c), (1, .func (.func 107) ⟨[]⟩ ⟨[.pointer (some ⟨A, 0, none⟩)]⟩), (7, .int .i64 b.length), (8, .int .i64 k)]) (fun k => b.length - k) 0 ⟨by omega, Chg.refl _ _, fun i u h => by omega⟩ (Sub.cons rfl (Sub.cons rfl (Sub.cons rfl (Sub.cons rfl (Sub.nil))))) ?_
 rintro k w1 ⟨hk, hx, hno⟩
 replace h := h.ext hx
 replace hA := hA.ext hx
 refine Sa ?_
 refine Cwc (fun h2 => ?_) fun h2 => ?_
 ·have h2 : k < b.length := by simp at h2; omega
  obtain ⟨s, hs⟩ : ∃ s, b[k]? = some s := ⟨_, List.getElem?_eq_getElem h2⟩
  obtain ⟨a, q, kc, rfl, -, hnl, hr, hcell⟩ := h.at hs
  refine Sa ?_
  refine Lo ?_
  refine LW.load_cells rfl hcell rfl rfl rfl rfl ?_
  refine Sa ?_
  refine LW.call (fs := []) (cs := [.pointer (some ⟨A, 0, none⟩)]) rfl rfl rfl (findF_ret s _ _ _ A x w1 hA) ?_
  rintro v w2 ⟨rfl, hx2⟩
  refine Sa ?_
  refine Cwc (fun h3 => ?_) fun h3 => ?_
  ·have h3 : s.name = x := by simpa using h3
   refine Sa ?_
   exact QW.body1 Tryz.results106 rfl ⟨by rw [atB_is hs h3 hno]; rfl, hx.trans hx2⟩
  ·have h3 : s.name ≠ x := by simpa using h3
   refine Sa ?_
   refine QW.again (k + 1) ⟨by omega, hx.trans hx2, fun i u hi hu => ?_⟩ (Sub.cons rfl (Sub.cons rfl (Sub.cons rfl (Sub.cons rfl (Sub.nil))))) (by omega)
   rcases Nat.lt_or_ge i k with h4 | h4
   ·exact hno i u h4 hu
   ·obtain rfl : i = k := by omega
    rw [hs] at hu
    obtain rfl := Option.some.inj hu
    exact h3
 ·have h2 : k = b.length := by simp at h2; omega
  subst h2
  refine Sa ?_
  refine QW.body1 Tryz.results106 rfl ⟨?_, hx⟩
  rw [atB_none (fun i s hi hs => hno i s hi hs)]
  rfl
theorem Find_ret (b : List SheetD) (sv : Value) (x : List UInt8) (w : World) (h : SheetsR w sv b) : Ret Tryz.prog 75 [.agg ⟨[sv]⟩, str x] w (fun v w' => v = .int .i64 (idxZ (atB b x)) ∧ Ext w w') := by
 obtain ⟨p, c, rfl⟩ := h.slice
 refine Ret.enter Tryz.func75 rfl Tryz.ntmps75 (by kernel_rfl) rfl ?_
 refine Sa ?_
 refine Lwb fun B w1 hbB hx1 hB => ?_
 replace hB : Blk w1 B [.slice p b.length c] 26 := hB
 refine Sa ?_
 refine Lwb fun A w2 hbA hx2 hA => ?_
 replace hA : Blk w2 A [str x] 9 := hA
 replace hB := hB.ext hx2
 have hx2' := hx1.trans hx2
 refine Sa ?_
 refine LW.call0 rfl rfl (idxSheet_ret b _ A x w2 (h.ext hx2') hA) ?_
 rintro v w3 ⟨rfl, hx3⟩
 refine Sa ?_
 exact QW.body1 Tryz.results75 rfl ⟨rfl, hx2'.trans hx3⟩
theorem rFind_ret (b : List SheetD) (sv : Value) (x : List UInt8) (w : World) (h : SheetsR w sv b) : Ret Tryz.prog 47 [.agg ⟨[sv]⟩, str x] w (fun v w' => v = .int .i64 (idxZ (atB b x)) ∧ Ext w w') := by
 obtain ⟨p, c, rfl⟩ := h.slice
 have hl := h.1
 refine Ret.enter Tryz.func47 rfl Tryz.ntmps47 (by kernel_rfl) rfl ?_
 refine Sa ?_
 refine Lwb fun B w1 hbB hx1 hB => ?_
 replace hB : Blk w1 B [.slice p b.length c] 26 := hB
 replace h := h.ext hx1
 refine Sa ?_
 refine CW.loop (ι := Nat) (fun k w' => k ≤ b.length ∧ Ext w1 w' ∧ ∀ i u, i < k → b[i]? = some u → u.name ≠ x) (fun k => [(1, str x), (2, .pointer (some ⟨B, 0, none⟩)), (5, .int .i64 k)]) (fun k => b.length - k) 0 ⟨by omega, Chg.refl _ _, fun i u h => by omega⟩ (Sub.cons rfl (Sub.cons rfl (Sub.cons rfl (Sub.nil)))) ?_
 rintro k w2 ⟨hk, hx, hno⟩
 replace h := h.ext hx
 have hB2 := hB.ext hx
 have hx' := hx1.trans hx
 refine Sa ?_
 refine Cwc (fun h2 => ?_) fun h2 => ?_
 ·have h2 : k < b.length := by simp at h2; omega
  obtain ⟨s, hs⟩ : ∃ s, b[k]? = some s := ⟨_, List.getElem?_eq_getElem h2⟩
  obtain ⟨a, q, kc, rfl, -, hnl, hr, hcell⟩ := h.at hs
  refine Sa ?_
  refine Lo ?_
  refine Ln ?_
  refine Lp (hcell 0 _ rfl) ?_
  refine Sa ?_
  refine Cwc (fun h3 => ?_) fun h3 => ?_
  ·have h3 : s.name = x := by simpa using h3
   refine Sa ?_
   exact QW.body1 Tryz.results47 rfl ⟨by rw [atB_is hs h3 hno]; rfl, hx'⟩
  ·have h3 : s.name ≠ x := by simpa using h3
   refine Sa ?_
   refine QW.again (k + 1) ⟨by omega, hx, fun i u hi hu => ?_⟩ (Sub.cons rfl (Sub.cons rfl (Sub.cons rfl (Sub.nil)))) (by omega)
   rcases Nat.lt_or_ge i k with h4 | h4
   ·exact hno i u h4 hu
   ·obtain rfl : i = k := by omega
    rw [hs] at hu
    obtain rfl := Option.some.inj hu
    exact h3
 ·have h2 : k = b.length := by simp at h2; omega
  subst h2
  refine Sa ?_
  refine QW.body1 Tryz.results47 rfl ⟨?_, hx'⟩
  rw [atB_none (fun i s hi hs => hno i s hi hs)]
  rfl
end Go.Proofs.YtiaigmahdjhcoaaGreatDoor
namespace Go.Proofs.YtiaigmahdjhcoaaGreatDoor
open Go Go.E
theorem eq_fail {α : Type} [DecidableEq α] {l m : List α} {k : Nat} {x y : α} (h1 : l[k]? = some x) (h2 : m[k]? = some y) (h : x ≠ y) : decide (l = m) = false := by
 rw [decide_eq_false_iff_not]
 rintro rfl
 rw [h1] at h2
 exact h (Option.some.inj h2)
theorem take_step {α : Type} {l m : List α} {k : Nat} {x : α} (h : l.take k = m.take k) (h1 : l[k]? = some x) (h2 : m[k]? = some x) : l.take (k + 1) = m.take (k + 1) := by
 rw [List.take_add_one, List.take_add_one, h, h1, h2]
theorem take_all {α : Type} [DecidableEq α] {l m : List α} (h : l.take l.length = m.take l.length) (hl : l.length = m.length) : decide (l = m) = true := by
 rw [decide_eq_true_eq]
 rw [List.take_length, hl, List.take_length] at h
 exact h
theorem len_fail {α : Type} [DecidableEq α] {l m : List α} (h : l.length ≠ m.length) : decide (l = m) = false := by
 rw [decide_eq_false_iff_not]
 rintro rfl
 exact h rfl
theorem Texts_ret (l m : List (List UInt8)) (v u : Value) (w : World) (h : TextsR w v l) (h' : TextsR w u m) : Ret Tryz.prog 78 [v, u] w (fun r w' => r = .bool (decide (l = m)) ∧ Ext w w') := by
 obtain ⟨p, c, rfl⟩ := h.slice
 obtain ⟨p', c', rfl⟩ := h'.slice
 have hl := h.1
 have hl' := h'.1
 refine Ret.enter Tryz.func78 rfl Tryz.ntmps78 (by kernel_rfl) rfl ?_
 refine Sa ?_
 refine Cwc (fun h1 => ?_) fun h1 => ?_
 ·have h1 : l.length ≠ m.length := by simp at h1; omega
  refine Sa ?_
  exact QW.body1 Tryz.results78 rfl ⟨by rw [len_fail h1], Chg.refl _ _⟩
 have h1 : l.length = m.length := by simp at h1; omega
 refine Sa ?_
 refine CW.loop (ι := Nat) (fun k w' => k ≤ l.length ∧ Ext w w' ∧ l.take k = m.take k) (fun k => [(0, .slice p l.length c), (1, .slice p' m.length c'), (5, .int .i64 k)]) (fun k => l.length - k) 0 ⟨by omega, Chg.refl _ _, rfl⟩ (Sub.cons rfl (Sub.cons rfl (Sub.cons rfl (Sub.nil)))) ?_
 rintro k w1 ⟨hk, hx, hsame⟩
 replace h := h.ext hx
 replace h' := h'.ext hx
 refine Sa ?_
 refine Cwc (fun h2 => ?_) fun h2 => ?_
 ·have h2 : k < l.length := by simp at h2; omega
  obtain ⟨s, hs⟩ : ∃ s, l[k]? = some s := ⟨_, List.getElem?_eq_getElem h2⟩
  obtain ⟨s', hs'⟩ : ∃ s, m[k]? = some s := ⟨_, List.getElem?_eq_getElem (by omega)⟩
  obtain ⟨a, rfl, -, -, hc⟩ := TextsQ.at h hs
  obtain ⟨a', rfl, -, -, hc'⟩ := TextsQ.at h' hs'
  refine Sa ?_
  refine CW.draw (by kernel_rfl) (by kernel_rfl) ?_
  refine Sqw ?_
  refine QL.nil fun w2 hx2 => ?_
  replace hx := hx.trans hx2
  refine Sa ?_
  refine Cwc (fun h3 => ?_) fun h3 => ?_
  ·have h3 : s ≠ s' := by simpa using h3
   refine Sa ?_
   exact QW.body1 Tryz.results78 rfl ⟨by rw [eq_fail hs hs' h3], hx⟩
  ·have h3 : s = s' := by simpa using h3
   subst h3
   refine Sa ?_
   exact QW.again (k + 1) ⟨by omega, hx, take_step hsame hs hs'⟩ (Sub.cons rfl (Sub.cons rfl (Sub.cons rfl (Sub.nil)))) (by omega)
 ·have h2 : k = l.length := by simp at h2; omega
  subst h2
  refine Sa ?_
  exact QW.body1 Tryz.results78 rfl ⟨by rw [take_all hsame h1], hx⟩
theorem sEqual_ret (l m : List (List UInt8)) (v u : Value) (w : World) (h : TextsR w v l) (h' : TextsR w u m) : Ret Tryz.prog 56 [v, u] w (fun r w' => r = .bool (decide (l = m)) ∧ Ext w w') := by
 obtain ⟨p, c, rfl⟩ := h.slice
 obtain ⟨p', c', rfl⟩ := h'.slice
 have hl := h.1
 have hl' := h'.1
 refine Ret.enter Tryz.func56 rfl Tryz.ntmps56 (by kernel_rfl) rfl ?_
 refine Sa ?_
 refine Cwc (fun h1 => ?_) fun h1 => ?_
 ·have h1 : l.length ≠ m.length := by simp at h1; omega
  refine Sa ?_
  exact QW.body1 Tryz.results56 rfl ⟨by rw [len_fail h1], Chg.refl _ _⟩
 have h1 : l.length = m.length := by simp at h1; omega
 refine Sa ?_
 refine CW.loop (ι := Nat) (fun k w' => k ≤ l.length ∧ Ext w w' ∧ l.take k = m.take k) (fun k => [(0, .slice p l.length c), (1, .slice p' m.length c'), (12, .int .i64 l.length), (13, .int .i64 k)]) (fun k => l.length - k) 0 ⟨by omega, Chg.refl _ _, rfl⟩ (Sub.cons rfl (Sub.cons rfl (Sub.cons rfl (Sub.cons rfl (Sub.nil))))) ?_
 rintro k w1 ⟨hk, hx, hsame⟩
 replace h := h.ext hx
 replace h' := h'.ext hx
 refine Sa ?_
 refine Cwc (fun h2 => ?_) fun h2 => ?_
 ·have h2 : k < l.length := by simp at h2; omega
  obtain ⟨s, hs⟩ : ∃ s, l[k]? = some s := ⟨_, List.getElem?_eq_getElem h2⟩
  obtain ⟨s', hs'⟩ : ∃ s, m[k]? = some s := ⟨_, List.getElem?_eq_getElem (by omega)⟩
  obtain ⟨a, rfl, -, -, hc⟩ := TextsQ.at h hs
  obtain ⟨a', rfl, -, -, hc'⟩ := TextsQ.at h' hs'
  refine Sa ?_
  refine CW.draw (by kernel_rfl) (by kernel_rfl) ?_
  refine Sqw ?_
  refine QL.nil fun w2 hx2 => ?_
  replace hx := hx.trans hx2
  refine Sa ?_
  refine Cwc (fun h3 => ?_) fun h3 => ?_
  ·have h3 : s ≠ s' := by simpa using h3
   refine Sa ?_
   exact QW.body1 Tryz.results56 rfl ⟨by rw [eq_fail hs hs' h3], hx⟩
  ·have h3 : s = s' := by simpa using h3
   subst h3
   refine Sa ?_
   exact QW.again (k + 1) ⟨by omega, hx, take_step hsame hs hs'⟩ (Sub.cons rfl (Sub.cons rfl (Sub.cons rfl (Sub.cons rfl (Sub.nil))))) (by omega)
 ·have h2 : k = l.length := by simp at h2; omega
  subst h2
  refine Sa ?_
  exact QW.body1 Tryz.results56 rfl ⟨by rw [take_all hsame h1], hx⟩
theorem rEqual_ret (l m : List (List (List UInt8))) (v u : Value) (w : World) (h : RowsR w v l) (h' : RowsR w u m) : Ret Tryz.prog 55 [v, u, .func (.func 56) ⟨[]⟩ ⟨[]⟩] w (fun r w' => r = .bool (decide (l = m)) ∧ Ext w w') := by
 obtain ⟨p, c, rfl⟩ := h.slice
 obtain ⟨p', c', rfl⟩ := h'.slice
 have hl := h.1
 have hl' := h'.1
 refine Ret.enter Tryz.func55 rfl Tryz.ntmps55 (by kernel_rfl) rfl ?_
 refine Sa ?_
 refine Cwc (fun h1 => ?_) fun h1 => ?_
 ·have h1 : l.length ≠ m.length := by simp at h1; omega
  refine Sa ?_
  exact QW.body1 Tryz.results55 rfl ⟨by rw [len_fail h1], Chg.refl _ _⟩
 have h1 : l.length = m.length := by simp at h1; omega
 refine Sa ?_
 refine CW.loop (ι := Nat) (fun k w' => k ≤ l.length ∧ Ext w w' ∧ l.take k = m.take k) (fun k => [(1, .slice p' m.length c'), (2, .func (.func 56) ⟨[]⟩ ⟨[]⟩), (15, .slice p l.length c), (16, .int .i64 l.length), (17, .int .i64 k)]) (fun k => l.length - k) 0 ⟨by omega, Chg.refl _ _, rfl⟩ (Sub.cons rfl (Sub.cons rfl (Sub.cons rfl (Sub.cons rfl (Sub.cons rfl (Sub.nil)))))) ?_
 rintro k w1 ⟨hk, hx, hsame⟩
 replace h := h.ext hx
 replace h' := h'.ext hx
 refine Sa ?_
 refine Cwc (fun h2 => ?_) fun h2 => ?_
 ·have h2 : k < l.length := by simp at h2; omega
  obtain ⟨s, hs⟩ : ∃ s, l[k]? = some s := ⟨_, List.getElem?_eq_getElem h2⟩
  obtain ⟨s', hs'⟩ : ∃ s, m[k]? = some s := ⟨_, List.getElem?_eq_getElem (by omega)⟩
  obtain ⟨a, q, qc, rfl, -, ht, hc⟩ := RowsQ.at h hs
  obtain ⟨a', q', qc', rfl, -, ht', hc'⟩ := RowsQ.at h' hs'
  refine Sw ?_
  refine LW.call (fs := []) (cs := []) rfl rfl rfl (sEqual_ret s s' _ _ w1 ht ht') ?_
  rintro v w2 ⟨rfl, hx2⟩
  replace hx := hx.trans hx2
  refine Sa ?_
  refine Cwc (fun h3 => ?_) fun h3 => ?_
  ·have h3 : s ≠ s' := by simpa using h3
   refine Sa ?_
   exact QW.body1 Tryz.results55 rfl ⟨by rw [eq_fail hs hs' h3], hx⟩
  ·have h3 : s = s' := by simpa using h3
   subst h3
   refine Sa ?_
   exact QW.again (k + 1) ⟨by omega, hx, take_step hsame hs hs'⟩ (Sub.cons rfl (Sub.cons rfl (Sub.cons rfl (Sub.cons rfl (Sub.cons rfl (Sub.nil)))))) (by omega)
 ·have h2 : k = l.length := by simp at h2; omega
  subst h2
  refine Sa ?_
  exact QW.body1 Tryz.results55 rfl ⟨by rw [take_all hsame h1], hx⟩
theorem sheet_eq {s u : SheetD} : decide (s = u) = (decide (s.name = u.name) && decide (s.cols = u.cols) && decide (s.rows = u.rows)) := by
 cases s; cases u
 simp [Bool.and_assoc]
theorem sameF_ret (s u : SheetD) (rv uv : Value) (w : World) (h : RowsR w rv s.rows) (h' : RowsR w uv u.rows) : Ret Tryz.prog 54 [.agg ⟨sheetL s rv⟩, .agg ⟨sheetL u uv⟩] w (fun r w' => r = .bool (decide (s = u)) ∧ Ext w w') := by
 refine Ret.enter Tryz.func54 rfl Tryz.ntmps54 (by kernel_rfl) rfl ?_
 apply CW.seq
 apply CW.region
 refine Sl ?_
 refine Lwb fun A w1 hbA hx1 hA => ?_
 replace hA : Blk w1 A (sheetL s rv) 47 := hA
 refine Sl ?_
 refine Lwb fun B w2 hbB hx2 hB => ?_
 replace hB : Blk w2 B (sheetL u uv) 47 := hB
 replace hA := hA.ext hx2
 have hx := hx1.trans hx2
 refine Sa ?_
 by_cases h1 : s.name = u.name
 rotate_left
 ·refine LW.know (t := 10) (c := false) rfl (by simpa using h1) ?_
  refine Sa ?_
  exact QW.body1 Tryz.results54 rfl ⟨by rw [sheet_eq, decide_eq_false h1]; rfl, hx⟩
 refine LW.know (t := 10) (c := true) rfl (by simpa using h1) ?_
 refine Sa ?_
 by_cases h2 : s.cols = u.cols
 rotate_left
 ·refine LW.know (t := 17) (c := false) rfl (by simpa using h2) ?_
  refine Sa ?_
  exact QW.body1 Tryz.results54 rfl ⟨by rw [sheet_eq, decide_eq_false h2, Bool.and_false]; rfl, hx⟩
 refine LW.know (t := 17) (c := true) rfl (by simpa using h2) ?_
 refine Sa ?_
 refine LW.call0 rfl rfl (rEqual_ret s.rows u.rows _ _ w2 (h.ext hx) (h'.ext hx)) ?_
 rintro v w3 ⟨rfl, hx3⟩
 refine Sa ?_
 exact QW.body1 Tryz.results54 rfl ⟨by rw [sheet_eq, decide_eq_true h1, decide_eq_true h2]; rfl, hx.trans hx3⟩
theorem bEqual_ret (l m : BookD) (v u : Value) (w : World) (h : SheetsR w v l) (h' : SheetsR w u m) : Ret Tryz.prog 53 [v, u, .func (.func 54) ⟨[]⟩ ⟨[]⟩] w (fun r w' => r = .bool (decide (l = m)) ∧ Ext w w') := by
 obtain ⟨p, c, rfl⟩ := h.slice
 obtain ⟨p', c', rfl⟩ := h'.slice
 have hl := h.1
 have hl' := h'.1
 refine Ret.enter Tryz.func53 rfl Tryz.ntmps53 (by kernel_rfl) rfl ?_
 refine Sa ?_
 refine Cwc (fun h1 => ?_) fun h1 => ?_
 ·have h1 : l.length ≠ m.length := by simp at h1; omega
  refine Sa ?_
  exact QW.body1 Tryz.results53 rfl ⟨by rw [len_fail h1], Chg.refl _ _⟩
 have h1 : l.length = m.length := by simp at h1; omega
 refine Sa ?_
 refine CW.loop (ι := Nat) (fun k w' => k ≤ l.length ∧ Ext w w' ∧ l.take k = m.take k) (fun k => [(1, .slice p' m.length c'), (2, .func (.func 54) ⟨[]⟩ ⟨[]⟩), (15, .slice p l.length c), (16, .int .i64 l.length), (17, .int .i64 k)]) (fun k => l.length - k) 0 ⟨by omega, Chg.refl _ _, rfl⟩ (Sub.cons rfl (Sub.cons rfl (Sub.cons rfl (Sub.cons rfl (Sub.cons rfl (Sub.nil)))))) ?_
 rintro k w1 ⟨hk, hx, hsame⟩
 replace h := h.ext hx
 replace h' := h'.ext hx
 refine Sa ?_
 refine Cwc (fun h2 => ?_) fun h2 => ?_
 ·have h2 : k < l.length := by simp at h2; omega
  obtain ⟨s, hs⟩ : ∃ s, l[k]? = some s := ⟨_, List.getElem?_eq_getElem h2⟩
  obtain ⟨s', hs'⟩ : ∃ s, m[k]? = some s := ⟨_, List.getElem?_eq_getElem (by omega)⟩
  obtain ⟨a, q, qc, rfl, -, -, ht, hc⟩ := SheetsQ.at h hs
  obtain ⟨a', q', qc', rfl, -, -, ht', hc'⟩ := SheetsQ.at h' hs'
  refine Sw ?_
  refine Lwa fun X w2 hbX hx2 hX => ?_
  refine Sw ?_
  refine Lws fun w3 hc3 hX => ?_
  replace hX : Blk w3 X (sheetL s (.slice q s.rows.length qc)) 47 := hX
  have hx3 : Ext w1 w3 := hx2.step hc3 (by simp; omega)
  replace hc' : ∀ j u, (sheetL s' (.slice q' s'.rows.length qc'))[j]? = some u → w3.cell? ((a'.add (((k : Nat) : Int).toNat * 3)).add j) = some u := fun j u hj => cell_keep hx3 (hc' j u hj)
  refine Sw ?_
  refine Lwa fun Y w4 hbY hx4 hY => ?_
  have hXY : X < w3.heap.size := hX.lt
  replace hX := hX.ext hx4
  refine Sw ?_
  refine Lws fun w5 hc5 hY => ?_
  replace hY : Blk w5 Y (sheetL s' (.slice q' s'.rows.length qc')) 47 := hY
  replace hX := hX.chg hc5 (by simp; omega)
  have hx5 : Ext w1 w5 := hx3.trans (hx4.step hc5 (by simp; omega))
  refine Sa ?_
  refine LW.call (fs := []) (cs := []) rfl rfl rfl (sameF_ret s s' _ _ w5 (ht.ext hx5) (ht'.ext hx5)) ?_
  rintro v w6 ⟨rfl, hx6⟩
  replace hx := (hx.trans hx5).trans hx6
  refine Sa ?_
  refine Cwc (fun h3 => ?_) fun h3 => ?_
  ·have h3 : s ≠ s' := by simpa using h3
   refine Sa ?_
   exact QW.body1 Tryz.results53 rfl ⟨by rw [eq_fail hs hs' h3], hx⟩
  ·have h3 : s = s' := by simpa using h3
   subst h3
   refine Sa ?_
   exact QW.again (k + 1) ⟨by omega, hx, take_step hsame hs hs'⟩ (Sub.cons rfl (Sub.cons rfl (Sub.cons rfl (Sub.cons rfl (Sub.cons rfl (Sub.nil)))))) (by omega)
 ·have h2 : k = l.length := by simp at h2; omega
  subst h2
  refine Sa ?_
  exact QW.body1 Tryz.results53 rfl ⟨by rw [take_all hsame h1], hx⟩
theorem Same_book (l m : BookD) (v u : Value) (w : World) (h : SheetsR w v l) (h' : SheetsR w u m) : Ret Tryz.prog 23 [.agg ⟨[v]⟩, .agg ⟨[u]⟩] w (fun r w' => r = .bool (decide (l = m)) ∧ Ext w w') := by
 refine Ret.enter Tryz.func23 rfl Tryz.ntmps23 (by kernel_rfl) rfl ?_
 apply CW.seq
 apply CW.region
 refine Sl ?_
 refine Lwb fun A w1 hbA hx1 hA => ?_
 replace hA : Blk w1 A [v] 26 := hA
 refine Sl ?_
 refine Lwb fun B w2 hbB hx2 hB => ?_
 replace hB : Blk w2 B [u] 26 := hB
 replace hA := hA.ext hx2
 have hx := hx1.trans hx2
 refine Sa ?_
 refine LW.call0 rfl rfl (bEqual_ret l m v u w2 (h.ext hx) (h'.ext hx)) ?_
 rintro v w3 ⟨rfl, hx3⟩
 refine Sa ?_
 exact QW.body1 Tryz.results23 rfl ⟨rfl, hx.trans hx3⟩
theorem SameSheet_ret (s u : SheetD) (rv uv : Value) (w : World) (h : RowsR w rv s.rows) (h' : RowsR w uv u.rows) : Ret Tryz.prog 51 [.agg ⟨sheetL s rv⟩, .agg ⟨sheetL u uv⟩] w (fun r w' => r = .bool (decide (s = u)) ∧ Ext w w') := by
 obtain ⟨p, c, rfl⟩ := h.slice
 obtain ⟨p', c', rfl⟩ := h'.slice
 have hl := h.1
 have hl' := h'.1
 refine Ret.enter Tryz.func51 rfl Tryz.ntmps51 (by kernel_rfl) rfl ?_
 apply CW.seq
 apply CW.region
 refine Sl ?_
 refine Lwb fun A w1 hbA hx1 hA => ?_
 replace hA : Blk w1 A (sheetL s (.slice p s.rows.length c)) 47 := hA
 refine Sl ?_
 refine Lwb fun B w2 hbB hx2 hB => ?_
 replace hB : Blk w2 B (sheetL u (.slice p' u.rows.length c')) 47 := hB
 replace hA := hA.ext hx2
 have hx := hx1.trans hx2
 refine Sa ?_
 by_cases h1 : s.name = u.name
 rotate_left
 ·refine LW.know (t := 11) (c := true) rfl (by simpa using h1) ?_
  refine Sa ?_
  exact QW.body1 Tryz.results51 rfl ⟨by rw [sheet_eq, decide_eq_false h1]; rfl, hx⟩
 refine LW.know (t := 11) (c := false) rfl (by simpa using h1) ?_
 refine Sa ?_
 by_cases h2 : s.cols = u.cols
 rotate_left
 ·refine LW.know (t := 18) (c := true) rfl (by simpa using h2) ?_
  refine Sa ?_
  exact QW.body1 Tryz.results51 rfl ⟨by rw [sheet_eq, decide_eq_false h2, Bool.and_false]; rfl, hx⟩
 refine LW.know (t := 18) (c := false) rfl (by simpa using h2) ?_
 refine Sa ?_
 refine Cwc (fun h3 => ?_) fun h3 => ?_
 ·have h3 : s.rows.length ≠ u.rows.length := by simp at h3; omega
  refine Sa ?_
  exact QW.body1 Tryz.results51 rfl ⟨by rw [sheet_eq, len_fail h3, Bool.and_false], hx⟩
 have h3 : s.rows.length = u.rows.length := by simp at h3; omega
 refine Sa ?_
 refine CW.loop (ι := Nat) (fun k w' => k ≤ s.rows.length ∧ Ext w2 w' ∧ s.rows.take k = u.rows.take k) (fun k => [(2, .pointer (some ⟨A, 0, none⟩)), (3, .pointer (some ⟨B, 0, none⟩)), (5, .int .i64 k)]) (fun k => s.rows.length - k) 0 ⟨by omega, Chg.refl _ _, rfl⟩ (Sub.cons rfl (Sub.cons rfl (Sub.cons rfl (Sub.nil)))) ?_
 rintro k w3 ⟨hk, hx3, hsame⟩
 replace h := h.ext (hx.trans hx3)
 replace h' := h'.ext (hx.trans hx3)
 replace hA := hA.ext hx3
 replace hB := hB.ext hx3
 refine Sa ?_
 refine Cwc (fun h4 => ?_) fun h4 => ?_
 ·have h4 : k < s.rows.length := by simp at h4; omega
  obtain ⟨r, hr⟩ : ∃ r, s.rows[k]? = some r := ⟨_, List.getElem?_eq_getElem h4⟩
  obtain ⟨r', hr'⟩ : ∃ r, u.rows[k]? = some r := ⟨_, List.getElem?_eq_getElem (by omega)⟩
  obtain ⟨a, q, qc, rfl, -, ht, hc⟩ := RowsQ.at h hr
  obtain ⟨a', q', qc', rfl, -, ht', hc'⟩ := RowsQ.at h' hr'
  refine Sa ?_
  refine CW.draw (by kernel_rfl) (by kernel_rfl) ?_
  refine Sqw ?_
  refine QL.call0 rfl rfl (fun w4 hx4 => Texts_ret r r' _ _ w4 (ht.ext hx4) (ht'.ext hx4)) ?_
  refine Sqw ?_
  refine QL.nil fun w4 hx4 => ?_
  refine Sa ?_
  refine Cwc (fun h5 => ?_) fun h5 => ?_
  ·have h5 : r ≠ r' := by simpa using h5
   refine Sa ?_
   exact QW.body1 Tryz.results51 rfl ⟨by rw [sheet_eq, eq_fail hr hr' h5, Bool.and_false], (hx.trans hx3).trans hx4⟩
  ·have h5 : r = r' := by simpa using h5
   subst h5
   refine Sa ?_
   exact QW.again (k + 1) ⟨by omega, hx3.trans hx4, take_step hsame hr hr'⟩ (Sub.cons rfl (Sub.cons rfl (Sub.cons rfl (Sub.nil)))) (by omega)
 ·have h4 : k = s.rows.length := by simp at h4; omega
  subst h4
  refine Sa ?_
  exact QW.body1 Tryz.results51 rfl ⟨by rw [sheet_eq, decide_eq_true h1, decide_eq_true h2, take_all hsame h3]; rfl, hx.trans hx3⟩
theorem SameBook_ret (l m : BookD) (v u : Value) (w : World) (h : SheetsR w v l) (h' : SheetsR w u m) : Ret Tryz.prog 19 [.agg ⟨[v]⟩, .agg ⟨[u]⟩] w (fun r w' => r = .bool (decide (l = m)) ∧ Ext w w') := by
 obtain ⟨p, c, rfl⟩ := h.slice
 obtain ⟨p', c', rfl⟩ := h'.slice
 have hl := h.1
 have hl' := h'.1
 refine Ret.enter Tryz.func19 rfl Tryz.ntmps19 (by kernel_rfl) rfl ?_
 apply CW.seq
 apply CW.region
 refine Sl ?_
 refine Lwb fun A w1 hbA hx1 hA => ?_
 replace hA : Blk w1 A [.slice p l.length c] 26 := hA
 refine Sl ?_
 refine Lwb fun B w2 hbB hx2 hB => ?_
 replace hB : Blk w2 B [.slice p' m.length c'] 26 := hB
 replace hA := hA.ext hx2
 have hx := hx1.trans hx2
 refine Sa ?_
 refine Cwc (fun h3 => ?_) fun h3 => ?_
 ·have h3 : l.length ≠ m.length := by simp at h3; omega
  refine Sa ?_
  exact QW.body1 Tryz.results19 rfl ⟨by rw [len_fail h3], hx⟩
 have h3 : l.length = m.length := by simp at h3; omega
 refine Sa ?_
 refine CW.loop (ι := Nat) (fun k w' => k ≤ l.length ∧ Ext w2 w' ∧ l.take k = m.take k) (fun k => [(2, .pointer (some ⟨A, 0, none⟩)), (3, .pointer (some ⟨B, 0, none⟩)), (5, .int .i64 k)]) (fun k => l.length - k) 0 ⟨by omega, Chg.refl _ _, rfl⟩ (Sub.cons rfl (Sub.cons rfl (Sub.cons rfl (Sub.nil)))) ?_
 rintro k w3 ⟨hk, hx3, hsame⟩
 replace h := h.ext (hx.trans hx3)
 replace h' := h'.ext (hx.trans hx3)
 replace hA := hA.ext hx3
 replace hB := hB.ext hx3
 refine Sa ?_
 refine Cwc (fun h4 => ?_) fun h4 => ?_
 ·have h4 : k < l.length := by simp at h4; omega
  obtain ⟨r, hr⟩ : ∃ r, l[k]? = some r := ⟨_, List.getElem?_eq_getElem h4⟩
  obtain ⟨r', hr'⟩ : ∃ r, m[k]? = some r := ⟨_, List.getElem?_eq_getElem (by omega)⟩
  obtain ⟨a, q, qc, rfl, -, -, ht, hc⟩ := SheetsQ.at h hr
  obtain ⟨a', q', qc', rfl, -, -, ht', hc'⟩ := SheetsQ.at h' hr'
  refine Sa ?_
  refine CW.draw (by kernel_rfl) (by kernel_rfl) ?_
  refine Sqw ?_
  refine QL.call0 rfl rfl (fun w4 hx4 => SameSheet_ret r r' _ _ w4 (ht.ext hx4) (ht'.ext hx4)) ?_
  refine Sqw ?_
  refine QL.nil fun w4 hx4 => ?_
  refine Sa ?_
  refine Cwc (fun h5 => ?_) fun h5 => ?_
  ·have h5 : r ≠ r' := by simpa using h5
   refine Sa ?_
   exact QW.body1 Tryz.results19 rfl ⟨by rw [eq_fail hr hr' h5], (hx.trans hx3).trans hx4⟩
  ·have h5 : r = r' := by simpa using h5
   subst h5
   refine Sa ?_
   exact QW.again (k + 1) ⟨by omega, hx3.trans hx4, take_step hsame hr hr'⟩ (Sub.cons rfl (Sub.cons rfl (Sub.cons rfl (Sub.nil)))) (by omega)
 ·have h4 : k = l.length := by simp at h4; omega
  subst h4
  refine Sa ?_
  exact QW.body1 Tryz.results19 rfl ⟨by rw [take_all hsame h3], hx.trans hx3⟩
end Go.Proofs.YtiaigmahdjhcoaaGreatDoor
namespace Go.Proofs.YtiaigmahdjhcoaaGreatDoor
open Go Go.E
theorem all_fail {α : Type} {f : α → Bool} {l : List α} {k : Nat} {x : α} (h : l[k]? = some x) (hf : f x = false) : l.all f = false := by
 rw [List.all_eq_false]
 exact ⟨x, List.mem_of_getElem? h, by simp [hf]⟩
theorem all_step {α : Type} {f : α → Bool} {l : List α} {k : Nat} {x : α} (h : (l.take k).all f = true) (hk : l[k]? = some x) (hf : f x = true) : (l.take (k + 1)).all f = true := by
 rw [List.take_add_one, hk, List.all_append, h]
 simp [hf]
theorem all_end {α : Type} {f : α → Bool} {l : List α} (h : (l.take l.length).all f = true) : l.all f = true := by
 rwa [List.take_length] at h
noncomputable def rowOk (cols : Int) (r : List (List UInt8)) : Bool := decide ((r.length : Int) = cols) && r.all mayC
theorem maySh_eq (s : SheetD) : maySh s = (nameB s.name && (decide (0 ≤ s.cols) && (decide (s.cols ≤ 12) && (decide (s.rows.length ≤ 24) && s.rows.all (rowOk s.cols))))) := by
 unfold maySh rowOk
 simp [Bool.and_assoc]
theorem mayBk_at : ∀ {b : BookD} {p : Option (List UInt8)}, mayBk p b = true ↔ ∀ i s, b[i]? = some s → maySh s = true ∧ ∀ q, (if i = 0 then p else (b[i - 1]?).map SheetD.name) = some q → Op.bytesLess q s.name = true
 | [], p => by simp [mayBk]
 | s :: r, p => by
  show (((match p with | none => true | some q => Op.bytesLess q s.name) && maySh s && mayBk (some s.name) r) = true) ↔ _
  rw [Bool.and_eq_true, Bool.and_eq_true, mayBk_at]
  constructor
  ·rintro ⟨⟨h1, h2⟩, h3⟩ i u hi
   cases i with
   | zero =>
    simp at hi
    subst hi
    refine ⟨h2, fun q hq => ?_⟩
    rw [if_pos rfl] at hq
    subst hq
    exact h1
   | succ i =>
    have h4 := h3 i u (by simpa using hi)
    refine ⟨h4.1, fun q hq => h4.2 q ?_⟩
    rw [if_neg (by omega)] at hq
    cases i with
    | zero => simpa using hq
    | succ i => simpa using hq
  ·intro h
   have h0 := h 0 s rfl
   refine ⟨⟨?_, h0.1⟩, fun i u hi => ?_⟩
   ·cases p with
    | none => rfl
    | some q => exact h0.2 q rfl
   ·have h4 := h (i + 1) u (by simpa using hi)
    refine ⟨h4.1, fun q hq => h4.2 q ?_⟩
    rw [if_neg (by omega)]
    cases i with
    | zero => simpa using hq
    | succ i => simpa using hq
theorem maySheet_ret (s : SheetD) (rv : Value) (w : World) (g : Glob w) (hn : s.name.length ≤ 1000000) (h : RowsR w rv s.rows) : Ret Tryz.prog 50 [.agg ⟨sheetL s rv⟩] w (fun r w' => r = .bool (maySh s) ∧ Ext w w') := by
 obtain ⟨p, c, rfl⟩ := h.slice
 have hl := h.1
 refine Ret.enter Tryz.func50 rfl Tryz.ntmps50 (by kernel_rfl) rfl ?_
 apply CW.seq
 apply CW.region
 refine Sl ?_
 refine Lwb fun A w1 hbA hx1 hA => ?_
 replace hA : Blk w1 A (sheetL s (.slice p s.rows.length c)) 47 := hA
 replace g := g.ext hx1
 replace h := h.ext hx1
 refine Sa ?_
 refine LW.call0 rfl rfl (Name_ret s.name w1 (by omega)) ?_
 rintro v w2 ⟨rfl, hx2⟩
 replace g := g.ext hx2
 replace h := h.ext hx2
 replace hA := hA.ext hx2
 have hx := hx1.trans hx2
 refine Sa ?_
 cases h1 : nameB s.name with
 | false =>
  refine Sa ?_
  exact QW.body1 Tryz.results50 rfl ⟨by rw [maySh_eq, h1]; rfl, hx⟩
 | true =>
 refine Sa ?_
 by_cases h2 : s.cols < 0
 ·refine LW.know (t := 16) (c := true) rfl (by simpa using h2) ?_
  refine Sa ?_
  exact QW.body1 Tryz.results50 rfl ⟨by rw [maySh_eq, decide_eq_false (p := 0 ≤ s.cols) (by omega)]; simp, hx⟩
 refine LW.know (t := 16) (c := false) rfl (by simpa using h2) ?_
 refine Sa ?_
 by_cases h3 : 12 < s.cols
 ·refine LW.know (t := 21) (c := true) rfl (by simpa using h3) ?_
  refine Sa ?_
  exact QW.body1 Tryz.results50 rfl ⟨by rw [maySh_eq, decide_eq_false (p := s.cols ≤ 12) (by omega)]; simp, hx⟩
 refine LW.know (t := 21) (c := false) rfl (by simpa using h3) ?_
 refine Sa ?_
 refine Cwc (fun h4 => ?_) fun h4 => ?_
 ·have h4 : 24 < s.rows.length := by simp at h4; omega
  refine Sa ?_
  exact QW.body1 Tryz.results50 rfl ⟨by rw [maySh_eq, decide_eq_false (p := s.rows.length ≤ 24) (by omega)]; simp, hx⟩
 have h4 : s.rows.length ≤ 24 := by simp at h4; omega
 have e0 : maySh s = s.rows.all (rowOk s.cols) := by
  rw [maySh_eq, h1, decide_eq_true (p := 0 ≤ s.cols) (by omega), decide_eq_true (p := s.cols ≤ 12) (by omega), decide_eq_true h4]
  simp
 refine Sa ?_
 refine CW.loop (ι := Nat) (fun k w' => k ≤ s.rows.length ∧ Ext w2 w' ∧ (s.rows.take k).all (rowOk s.cols) = true) (fun k => [(1, .pointer (some ⟨A, 0, none⟩)), (28, .slice p s.rows.length c), (29, .int .i64 s.rows.length), (30, .int .i64 k)]) (fun k => s.rows.length - k) 0 ⟨by omega, Chg.refl _ _, rfl⟩ (Sub.cons rfl (Sub.cons rfl (Sub.cons rfl (Sub.cons rfl (Sub.nil))))) ?_
 rintro k w3 ⟨hk, hx3, hok⟩
 replace h := h.ext hx3
 replace hA := hA.ext hx3
 replace g := g.ext hx3
 replace hx3' := hx.trans hx3
 refine Sa ?_
 refine Cwc (fun h5 => ?_) fun h5 => ?_
 rotate_left
 ·have h5 : k = s.rows.length := by simp at h5; omega
  subst h5
  refine Sa ?_
  exact QW.body1 Tryz.results50 rfl ⟨by rw [e0, all_end hok], hx3'⟩
 have h5 : k < s.rows.length := by simp at h5; omega
 obtain ⟨r, hr⟩ : ∃ r, s.rows[k]? = some r := ⟨_, List.getElem?_eq_getElem h5⟩
 obtain ⟨a, q, qc, rfl, -, ht, hc⟩ := RowsQ.at h hr
 have hrl := ht.1
 refine Sw ?_
 refine Cwc (fun h6 => ?_) fun h6 => ?_
 ·have h6 : (r.length : Int) ≠ s.cols := by simpa using h6
  refine Sa ?_
  exact QW.body1 Tryz.results50 rfl ⟨by rw [e0, all_fail hr (by rw [rowOk, decide_eq_false h6]; rfl)], hx3'⟩
 have h6 : (r.length : Int) = s.cols := by simpa using h6
 refine Sa ?_
 refine CW.loop (ι := Nat) (fun j w' => j ≤ r.length ∧ Ext w3 w' ∧ (r.take j).all mayC = true) (fun j => [(1, .pointer (some ⟨A, 0, none⟩)), (28, .slice (some a) s.rows.length c), (29, .int .i64 s.rows.length), (30, .int .i64 k), (39, .slice q r.length qc), (40, .int .i64 r.length), (41, .int .i64 j)]) (fun j => r.length - j) 0 ⟨by omega, Chg.refl _ _, rfl⟩ (Sub.cons rfl (Sub.cons rfl (Sub.cons rfl (Sub.cons rfl (Sub.cons rfl (Sub.cons rfl (Sub.cons rfl (Sub.nil)))))))) ?_
 rintro j w4 ⟨hj, hx4, hok2⟩
 replace ht := ht.ext hx4
 replace g := g.ext hx4
 refine Sa ?_
 refine Cwc (fun h7 => ?_) fun h7 => ?_
 rotate_left
 ·have h7 : j = r.length := by simp at h7; omega
  subst h7
  refine Sa ?_
  refine QW.again (k + 1) ⟨by omega, hx3.trans hx4, all_step hok hr ?_⟩ (Sub.cons rfl (Sub.cons rfl (Sub.cons rfl (Sub.cons rfl (Sub.nil))))) (by omega)
  rw [rowOk, decide_eq_true h6, all_end hok2]
  rfl
 have h7 : j < r.length := by simp at h7; omega
 obtain ⟨t, htt⟩ : ∃ t, r[j]? = some t := ⟨_, List.getElem?_eq_getElem h7⟩
 obtain ⟨a', rfl, -, htl, hc'⟩ := TextsQ.at ht htt
 refine Sw ?_
 refine LW.call0 rfl rfl (cMay_ret t (by omega) w4 g) ?_
 rintro v w5 ⟨rfl, hx5⟩
 refine Sa ?_
 cases h8 : mayC t with
 | false =>
  refine Sa ?_
  exact QW.body1 Tryz.results50 rfl ⟨by rw [e0, all_fail hr (by rw [rowOk, all_fail htt h8, Bool.and_false])], (hx3'.trans hx4).trans hx5⟩
 | true =>
  refine Sa ?_
  exact QW.again (j + 1) ⟨by omega, hx4.trans hx5, all_step hok2 htt h8⟩ (Sub.cons rfl (Sub.cons rfl (Sub.cons rfl (Sub.cons rfl (Sub.cons rfl (Sub.cons rfl (Sub.cons rfl (Sub.nil)))))))) (by omega)
noncomputable def sheetOk (b : BookD) (i : Nat) : Bool := match b[i]? with
 | none => false
 | some s => maySh s && (match i with | 0 => true | j + 1 => Op.bytesLess ((b[j]?).elim [] SheetD.name) s.name)
theorem mayBk_end {b : BookD} (h : ∀ i, i < b.length → sheetOk b i = true) : mayBk none b = true := by
 rw [mayBk_at]
 intro i s hi
 have hl := (List.getElem?_eq_some_iff.1 hi).1
 have h1 := h i hl
 unfold sheetOk at h1
 rw [hi] at h1
 simp only [Bool.and_eq_true] at h1
 refine ⟨h1.1, fun q hq => ?_⟩
 cases i with
 | zero => simp at hq
 | succ i =>
  rw [if_neg (by omega)] at hq
  have h2 : Op.bytesLess ((b[i]?).elim [] SheetD.name) s.name = true := h1.2
  simp only [Nat.add_sub_cancel] at hq
  cases h3 : b[i]? with
  | none => rw [h3] at hq; simp at hq
  | some u =>
   rw [h3] at hq h2
   simp at hq
   rw [← hq]
   exact h2
theorem mayBk_fail {b : BookD} {i : Nat} (hi : i < b.length) (h : sheetOk b i = false) : mayBk none b = false := by
 cases hm : mayBk none b with
 | false => rfl
 | true =>
  rw [mayBk_at] at hm
  have hs := List.getElem?_eq_getElem hi
  obtain ⟨h1, h2⟩ := hm i _ hs
  unfold sheetOk at h
  rw [hs] at h
  simp only [h1, Bool.true_and] at h
  cases i with
  | zero => simp at h
  | succ i =>
   have h3 := List.getElem?_eq_getElem (show i < b.length by omega)
   have h4 := h2 (b[i]'(by omega)).name (by rw [if_neg (by omega)]; simp only [Nat.add_sub_cancel]; rw [h3]; rfl)
   have h : Op.bytesLess ((b[i]?).elim [] SheetD.name) b[i + 1].name = false := h
   rw [h3] at h
   have h : Op.bytesLess b[i].name b[i + 1].name = false := h
   rw [h4] at h
   cases h
theorem May_book (b : BookD) (sv : Value) (w : World) (g : Glob w) (h : SheetsR w sv b) : Ret Tryz.prog 16 [.agg ⟨[sv]⟩] w (fun r w' => r = .bool (mayBook b) ∧ Ext w w') := by
 obtain ⟨p, c, rfl⟩ := h.slice
 have hl := h.1
 refine Ret.enter Tryz.func16 rfl Tryz.ntmps16 (by kernel_rfl) rfl ?_
 apply CW.seq
 apply CW.region
 refine Sl ?_
 refine Lwb fun A w1 hbA hx1 hA => ?_
 replace hA : Blk w1 A [.slice p b.length c] 26 := hA
 replace g := g.ext hx1
 replace h := h.ext hx1
 refine Sa ?_
 refine Cwc (fun h4 => ?_) fun h4 => ?_
 ·have h4 : 5 < b.length := by simp at h4; omega
  refine Sa ?_
  exact QW.body1 Tryz.results16 rfl ⟨by rw [mayBook, decide_eq_false (by omega)]; rfl, hx1⟩
 have h4 : b.length ≤ 5 := by simp at h4; omega
 have e0 : mayBook b = mayBk none b := by rw [mayBook, decide_eq_true h4]; rfl
 refine Sa ?_
 refine CW.loop (ι := Nat) (fun k w' => k ≤ b.length ∧ Ext w1 w' ∧ ∀ i, i < k → sheetOk b i = true) (fun k => [(1, .pointer (some ⟨A, 0, none⟩)), (10, .slice p b.length c), (11, .int .i64 b.length), (12, .int .i64 k)]) (fun k => b.length - k) 0 ⟨by omega, Chg.refl _ _, by simp⟩ (Sub.cons rfl (Sub.cons rfl (Sub.cons rfl (Sub.cons rfl (Sub.nil))))) ?_
 rintro k w2 ⟨hk, hx2, hok⟩
 replace h := h.ext hx2
 replace hA := hA.ext hx2
 replace g := g.ext hx2
 have hx2' := hx1.trans hx2
 refine Sa ?_
 refine Cwc (fun h5 => ?_) fun h5 => ?_
 rotate_left
 ·have h5 : k = b.length := by simp at h5; omega
  subst h5
  refine Sa ?_
  exact QW.body1 Tryz.results16 rfl ⟨by rw [e0, mayBk_end hok], hx2'⟩
 have h5 : k < b.length := by simp at h5; omega
 obtain ⟨s, hs⟩ : ∃ r, b[k]? = some r := ⟨_, List.getElem?_eq_getElem h5⟩
 obtain ⟨a, q, qc, rfl, -, hnl, ht, hc⟩ := SheetsQ.at h hs
 refine Sw ?_
 refine Lwa fun X w3 hbX hx3 hX => ?_
 have hA3 := hA.ext hx3
 have hAX : A ≠ X := fun e => by have := hA.lt; omega
 have h3 := h.ext hx3
 have ht3 := ht.ext hx3
 refine Sw ?_
 refine Lws fun w4 hc4 hX => ?_
 replace hX : Blk w4 X (sheetL s (.slice q s.rows.length qc)) 47 := hX
 have hx4 : Ext w2 w4 := hx3.step hc4 (by simp; omega)
 have hA4 := hA.ext hx4
 have h4' := h.ext hx4
 have ht4 := ht.ext hx4
 have g4 := g.ext hx4
 refine Sa ?_
 refine CW.draw (by kernel_rfl) (by kernel_rfl) ?_
 refine Sqw ?_
 cases k with
 | zero =>
  refine QL.know (t := 19) (c := false) rfl (by simp) ?_
  refine Sqw ?_
  refine QL.call0 rfl rfl (fun w5 hx5 => maySheet_ret s _ w5 (g4.ext hx5) hnl (ht4.ext hx5)) ?_
  refine Sqw ?_
  refine QL.nil fun w5 hx5 => ?_
  refine Sa ?_
  refine Cwc (fun h8 => ?_) fun h8 => ?_
  ·have h8 : maySh s = false := by simpa using h8
   refine Sa ?_
   exact QW.body1 Tryz.results16 rfl ⟨by rw [e0, mayBk_fail h5 (by unfold sheetOk; rw [hs]; show (maySh s && true) = _; rw [h8]; rfl)], (hx2'.trans hx4).trans hx5⟩
  ·have h8 : maySh s = true := by simpa using h8
   refine Sa ?_
   exact QW.again (1) ⟨by omega, (hx2.trans hx4).trans hx5, fun i hi => by
    rcases Nat.lt_or_ge i (0) with h9 | h9
    ·exact hok i h9
    ·obtain rfl : i = 0 := by omega
     unfold sheetOk; rw [hs]; show (maySh s && true) = _; rw [h8]; rfl⟩ (Sub.cons rfl (Sub.cons rfl (Sub.cons rfl (Sub.cons rfl (Sub.nil))))) (by omega)
 | succ j =>
  obtain ⟨u, hu⟩ : ∃ u, b[j]? = some u := ⟨_, List.getElem?_eq_getElem (by omega)⟩
  obtain ⟨a2, q2, qc2, e2, -, -, -, hcu⟩ := SheetsQ.at h4' hu
  obtain rfl := Option.some.inj e2
  have hu0 : w4.cell? ((a.add ((((j + 1 : Nat) : Int) - 1).toNat * 3)).add 0) = some (str u.name) := by
   rw [show (((j + 1 : Nat) : Int) - 1).toNat = ((j : Nat) : Int).toNat by omega]
   exact hcu 0 _ rfl
  refine QL.know (t := 19) (c := true) rfl (by simp) ?_
  refine Sqw ?_
  cases h7 : Op.bytesLess u.name s.name with
  | false =>
   refine QL.know (t := 31) (c := true) rfl rfl ?_
   refine Sqw ?_
   refine QL.nil fun w5 hx5 => ?_
   refine Sa ?_
   exact QW.body1 Tryz.results16 rfl ⟨by rw [e0, mayBk_fail h5 (by
    unfold sheetOk
    rw [hs]
    have e3 : Op.bytesLess ((b[j]?).elim [] SheetD.name) s.name = false := by rw [hu]; exact h7
    show (maySh s && Op.bytesLess ((b[j]?).elim [] SheetD.name) s.name) = false
    rw [e3, Bool.and_false])], (hx2'.trans hx4).trans hx5⟩
  | true =>
  have e3 : Op.bytesLess ((b[j]?).elim [] SheetD.name) s.name = true := by rw [hu]; exact h7
  have e4 : sheetOk b (j + 1) = (maySh s && Op.bytesLess ((b[j]?).elim [] SheetD.name) s.name) := by unfold sheetOk; rw [hs]
  refine QL.know (t := 31) (c := false) rfl rfl ?_
  refine Sqw ?_
  refine QL.call0 rfl rfl (fun w5 hx5 => maySheet_ret s _ w5 (g4.ext hx5) hnl (ht4.ext hx5)) ?_
  refine Sqw ?_
  refine QL.nil fun w5 hx5 => ?_
  refine Sa ?_
  refine Cwc (fun h8 => ?_) fun h8 => ?_
  ·have h8 : maySh s = false := by simpa using h8
   refine Sa ?_
   exact QW.body1 Tryz.results16 rfl ⟨by rw [e0, mayBk_fail h5 (by rw [e4, h8]; rfl)], (hx2'.trans hx4).trans hx5⟩
  ·have h8 : maySh s = true := by simpa using h8
   refine Sa ?_
   exact QW.again (j + 1 + 1) ⟨by omega, (hx2.trans hx4).trans hx5, fun i hi => by
    rcases Nat.lt_or_ge i (j + 1) with h9 | h9
    ·exact hok i h9
    ·obtain rfl : i = j + 1 := by omega
     rw [e4, h8, e3]; rfl⟩ (Sub.cons rfl (Sub.cons rfl (Sub.cons rfl (Sub.cons rfl (Sub.nil))))) (by omega)
end Go.Proofs.YtiaigmahdjhcoaaGreatDoor
namespace Go.Proofs.YtiaigmahdjhcoaaGreatDoor
open Go Go.E
theorem rMaySheet_ret (s : SheetD) (rv : Value) (w : World) (hn : s.name.length ≤ 1000000) (h : RowsR w rv s.rows) : Ret Tryz.prog 76 [.agg ⟨sheetL s rv⟩] w (fun r w' => r = .bool (maySh s) ∧ Ext w w') := by
 obtain ⟨p, c, rfl⟩ := h.slice
 have hl := h.1
 refine Ret.enter Tryz.func76 rfl Tryz.ntmps76 (by kernel_rfl) rfl ?_
 apply CW.seq
 apply CW.region
 refine Sl ?_
 refine Lwb fun A w1 hbA hx1 hA => ?_
 replace hA : Blk w1 A (sheetL s (.slice p s.rows.length c)) 47 := hA
 replace h := h.ext hx1
 refine Sa ?_
 refine LW.call0 rfl rfl (rName_ret s.name (by omega) w1) ?_
 rintro v w2 ⟨rfl, hx2⟩
 replace h := h.ext hx2
 replace hA := hA.ext hx2
 have hx := hx1.trans hx2
 refine Sa ?_
 cases h1 : nameB s.name with
 | false =>
  refine Sa ?_
  exact QW.body1 Tryz.results76 rfl ⟨by rw [maySh_eq, h1]; rfl, hx⟩
 | true =>
 refine Sa ?_
 by_cases h2 : s.cols < 0
 ·refine LW.know (t := 14) (c := true) rfl (by simpa using h2) ?_
  refine Sa ?_
  exact QW.body1 Tryz.results76 rfl ⟨by rw [maySh_eq, decide_eq_false (p := 0 ≤ s.cols) (by omega)]; simp, hx⟩
 refine LW.know (t := 14) (c := false) rfl (by simpa using h2) ?_
 refine Sa ?_
 by_cases h3 : 12 < s.cols
 ·refine LW.know (t := 19) (c := true) rfl (by simpa using h3) ?_
  refine Sa ?_
  exact QW.body1 Tryz.results76 rfl ⟨by rw [maySh_eq, decide_eq_false (p := s.cols ≤ 12) (by omega)]; simp, hx⟩
 refine LW.know (t := 19) (c := false) rfl (by simpa using h3) ?_
 refine Sa ?_
 refine Cwc (fun h4 => ?_) fun h4 => ?_
 ·have h4 : 24 < s.rows.length := by simp at h4; omega
  refine Sa ?_
  exact QW.body1 Tryz.results76 rfl ⟨by rw [maySh_eq, decide_eq_false (p := s.rows.length ≤ 24) (by omega)]; simp, hx⟩
 have h4 : s.rows.length ≤ 24 := by simp at h4; omega
 have e0 : maySh s = s.rows.all (rowOk s.cols) := by
  rw [maySh_eq, h1, decide_eq_true (p := 0 ≤ s.cols) (by omega), decide_eq_true (p := s.cols ≤ 12) (by omega), decide_eq_true h4]
  simp
 refine Sa ?_
 refine CW.loop (ι := Nat) (fun k w' => k ≤ s.rows.length ∧ Ext w2 w' ∧ (s.rows.take k).all (rowOk s.cols) = true) (fun k => [(1, .pointer (some ⟨A, 0, none⟩)), (3, .int .i64 k)]) (fun k => s.rows.length - k) 0 ⟨by omega, Chg.refl _ _, rfl⟩ (Sub.cons rfl (Sub.cons rfl (Sub.nil))) ?_
 rintro k w3 ⟨hk, hx3, hok⟩
 replace h := h.ext hx3
 replace hA := hA.ext hx3
 replace hx3' := hx.trans hx3
 refine Sa ?_
 refine Cwc (fun h5 => ?_) fun h5 => ?_
 rotate_left
 ·have h5 : k = s.rows.length := by simp at h5; omega
  subst h5
  refine Sa ?_
  exact QW.body1 Tryz.results76 rfl ⟨by rw [e0, all_end hok], hx3'⟩
 have h5 : k < s.rows.length := by simp at h5; omega
 obtain ⟨r, hr⟩ : ∃ r, s.rows[k]? = some r := ⟨_, List.getElem?_eq_getElem h5⟩
 obtain ⟨a, q, qc, rfl, -, ht, hc⟩ := RowsQ.at h hr
 have hrl := ht.1
 refine Sa ?_
 refine CW.draw (by kernel_rfl) (by kernel_rfl) ?_
 refine Sqw ?_
 refine QL.nil fun w4 hx4 => ?_
 replace ht := ht.ext hx4
 replace h := h.ext hx4
 replace hA := hA.ext hx4
 have hc4 := cell_keep hx4 hc
 refine Sa ?_
 refine Cwc (fun h6 => ?_) fun h6 => ?_
 ·have h6 : (r.length : Int) ≠ s.cols := by simpa using h6
  refine Sa ?_
  exact QW.body1 Tryz.results76 rfl ⟨by rw [e0, all_fail hr (by rw [rowOk, decide_eq_false h6]; rfl)], hx3'.trans hx4⟩
 have h6 : (r.length : Int) = s.cols := by simpa using h6
 refine Sa ?_
 refine CW.loop (ι := Nat) (fun j w' => j ≤ r.length ∧ Ext w4 w' ∧ (r.take j).all mayC = true) (fun j => [(1, .pointer (some ⟨A, 0, none⟩)), (3, .int .i64 k), (4, .int .i64 j)]) (fun j => r.length - j) 0 ⟨by omega, Chg.refl _ _, rfl⟩ (Sub.cons rfl (Sub.cons rfl (Sub.cons rfl (Sub.nil)))) ?_
 rintro j w5 ⟨hj, hx5, hok2⟩
 replace ht := ht.ext hx5
 replace hA := hA.ext hx5
 replace hc5 := cell_keep hx5 hc4
 refine Sw ?_
 refine Cwc (fun h7 => ?_) fun h7 => ?_
 rotate_left
 ·have h7 : j = r.length := by simp at h7; omega
  subst h7
  refine Sa ?_
  refine QW.again (k + 1) ⟨by omega, (hx3.trans hx4).trans hx5, all_step hok hr ?_⟩ (Sub.cons rfl (Sub.cons rfl (Sub.nil))) (by omega)
  rw [rowOk, decide_eq_true h6, all_end hok2]
  rfl
 have h7 : j < r.length := by simp at h7; omega
 obtain ⟨t, htt⟩ : ∃ t, r[j]? = some t := ⟨_, List.getElem?_eq_getElem h7⟩
 obtain ⟨a', rfl, -, htl, hc'⟩ := TextsQ.at ht htt
 refine Sw ?_
 refine LW.call0 rfl rfl (rMayCell_ret t (by omega) w5) ?_
 rintro v w6 ⟨rfl, hx6⟩
 refine Sa ?_
 cases h8 : mayC t with
 | false =>
  refine Sa ?_
  exact QW.body1 Tryz.results76 rfl ⟨by rw [e0, all_fail hr (by rw [rowOk, all_fail htt h8, Bool.and_false])], ((hx3'.trans hx4).trans hx5).trans hx6⟩
 | true =>
  refine Sa ?_
  exact QW.again (j + 1) ⟨by omega, hx5.trans hx6, all_step hok2 htt h8⟩ (Sub.cons rfl (Sub.cons rfl (Sub.cons rfl (Sub.nil)))) (by omega)
theorem rMayBook_ret (b : BookD) (sv : Value) (w : World) (h : SheetsR w sv b) : Ret Tryz.prog 48 [.agg ⟨[sv]⟩] w (fun r w' => r = .bool (mayBook b) ∧ Ext w w') := by
 obtain ⟨p, c, rfl⟩ := h.slice
 have hl := h.1
 refine Ret.enter Tryz.func48 rfl Tryz.ntmps48 (by kernel_rfl) rfl ?_
 apply CW.seq
 apply CW.region
 refine Sl ?_
 refine Lwb fun A w1 hbA hx1 hA => ?_
 replace hA : Blk w1 A [.slice p b.length c] 26 := hA
 replace h := h.ext hx1
 refine Sa ?_
 refine Cwc (fun h4 => ?_) fun h4 => ?_
 ·have h4 : 5 < b.length := by simp at h4; omega
  refine Sa ?_
  exact QW.body1 Tryz.results48 rfl ⟨by rw [mayBook, decide_eq_false (by omega)]; rfl, hx1⟩
 have h4 : b.length ≤ 5 := by simp at h4; omega
 have e0 : mayBook b = mayBk none b := by rw [mayBook, decide_eq_true h4]; rfl
 refine Sa ?_
 refine CW.loop (ι := Nat) (fun k w' => k ≤ b.length ∧ Ext w1 w' ∧ ∀ i, i < k → sheetOk b i = true) (fun k => [(1, .pointer (some ⟨A, 0, none⟩)), (3, .int .i64 k)]) (fun k => b.length - k) 0 ⟨by omega, Chg.refl _ _, by simp⟩ (Sub.cons rfl (Sub.cons rfl (Sub.nil))) ?_
 rintro k w2 ⟨hk, hx2, hok⟩
 replace h := h.ext hx2
 replace hA := hA.ext hx2
 have hx2' := hx1.trans hx2
 refine Sa ?_
 refine Cwc (fun h5 => ?_) fun h5 => ?_
 rotate_left
 ·have h5 : k = b.length := by simp at h5; omega
  subst h5
  refine Sa ?_
  exact QW.body1 Tryz.results48 rfl ⟨by rw [e0, mayBk_end hok], hx2'⟩
 have h5 : k < b.length := by simp at h5; omega
 obtain ⟨s, hs⟩ : ∃ r, b[k]? = some r := ⟨_, List.getElem?_eq_getElem h5⟩
 obtain ⟨a, q, qc, rfl, -, hnl, ht, hc⟩ := SheetsQ.at h hs
 have hc0 : w2.cell? ((a.add (((k : Nat) : Int).toNat * 3)).add 0) = some (str s.name) := hc 0 _ rfl
 refine Sa ?_
 refine CW.draw (by kernel_rfl) (by kernel_rfl) ?_
 refine Sqw ?_
 refine QL.call0 rfl rfl (fun w5 hx5 => rMaySheet_ret s _ w5 hnl (ht.ext hx5)) ?_
 refine Sqw ?_
 cases h8 : maySh s with
 | false =>
  refine QL.know (t := 22) (c := true) rfl rfl ?_
  refine Sqw ?_
  refine QL.nil fun w5 hx5 => ?_
  refine Sa ?_
  exact QW.body1 Tryz.results48 rfl ⟨by rw [e0, mayBk_fail h5 (by
   unfold sheetOk
   rw [hs]
   show (maySh s && _) = false
   rw [h8]; rfl)], hx2'.trans hx5⟩
 | true =>
 refine QL.know (t := 22) (c := false) rfl rfl ?_
 refine Sqw ?_
 cases k with
 | zero =>
  refine QL.know (t := 25) (c := false) rfl (by simp) ?_
  refine Sqw ?_
  refine QL.nil fun w5 hx5 => ?_
  refine Sa ?_
  exact QW.again 1 ⟨by omega, hx2.trans hx5, fun i hi => by
   obtain rfl : i = 0 := by omega
   unfold sheetOk; rw [hs]; show (maySh s && true) = _; rw [h8]; rfl⟩ (Sub.cons rfl (Sub.cons rfl (Sub.nil))) (by omega)
 | succ j =>
  obtain ⟨u, hu⟩ : ∃ u, b[j]? = some u := ⟨_, List.getElem?_eq_getElem (by omega)⟩
  obtain ⟨a2, q2, qc2, e2, -, -, -, hcu⟩ := SheetsQ.at h hu
  obtain rfl := Option.some.inj e2
  have hu0 : w2.cell? ((a.add ((((j + 1 : Nat) : Int) - 1).toNat * 3)).add 0) = some (str u.name) := by
   rw [show (((j + 1 : Nat) : Int) - 1).toNat = ((j : Nat) : Int).toNat by omega]
   exact hcu 0 _ rfl
  have e4 : sheetOk b (j + 1) = (maySh s && Op.bytesLess ((b[j]?).elim [] SheetD.name) s.name) := by unfold sheetOk; rw [hs]
  have e3 : ((b[j]?).elim [] SheetD.name) = u.name := by rw [hu]; rfl
  rw [e3, h8] at e4
  refine QL.know (t := 25) (c := true) rfl (by simp) ?_
  refine Sqw ?_
  refine QL.nil fun w5 hx5 => ?_
  refine Sa ?_
  refine Cwc (fun h7 => ?_) fun h7 => ?_
  ·have h7 : Op.bytesLess u.name s.name = false := by simpa using h7
   refine Sa ?_
   exact QW.body1 Tryz.results48 rfl ⟨by rw [e0, mayBk_fail h5 (by rw [e4, h7]; rfl)], hx2'.trans hx5⟩
  ·have h7 : Op.bytesLess u.name s.name = true := by simpa using h7
   refine Sa ?_
   exact QW.again (j + 1 + 1) ⟨by omega, hx2.trans hx5, fun i hi => by
    rcases Nat.lt_or_ge i (j + 1) with h9 | h9
    ·exact hok i h9
    ·obtain rfl : i = j + 1 := by omega
     rw [e4, h7]; rfl⟩ (Sub.cons rfl (Sub.cons rfl (Sub.nil))) (by omega)
end Go.Proofs.YtiaigmahdjhcoaaGreatDoor
namespace Go.Proofs.YtiaigmahdjhcoaaGreatDoor
open Go Go.E
theorem inB_row {s : SheetD} {row col : Int} (h : inB s row col = true) : ∃ r : List (List UInt8), s.rows[row.toNat]? = some r ∧ 0 ≤ row ∧ row < s.rows.length ∧ 0 ≤ col ∧ col < r.length := by
 simp only [inB, Bool.and_eq_true, decide_eq_true_eq] at h
 obtain ⟨⟨h1, h2⟩, h3, h4⟩ := h
 have h5 := List.getElem?_eq_getElem (show row.toNat < s.rows.length by omega)
 refine ⟨_, h5, h1, h2, h3, ?_⟩
 simpa [List.getD_eq_getElem?_getD, h5] using h4
theorem inside_ret (s : SheetD) (rv : Value) (row col : Int) (w : World) (h : RowsR w rv s.rows) : Ret Tryz.prog 49 [.agg ⟨sheetL s rv⟩, .int .i64 row, .int .i64 col] w (fun r w' => r = .bool (inB s row col) ∧ Ext w w') := by
 obtain ⟨p, c, rfl⟩ := h.slice
 have hl := h.1
 refine Ret.enter Tryz.func49 rfl Tryz.ntmps49 (by kernel_rfl) rfl ?_
 apply CW.seq
 apply CW.region
 refine Sl ?_
 refine Lwb fun A w1 hbA hx1 hA => ?_
 replace hA : Blk w1 A (sheetL s (.slice p s.rows.length c)) 47 := hA
 replace h := h.ext hx1
 refine Sa ?_
 by_cases h1 : 0 ≤ row
 rotate_left
 ·refine LW.know (t := 9) (c := false) rfl (by simpa using h1) ?_
  refine Sa ?_
  exact QW.body1 Tryz.results49 rfl ⟨by rw [inB, decide_eq_false h1]; rfl, hx1⟩
 refine LW.know (t := 9) (c := true) rfl (by simpa using h1) ?_
 refine Sa ?_
 by_cases h2 : row < s.rows.length
 rotate_left
 ·refine LW.know (t := 16) (c := false) rfl (by simpa using h2) ?_
  refine Sa ?_
  exact QW.body1 Tryz.results49 rfl ⟨by rw [inB, decide_eq_false h2, Bool.and_false]; rfl, hx1⟩
 refine LW.know (t := 16) (c := true) rfl (by simpa using h2) ?_
 refine Sa ?_
 by_cases h3 : 0 ≤ col
 rotate_left
 ·refine LW.know (t := 20) (c := false) rfl (by simpa using h3) ?_
  refine Sa ?_
  exact QW.body1 Tryz.results49 rfl ⟨by rw [inB, decide_eq_false h3, Bool.false_and, Bool.and_false], hx1⟩
 refine LW.know (t := 20) (c := true) rfl (by simpa using h3) ?_
 have hr := List.getElem?_eq_getElem (show row.toNat < s.rows.length by omega)
 obtain ⟨a, q, qc, rfl, -, ht, hc⟩ := RowsQ.at h hr
 have hc : w1.cell? (a.add (row.toNat * 1)) = _ := hc
 refine Sw ?_
 exact QW.body1 Tryz.results49 rfl ⟨by
  rw [inB, decide_eq_true h1, decide_eq_true h2, decide_eq_true h3]
  simp [List.getD_eq_getElem?_getD, hr], hx1⟩
def spotL (nm : List UInt8) (row col : Int) : List Value := [str nm, .int .i64 row, .int .i64 col]
theorem GetCell_ret (b : BookD) (sv : Value) (nm : List UInt8) (row col : Int) (w : World) (h : SheetsR w sv b) : Ret Tryz.prog 18 [.agg ⟨[sv]⟩, .agg ⟨spotL nm row col⟩] w (fun r w' => r = str (getB b nm row col) ∧ Ext w w') := by
 obtain ⟨p, c, rfl⟩ := h.slice
 have hl := h.1
 refine Ret.enter Tryz.func18 rfl Tryz.ntmps18 (by kernel_rfl) rfl ?_
 apply CW.seq
 apply CW.region
 refine Sl ?_
 refine Lwb fun A w1 hbA hx1 hA => ?_
 replace hA : Blk w1 A [.slice p b.length c] 26 := hA
 refine Sl ?_
 refine Lwb fun B w2 hbB hx2 hB => ?_
 replace hB : Blk w2 B (spotL nm row col) 29 := hB
 replace hA := hA.ext hx2
 refine Sa ?_
 refine LW.call0 rfl rfl (rFind_ret b _ nm w2 (h.ext (hx1.trans hx2))) ?_
 rintro v w3 ⟨rfl, hx3⟩
 have hx := (hx1.trans hx2).trans hx3
 replace h := h.ext hx
 replace hA := hA.ext hx3
 replace hB := hB.ext hx3
 refine Sa ?_
 cases ha : atB b nm with
 | none =>
  refine CW.draw (by kernel_rfl) (by kernel_rfl) ?_
  refine Sqw ?_
  refine QL.know (t := 12) (c := true) rfl rfl ?_
  refine Sqw ?_
  refine QL.nil fun w4 hx4 => ?_
  refine Sa ?_
  exact QW.body1 Tryz.results18 rfl ⟨by rw [getB, ha], hx.trans hx4⟩
 | some i =>
 obtain ⟨s, hs, -⟩ := atB_some ha
 have hi := (List.getElem?_eq_some_iff.1 hs).1
 obtain ⟨a, q, qc, rfl, -, -, ht, hc⟩ := SheetsQ.at h hs
 rw [show idxZ (some i) = (i : Int) from rfl]
 refine CW.draw (by kernel_rfl) (by kernel_rfl) ?_
 refine Sqw ?_
 refine QL.know (t := 12) (c := false) rfl (by simp) ?_
 refine Sqw ?_
 refine QL.call0 rfl rfl (fun w5 hx5 => inside_ret s _ row col w5 (ht.ext hx5)) ?_
 refine Sqw ?_
 refine QL.nil fun w4 hx4 => ?_
 replace hx := hx.trans hx4
 refine Sa ?_
 refine Cwc (fun h5 => ?_) fun h5 => ?_
 ·have h5 : inB s row col = false := by simpa using h5
  refine Sa ?_
  exact QW.body1 Tryz.results18 rfl ⟨by rw [getB, ha]; simp only [hs]; rw [if_neg (by rw [h5]; simp)], hx⟩
 have h5 : inB s row col = true := by simpa using h5
 obtain ⟨r, hr, k1, k2, k3, k4⟩ := inB_row h5
 have htr := List.getElem?_eq_getElem (show col.toNat < r.length by omega)
 replace ht := ht.ext hx4
 replace hA := hA.ext hx4
 replace hB := hB.ext hx4
 have hc2 : w4.cell? ((a.add (((i : Nat) : Int).toNat * 3)).add 2) = some (.slice q s.rows.length qc) := cell_keep hx4 (hc 2 _ rfl)
 obtain ⟨a2, q2, qc2, rfl, -, ht2, hcr⟩ := RowsQ.at ht hr
 have hcr : w4.cell? (a2.add (row.toNat * 1)) = _ := hcr
 obtain ⟨a3, rfl, -, -, hct⟩ := TextsQ.at ht2 htr
 have hct : w4.cell? (a3.add (col.toNat * 1)) = _ := hct
 refine Sa ?_
 refine CW.draw (by kernel_rfl) (by kernel_rfl) ?_
 refine Sqw ?_
 refine QL.nil fun w6 hx6 => ?_
 refine Sa ?_
 exact QW.body1 Tryz.results18 rfl ⟨by
  rw [getB, ha]; simp only [hs]; rw [if_pos h5, cellB]; simp [List.getD_eq_getElem?_getD, hr, htr], hx.trans hx6⟩
theorem Has_ret (b : BookD) (sv : Value) (nm : List UInt8) (row col : Int) (w : World) (h : SheetsR w sv b) : Ret Tryz.prog 44 [.agg ⟨[sv]⟩, .agg ⟨spotL nm row col⟩] w (fun r w' => r = .tuple #[.int .i64 (idxZ (atB b nm)), .bool (hasB b nm row col)] ∧ Ext w w') := by
 obtain ⟨p, c, rfl⟩ := h.slice
 have hl := h.1
 refine Ret.enter Tryz.func44 rfl Tryz.ntmps44 (by kernel_rfl) rfl ?_
 apply CW.seq
 apply CW.region
 refine Sl ?_
 refine Lwb fun A w1 hbA hx1 hA => ?_
 replace hA : Blk w1 A [.slice p b.length c] 26 := hA
 refine Sl ?_
 refine Lwb fun B w2 hbB hx2 hB => ?_
 replace hB : Blk w2 B (spotL nm row col) 29 := hB
 replace hA := hA.ext hx2
 refine Sa ?_
 refine LW.call0 rfl rfl (Find_ret b _ nm w2 (h.ext (hx1.trans hx2))) ?_
 rintro v w3 ⟨rfl, hx3⟩
 have hx := (hx1.trans hx2).trans hx3
 replace h := h.ext hx
 replace hA := hA.ext hx3
 replace hB := hB.ext hx3
 refine Sa ?_
 cases ha : atB b nm with
 | none =>
  refine CW.draw (by kernel_rfl) (by kernel_rfl) ?_
  refine Sqw ?_
  refine QL.know (t := 13) (c := true) rfl rfl ?_
  refine Sqw ?_
  refine QL.know (t := 18) (c := true) rfl rfl ?_
  refine Sqw ?_
  refine QL.nil fun w4 hx4 => ?_
  refine Sa ?_
  exact QW.body2 Tryz.results44 rfl rfl ⟨by rw [hasB, ha], hx.trans hx4⟩
 | some i =>
 obtain ⟨s, hs, -⟩ := atB_some ha
 have hi := (List.getElem?_eq_some_iff.1 hs).1
 obtain ⟨a, q, qc, rfl, -, -, ht, hc⟩ := SheetsQ.at h hs
 have e0 : hasB b nm row col = inB s row col := by rw [hasB, ha]; simp only [hs]
 rw [show idxZ (some i) = (i : Int) from rfl]
 have hc2 : w3.cell? ((a.add (((i : Nat) : Int).toNat * 3)).add 2) = some (.slice q s.rows.length qc) := hc 2 _ rfl
 have hrl := ht.1
 refine CW.draw (by kernel_rfl) (by kernel_rfl) ?_
 refine Sqw ?_
 refine QL.know (t := 13) (c := false) rfl (by simp) ?_
 refine Sqw ?_
 by_cases h1 : row < 0
 ·refine QL.know (t := 18) (c := true) rfl (by simpa using h1) ?_
  refine Sqw ?_
  refine QL.nil fun w4 hx4 => ?_
  refine Sa ?_
  exact QW.body2 Tryz.results44 rfl rfl ⟨by rw [e0, inB, decide_eq_false (by omega)]; rfl, hx.trans hx4⟩
 refine QL.know (t := 18) (c := false) rfl (by simpa using h1) ?_
 refine Sqw ?_
 refine QL.nil fun w4 hx4 => ?_
 replace hx := hx.trans hx4
 replace ht := ht.ext hx4
 replace hA := hA.ext hx4
 replace hB := hB.ext hx4
 replace hc2 := cell_keep hx4 hc2
 refine Sa ?_
 refine Cwc (fun h2 => ?_) fun h2 => ?_
 ·have h2 : ¬ row < s.rows.length := by simp at h2; omega
  refine Sa ?_
  exact QW.body2 Tryz.results44 rfl rfl ⟨by rw [e0, inB, decide_eq_false h2, Bool.and_false]; rfl, hx⟩
 have h2 : row < s.rows.length := by simp at h2; omega
 have hr := List.getElem?_eq_getElem (show row.toNat < s.rows.length by omega)
 obtain ⟨a2, q2, qc2, rfl, -, ht2, hcr⟩ := RowsQ.at ht hr
 have hcr : w4.cell? (a2.add (row.toNat * 1)) = _ := hcr
 refine Sa ?_
 refine CW.draw (by kernel_rfl) (by kernel_rfl) ?_
 refine Sqw ?_
 by_cases h3 : 0 ≤ col
 rotate_left
 ·refine QL.know (t := 35) (c := false) rfl (by simpa using h3) ?_
  refine Sqw ?_
  refine QL.nil fun w6 hx6 => ?_
  refine Sa ?_
  exact QW.body2 Tryz.results44 rfl rfl ⟨by rw [e0, inB, decide_eq_false h3, Bool.false_and, Bool.and_false], hx.trans hx6⟩
 refine QL.know (t := 35) (c := true) rfl (by simpa using h3) ?_
 refine Sqw ?_
 refine QL.nil fun w6 hx6 => ?_
 refine Sa ?_
 exact QW.body2 Tryz.results44 rfl rfl ⟨by
  rw [e0, inB, decide_eq_true (show 0 ≤ row by omega), decide_eq_true h2, decide_eq_true h3]
  simp [List.getD_eq_getElem?_getD, hr], hx.trans hx6⟩
theorem Get_book (b : BookD) (sv : Value) (nm : List UInt8) (row col : Int) (w : World) (h : SheetsR w sv b) : Ret Tryz.prog 17 [.agg ⟨[sv]⟩, .agg ⟨spotL nm row col⟩] w (fun r w' => r = str (getB b nm row col) ∧ Ext w w') := by
 obtain ⟨p, c, rfl⟩ := h.slice
 have hl := h.1
 refine Ret.enter Tryz.func17 rfl Tryz.ntmps17 (by kernel_rfl) rfl ?_
 apply CW.seq
 apply CW.region
 refine Sl ?_
 refine Lwb fun A w1 hbA hx1 hA => ?_
 replace hA : Blk w1 A [.slice p b.length c] 26 := hA
 refine Sl ?_
 refine Lwb fun B w2 hbB hx2 hB => ?_
 replace hB : Blk w2 B (spotL nm row col) 29 := hB
 replace hA := hA.ext hx2
 refine Sa ?_
 refine LW.call0 rfl rfl (Has_ret b _ nm row col w2 (h.ext (hx1.trans hx2))) ?_
 rintro v w3 ⟨rfl, hx3⟩
 have hx := (hx1.trans hx2).trans hx3
 replace h := h.ext hx
 replace hA := hA.ext hx3
 replace hB := hB.ext hx3
 refine Sa ?_
 cases h0 : hasB b nm row col with
 | false =>
  refine Sa ?_
  refine QW.body1 Tryz.results17 rfl ⟨?_, hx⟩
  cases ha : atB b nm with
  | none => rw [getB, ha]
  | some i =>
   obtain ⟨s, hs, -⟩ := atB_some ha
   rw [hasB, ha] at h0
   simp only [hs] at h0
   rw [getB, ha]
   simp only [hs]
   rw [if_neg (by rw [h0]; simp)]
 | true =>
 obtain ⟨i, s, ha, hs, h5⟩ : ∃ i s, atB b nm = some i ∧ b[i]? = some s ∧ inB s row col = true := by
  cases ha : atB b nm with
  | none => rw [hasB, ha] at h0; cases h0
  | some i =>
   obtain ⟨s, hs, -⟩ := atB_some ha
   rw [hasB, ha] at h0
   simp only [hs] at h0
   exact ⟨i, s, rfl, hs, h0⟩
 have hi := (List.getElem?_eq_some_iff.1 hs).1
 obtain ⟨a, q, qc, rfl, -, -, ht, hc⟩ := SheetsQ.at h hs
 obtain ⟨r, hr, k1, k2, k3, k4⟩ := inB_row h5
 have htr := List.getElem?_eq_getElem (show col.toNat < r.length by omega)
 rw [ha, show idxZ (some i) = (i : Int) from rfl]
 have hc2 : w3.cell? ((a.add (((i : Nat) : Int).toNat * 3)).add 2) = some (.slice q s.rows.length qc) := hc 2 _ rfl
 obtain ⟨a2, q2, qc2, rfl, -, ht2, hcr⟩ := RowsQ.at ht hr
 have hcr : w3.cell? (a2.add (row.toNat * 1)) = _ := hcr
 obtain ⟨a3, rfl, -, -, hct⟩ := TextsQ.at ht2 htr
 have hct : w3.cell? (a3.add (col.toNat * 1)) = _ := hct
 refine Sa ?_
 refine CW.draw (by kernel_rfl) (by kernel_rfl) ?_
 refine Sqw ?_
 refine QL.nil fun w6 hx6 => ?_
 refine Sa ?_
 exact QW.body1 Tryz.results17 rfl ⟨by
  rw [getB, ha]; simp only [hs]; rw [if_pos h5, cellB]; simp [List.getD_eq_getElem?_getD, hr, htr], hx.trans hx6⟩
end Go.Proofs.YtiaigmahdjhcoaaGreatDoor
namespace Go.Proofs.YtiaigmahdjhcoaaGreatDoor
open Go Go.E
theorem snoc_get {α : Type} {l : List α} {x y : α} {r : Nat} (h : (l ++ [x])[r]? = some y) : (r < l.length ∧ l[r]? = some y) ∨ (r = l.length ∧ y = x) := by
 rcases Nat.lt_trichotomy r l.length with h1 | h1 | h1
 ·rw [List.getElem?_append_left h1] at h
  exact .inl ⟨h1, h⟩
 ·subst h1
  rw [List.getElem?_append_right (Nat.le_refl _)] at h
  simp at h
  exact .inr ⟨rfl, h.symm⟩
 ·rw [List.getElem?_eq_none (by simp; omega)] at h
  cases h
structure RowsX (lo : Nat) (w : World) (xs : List Value) (l : List (List (List UInt8))) (f : Nat → Nat) (V : List Nat) : Prop where
 len : xs.length = l.length
 val : ∀ (r : Nat) (x : List (List UInt8)), l[r]? = some x → ∃ u, xs[r]? = some u ∧ TextsQ (fun a => a = ⟨f r, 0, none⟩) w u x
 blk : ∀ (r : Nat) (x : List (List UInt8)), l[r]? = some x → x ≠ [] → lo ≤ f r ∧ f r ∉ V ∧ ∃ sp, Blk w (f r) (x.map str ++ sp) 9
 inj : ∀ (r q : Nat) (x y : List (List UInt8)), l[r]? = some x → l[q]? = some y → x ≠ [] → y ≠ [] → f r = f q → r = q
theorem RowsX.nil {lo : Nat} {w : World} {f : Nat → Nat} {V : List Nat} : RowsX lo w [] [] f V := ⟨rfl, by simp, by simp, by simp⟩
theorem RowsX.chg {lo : Nat} {w w' : World} {xs : List Value} {l : List (List (List UInt8))} {f : Nat → Nat} {V S : List Nat} (h : RowsX lo w xs l f V) (x : Chg S w w') (hs : ∀ (r : Nat) (y : List (List UInt8)), l[r]? = some y → y ≠ [] → f r ∉ S) : RowsX lo w' xs l f V :=
 ⟨h.len, fun r y hr => let ⟨u, h1, h2⟩ := h.val r y hr; ⟨u, h1, h2.chg x (fun hn a ha => by rw [ha]; exact hs r y hr hn)⟩, fun r y hr hn => let ⟨h1, h2, sp, h3⟩ := h.blk r y hr hn; ⟨h1, h2, sp, h3.chg x (hs r y hr hn)⟩, h.inj⟩
theorem RowsX.ext {lo : Nat} {w w' : World} {xs : List Value} {l : List (List (List UInt8))} {f : Nat → Nat} {V : List Nat} (h : RowsX lo w xs l f V) (x : Ext w w') : RowsX lo w' xs l f V := h.chg x (by simp)
theorem RowsX.over {lo : Nat} {w : World} {xs : List Value} {l : List (List (List UInt8))} {f : Nat → Nat} {V V' : List Nat} (h : RowsX lo w xs l f V) (hV : ∀ b, b ∈ V' → b ∈ V ∨ w.heap.size ≤ b) : RowsX lo w xs l f V' :=
 ⟨h.len, h.val, fun r y hr hn => let ⟨h1, h2, sp, h3⟩ := h.blk r y hr hn; ⟨h1, fun hb => (hV _ hb).elim h2 (fun h4 => by have := h3.lt; omega), sp, h3⟩, h.inj⟩
theorem RowsX.push {lo : Nat} {w : World} {xs : List Value} {l : List (List (List UInt8))} {f : Nat → Nat} {V : List Nat} (h : RowsX lo w xs l f V) {u : Value} {x : List (List UInt8)} {g : Nat} (hu : TextsQ (fun a => a = ⟨g, 0, none⟩) w u x) (hg : x ≠ [] → lo ≤ g ∧ g ∉ V ∧ (∀ r y, l[r]? = some y → y ≠ [] → g ≠ f r) ∧ ∃ sp, Blk w g (x.map str ++ sp) 9) : RowsX lo w (xs ++ [u]) (l ++ [x]) (fun r => if r = l.length then g else f r) V := by
 refine ⟨by simp [h.len], fun r y hr => ?_, fun r y hr hn => ?_, fun r q y z hr hq hy hz hf => ?_⟩
 ·rcases snoc_get hr with ⟨h1, h2⟩ | ⟨rfl, rfl⟩
  ·obtain ⟨v, h3, h4⟩ := h.val r y h2
   refine ⟨v, by rw [List.getElem?_append_left (by rw [h.len]; exact h1)]; exact h3, ?_⟩
   rw [if_neg (by omega)]; exact h4
  ·refine ⟨u, by rw [← h.len, List.getElem?_append_right (Nat.le_refl _)]; simp, ?_⟩
   rw [if_pos rfl]; exact hu
 ·rcases snoc_get hr with ⟨h1, h2⟩ | ⟨rfl, rfl⟩
  ·rw [if_neg (by omega)]; exact h.blk r y h2 hn
  ·rw [if_pos rfl]
   obtain ⟨h1, h2, _, h4⟩ := hg hn
   exact ⟨h1, h2, h4⟩
 ·rcases snoc_get hr with ⟨h1, h2⟩ | ⟨rfl, rfl⟩ <;> rcases snoc_get hq with ⟨h3, h4⟩ | ⟨rfl, rfl⟩
  ·rw [if_neg (by omega), if_neg (by omega)] at hf
   exact h.inj r q y z h2 h4 hy hz hf
  ·rw [if_neg (by omega), if_pos rfl] at hf
   exact absurd hf.symm ((hg hz).2.2.1 r y h2 hy)
  ·rw [if_pos rfl, if_neg (by omega)] at hf
   exact absurd hf ((hg hy).2.2.1 q z h4 hz)
  ·rfl
structure RowsF (lo : Nat) (w : World) (v : Value) (l : List (List (List UInt8))) (f : Nat → Nat) : Prop where
 own : ∃ xs, Own w lo 48 1 v l.length xs ∧ RowsX lo w xs l f (vblk v)
 small : l.length ≤ 1000000
def usedR (v : Value) (l : List (List (List UInt8))) (f : Nat → Nat) (b : Nat) : Prop := b ∈ vblk v ∨ ∃ (r : Nat) (x : List (List UInt8)), l[r]? = some x ∧ x ≠ [] ∧ b = f r
theorem RowsF.chg {lo : Nat} {w w' : World} {v : Value} {l : List (List (List UInt8))} {f : Nat → Nat} {S : List Nat} (h : RowsF lo w v l f) (x : Chg S w w') (hs : ∀ b, usedR v l f b → b ∉ S) : RowsF lo w' v l f :=
 let ⟨xs, h1, h2⟩ := h.own
 ⟨⟨xs, h1.chg x (fun b hb => hs b (.inl hb)), h2.chg x (fun r y hr hn => hs _ (.inr ⟨r, y, hr, hn, rfl⟩))⟩, h.small⟩
theorem RowsF.ext {lo : Nat} {w w' : World} {v : Value} {l : List (List (List UInt8))} {f : Nat → Nat} (h : RowsF lo w v l f) (x : Ext w w') : RowsF lo w' v l f := h.chg x (by simp)
theorem RowsF.lt {lo : Nat} {w : World} {v : Value} {l : List (List (List UInt8))} {f : Nat → Nat} (h : RowsF lo w v l f) {b : Nat} (hb : usedR v l f b) : lo ≤ b ∧ b < w.heap.size := by
 obtain ⟨xs, h1, h2⟩ := h.own
 rcases hb with hb | ⟨r, x, hr, hn, rfl⟩
 ·exact h1.lt hb
 ·obtain ⟨h3, _, sp, h4⟩ := h2.blk r x hr hn
  exact ⟨h3, h4.lt⟩
theorem RowsF.low {lo lo' : Nat} {w : World} {v : Value} {l : List (List (List UInt8))} {f : Nat → Nat} (h : RowsF lo w v l f) (hl : lo' ≤ lo) : RowsF lo' w v l f :=
 let ⟨xs, h1, h2⟩ := h.own
 ⟨⟨xs, h1.low hl, ⟨h2.len, h2.val, fun r x hr hn => let ⟨h3, h4⟩ := h2.blk r x hr hn; ⟨by omega, h4⟩, h2.inj⟩⟩, h.small⟩
theorem one_parts : ∀ (xs : List Value), (xs.map fun u => [u]).flatten = xs
 | [] => rfl
 | x :: r => by simp [one_parts r]
abbrev newA (lo : Nat) : Addr → Prop := fun a => lo ≤ a.block
theorem RowsF.fresh {lo : Nat} {w : World} {v : Value} {l : List (List (List UInt8))} {f : Nat → Nat} (h : RowsF lo w v l f) : RowsQ (newA lo) (fun _ => newA lo) w v l := by
 obtain ⟨xs, h1, h2⟩ := h.own
 have : ListO 1 lo 48 (rowR fun r a => a = ⟨f r, 0, none⟩) w v l := by
  refine ⟨xs.map fun u => [u], by simp [h2.len], by simp, by rw [one_parts]; exact h1, fun i x cs hi hc => ?_⟩
  obtain ⟨u, h3, h4⟩ := h2.val i x hi
  rw [List.getElem?_map, h3] at hc
  simp at hc
  exact ⟨u, hc.symm, h4⟩
 refine ListR.map (this.list (ok := newA lo) h.small (fun g hg _ => (h1.lt hg).1)) (fun _ h => h) fun i x cs hi ⟨u, e, ht⟩ => ⟨u, e, ?_⟩
 by_cases hn : x = []
 ·subst hn
  obtain ⟨k0, ⟨e1, e2⟩ | ⟨a, c, e1, _, h5⟩⟩ := ht
  ·exact ⟨k0, .inl ⟨e1, e2⟩⟩
  ·exact ⟨k0, .inr ⟨a, c, e1, fun h => absurd rfl h, h5⟩⟩
 ·exact ListR.map ht (fun a ha => by
   subst ha
   exact (h2.blk i x hi hn).1) fun _ _ _ _ h => h
theorem RowsF.list {lo : Nat} {w : World} {v : Value} {l : List (List (List UInt8))} {f : Nat → Nat} (h : RowsF lo w v l f) : RowsR w v l := RowsQ.of h.fresh
structure BookX (lo : Nat) (w : World) (k : Nat) (b : BookD) (rv : Nat → Value) (f : Nat → Nat → Nat) (V : List Nat) : Prop where
 rows : ∀ (i : Nat) (s : SheetD), i < k → b[i]? = some s → RowsF lo w (rv i) s.rows (f i)
 apartV : ∀ (i : Nat) (s : SheetD), i < k → b[i]? = some s → ∀ x, usedR (rv i) s.rows (f i) x → x ∉ V
 apart : ∀ (i j : Nat) (s u : SheetD), i < k → j < k → i ≠ j → b[i]? = some s → b[j]? = some u → ∀ x, usedR (rv i) s.rows (f i) x → ¬ usedR (rv j) u.rows (f j) x
theorem BookX.zero {lo : Nat} {w : World} {b : BookD} {rv : Nat → Value} {f : Nat → Nat → Nat} {V : List Nat} : BookX lo w 0 b rv f V := ⟨by simp, by simp, by simp⟩
theorem BookX.chg {lo : Nat} {w w' : World} {k : Nat} {b : BookD} {rv : Nat → Value} {f : Nat → Nat → Nat} {V S : List Nat} (h : BookX lo w k b rv f V) (x : Chg S w w') (hs : ∀ (i : Nat) (s : SheetD), i < k → b[i]? = some s → ∀ y, usedR (rv i) s.rows (f i) y → y ∉ S) : BookX lo w' k b rv f V :=
 ⟨fun i s hk hi => (h.rows i s hk hi).chg x (hs i s hk hi), h.apartV, h.apart⟩
theorem BookX.ext {lo : Nat} {w w' : World} {k : Nat} {b : BookD} {rv : Nat → Value} {f : Nat → Nat → Nat} {V : List Nat} (h : BookX lo w k b rv f V) (x : Ext w w') : BookX lo w' k b rv f V := h.chg x (by simp)
theorem BookX.over {lo : Nat} {w : World} {k : Nat} {b : BookD} {rv : Nat → Value} {f : Nat → Nat → Nat} {V V' : List Nat} (h : BookX lo w k b rv f V) (hV : ∀ b, b ∈ V' → b ∈ V ∨ w.heap.size ≤ b) : BookX lo w k b rv f V' :=
 ⟨h.rows, fun i s hk hi x hx hb => (hV x hb).elim (h.apartV i s hk hi x hx) (fun h4 => by have := ((h.rows i s hk hi).lt hx).2; omega), h.apart⟩
theorem BookX.push {lo : Nat} {w : World} {k : Nat} {b : BookD} {rv : Nat → Value} {f : Nat → Nat → Nat} {V : List Nat} (h : BookX lo w k b rv f V) {s : SheetD} (hs : b[k]? = some s) {u : Value} {g : Nat → Nat} (hu : RowsF lo w u s.rows g) (hV : ∀ x, usedR u s.rows g x → x ∉ V) (hA : ∀ (i : Nat) (t : SheetD), i < k → b[i]? = some t → ∀ x, usedR (rv i) t.rows (f i) x → ¬ usedR u s.rows g x) :
  BookX lo w (k + 1) b (fun i => if i = k then u else rv i) (fun i => if i = k then g else f i) V := by
 refine ⟨fun i t hk hi => ?_, fun i t hk hi x hx => ?_, fun i j t z hk hk' hij hi hj x hx => ?_⟩
 ·by_cases e : i = k
  ·subst e
   rw [hs] at hi
   obtain rfl := Option.some.inj hi
   simp only [if_pos]
   exact hu
  ·simp only [if_neg e]
   exact h.rows i t (by omega) hi
 ·by_cases e : i = k
  ·subst e
   rw [hs] at hi
   obtain rfl := Option.some.inj hi
   simp only [if_pos] at hx
   exact hV x hx
  ·simp only [if_neg e] at hx
   exact h.apartV i t (by omega) hi x hx
 ·by_cases e : i = k
  ·subst e
   rw [hs] at hi
   obtain rfl := Option.some.inj hi
   have e2 : j ≠ i := fun e => hij e.symm
   simp only [if_pos, if_neg e2] at hx ⊢
   exact fun hy => hA j z (by omega) hj x hy hx
  ·by_cases e2 : j = k
   ·subst e2
    rw [hs] at hj
    obtain rfl := Option.some.inj hj
    simp only [if_pos, if_neg e] at hx ⊢
    exact hA i t (by omega) hi x hx
   ·simp only [if_neg e, if_neg e2] at hx ⊢
    exact h.apart i j t z (by omega) (by omega) hij hi hj x hx
def sheetsC (b : BookD) (rv : Nat → Value) : List (List Value) := b.mapIdx fun i s => sheetL s (rv i)
theorem sheetsC_len (b : BookD) (rv : Nat → Value) : (sheetsC b rv).length = b.length := by simp [sheetsC]
theorem sheetsC_3 (b : BookD) (rv : Nat → Value) : ∀ cs ∈ sheetsC b rv, cs.length = 3 := fun cs hc => by
 simp only [sheetsC, List.mem_mapIdx] at hc
 obtain ⟨i, hi, rfl⟩ := hc
 rfl
theorem sheetsC_get {b : BookD} {rv : Nat → Value} {i : Nat} {s : SheetD} (h : b[i]? = some s) : (sheetsC b rv)[i]? = some (sheetL s (rv i)) := by
 simp [sheetsC, List.getElem?_mapIdx, h]
theorem sheetsC_snoc {b : BookD} {rv : Nat → Value} {s : SheetD} {u : Value} : (sheetsC (b ++ [s]) fun i => if i = b.length then u else rv i) = sheetsC b rv ++ [sheetL s u] := by
 apply List.ext_getElem?
 intro i
 simp only [sheetsC, List.getElem?_mapIdx]
 rcases Nat.lt_trichotomy i b.length with h | h | h
 ·rw [List.getElem?_append_left h, List.getElem?_append_left (by simpa using h), List.getElem?_mapIdx]
  have h2 : i ≠ b.length := by omega
  cases b[i]? <;> simp [h2]
 ·subst h
  rw [List.getElem?_append_right (Nat.le_refl _), List.getElem?_append_right (by simp)]
  simp
 ·rw [List.getElem?_eq_none (by simp; omega), List.getElem?_eq_none (by simp; omega)]
  rfl
structure BookF (lo : Nat) (w : World) (v : Value) (b : BookD) (rv : Nat → Value) (f : Nat → Nat → Nat) : Prop where
 own : Own w lo 47 3 v b.length (sheetsC b rv).flatten
 names : ∀ s ∈ b, s.name.length ≤ 1000000
 small : b.length ≤ 1000000
 sub : BookX lo w b.length b rv f (vblk v)
theorem BookF.ext {lo : Nat} {w w' : World} {v : Value} {b : BookD} {rv : Nat → Value} {f : Nat → Nat → Nat} (h : BookF lo w v b rv f) (x : Ext w w') : BookF lo w' v b rv f := ⟨h.own.ext x, h.names, h.small, h.sub.ext x⟩
abbrev SheetsN (lo : Nat) := SheetsQ (newA lo) (fun _ => newA lo) (fun _ _ => newA lo)
theorem BookF.fresh {lo : Nat} {w : World} {v : Value} {b : BookD} {rv : Nat → Value} {f : Nat → Nat → Nat} (h : BookF lo w v b rv f) : SheetsN lo w v b := by
 have : ListO 3 lo 47 (sheetR (fun _ => newA lo) (fun _ _ => newA lo)) w v b := by
  refine ⟨sheetsC b rv, sheetsC_len b rv, sheetsC_3 b rv, h.own, fun i s cs hi hc => ?_⟩
  rw [sheetsC_get hi] at hc
  obtain rfl := Option.some.inj hc
  exact ⟨rv i, rfl, h.names s (List.mem_of_getElem? hi), (h.sub.rows i s (List.getElem?_eq_some_iff.1 hi).1 hi).fresh⟩
 exact this.list h.small (fun g hg _ => (h.own.lt hg).1)
theorem BookF.list {lo : Nat} {w : World} {v : Value} {b : BookD} {rv : Nat → Value} {f : Nat → Nat → Nat} (h : BookF lo w v b rv f) : SheetsR w v b := SheetsQ.of h.fresh
theorem SheetsN.low {lo lo' : Nat} {w : World} {v : Value} {b : BookD} (h : SheetsN lo w v b) (hl : lo' ≤ lo) : SheetsN lo' w v b :=
 ListR.map h (fun _ h => Nat.le_trans hl h) fun _ _ _ _ ⟨rv, e, hn, hr⟩ => ⟨rv, e, hn, ListR.map hr (fun _ h => Nat.le_trans hl h) fun _ _ _ _ ⟨u, e, ht⟩ => ⟨u, e, ListR.map ht (fun _ h => Nat.le_trans hl h) fun _ _ _ _ h => h⟩⟩
theorem SheetsN.old {S : List Nat} {lo : Nat} {w w' : World} {v : Value} {b : BookD} (h : SheetsN lo w v b) (x : Chg S w w') (hs : ∀ y, y ∈ S → y < lo) : SheetsN lo w' v b :=
 SheetsQ.chg h x (fun a ha hm => by have := hs _ hm; have : lo ≤ a.block := ha; omega) (fun _ a _ ha hm => by have := hs _ hm; have : lo ≤ a.block := ha; omega) (fun _ _ _ _ a _ _ _ ha hm => by have := hs _ hm; have : lo ≤ a.block := ha; omega)
theorem BookF.slice {lo : Nat} {w : World} {v : Value} {b : BookD} {rv : Nat → Value} {f : Nat → Nat → Nat} (h : BookF lo w v b rv f) : ∃ p c, v = .slice p b.length c := h.own.slice
end Go.Proofs.YtiaigmahdjhcoaaGreatDoor
namespace Go.Proofs.YtiaigmahdjhcoaaGreatDoor
open Go Go.E
theorem texts_cells {ok : Addr → Prop} {w : World} {p : Option Addr} {c : Nat} {l : List (List UInt8)} (h : TextsQ ok w (.slice p l.length c) l) : p = none ∧ l.length = 0 ∨ ∃ a, p = some a ∧ ∀ j u, (l.map str)[j]? = some u → w.cell? (a.add j) = some u := by
 obtain ⟨h0, ⟨e, e2⟩ | ⟨a, c', e, hk, h⟩⟩ := h
 ·simp only [Value.slice.injEq] at e
  exact .inl ⟨e.1, by rw [e2]; rfl⟩
 ·simp only [Value.slice.injEq] at e
  refine .inr ⟨a, e.1, fun j u hj => ?_⟩
  rw [List.getElem?_map] at hj
  cases hl : l[j]? with
  | none => rw [hl] at hj; cases hj
  | some x =>
   rw [hl] at hj
   simp at hj
   subst hj
   obtain ⟨cs, h1, ⟨rfl, _⟩, h3⟩ := h j x hl
   have := h3 0 _ rfl
   rwa [add_zero', Nat.mul_one] at this
theorem own_texts {w : World} {lo : Nat} {v : Value} {l : List (List UInt8)} (h : Own w lo 9 1 v l.length (l.map str)) (hl : l.length ≤ 1000000) (hs : ∀ s ∈ l, s.length ≤ 1000000) : ∃ g, TextsQ (fun a => a = ⟨g, 0, none⟩) w v l ∧ (l ≠ [] → lo ≤ g ∧ ∃ sp, Blk w g (l.map str ++ sp) 9) := by
 have h0 := h
 obtain ⟨hx, ⟨rfl, e⟩ | ⟨g, cap, sp, rfl, hB, h1, h2, h3⟩⟩ := h
 ·have : l = [] := List.eq_nil_of_length_eq_zero e
  subst this
  exact ⟨0, ListR.nil, fun h => absurd rfl h⟩
 ·have hO : ListO 1 lo 9 textR w (.slice (some ⟨g, 0, none⟩) l.length cap) l := by
   refine ⟨(l.map str).map fun u => [u], by simp, by simp, by rw [one_parts]; exact h0, fun i x cs hi hc => ?_⟩
   rw [List.getElem?_map, List.getElem?_map, hi] at hc
   simp at hc
   exact ⟨hc.symm, hs x (List.mem_of_getElem? hi)⟩
  exact ⟨g, hO.list hl (fun b hb _ => by simp [vblk] at hb; rw [hb]), fun _ => ⟨h3, sp, hB⟩⟩
theorem texts_small {ok : Addr → Prop} {w : World} {v : Value} {l : List (List UInt8)} (h : TextsQ ok w v l) : ∀ s ∈ l, s.length ≤ 1000000 := fun s hs => by
 obtain ⟨i, hi⟩ := List.getElem?_of_mem hs
 obtain ⟨p, c, rfl⟩ := h.slice
 exact (TextsQ.at h hi).choose_spec.2.2.1
set_option maxRecDepth 8000 in
set_option maxHeartbeats 1000000 in
theorem CopySheet_ret (s : SheetD) (rv : Value) (w : World) (hn : s.name.length ≤ 1000000) (h : RowsR w rv s.rows) : Ret Tryz.prog 52 [.agg ⟨sheetL s rv⟩] w (fun v w' => ∃ u g, v = .agg ⟨sheetL s u⟩ ∧ RowsF w.heap.size w' u s.rows g ∧ Ext w w') := by
 obtain ⟨p, c, rfl⟩ := h.slice
 have hl := h.1
 refine Ret.enter Tryz.func52 rfl Tryz.ntmps52 (by kernel_rfl) rfl ?_
 apply CW.seq
 apply CW.region
 refine Sl ?_
 refine Lwb fun A w1 hbA hx1 hA => ?_
 replace hA : Blk w1 A (sheetL s (.slice p s.rows.length c)) 47 := hA
 have hAl := hA.lt
 refine Sl ?_
 refine Lwa fun R w2 hbR hx2 hR => ?_
 have hRl := hR.lt
 replace hA := hA.ext hx2
 refine Sa ?_
 refine Lwa fun C w3 hbC hx3 hC => ?_
 have hCl := hC.lt
 replace hA := hA.ext hx3
 replace hR := hR.ext hx3
 refine Sa ?_
 refine Lws fun w4 hc4 hC => ?_
 replace hC : Blk w4 C (sheetL s (.slice none 0 0)) 47 := hC
 have hz1 := hx1.size
 have hz2 := hx2.size
 have hz3 := hx3.size
 have hne : A ≠ C ∧ R ≠ C ∧ A ≠ R := by omega
 replace hA := hA.chg hc4 (by simp; omega)
 replace hR := hR.chg hc4 (by simp; omega)
 have hx4 : Ext w w4 := (hx1.trans hx2).trans (hx3.step hc4 (by simp; omega))
 refine Sa ?_
 refine CW.loop (ι := Nat × Option Addr × Nat) (fun x w' => x.1 ≤ s.rows.length ∧ Ext w w' ∧ Chg [C] w4 w' ∧ Blk w' C (sheetL s (.slice x.2.1 x.1 x.2.2)) 47 ∧ ∃ xs f, Own w' w4.heap.size 48 1 (.slice x.2.1 x.1 x.2.2) x.1 xs ∧ RowsX w4.heap.size w' xs (s.rows.take x.1) f (vblk (.slice x.2.1 x.1 x.2.2))) (fun x => [(1, .pointer (some ⟨A, 0, none⟩)), (2, .pointer (some ⟨R, 0, none⟩)), (3, .pointer (some ⟨C, 0, none⟩)), (4, .int .i64 x.1)]) (fun x => s.rows.length - x.1) (0, none, 0) ⟨by simp, hx4, Chg.refl _ _, hC, [], fun _ => 0, Own.nil _ _ _ _, RowsX.nil⟩ (Sub.cons rfl (Sub.cons rfl (Sub.cons rfl (Sub.cons rfl (Sub.nil))))) ?_
 rintro ⟨k, op, oc⟩ w5 ⟨hk, hx5, hc5, hC5, xs, f, hO, hX⟩
 dsimp only at hk hC5 hO hX
 show CW _ _ _ _ _ [(1, .pointer (some ⟨A, 0, none⟩)), (2, .pointer (some ⟨R, 0, none⟩)), (3, .pointer (some ⟨C, 0, none⟩)), (4, .int .i64 (k : Int))] _
 have hA5 := hA.chg hc5 (by simp; omega)
 have hR5 := hR.chg hc5 (by simp; omega)
 have h5 := RowsQ.ext h hx5
 have hz5 := hc5.size
 have hz4 := hc4.size
 refine Sa ?_
 refine Cwc (fun h6 => ?_) fun h6 => ?_
 rotate_left
 ·have h6 : k = s.rows.length := by simp at h6; omega
  subst h6
  rw [List.take_length] at hX
  refine Sa ?_
  refine Lws fun w6 hc6 hR6 => ?_
  have hx6 : Ext w w6 := hx5.step hc6 (by simp; omega)
  have hnv : ∀ b, b ∈ vblk (.slice op s.rows.length oc) → b ∉ [R] := fun b hb => by have := (hO.lt hb).1; simp; omega
  have hO6 := hO.chg hc6 hnv
  have hX6 := hX.chg hc6 (fun r y hr hn => by have := (hX.blk r y hr hn).1; simp; omega)
  refine Sa ?_
  exact QW.body_c Tryz.results52 rfl hR6 rfl rfl rfl ⟨_, f, rfl, (RowsF.mk ⟨xs, hO6, hX6⟩ hl).low (by have := hx4.size; omega), hx6⟩
 have h6 : k < s.rows.length := by simp at h6; omega
 obtain ⟨r, hr⟩ : ∃ r, s.rows[k]? = some r := ⟨_, List.getElem?_eq_getElem h6⟩
 obtain ⟨a, q, qc, rfl, -, ht, hcr⟩ := RowsQ.at h hr
 have hrl := ht.1
 have hal : a.block < w.heap.size := by
  have := World.block_lt_of_cell? w _ hcr
  rwa [add_block] at this
 have hcr5 := cell_ext hx5 hcr
 have hw4 := hx4.size
 have hV : ∀ b, b ∈ vblk (Value.slice op k oc) → w4.heap.size ≤ b ∧ b < w5.heap.size := fun b hb => hO.lt hb
 have n1 : A ∉ vblk (Value.slice op k oc) := fun hb => by have := (hV A hb).1; omega
 have n2 : C ∉ vblk (Value.slice op k oc) := fun hb => by have := (hV C hb).1; omega
 have n3 : (a.add (((k : Nat) : Int).toNat * 1)).block ∉ vblk (Value.slice op k oc) := fun hb => by
  have h8 := (hV _ hb).1
  rw [add_block] at h8
  omega
 have far : ∀ w', Chg (vblk (Value.slice op k oc)) w5 w' → Ext w w' := fun w' hS => hx5.step hS fun b hb => by have := (hV b hb).1; omega
 refine Sa ?_
 refine CW.drawG (Chg (vblk (Value.slice op k oc)) w5) 11 (fun w' h => h.chg) (by kernel_rfl) fun w6 hx6 => ?_
 refine Sg ?_
 refine GW.one 2 (by kernel_rfl) rfl rfl rfl (fun hS => ?_)
 refine LW.buildSlice0 rfl rfl rfl rfl ?_
 intro B w7 hbB hx7 hB
 apply LW.nil
 replace hS := hS.ext hx7
 refine QW.headed hS ?_
 refine GW.one 8 (by kernel_rfl) rfl rfl rfl (fun hS => ?_)
 refine LW.append_any (lo := w6.heap.size) (xs := []) (news := r.map str) rfl rfl rfl rfl rfl rfl ⟨rfl, .inr ⟨B, 0, [], rfl, hB, Nat.le_refl _, by simp, by omega⟩⟩ hx7.size (by simp) (texts_cells (ht.ext (far _ hS))) (fun u hu => by
  obtain ⟨x, _, rfl⟩ := List.mem_map.1 hu
  rfl) (by show (0 + _) * 17 ≤ _; omega) rfl ?_
 intro v8 w8 hc8 hO8 hv8
 rw [Nat.zero_add, List.nil_append] at hO8
 have hz67 := hx7.size
 have hS6 : w5.heap.size ≤ w6.heap.size := hx6.size
 replace hS : Chg (vblk (Value.slice op k oc)) w5 w8 := (Chg.trans hS hc8).mono (fun b hb hlt => by
  rcases List.mem_append.1 hb with hb | hb
  ·exact hb
  ·simp [vblk] at hb; omega)
 apply LW.nil
 refine QW.headed hS ?_
 refine GW.one 9 (by kernel_rfl) rfl rfl rfl (fun hS => ?_)
 obtain ⟨gR, hTx, hTb⟩ := own_texts hO8 hrl (texts_small ht)
 obtain ⟨p8, c8, rfl⟩ := hO8.slice
 refine Lwl fun B2 w9 hbB2 hx9 hB2 => ?_
 replace hB2 : Blk w9 B2 [.slice p8 r.length c8] 48 := hB2
 replace hS := hS.ext hx9
 apply LW.nil
 refine QW.headed hS ?_
 refine GW.one 10 (by kernel_rfl) rfl rfl rfl (fun hS => ?_)
 have hx58 : Ext w5 w8 := (hx6.trans hx7).step hc8 (fun b hb => by simp [vblk] at hb; omega)
 have hx59 : Ext w5 w9 := hx58.trans hx9
 have hz59 := hx59.size
 have hgV : gR ∉ vblk (Value.slice op k oc) ∨ r = [] := by
  by_cases hn : r = []
  ·exact .inr hn
  ·exact .inl fun hb => by have := (hTb hn).1; have := (hV _ hb).2; omega
 replace hX := (hX.ext hx59).push (hTx.ext hx9) (fun hn => by
  obtain ⟨g1, sp, g2⟩ := hTb hn
  refine ⟨by omega, hgV.resolve_right hn, fun r' y hr' hy hf => ?_, sp, g2.ext hx9⟩
  obtain ⟨_, _, sp', h9⟩ := hX.blk r' y hr' hy
  have := h9.lt
  omega)
 have hrt : s.rows.take k ++ [r] = s.rows.take (k + 1) := by rw [List.take_add_one, hr]; rfl
 have htl : (s.rows.take k).length = k := by simp; omega
 rw [hrt, htl] at hX
 refine LW.append (lo := w4.heap.size) (k := k) rfl rfl rfl rfl rfl rfl (hO.ext hx59) (by omega) hB2 rfl rfl rfl (by show (k + 1) * 25 ≤ _; omega) rfl ?_
 intro v10 w10 hc10 hO10 hv10
 obtain ⟨p10, c10, rfl⟩ := hO10.slice
 have hX10 := (hX.over hv10).chg hc10 (fun r' y hr' hy => (hX.blk r' y hr' hy).2.1)
 replace hS : Chg (vblk (Value.slice op k oc)) w5 w10 := hS.same hc10
 have hx10 : Ext w w10 := far _ hS
 have hC10 := hC5.chg hS n2
 have hch : Chg [C] w4 w10 := (Chg.trans hc5 hS).mono (fun b hb hlt => by
  rcases List.mem_append.1 hb with hb | hb
  ·exact hb
  ·have := (hV b hb).1; omega)
 apply LW.nil
 refine QW.headed hS ?_
 refine GW.tail rfl (by kernel_rfl) (fun hS => ?_)
 refine Sa ?_
 refine Lwt fun w11 hc11 hC11 => ?_
 replace hC11 : Blk w11 C (sheetL s (.slice p10 (k + 1) c10)) 47 := hC11
 have nC : ∀ b, b ∈ vblk (Value.slice p10 (k + 1) c10) → b ∉ [C] := fun b hb => by
  have := (hO10.lt hb).1
  simp
  omega
 have hC5l := hC5.lt
 refine Sa ?_
 exact QW.again (k + 1, p10, c10) ⟨by show k + 1 ≤ _; omega, hx10.step hc11 (by simp; omega), hch.same hc11, hC11, xs ++ [.slice p8 r.length c8], _, hO10.chg hc11 nC, hX10.chg hc11 (fun r' y hr' hy => by have := (hX10.blk r' y hr' hy).1; simp; omega)⟩ (Sub.cons rfl (Sub.cons rfl (Sub.cons rfl (Sub.cons rfl (Sub.nil))))) (by show s.rows.length - (k + 1) < s.rows.length - k; omega)
theorem sheetsC_take {b : BookD} {rv : Nat → Value} {k : Nat} {s : SheetD} {u : Value} (h : b[k]? = some s) : (sheetsC (b.take (k + 1)) fun i => if i = k then u else rv i) = sheetsC (b.take k) rv ++ [sheetL s u] := by
 have hk := (List.getElem?_eq_some_iff.1 h).1
 have e : b.take (k + 1) = b.take k ++ [s] := by rw [List.take_add_one, h]; rfl
 have e2 : (b.take k).length = k := by simp; omega
 rw [e]
 have := sheetsC_snoc (b := b.take k) (rv := rv) (s := s) (u := u)
 rwa [e2] at this
set_option maxRecDepth 8000 in
set_option maxHeartbeats 1000000 in
theorem CopyBook_ret (b : BookD) (sv : Value) (w : World) (h : SheetsR w sv b) : Ret Tryz.prog 22 [.agg ⟨[sv]⟩] w (fun v w' => ∃ u rv f, v = .agg ⟨[u]⟩ ∧ BookF w.heap.size w' u b rv f ∧ Ext w w') := by
 obtain ⟨p, c, rfl⟩ := h.slice
 have hl := h.1
 have hnames : ∀ s ∈ b, s.name.length ≤ 1000000 := fun s hs => by
  obtain ⟨i, hi⟩ := List.getElem?_of_mem hs
  obtain ⟨_, _, _, _, _, hn, _⟩ := SheetsQ.at h hi
  exact hn
 refine Ret.enter Tryz.func22 rfl Tryz.ntmps22 (by kernel_rfl) rfl ?_
 apply CW.seq
 apply CW.region
 refine Sl ?_
 refine Lwb fun A w1 hbA hx1 hA => ?_
 replace hA : Blk w1 A [.slice p b.length c] 26 := hA
 have hAl := hA.lt
 refine Sl ?_
 refine Lwa fun R w2 hbR hx2 hR => ?_
 have hRl := hR.lt
 replace hA := hA.ext hx2
 refine Sa ?_
 refine Lwa fun C w3 hbC hx3 hC => ?_
 have hCl := hC.lt
 replace hA := hA.ext hx3
 replace hR := hR.ext hx3
 have hz1 := hx1.size
 have hz2 := hx2.size
 have hz3 := hx3.size
 have hne : A ≠ C ∧ R ≠ C ∧ A ≠ R := by omega
 have hx4 : Ext w w3 := (hx1.trans hx2).trans hx3
 refine Sa ?_
 refine CW.loop (ι := Nat × Option Addr × Nat) (fun x w' => x.1 ≤ b.length ∧ Ext w w' ∧ Chg [C] w3 w' ∧ Blk w' C [.slice x.2.1 x.1 x.2.2] 26 ∧ ∃ rv f, Own w' w3.heap.size 47 3 (.slice x.2.1 x.1 x.2.2) x.1 (sheetsC (b.take x.1) rv).flatten ∧ BookX w3.heap.size w' x.1 b rv f (vblk (.slice x.2.1 x.1 x.2.2))) (fun x => [(1, .pointer (some ⟨A, 0, none⟩)), (2, .pointer (some ⟨R, 0, none⟩)), (3, .pointer (some ⟨C, 0, none⟩)), (4, .int .i64 x.1)]) (fun x => b.length - x.1) (0, none, 0) ⟨by simp, hx4, Chg.refl _ _, hC, fun _ => .slice none 0 0, fun _ _ => 0, Own.nil _ _ _ _, BookX.zero⟩ (Sub.cons rfl (Sub.cons rfl (Sub.cons rfl (Sub.cons rfl (Sub.nil))))) ?_
 rintro ⟨k, op, oc⟩ w5 ⟨hk, hx5, hc5, hC5, rv, f, hO, hX⟩
 dsimp only at hk hC5 hO hX
 show CW _ _ _ _ _ [(1, .pointer (some ⟨A, 0, none⟩)), (2, .pointer (some ⟨R, 0, none⟩)), (3, .pointer (some ⟨C, 0, none⟩)), (4, .int .i64 (k : Int))] _
 have hA5 := hA.chg hc5 (by simp; omega)
 have hR5 := hR.chg hc5 (by simp; omega)
 have hz5 := hc5.size
 have hw3 := hx4.size
 have hV : ∀ j, j ∈ vblk (Value.slice op k oc) → w3.heap.size ≤ j ∧ j < w5.heap.size := fun j hj => hO.lt hj
 have n1 : A ∉ vblk (Value.slice op k oc) := fun hb => by have := (hV A hb).1; omega
 have n2 : C ∉ vblk (Value.slice op k oc) := fun hb => by have := (hV C hb).1; omega
 refine Sa ?_
 refine Cwc (fun h6 => ?_) fun h6 => ?_
 rotate_left
 ·have h6 : k = b.length := by simp at h6; omega
  subst h6
  rw [List.take_length] at hO
  refine Sa ?_
  refine Lws fun w6 hc6 hR6 => ?_
  have hx6 : Ext w w6 := hx5.step hc6 (by simp; omega)
  have hnv : ∀ j, j ∈ vblk (.slice op b.length oc) → j ∉ [R] := fun j hj => by have := (hV j hj).1; simp; omega
  have hX6 := hX.chg hc6 (fun i s hi hs y hy => by have := ((hX.rows i s hi hs).lt hy).1; simp; omega)
  refine Sa ?_
  refine QW.body_c Tryz.results22 rfl hR6 rfl rfl rfl ⟨_, rv, f, rfl, ⟨(hO.chg hc6 hnv).low hw3, hnames, hl, ⟨fun i s hi hs => (hX6.rows i s hi hs).low hw3, hX6.apartV, hX6.apart⟩⟩, hx6⟩
 have h6 : k < b.length := by simp at h6; omega
 obtain ⟨s, hs⟩ : ∃ s, b[k]? = some s := ⟨_, List.getElem?_eq_getElem h6⟩
 obtain ⟨a, q, qc, rfl, -, hnl, ht, hcr⟩ := SheetsQ.at h hs
 have hal : a.block < w.heap.size := by
  have := World.block_lt_of_cell? w _ (hcr 0 _ rfl)
  rwa [add_block, add_block] at this
 have far : ∀ w', Chg (vblk (Value.slice op k oc)) w5 w' → Ext w w' := fun w' hS => hx5.step hS fun j hj => by have := (hV j hj).1; omega
 refine Sa ?_
 refine CW.drawG (Chg (vblk (Value.slice op k oc)) w5) 10 (fun w' h => h.chg) (by kernel_rfl) fun w6 hx6 => ?_
 refine Sg ?_
 refine GW.take 6 rfl rfl rfl rfl (fun w' hw' => Y.load_cells rfl (fun j u hj => cell_ext (far _ hw') (hcr j u hj)) rfl rfl rfl) rfl rfl (by kernel_rfl) (by kernel_rfl) (by kernel_rfl) (fun _ _ _ h => h) ?_
 refine GW.one 7 (by kernel_rfl) rfl rfl rfl (fun hS => ?_)
 refine LW.call0 rfl rfl (CopySheet_ret s _ w6 hnl (ht.ext (far _ hS))) ?_
 rintro v w7 ⟨u, g, rfl, hF, hx7⟩
 obtain ⟨xsu, hxu, -⟩ := hF.own
 obtain ⟨pu, cu, rfl⟩ := hxu.slice
 clear hxu
 replace hS := hS.ext hx7
 apply LW.nil
 refine QW.headed hS ?_
 refine GW.one 8 (by kernel_rfl) rfl rfl rfl (fun hS => ?_)
 refine Lwl fun B2 w9 hbB2 hx9 hB2 => ?_
 replace hB2 : Blk w9 B2 (sheetL s (.slice pu s.rows.length cu)) 47 := hB2
 replace hS := hS.ext hx9
 apply LW.nil
 refine QW.headed hS ?_
 refine GW.one 9 (by kernel_rfl) rfl rfl rfl (fun hS => ?_)
 have hx59 : Ext w5 w9 := (hx6.trans hx7).trans hx9
 have hz59 := hx59.size
 have hz6 : w5.heap.size ≤ w6.heap.size := hx6.size
 replace hF := hF.ext hx9
 have hX9 := (hX.ext hx59).push hs (hF.low (by omega)) (fun x hx hb => by
  have := (hF.lt hx).1
  have := (hV x hb).2
  omega) (fun i t hi hit x hx hy => by
  have := ((hX.rows i t hi hit).lt hx).2
  have := (hF.lt hy).1
  omega)
 refine LW.append (lo := w3.heap.size) (k := k) rfl rfl rfl rfl rfl rfl (hO.ext hx59) (by omega) hB2 rfl rfl rfl (by show (k + 1) * 49 ≤ _; omega) rfl ?_
 intro v10 w10 hc10 hO10 hv10
 obtain ⟨p10, c10, rfl⟩ := hO10.slice
 have hX10 := (hX9.over hv10).chg hc10 (fun i t hi hit y hy => hX9.apartV i t hi hit y hy)
 have e10 : (sheetsC (b.take k) rv).flatten ++ sheetL s (.slice pu s.rows.length cu) = (sheetsC (b.take (k + 1)) fun i => if i = k then .slice pu s.rows.length cu else rv i).flatten := by
  rw [sheetsC_take hs]
  simp
 rw [e10] at hO10
 replace hS : Chg (vblk (Value.slice op k oc)) w5 w10 := hS.same hc10
 have hx10 : Ext w w10 := far _ hS
 have hC10 := hC5.chg hS n2
 have hch : Chg [C] w3 w10 := (Chg.trans hc5 hS).mono (fun j hj hlt => by
  rcases List.mem_append.1 hj with hj | hj
  ·exact hj
  ·have := (hV j hj).1; omega)
 apply LW.nil
 refine QW.headed hS ?_
 refine GW.tail rfl (by kernel_rfl) (fun hS => ?_)
 refine Sa ?_
 refine Lwt fun w11 hc11 hC11 => ?_
 replace hC11 : Blk w11 C [.slice p10 (k + 1) c10] 26 := hC11
 refine Sa ?_
 exact QW.again (k + 1, p10, c10) ⟨by show k + 1 ≤ _; omega, hx10.step hc11 (by simp; omega), hch.same hc11, hC11, _, _, hO10.chg hc11 (fun j hj => by have := (hO10.lt hj).1; simp; omega), hX10.chg hc11 (fun i t hi hit y hy => by have := ((hX10.rows i t hi hit).lt hy).1; simp; omega)⟩ (Sub.cons rfl (Sub.cons rfl (Sub.cons rfl (Sub.cons rfl (Sub.nil))))) (by show b.length - (k + 1) < b.length - k; omega)
end Go.Proofs.YtiaigmahdjhcoaaGreatDoor
namespace Go.Proofs.YtiaigmahdjhcoaaGreatDoor
open Go Go.E
theorem add_add' (a : Addr) (i j : Nat) : (a.add i).add j = a.add (i + j) := by
 unfold Addr.add
 by_cases h1 : i = 0 <;> by_cases h2 : j = 0 <;> simp [h1, h2] <;> omega
theorem RowsX.low {lo lo' : Nat} {w : World} {xs : List Value} {l : List (List (List UInt8))} {f : Nat → Nat} {V : List Nat} (h : RowsX lo w xs l f V) (hl : lo' ≤ lo) : RowsX lo' w xs l f V := ⟨h.len, h.val, fun r x hr hn => let ⟨h3, h4⟩ := h.blk r x hr hn; ⟨by omega, h4⟩, h.inj⟩
theorem cloneT_ret (l : List (List UInt8)) (v : Value) (w : World) (h : TextsR w v l) : Ret Tryz.prog 58 [v] w (fun u w' => ∃ g, TextsQ (fun a => a = ⟨g, 0, none⟩) w' u l ∧ (l ≠ [] → w.heap.size ≤ g ∧ ∃ sp, Blk w' g (l.map str ++ sp) 9) ∧ Ext w w') := by
 obtain ⟨p, c, rfl⟩ := h.slice
 have hl := h.1
 have hsm := texts_small h
 refine Ret.enter Tryz.func58 rfl Tryz.ntmps58 (by kernel_rfl) rfl ?_
 refine Sa ?_
 refine LW.eql_sn rfl rfl rfl rfl ?_
 cases p with
 | none =>
  have : l = [] := by
   obtain ⟨_, ⟨_, e⟩ | ⟨a, _, e, _⟩⟩ := h
   ·exact e
   ·simp at e
  subst this
  refine Sa ?_
  exact QW.body1 Tryz.results58 rfl ⟨0, ListR.nil, fun h => absurd rfl h, Chg.refl _ _⟩
 | some a =>
 refine Sa ?_
 refine LW.buildSlice0 rfl rfl rfl rfl ?_
 intro B w7 hbB hx7 hB
 refine Sa ?_
 refine LW.append_any (lo := w.heap.size) (xs := []) (news := l.map str) rfl rfl rfl rfl rfl rfl ⟨rfl, .inr ⟨B, 0, [], rfl, hB, Nat.le_refl _, by simp, by omega⟩⟩ hx7.size (by simp) (texts_cells (h.ext hx7)) (fun u hu => by
  obtain ⟨x, _, rfl⟩ := List.mem_map.1 hu
  rfl) (by show (0 + _) * 17 ≤ _; omega) rfl ?_
 intro v8 w8 hc8 hO8 hv8
 rw [Nat.zero_add, List.nil_append] at hO8
 have hx8 : Ext w w8 := hx7.step hc8 (fun b hb => by simp [vblk] at hb; omega)
 obtain ⟨g, h1, h2⟩ := own_texts hO8 hl hsm
 obtain ⟨p8, c8, rfl⟩ := hO8.slice
 refine Sa ?_
 exact QW.body1 Tryz.results58 rfl ⟨g, h1, h2, hx8⟩
theorem sheetsC_id {b : BookD} {rv : Nat → Value} {i : Nat} {s : SheetD} {u : Value} (h : b[i]? = some s) : (sheetsC b rv).set i ((sheetL s (rv i)).set 2 u) = sheetsC b fun j => if j = i then u else rv j := by
 apply List.ext_getElem?
 intro j
 simp only [sheetsC, List.getElem?_set, List.getElem?_mapIdx, List.length_mapIdx]
 by_cases e : i = j
 ·subst e
  obtain ⟨h1, h2⟩ := List.getElem?_eq_some_iff.1 h
  simp [h, h1, sheetL, h2]
 ·have e2 : j ≠ i := fun x => e x.symm
  rw [if_neg e]
  simp only [if_neg e2]
theorem sheets_cells {okS : Addr → Prop} {okR : Nat → Addr → Prop} {okT : Nat → Nat → Addr → Prop} {w : World} {p : Option Addr} {c : Nat} {l : BookD} (h : SheetsQ okS okR okT w (.slice p l.length c) l) : ∃ rv : Nat → Value, (∀ i s, l[i]? = some s → RowsQ (okR i) (okT i) w (rv i) s.rows) ∧ (p = none ∧ l.length = 0 ∨ ∃ a, p = some a ∧ ∀ j u, (sheetsC l rv).flatten[j]? = some u → w.cell? (a.add j) = some u) := by
 obtain ⟨h0, ⟨e, e2⟩ | ⟨a, c', e, hk, h⟩⟩ := h
 ·simp only [Value.slice.injEq] at e
  exact ⟨fun _ => .slice none 0 0, by rw [e2]; simp, .inl ⟨e.1, by rw [e2]; rfl⟩⟩
 ·simp only [Value.slice.injEq] at e
  have hch : ∀ i, ∃ rv, ∀ s, l[i]? = some s → RowsQ (okR i) (okT i) w rv s.rows ∧ ∀ j u, (sheetL s rv)[j]? = some u → w.cell? ((a.add (i * 3)).add j) = some u := fun i => by
   cases hi : l[i]? with
   | none => exact ⟨.slice none 0 0, fun s hs => by cases hs⟩
   | some s =>
    obtain ⟨cs, h1, ⟨rv, rfl, h2, h3⟩, h4⟩ := h i s hi
    exact ⟨rv, fun t ht => by obtain rfl := Option.some.inj ht; exact ⟨h3, h4⟩⟩
  refine ⟨fun i => (hch i).choose, fun i s hi => ((hch i).choose_spec s hi).1, .inr ⟨a, e.1, fun j u hj => ?_⟩⟩
  have hjl := (List.getElem?_eq_some_iff.1 hj).1
  rw [flatten_len (sheetsC_3 _ _), sheetsC_len] at hjl
  obtain ⟨s, hs⟩ : ∃ s, l[j / 3]? = some s := ⟨_, List.getElem?_eq_getElem (by omega)⟩
  have h5 := flatten_get (sp := []) (sheetsC_3 l fun i => (hch i).choose) (sheetsC_get hs) (show j % 3 < 3 by omega)
  rw [List.append_nil, show j / 3 * 3 + j % 3 = j by omega, hj] at h5
  have h6 := ((hch (j / 3)).choose_spec s hs).2 (j % 3) u h5.symm
  rw [show (a.add (j / 3 * 3)).add (j % 3) = a.add j from ?_] at h6
  ·exact h6
  ·rw [add_add', show j / 3 * 3 + j % 3 = j by omega]
theorem cloneS_ret (b : BookD) (v : Value) (w : World) (h : SheetsR w v b) : Ret Tryz.prog 57 [v] w (fun u w' => ∃ rv : Nat → Value, Own w' w.heap.size 47 3 u b.length (sheetsC b rv).flatten ∧ (∀ i s, b[i]? = some s → RowsR w (rv i) s.rows) ∧ Ext w w') := by
 obtain ⟨p, c, rfl⟩ := h.slice
 have hl := h.1
 obtain ⟨rv, hrv, hcs⟩ := sheets_cells h
 refine Ret.enter Tryz.func57 rfl Tryz.ntmps57 (by kernel_rfl) rfl ?_
 refine Sa ?_
 refine LW.eql_sn rfl rfl rfl rfl ?_
 cases p with
 | none =>
  have : b = [] := by
   obtain ⟨_, ⟨_, e⟩ | ⟨a, _, e, _⟩⟩ := h
   ·exact e
   ·simp at e
  subst this
  refine Sa ?_
  exact QW.body1 Tryz.results57 rfl ⟨rv, Own.nil _ _ _ _, by simp, Chg.refl _ _⟩
 | some a =>
 refine Sa ?_
 refine LW.buildSlice0 rfl rfl rfl rfl ?_
 intro B w7 hbB hx7 hB
 refine Sa ?_
 refine LW.append_any (lo := w.heap.size) (xs := []) (news := (sheetsC b rv).flatten) rfl rfl rfl rfl rfl rfl ⟨rfl, .inr ⟨B, 0, [], rfl, hB, Nat.le_refl _, by simp, by omega⟩⟩ hx7.size (by rw [flatten_len (sheetsC_3 _ _), sheetsC_len]) (hcs.imp id fun ⟨a', e, h⟩ => ⟨a', e, fun j u hj => cell_ext hx7 (h j u hj)⟩) (fun u hu => by
  obtain ⟨cs, h1, h2⟩ := List.mem_flatten.1 hu
  simp only [sheetsC, List.mem_mapIdx] at h1
  obtain ⟨i, hi, rfl⟩ := h1
  obtain ⟨q, k, e⟩ := (hrv i _ (List.getElem?_eq_getElem hi)).slice
  rw [e] at h2
  simp only [sheetL, List.mem_cons, List.not_mem_nil, or_false] at h2
  rcases h2 with rfl | rfl | rfl <;> rfl) (by show (0 + _) * 49 ≤ _; omega) rfl ?_
 intro v8 w8 hc8 hO8 hv8
 rw [Nat.zero_add, List.nil_append] at hO8
 have hx8 : Ext w w8 := hx7.step hc8 (fun b hb => by simp [vblk] at hb; omega)
 obtain ⟨p8, c8, rfl⟩ := hO8.slice
 refine Sa ?_
 exact QW.body1 Tryz.results57 rfl ⟨rv, hO8, hrv, hx8⟩
set_option maxHeartbeats 1000000 in
theorem Copy_book (b : BookD) (sv : Value) (w : World) (h : SheetsR w sv b) : Ret Tryz.prog 24 [.agg ⟨[sv]⟩] w (fun v w' => ∃ u rv f, v = .agg ⟨[u]⟩ ∧ BookF w.heap.size w' u b rv f ∧ Ext w w') := by
 obtain ⟨p, c, rfl⟩ := h.slice
 have hl := h.1
 have hnames : ∀ s ∈ b, s.name.length ≤ 1000000 := fun s hs => by
  obtain ⟨i, hi⟩ := List.getElem?_of_mem hs
  obtain ⟨_, _, _, _, _, hn, _⟩ := SheetsQ.at h hi
  exact hn
 refine Ret.enter Tryz.func24 rfl Tryz.ntmps24 (by kernel_rfl) rfl ?_
 apply CW.seq
 apply CW.region
 refine Sl ?_
 refine Lwb fun A w1 hbA hx1 hA => ?_
 replace hA : Blk w1 A [.slice p b.length c] 26 := hA
 have hAl := hA.lt
 refine Sl ?_
 refine Lwa fun R w2 hbR hx2 hR => ?_
 have hRl := hR.lt
 replace hA := hA.ext hx2
 refine Sa ?_
 refine LW.call0 rfl rfl (cloneS_ret b _ w2 (h.ext (hx1.trans hx2))) ?_
 rintro v w3 ⟨old, hO3, hold, hx3⟩
 obtain ⟨p3, c3, rfl⟩ := hO3.slice
 replace hR := hR.ext hx3
 refine Sa ?_
 refine Lwa fun C w4 hbC hx4 hC => ?_
 have hCl := hC.lt
 replace hR := hR.ext hx4
 have hz1 := hx1.size
 have hz2 := hx2.size
 have hz3 := hx3.size
 have hz4 := hx4.size
 refine Sa ?_
 refine Lws fun w5 hc5 hC => ?_
 replace hC : Blk w5 C [.slice p3 b.length c3] 26 := hC
 replace hR := hR.chg hc5 (by simp; omega)
 have hx15 : Ext w w5 := ((hx1.trans hx2).trans hx3).trans (hx4.step hc5 (by simp; omega))
 have hx25 : Ext w2 w5 := hx3.trans (hx4.step hc5 (by simp; omega))
 have hO5 := hO3.ext (hx4.step hc5 (by simp; omega))
 have hz25 := hx25.size
 have hz45 := hc5.size
 refine Sa ?_
 have hV : ∀ j, j ∈ vblk (Value.slice p3 b.length c3) → w2.heap.size ≤ j ∧ j < w3.heap.size := fun j hj => hO3.lt hj
 have nR : R ∉ vblk (Value.slice p3 b.length c3) := fun hb => by have := (hV R hb).1; omega
 have nC : C ∉ vblk (Value.slice p3 b.length c3) := fun hb => by have := (hV C hb).2; omega
 refine CW.loop (ι := Nat) (fun k w' => k ≤ b.length ∧ Chg (vblk (Value.slice p3 b.length c3)) w5 w' ∧ ∃ rv f, Own w' w2.heap.size 47 3 (.slice p3 b.length c3) b.length (sheetsC b rv).flatten ∧ BookX w5.heap.size w' k b rv f (vblk (Value.slice p3 b.length c3)) ∧ ∀ i, k ≤ i → rv i = old i) (fun k => [(2, .pointer (some ⟨R, 0, none⟩)), (3, .pointer (some ⟨C, 0, none⟩)), (14, .slice p3 b.length c3), (15, .int .i64 b.length), (16, .int .i64 k)]) (fun k => b.length - k) 0 ⟨by omega, Chg.refl _ _, old, fun _ _ => 0, hO5, BookX.zero, fun _ _ => rfl⟩ (Sub.cons rfl (Sub.cons rfl (Sub.cons rfl (Sub.cons rfl (Sub.cons rfl (Sub.nil)))))) ?_
 rintro k w6 ⟨hk, hc6, rv, f, hO, hX, hrv⟩
 have hR6 := hR.chg hc6 nR
 have hC6 := hC.chg hc6 nC
 have hz5 := hx15.size
 have far : ∀ w', Chg (vblk (Value.slice p3 b.length c3)) w5 w' → Ext w w' := fun w' hS => hx15.step hS fun j hj => by have := (hV j hj).1; omega
 have hz6 := hc6.size
 refine Sa ?_
 refine Cwc (fun h6 => ?_) fun h6 => ?_
 rotate_left
 ·have h6 : k = b.length := by simp at h6; omega
  subst h6
  refine Sa ?_
  refine Lws fun w7 hc7 hR7 => ?_
  have hX7 := hX.chg hc7 (fun i s hi hs y hy => by have := ((hX.rows i s hi hs).lt hy).1; simp; omega)
  refine Sa ?_
  refine QW.body_c Tryz.results24 rfl hR7 rfl rfl rfl ⟨_, rv, f, rfl, ⟨(hO.chg hc7 (fun j hj => by have := (hV j hj).1; simp; omega)).low (by omega), hnames, hl, ⟨fun i s hi hs => (hX7.rows i s hi hs).low (by omega), hX7.apartV, hX7.apart⟩⟩, (far _ hc6).step hc7 (by simp; omega)⟩
 have h6 : k < b.length := by simp at h6; omega
 obtain ⟨s, hs⟩ : ∃ s, b[k]? = some s := ⟨_, List.getElem?_eq_getElem h6⟩
 obtain ⟨hol, ⟨-, e3⟩ | ⟨B, cap, sp, e3, hB, hcap, hsp, hlo⟩⟩ := hO
 ·omega
 simp only [Value.slice.injEq] at e3
 obtain ⟨rfl, -, rfl⟩ := e3
 have hBV : B ∈ vblk (Value.slice (some ⟨B, 0, none⟩) b.length c3) := by simp [vblk]
 have hB2 := hV B hBV
 obtain ⟨q, qc, eo⟩ := (hold k s hs).slice
 have hrk : RowsR w6 (.slice q s.rows.length qc) s.rows := by
  rw [← eo]
  exact RowsQ.ext (hold k s hs) (hx25.step hc6 fun j hj => (hV j hj).1)
 have hrl := hrk.1
 have hcell : ∀ j u, (sheetL s (.slice q s.rows.length qc))[j]? = some u → w6.cell? (((⟨B, 0, none⟩ : Addr).add (((k : Nat) : Int).toNat * 3)).add j) = some u := fun j u hj => by
  have hj3 := (List.getElem?_eq_some_iff.1 hj).1
  rw [add_addr, add_addr]
  refine hB.cell ?_
  have h7 := flatten_get (sp := sp) (sheetsC_3 b rv) (sheetsC_get hs) (show j < 3 from hj3)
  rw [hrv k (Nat.le_refl _), eo] at h7
  rw [show 0 + ((k : Nat) : Int).toNat * 3 + j = k * 3 + j by omega, h7]
  exact hj
 refine Sw ?_
 refine Lwa fun X w7 hbX hx7 hX1 => ?_
 refine Sw ?_
 refine Lws fun w8 hc8 hX1 => ?_
 replace hX1 : Blk w8 X (sheetL s (.slice q s.rows.length qc)) 47 := hX1
 have hx8 : Ext w6 w8 := hx7.step hc8 (by simp; omega)
 refine Sa ?_
 refine LW.makeSlice (m := s.rows.length) rfl rfl rfl rfl rfl rfl rfl (by omega) rfl rfl ?_
 intro M w9 hbM hx9 hM
 replace hX1 := hX1.ext hx9
 have hx69 : Ext w6 w9 := hx8.trans hx9
 have hMl := hM.lt
 have hz68 := hx8.size
 refine Sa ?_
 refine CW.loop (ι := Nat) (fun j w' => j ≤ s.rows.length ∧ Chg [M] w9 w' ∧ ∃ xs g, Blk w' M (xs ++ List.replicate (s.rows.length - j) (.slice none 0 0)) 48 ∧ RowsX w9.heap.size w' xs (s.rows.take j) g [M]) (fun j => [(2, .pointer (some ⟨R, 0, none⟩)), (3, .pointer (some ⟨C, 0, none⟩)), (4, .int .i64 k), (6, .slice (some ⟨M, 0, none⟩) s.rows.length s.rows.length), (14, .slice (some ⟨B, 0, none⟩) b.length c3), (15, .int .i64 b.length), (16, .int .i64 k), (26, .slice q s.rows.length qc), (27, .int .i64 s.rows.length), (28, .int .i64 j)]) (fun j => s.rows.length - j) 0 ⟨by omega, Chg.refl _ _, [], fun _ => 0, by simpa using hM, RowsX.nil⟩ (Sub.cons rfl (Sub.cons rfl (Sub.cons rfl (Sub.cons rfl (Sub.cons rfl (Sub.cons rfl (Sub.cons rfl (Sub.cons rfl (Sub.cons rfl (Sub.cons rfl (Sub.nil))))))))))) ?_
 rintro j wa ⟨hj, hca, xs, g, hMa, hXa⟩
 have hx6a : Ext w6 wa := hx69.step hca (by simp; omega)
 have hza := hca.size
 refine Sa ?_
 refine Cwc (fun h7 => ?_) fun h7 => ?_
 rotate_left
 ·have h7 : j = s.rows.length := by simp at h7; omega
  subst h7
  rw [List.take_length] at hXa
  rw [Nat.sub_self, List.replicate_zero, List.append_nil] at hMa
  have hxl := hXa.len
  have hBa := hB.ext hx6a
  have hCa := hC6.ext hx6a
  have hlen := flatten_len (sheetsC_3 b rv)
  rw [sheetsC_len] at hlen
  have hF : RowsF w5.heap.size wa (.slice (some ⟨M, 0, none⟩) s.rows.length s.rows.length) s.rows g := ⟨⟨xs, ⟨by omega, .inr ⟨M, _, [], rfl, by simpa using hMa, Nat.le_refl _, by simp, by omega⟩⟩, hXa.low (by omega)⟩, hrl⟩
  have hF2 : ∀ x, usedR (.slice (some ⟨M, 0, none⟩) s.rows.length s.rows.length) s.rows g x → w8.heap.size ≤ x := fun x hx => by
   rcases hx with hx | ⟨r, y, hr, hn, rfl⟩
   ·simp [vblk] at hx; omega
   ·have := (hXa.blk r y hr hn).1; omega
  have hXb := (hX.ext hx6a).push hs hF (fun x hx hb => by
   have := hF2 x hx
   have := (hV x hb).2
   omega) (fun i u hi hiu x hx hy => by
   have := ((hX.rows i u hi hiu).lt hx).2
   have := hF2 x hy
   omega)
  refine Sa ?_
  refine LW.idx_slice (j := k * 3) rfl rfl rfl rfl rfl (by omega) (by omega) (by show 0 + ((k : Nat) : Int).toNat * 3 = _; omega) rfl ?_
  refine Sa ?_
  refine LW.store rfl rfl rfl hBa (Nat.ble_eq_true_of_le (by show k * 3 + 2 + 1 ≤ _; rw [List.length_append, hlen]; omega)) rfl rfl fun wc hcc hBc => ?_
  have e5 : ((sheetsC b rv).flatten ++ sp).set (k * 3 + 2) (.slice (some ⟨M, 0, none⟩) s.rows.length s.rows.length) = (sheetsC b fun j => if j = k then .slice (some ⟨M, 0, none⟩) s.rows.length s.rows.length else rv j).flatten ++ sp := by
   rw [flatten_set (sheetsC_3 b rv) (sheetsC_get hs) (by omega : 2 < 3), sheetsC_id hs]
  replace hBc : Blk wc B _ 47 := hBc
  rw [e5] at hBc
  have hlen2 := flatten_len (sheetsC_3 b fun j => if j = k then .slice (some ⟨M, 0, none⟩) s.rows.length s.rows.length else rv j)
  rw [sheetsC_len] at hlen2
  have hgo : Chg (vblk (Value.slice (some ⟨B, 0, none⟩) b.length c3)) w5 wc := (hc6.ext hx6a).same hcc
  refine Sa ?_
  exact QW.again (k + 1) ⟨by omega, hgo, _, _, ⟨by omega, .inr ⟨B, c3, sp, rfl, hBc, hcap, hsp, hlo⟩⟩, hXb.chg hcc (fun i u hi hiu y hy hb => hXb.apartV i u hi hiu y hy hb), fun i hi => by rw [if_neg (by omega)]; exact hrv i (by omega)⟩ (Sub.cons rfl (Sub.cons rfl (Sub.cons rfl (Sub.cons rfl (Sub.cons rfl (Sub.nil)))))) (by omega)
 have h7 : j < s.rows.length := by simp at h7; omega
 obtain ⟨r, hr⟩ : ∃ r, s.rows[j]? = some r := ⟨_, List.getElem?_eq_getElem h7⟩
 obtain ⟨a2, q2, qc2, rfl, -, ht2, hcr⟩ := RowsQ.at hrk hr
 replace hcr := cell_ext hx6a hcr
 refine Sw ?_
 refine LW.call0 rfl rfl (cloneT_ret r _ wa (ht2.ext hx6a)) ?_
 rintro v wb ⟨g2, hT, hTb, hxb⟩
 have hTs := hT
 obtain ⟨pv, cv, rfl⟩ := hT.slice
 have hMb := hMa.ext hxb
 have hxl := hXa.len
 have htl : (s.rows.take j).length = j := by simp; omega
 rw [htl] at hxl
 refine Sa ?_
 refine LW.idx_slice (j := j) rfl rfl rfl rfl rfl (by omega) (by omega) (by show 0 + ((j : Nat) : Int).toNat * 1 = _; omega) rfl ?_
 refine LW.store rfl rfl rfl hMb (Nat.ble_eq_true_of_le (by show j + 1 ≤ _; simp; omega)) rfl rfl fun wc hcc hMc => ?_
 rw [set_fill hxl h7] at hMc
 have hXb := (hXa.ext hxb).push hTs (fun hn => by
  obtain ⟨k1, sp2, k2⟩ := hTb hn
  refine ⟨by omega, by simp; omega, fun r' y hr' hy hf => ?_, sp2, k2⟩
  obtain ⟨_, _, sp', h9⟩ := hXa.blk r' y hr' hy
  have := h9.lt
  omega)
 have hrt : s.rows.take j ++ [r] = s.rows.take (j + 1) := by rw [List.take_add_one, hr]; rfl
 rw [hrt] at hXb
 refine Sa ?_
 exact QW.again (j + 1) ⟨by omega, (hca.ext hxb).same hcc, _, _, hMc, hXb.chg hcc (fun r' y hr' hy => (hXb.blk r' y hr' hy).2.1)⟩ (Sub.cons rfl (Sub.cons rfl (Sub.cons rfl (Sub.cons rfl (Sub.cons rfl (Sub.cons rfl (Sub.cons rfl (Sub.cons rfl (Sub.cons rfl (Sub.cons rfl (Sub.nil))))))))))) (by omega)
end Go.Proofs.YtiaigmahdjhcoaaGreatDoor
namespace Go.Proofs.YtiaigmahdjhcoaaGreatDoor
open Go Go.E
theorem setRow_get {l : List (List (List UInt8))} {row col : Nat} {t : List UInt8} {r : Nat} {y : List (List UInt8)} (h : (l.modify row fun x => x.set col t)[r]? = some y) : ∃ x, l[r]? = some x ∧ y = if r = row then x.set col t else x := by
 rw [List.getElem?_modify] at h
 cases h1 : l[r]? with
 | none => rw [h1] at h; simp at h
 | some x =>
  rw [h1] at h
  simp at h
  refine ⟨x, rfl, ?_⟩
  by_cases e : r = row
  ·subst e; simp at h; rw [if_pos rfl]; exact h.symm
  ·rw [if_neg (fun x => e x.symm)] at h; rw [if_neg e]; exact h.symm
theorem used_set {v : Value} {l : List (List (List UInt8))} {f : Nat → Nat} {row col : Nat} {t : List UInt8} {b : Nat} : usedR v (l.modify row fun x => x.set col t) f b → usedR v l f b := by
 rintro (h | ⟨r, y, hr, hn, rfl⟩)
 ·exact .inl h
 ·obtain ⟨x, hx, rfl⟩ := setRow_get hr
  refine .inr ⟨r, x, hx, fun e => hn ?_, rfl⟩
  rw [e]; simp
theorem RowsX.set {lo : Nat} {w w' : World} {xs : List Value} {l : List (List (List UInt8))} {f : Nat → Nat} {V : List Nat} {row col : Nat} {t : List UInt8} {x : List (List UInt8)} {sp : List Value} (h : RowsX lo w xs l f V) (hr : l[row]? = some x) (hc : col < x.length) (ht : t.length ≤ 1000000) (hx : Chg [f row] w w') (hB : Blk w' (f row) ((x.set col t).map str ++ sp) 9) : RowsX lo w' xs (l.modify row fun x => x.set col t) f V := by
 have hxn : x ≠ [] := fun e => by rw [e] at hc; simp at hc
 refine ⟨by simp [h.len], fun r y hy => ?_, fun r y hy hn => ?_, fun r q y z hy hz hn hm hf => ?_⟩
 ·obtain ⟨x', h1, rfl⟩ := setRow_get hy
  obtain ⟨u, h2, h3⟩ := h.val r x' h1
  refine ⟨u, h2, ?_⟩
  by_cases e : r = row
  ·subst e
   rw [hr] at h1
   obtain rfl := Option.some.inj h1
   rw [if_pos rfl]
   obtain ⟨k0, ⟨_, e2⟩ | ⟨a, c, e2, hk, hcell⟩⟩ := h3
   ·exact absurd e2 hxn
   ·obtain rfl := hk hxn
    refine ⟨by simpa using k0, .inr ⟨_, c, by simpa using e2, fun _ => rfl, fun i s hs => ?_⟩⟩
    refine ⟨[str s], rfl, ⟨rfl, ?_⟩, fun j u hj => ?_⟩
    ·rcases List.mem_or_eq_of_mem_set (List.mem_of_getElem? hs) with h5 | h5
     ·obtain ⟨j, hj⟩ := List.getElem?_of_mem h5
      obtain ⟨_, _, ⟨_, h6⟩, _⟩ := hcell j s hj
      exact h6
     ·rw [h5]; exact ht
    ·have hj0 : j = 0 := by have := (List.getElem?_eq_some_iff.1 hj).1; simp at this; exact this
     subst hj0
     simp at hj
     subst hj
     rw [add_addr, add_addr]
     refine hB.cell ?_
     have hil := (List.getElem?_eq_some_iff.1 hs).1
     rw [show 0 + i * 1 + 0 = i by omega, List.getElem?_append_left (by simpa using hil), List.getElem?_map, hs]
     rfl
  ·rw [if_neg e]
   refine h3.chg hx fun hn a ha => ?_
   rw [ha]
   simp only [List.mem_singleton]
   exact fun e2 => e (h.inj r row x' x h1 hr hn hxn e2)
 ·obtain ⟨x', h1, rfl⟩ := setRow_get hy
  have hn' : x' ≠ [] := fun e => hn (by rw [e]; simp)
  obtain ⟨g1, g2, sp', g3⟩ := h.blk r x' h1 hn'
  refine ⟨g1, g2, ?_⟩
  by_cases e : r = row
  ·subst e
   rw [hr] at h1
   obtain rfl := Option.some.inj h1
   rw [if_pos rfl]
   exact ⟨sp, hB⟩
  ·rw [if_neg e]
   exact ⟨sp', g3.chg hx (by simp only [List.mem_singleton]; exact fun e2 => e (h.inj r row x' x h1 hr hn' hxn e2))⟩
 ·obtain ⟨y', h1, rfl⟩ := setRow_get hy
  obtain ⟨z', h2, rfl⟩ := setRow_get hz
  exact h.inj r q y' z' h1 h2 (fun e => hn (by rw [e]; simp)) (fun e => hm (by rw [e]; simp)) hf
theorem setB_at {b : BookD} {i row col : Nat} {t : List UInt8} {j : Nat} {u : SheetD} (h : (setB b i row col t)[j]? = some u) : ∃ s, b[j]? = some s ∧ u.name = s.name ∧ u.cols = s.cols ∧ u = (if j = i then setS s row col t else s) := by
 rw [setB_get] at h
 cases h1 : b[j]? with
 | none => rw [h1] at h; simp at h
 | some s =>
  rw [h1] at h
  refine ⟨s, rfl, ?_⟩
  by_cases e : i = j
  ·subst e
   simp at h
   rw [if_pos rfl]
   subst h
   exact ⟨rfl, rfl, rfl⟩
  ·rw [if_neg e] at h
   rw [if_neg (fun x => e x.symm)]
   obtain rfl := Option.some.inj h
   exact ⟨rfl, rfl, rfl⟩
theorem sheetsC_set (b : BookD) (i row col : Nat) (t : List UInt8) (rv : Nat → Value) : sheetsC (setB b i row col t) rv = sheetsC b rv := by
 apply List.ext_getElem?
 intro j
 simp only [sheetsC, List.getElem?_mapIdx]
 cases h : (setB b i row col t)[j]? with
 | none =>
  rw [setB_get] at h
  cases h1 : b[j]? with
  | none => rfl
  | some s => rw [h1] at h; split at h <;> simp at h
 | some u =>
  obtain ⟨s, h1, h2, h3, _⟩ := setB_at h
  rw [h1]
  simp [sheetL, h2, h3]
theorem used_setB {b : BookD} {i row col : Nat} {t : List UInt8} {j : Nat} {u : SheetD} {v : Value} {f : Nat → Nat} {x : Nat} (h : (setB b i row col t)[j]? = some u) (hx : usedR v u.rows f x) : ∃ s, b[j]? = some s ∧ usedR v s.rows f x := by
 obtain ⟨s, h1, _, _, rfl⟩ := setB_at h
 refine ⟨s, h1, ?_⟩
 by_cases e : j = i
 ·rw [if_pos e] at hx; exact used_set hx
 ·rw [if_neg e] at hx; exact hx
theorem BookF.set {lo : Nat} {w w' : World} {v : Value} {b : BookD} {rv : Nat → Value} {f : Nat → Nat → Nat} (h : BookF lo w v b rv f) {i row col : Nat} {t : List UInt8} {s : SheetD} {x : List (List UInt8)} {sp : List Value} (hi : b[i]? = some s) (hr : s.rows[row]? = some x) (hc : col < x.length) (ht : t.length ≤ 1000000) (hx : Chg [f i row] w w') (hB : Blk w' (f i row) ((x.set col t).map str ++ sp) 9) : BookF lo w' v (setB b i row col t) rv f := by
 have hxn : x ≠ [] := fun e => by rw [e] at hc; simp at hc
 have hil := (List.getElem?_eq_some_iff.1 hi).1
 have hu : usedR (rv i) s.rows (f i) (f i row) := .inr ⟨row, x, hr, hxn, rfl⟩
 have hlen : (setB b i row col t).length = b.length := by simp [setB]
 refine ⟨?_, fun u hm => ?_, by rw [hlen]; exact h.small, ⟨fun j u hj hju => ?_, fun j u hj hju y hy => ?_, fun j k u z hj hk hjk hju hkz y hy hy2 => ?_⟩⟩
 ·rw [sheetsC_set, hlen]
  exact h.own.chg hx fun y hy he => by
   simp only [List.mem_singleton] at he
   subst he
   exact h.sub.apartV i s hil hi _ hu hy
 ·obtain ⟨j, hj⟩ := List.getElem?_of_mem hm
  obtain ⟨s', h1, h2, _⟩ := setB_at hj
  rw [h2]
  exact h.names s' (List.mem_of_getElem? h1)
 ·rw [hlen] at hj
  obtain ⟨s', h1, _, _, rfl⟩ := setB_at hju
  have hF := h.sub.rows j s' hj h1
  by_cases e : j = i
  ·subst e
   rw [hi] at h1
   obtain rfl := Option.some.inj h1
   rw [if_pos rfl]
   obtain ⟨xs, o1, o2⟩ := hF.own
   refine ⟨⟨xs, ?_, ?_⟩, by simpa [setS] using hF.small⟩
   ·have := o1.chg hx (fun y hy he => by
     simp only [List.mem_singleton] at he
     subst he
     exact (o2.blk row x hr hxn).2.1 hy)
    simpa [setS] using this
   ·exact o2.set hr hc ht hx hB
  ·rw [if_neg e]
   exact hF.chg hx fun y hy he => by
    simp only [List.mem_singleton] at he
    subst he
    exact h.sub.apart i j s s' hil hj (fun e2 => e e2.symm) hi h1 _ hu hy
 ·rw [hlen] at hj
  obtain ⟨s', h1, h2⟩ := used_setB hju hy
  exact h.sub.apartV j s' hj h1 y h2
 ·rw [hlen] at hj hk
  obtain ⟨s', h1, h2⟩ := used_setB hju hy
  obtain ⟨s2, h3, h4⟩ := used_setB hkz hy2
  exact h.sub.apart j k s' s2 hj hk hjk h1 h3 y h2 h4
theorem BookF.at {lo : Nat} {w : World} {v : Value} {b : BookD} {rv : Nat → Value} {f : Nat → Nat → Nat} (h : BookF lo w v b rv f) {i row : Nat} {s : SheetD} {x : List (List UInt8)} (hi : b[i]? = some s) (hr : s.rows[row]? = some x) (hn : x ≠ []) :
  ∃ B cb M cm cx, v = .slice (some ⟨B, 0, none⟩) b.length cb ∧ rv i = .slice (some ⟨M, 0, none⟩) s.rows.length cm ∧ (∀ j u, (sheetL s (rv i))[j]? = some u → w.cell? (((⟨B, 0, none⟩ : Addr).add (((i : Nat) : Int).toNat * 3)).add j) = some u) ∧ w.cell? ((⟨M, 0, none⟩ : Addr).add (((row : Nat) : Int).toNat * 1)) = some (.slice (some ⟨f i row, 0, none⟩) x.length cx) ∧ lo ≤ f i row ∧ ∃ sp, Blk w (f i row) (x.map str ++ sp) 9 := by
 have hil := (List.getElem?_eq_some_iff.1 hi).1
 have hrl := (List.getElem?_eq_some_iff.1 hr).1
 obtain ⟨B, cb, sp, rfl, hB, -⟩ := h.own.get (by omega)
 have hF := h.sub.rows i s hil hi
 obtain ⟨xs, o1, o2⟩ := hF.own
 obtain ⟨M, cm, sp2, e2, hM, -⟩ := o1.get (by omega)
 obtain ⟨u, h1, k0, ⟨_, e3⟩ | ⟨a, cx, e3, hk, _⟩⟩ := o2.val row x hr
 ·exact absurd e3 hn
 obtain rfl := hk hn
 obtain ⟨g1, _, sp3, g3⟩ := o2.blk row x hr hn
 refine ⟨B, cb, M, cm, cx, rfl, e2, fun j u hj => ?_, ?_, g1, sp3, g3⟩
 ·have hj3 := (List.getElem?_eq_some_iff.1 hj).1
  rw [add_addr, add_addr]
  refine hB.cell ?_
  have h7 := flatten_get (sp := sp) (sheetsC_3 b rv) (sheetsC_get hi) (show j < 3 from hj3)
  rw [show 0 + ((i : Nat) : Int).toNat * 3 + j = i * 3 + j by omega, h7]
  exact hj
 ·rw [add_addr]
  refine hM.cell ?_
  rw [show 0 + ((row : Nat) : Int).toNat * 1 = row by omega, List.getElem?_append_left (by rw [o2.len]; exact hrl), h1, e3]
end Go.Proofs.YtiaigmahdjhcoaaGreatDoor
namespace Go.Proofs.YtiaigmahdjhcoaaGreatDoor
open Go Go.E
theorem BookF.old {S : List Nat} {lo : Nat} {w w' : World} {v : Value} {b : BookD} {rv : Nat → Value} {f : Nat → Nat → Nat} (h : BookF lo w v b rv f) (x : Chg S w w') (hs : ∀ y, y ∈ S → y < lo) : BookF lo w' v b rv f :=
 ⟨h.own.chg x (fun y hy he => by have := (h.own.lt hy).1; have := hs y he; omega), h.names, h.small, h.sub.chg x (fun i s hi hs' y hy he => by have := ((h.sub.rows i s hi hs').lt hy).1; have := hs y he; omega)⟩
theorem setRes_bad {b : BookD} {nm : List UInt8} {row col : Int} {t : List UInt8} (h : (mayBook b && mayC t) = false) : setRes b nm row col t = ([], 1) := by rw [setRes, if_neg (by rw [h]; simp)]
theorem setRes_no {b : BookD} {nm : List UInt8} {row col : Int} {t : List UInt8} (h : (mayBook b && mayC t) = true) (h2 : hasB b nm row col = false) : setRes b nm row col t = ([], 2) := by
 rw [setRes, if_pos h]
 cases ha : atB b nm with
 | none => rfl
 | some i => simp only [h2]; simp
theorem setRes_yes {b : BookD} {nm : List UInt8} {row col : Int} {t : List UInt8} {i : Nat} (h : (mayBook b && mayC t) = true) (h2 : hasB b nm row col = true) (ha : atB b nm = some i) : setRes b nm row col t = (setB b i row.toNat col.toNat t, 0) := by
 rw [setRes, if_pos h, ha]; simp only [h2]; simp
theorem hasB_is {b : BookD} {nm : List UInt8} {row col : Int} (h : hasB b nm row col = true) : ∃ i s x, atB b nm = some i ∧ b[i]? = some s ∧ s.rows[row.toNat]? = some x ∧ 0 ≤ row ∧ row < s.rows.length ∧ 0 ≤ col ∧ col < x.length := by
 cases ha : atB b nm with
 | none => rw [hasB, ha] at h; cases h
 | some i =>
  obtain ⟨s, hs, -⟩ := atB_some ha
  rw [hasB, ha] at h
  simp only [hs] at h
  obtain ⟨x, h1, h2⟩ := inB_row h
  exact ⟨i, s, x, rfl, hs, h1, h2⟩
set_option maxHeartbeats 1000000 in
theorem Set_book (b : BookD) (sv : Value) (nm : List UInt8) (row col : Int) (t : List UInt8) (w : World) (g : Glob w) (h : SheetsR w sv b) (ht : t.length ≤ 1000000) : Ret Tryz.prog 13 [.agg ⟨[sv]⟩, .agg ⟨spotL nm row col⟩, str t] w (fun r w' => ∃ u, r = .tuple #[.agg ⟨[u]⟩, .int .i64 (setRes b nm row col t).2] ∧ SheetsN w.heap.size w' u (setRes b nm row col t).1 ∧ Ext w w') := by
 obtain ⟨p, c, rfl⟩ := h.slice
 have hl := h.1
 refine Ret.enter Tryz.func13 rfl Tryz.ntmps13 (by kernel_rfl) rfl ?_
 apply CW.seq
 apply CW.region
 refine Sl ?_
 refine Lwb fun A w1 hbA hx1 hA => ?_
 replace hA : Blk w1 A [.slice p b.length c] 26 := hA
 have hAl := hA.lt
 refine Sl ?_
 refine Lwb fun B w2 hbB hx2 hB => ?_
 replace hB : Blk w2 B (spotL nm row col) 29 := hB
 have hBl := hB.lt
 replace hA := hA.ext hx2
 refine Sl ?_
 refine Lwa fun R w3 hbR hx3 hR => ?_
 have hRl := hR.lt
 replace hA := hA.ext hx3
 replace hB := hB.ext hx3
 have hx := (hx1.trans hx2).trans hx3
 have hz1 := hx1.size
 have hz2 := hx2.size
 refine Sa ?_
 refine LW.call0 rfl rfl (May_book b _ w3 (g.ext hx) (h.ext hx)) ?_
 rintro v w4 ⟨rfl, hx4⟩
 replace hA := hA.ext hx4
 replace hB := hB.ext hx4
 replace hR := hR.ext hx4
 replace hx := hx.trans hx4
 have hz4 := hx4.size
 cases h1 : mayBook b with
 | false =>
  have e0 : (mayBook b && mayC t) = false := by rw [h1]; rfl
  refine Sa ?_
  refine Lws fun w5 hc5 hR5 => ?_
  have hx5 : Ext w w5 := hx.step hc5 (by simp; omega)
  refine Sa ?_
  exact QW.body_ct Tryz.results13 rfl hR5 rfl rfl rfl rfl ⟨_, by rw [setRes_bad e0]; rfl, by rw [setRes_bad e0]; exact ListR.nil, hx5⟩
 | true =>
 refine Sa ?_
 refine LW.call0 rfl rfl (cMay_ret t (by omega) w4 (g.ext hx)) ?_
 rintro v w5 ⟨rfl, hx5⟩
 replace hA := hA.ext hx5
 replace hB := hB.ext hx5
 replace hR := hR.ext hx5
 replace hx := hx.trans hx5
 have hz5 := hx5.size
 cases h2 : mayC t with
 | false =>
  have e0 : (mayBook b && mayC t) = false := by rw [h1, h2]; rfl
  refine Sa ?_
  refine Lws fun w6 hc6 hR6 => ?_
  have hx6 : Ext w w6 := hx.step hc6 (by simp; omega)
  refine Sa ?_
  exact QW.body_ct Tryz.results13 rfl hR6 rfl rfl rfl rfl ⟨_, by rw [setRes_bad e0]; rfl, by rw [setRes_bad e0]; exact ListR.nil, hx6⟩
 | true =>
 have e0 : (mayBook b && mayC t) = true := by rw [h1, h2]; rfl
 refine Sa ?_
 refine LW.call0 rfl rfl (Has_ret b _ nm row col w5 (h.ext hx)) ?_
 rintro v w6 ⟨rfl, hx6⟩
 replace hA := hA.ext hx6
 replace hB := hB.ext hx6
 replace hR := hR.ext hx6
 replace hx := hx.trans hx6
 have hz6 := hx6.size
 cases h3 : hasB b nm row col with
 | false =>
  refine Sa ?_
  refine Lws fun w7 hc7 hR7 => ?_
  have hx7 : Ext w w7 := hx.step hc7 (by simp; omega)
  refine Sa ?_
  exact QW.body_ct Tryz.results13 rfl hR7 rfl rfl rfl rfl ⟨_, by rw [setRes_no e0 h3]; rfl, by rw [setRes_no e0 h3]; exact ListR.nil, hx7⟩
 | true =>
 obtain ⟨i, s, x, ha, hs, hr, k1, k2, k3, k4⟩ := hasB_is h3
 have hi := (List.getElem?_eq_some_iff.1 hs).1
 have hxn : x ≠ [] := fun e => by rw [e] at k4; simp at k4; omega
 rw [ha, show idxZ (some i) = (i : Int) from rfl]
 refine Sa ?_
 refine LW.call0 rfl rfl (Copy_book b _ w6 (h.ext hx)) ?_
 rintro v w7 ⟨u, rv, f, rfl, hF, hx7⟩
 obtain ⟨Q, cb, M, cm, cx, rfl, e2, hcell, hrow, hlo, sp, hG⟩ := hF.at hs hr hxn
 have hfl := hG.lt
 have hzw6 := hx.size
 replace hA := hA.ext hx7
 replace hB := hB.ext hx7
 replace hR := hR.ext hx7
 have hx67 := hx.trans hx7
 have hz7 := hx7.size
 refine Sa ?_
 refine Lwa fun C w8 hbC hx8 hC => ?_
 have hCl := hC.lt
 replace hB := hB.ext hx8
 replace hR := hR.ext hx8
 refine Sa ?_
 refine Lws fun w9 hc9 hC => ?_
 replace hC : Blk w9 C [.slice (some ⟨Q, 0, none⟩) b.length cb] 26 := hC
 have hx79 : Ext w7 w9 := hx8.step hc9 (by simp; omega)
 replace hB := hB.chg hc9 (by simp; omega)
 replace hR := hR.chg hc9 (by simp; omega)
 replace hF := hF.ext hx79
 have hc2 : w9.cell? (((⟨Q, 0, none⟩ : Addr).add (((i : Nat) : Int).toNat * 3)).add 2) = some (.slice (some ⟨M, 0, none⟩) s.rows.length cm) := cell_keep hx79 (hcell 2 _ (by rw [e2]; rfl))
 have hrow9 : w9.cell? ((⟨M, 0, none⟩ : Addr).add (row.toNat * 1)) = _ := cell_keep hx79 hrow
 have hz9 := hx79.size
 refine Sa ?_
 refine CW.drawTail 14 (by kernel_rfl) (by kernel_rfl) fun wa hxa => ?_
 replace hB := hB.ext hxa
 replace hC := hC.ext hxa
 replace hR := hR.ext hxa
 replace hF := hF.ext hxa
 replace hG := (hG.ext hx79).ext hxa
 have hc2a := cell_keep hxa hc2
 have hrowa := cell_keep hxa hrow9
 refine Stw ?_
 refine TL.nil ?_
 have hcx : col.toNat < x.length := by omega
 refine LW.store (i := 0 + col.toNat * 1) (by show some (Value.pointer (some (Addr.add ⟨f i row.toNat, 0, none⟩ (col.toNat * 1)))) = _; rw [add_addr]) rfl rfl hG (Nat.ble_eq_true_of_le (by show _ + 1 ≤ _; rw [List.length_append, List.length_map]; omega)) rfl rfl fun wb hcb hGb => ?_
 have e5 : (x.map str ++ sp).set (0 + col.toNat * 1) (str t) = (x.set col.toNat t).map str ++ sp := by
  rw [show 0 + col.toNat * 1 = col.toNat by omega, List.set_append_left _ _ (by simpa using hcx), List.map_set]
 rw [e5] at hGb
 have hFb := hF.set hs hr hcx ht hcb hGb
 have hz9a := hxa.size
 have nRC : R ≠ f i row.toNat ∧ C ≠ f i row.toNat := ⟨by omega, by omega⟩
 have hRb := hR.chg hcb (by simpa using nRC.1)
 have hCb := hC.chg hcb (by simpa using nRC.2)
 refine Sa ?_
 refine Lws fun wc hcc hRc => ?_
 have hFc : SheetsN w.heap.size wc _ (setB b i row.toNat col.toNat t) := SheetsN.low (hFb.old hcc (by simp; omega)).fresh (by omega)
 have hxc : Ext w wc := (((hx67.trans hx79).trans hxa).step hcb (by simp; omega)).step hcc (by simp; omega)
 refine Sa ?_
 exact QW.body_ct Tryz.results13 rfl hRc rfl rfl rfl rfl ⟨_, by rw [setRes_yes e0 h3 ha], by rw [setRes_yes e0 h3 ha]; exact hFc, hxc⟩
set_option maxHeartbeats 1000000 in
theorem SetCell_ret (b : BookD) (sv : Value) (nm : List UInt8) (row col : Int) (t : List UInt8) (w : World) (h : SheetsR w sv b) (ht : t.length ≤ 1000000) : Ret Tryz.prog 15 [.agg ⟨[sv]⟩, .agg ⟨spotL nm row col⟩, str t] w (fun r w' => ∃ u, r = .tuple #[.agg ⟨[u]⟩, .int .i64 (setRes b nm row col t).2] ∧ SheetsN w.heap.size w' u (setRes b nm row col t).1 ∧ Ext w w') := by
 obtain ⟨p, c, rfl⟩ := h.slice
 have hl := h.1
 refine Ret.enter Tryz.func15 rfl Tryz.ntmps15 (by kernel_rfl) rfl ?_
 apply CW.seq
 apply CW.region
 refine Sl ?_
 refine Lwb fun A w1 hbA hx1 hA => ?_
 replace hA : Blk w1 A [.slice p b.length c] 26 := hA
 have hAl := hA.lt
 refine Sl ?_
 refine Lwb fun B w2 hbB hx2 hB => ?_
 replace hB : Blk w2 B (spotL nm row col) 29 := hB
 have hBl := hB.lt
 replace hA := hA.ext hx2
 refine Sl ?_
 refine Lwa fun R w3 hbR hx3 hR => ?_
 have hRl := hR.lt
 replace hA := hA.ext hx3
 replace hB := hB.ext hx3
 have hx := (hx1.trans hx2).trans hx3
 have hz1 := hx1.size
 have hz2 := hx2.size
 refine Sa ?_
 refine LW.call0 rfl rfl (rFind_ret b _ nm w3 (h.ext hx)) ?_
 rintro v w4 ⟨rfl, hx4⟩
 replace hA := hA.ext hx4
 replace hB := hB.ext hx4
 replace hR := hR.ext hx4
 replace hx := hx.trans hx4
 have hz4 := hx4.size
 refine Sa ?_
 refine LW.call0 rfl rfl (rMayBook_ret b _ w4 (h.ext hx)) ?_
 rintro v w5 ⟨rfl, hx5⟩
 replace hA := hA.ext hx5
 replace hB := hB.ext hx5
 replace hR := hR.ext hx5
 replace hx := hx.trans hx5
 have hz5 := hx5.size
 cases h1 : mayBook b with
 | false =>
  have e0 : (mayBook b && mayC t) = false := by rw [h1]; rfl
  refine Sa ?_
  refine Lws fun w6 hc6 hR6 => ?_
  have hx6 : Ext w w6 := hx.step hc6 (by simp; omega)
  refine Sa ?_
  exact QW.body_ct Tryz.results15 rfl hR6 rfl rfl rfl rfl ⟨_, by rw [setRes_bad e0]; rfl, by rw [setRes_bad e0]; exact ListR.nil, hx6⟩
 | true =>
 refine Sa ?_
 refine LW.call0 rfl rfl (rMayCell_ret t (by omega) w5) ?_
 rintro v w6 ⟨rfl, hx6⟩
 replace hA := hA.ext hx6
 replace hB := hB.ext hx6
 replace hR := hR.ext hx6
 replace hx := hx.trans hx6
 have hz6 := hx6.size
 cases h2 : mayC t with
 | false =>
  have e0 : (mayBook b && mayC t) = false := by rw [h1, h2]; rfl
  refine Sa ?_
  refine Lws fun w7 hc7 hR7 => ?_
  have hx7 : Ext w w7 := hx.step hc7 (by simp; omega)
  refine Sa ?_
  exact QW.body_ct Tryz.results15 rfl hR7 rfl rfl rfl rfl ⟨_, by rw [setRes_bad e0]; rfl, by rw [setRes_bad e0]; exact ListR.nil, hx7⟩
 | true =>
 have e0 : (mayBook b && mayC t) = true := by rw [h1, h2]; rfl
 replace h := h.ext hx
 have no : hasB b nm row col = false → ∀ w7, Ext w6 w7 → True := fun _ _ _ => trivial
 cases ha : atB b nm with
 | none =>
  have h3 : hasB b nm row col = false := by rw [hasB, ha]
  refine Sa ?_
  refine CW.draw (by kernel_rfl) (by kernel_rfl) ?_
  refine Sqw ?_
  refine QL.know (t := 27) (c := true) rfl rfl ?_
  refine Sqw ?_
  refine QL.nil fun w7 hx7 => ?_
  replace hR := hR.ext hx7
  have hz7 := hx7.size
  refine Sa ?_
  refine Lws fun w8 hc8 hR8 => ?_
  have hx8 : Ext w w8 := (hx.trans hx7).step hc8 (by simp; omega)
  refine Sa ?_
  exact QW.body_ct Tryz.results15 rfl hR8 rfl rfl rfl rfl ⟨_, by rw [setRes_no e0 h3]; rfl, by rw [setRes_no e0 h3]; exact ListR.nil, hx8⟩
 | some i =>
 obtain ⟨s, hs, -⟩ := atB_some ha
 have hi := (List.getElem?_eq_some_iff.1 hs).1
 have e3 : hasB b nm row col = inB s row col := by rw [hasB, ha]; simp only [hs]
 obtain ⟨a, q, qc, rfl, -, -, htr, hcc⟩ := SheetsQ.at h hs
 rw [show idxZ (some i) = (i : Int) from rfl]
 refine Sa ?_
 refine CW.draw (by kernel_rfl) (by kernel_rfl) ?_
 refine Sqw ?_
 refine QL.know (t := 27) (c := false) rfl (by simp) ?_
 refine Sqw ?_
 refine QL.call0 rfl rfl (fun w7 hx7 => inside_ret s _ row col w7 (htr.ext hx7)) ?_
 refine Sqw ?_
 refine QL.nil fun w7 hx7 => ?_
 replace hA := hA.ext hx7
 replace hB := hB.ext hx7
 replace hR := hR.ext hx7
 replace hx := hx.trans hx7
 replace h := h.ext hx7
 have hz7 := hx7.size
 cases h3 : inB s row col with
 | false =>
  rw [h3] at e3
  refine Sa ?_
  refine Lws fun w8 hc8 hR8 => ?_
  have hx8 : Ext w w8 := hx.step hc8 (by simp; omega)
  refine Sa ?_
  exact QW.body_ct Tryz.results15 rfl hR8 rfl rfl rfl rfl ⟨_, by rw [setRes_no e0 e3]; rfl, by rw [setRes_no e0 e3]; exact ListR.nil, hx8⟩
 | true =>
 rw [h3] at e3
 obtain ⟨x, hr, k1, k2, k3, k4⟩ := inB_row h3
 have hxn : x ≠ [] := fun e => by rw [e] at k4; simp at k4; omega
 refine Sa ?_
 refine LW.call0 rfl rfl (CopyBook_ret b _ w7 h) ?_
 rintro v w8 ⟨u, rv, f, rfl, hF, hx8⟩
 obtain ⟨Q, cb, M, cm, cx, rfl, e2, hcell, hrow, hlo, sp, hG⟩ := hF.at hs hr hxn
 have hfl := hG.lt
 have hzw7 := hx.size
 replace hB := hB.ext hx8
 replace hR := hR.ext hx8
 have hx68 := hx.trans hx8
 have hz8 := hx8.size
 refine Sa ?_
 refine Lwa fun C w9 hbC hx9 hC => ?_
 have hCl := hC.lt
 replace hB := hB.ext hx9
 replace hR := hR.ext hx9
 refine Sa ?_
 refine Lws fun wx hcx hC => ?_
 replace hC : Blk wx C [.slice (some ⟨Q, 0, none⟩) b.length cb] 26 := hC
 have hx79 : Ext w8 wx := hx9.step hcx (by simp; omega)
 replace hB := hB.chg hcx (by simp; omega)
 replace hR := hR.chg hcx (by simp; omega)
 replace hF := hF.ext hx79
 have hc2 : wx.cell? (((⟨Q, 0, none⟩ : Addr).add (((i : Nat) : Int).toNat * 3)).add 2) = some (.slice (some ⟨M, 0, none⟩) s.rows.length cm) := cell_keep hx79 (hcell 2 _ (by rw [e2]; rfl))
 have hrow9 : wx.cell? ((⟨M, 0, none⟩ : Addr).add (row.toNat * 1)) = _ := cell_keep hx79 hrow
 have hz9 := hx79.size
 refine Sa ?_
 refine CW.drawTail 14 (by kernel_rfl) (by kernel_rfl) fun wa hxa => ?_
 replace hB := hB.ext hxa
 replace hC := hC.ext hxa
 replace hR := hR.ext hxa
 replace hF := hF.ext hxa
 replace hG := (hG.ext hx79).ext hxa
 have hc2a := cell_keep hxa hc2
 have hrowa := cell_keep hxa hrow9
 refine Stw ?_
 refine TL.nil ?_
 have hcx : col.toNat < x.length := by omega
 refine LW.store (i := 0 + col.toNat * 1) (by show some (Value.pointer (some (Addr.add ⟨f i row.toNat, 0, none⟩ (col.toNat * 1)))) = _; rw [add_addr]) rfl rfl hG (Nat.ble_eq_true_of_le (by show _ + 1 ≤ _; rw [List.length_append, List.length_map]; omega)) rfl rfl fun wb hcb hGb => ?_
 have e5 : (x.map str ++ sp).set (0 + col.toNat * 1) (str t) = (x.set col.toNat t).map str ++ sp := by
  rw [show 0 + col.toNat * 1 = col.toNat by omega, List.set_append_left _ _ (by simpa using hcx), List.map_set]
 rw [e5] at hGb
 have hFb := hF.set hs hr hcx ht hcb hGb
 have hz9a := hxa.size
 have nRC : R ≠ f i row.toNat ∧ C ≠ f i row.toNat := ⟨by omega, by omega⟩
 have hRb := hR.chg hcb (by simpa using nRC.1)
 have hCb := hC.chg hcb (by simpa using nRC.2)
 refine Sa ?_
 refine Lws fun wc hcc2 hRc => ?_
 have hFc : SheetsN w.heap.size wc _ (setB b i row.toNat col.toNat t) := SheetsN.low (hFb.old hcc2 (by simp; omega)).fresh (by omega)
 have hxc : Ext w wc := (((hx68.trans hx79).trans hxa).step hcb (by simp; omega)).step hcc2 (by simp; omega)
 refine Sa ?_
 exact QW.body_ct Tryz.results15 rfl hRc rfl rfl rfl rfl ⟨_, by rw [setRes_yes e0 e3 ha], by rw [setRes_yes e0 e3 ha]; exact hFc, hxc⟩
end Go.Proofs.YtiaigmahdjhcoaaGreatDoor
