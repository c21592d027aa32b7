/-
  Joined by program out of the texts CodeP BookP ObjP Byt TextP ObjM Code1 Code2 Code3 Code4 Code5 Code6 Code7.
-/
import Derived.Test.YtgdohpcnpgjpaaaGreatDoorPkE
import Derived.Test.YtgdohpcnpgjpaaaGreatDoorPkG
import Derived.Test.YtgdohpcnpgjpaaaGreatDoorPkH
import Derived.Test.YtgdohpcnpgjpaaaGreatDoorPkB
import Derived.Lib.EndianBits
namespace Go.Proofs.YtgdohpcnpgjpaaaGreatDoor
open Go Go.E
def putN (n : Nat) : List UInt8 := if h : n < 128 then [UInt8.ofNat n] else UInt8.ofNat (n % 128 + 128) :: putN (n / 128)
termination_by n
decreasing_by omega
def getV : Nat → Nat → List UInt8 → Option (Nat × Nat)
 | 0, _, _ => none
 | _ + 1, _, [] => none
 | k + 1, i, c :: r => if 128 ≤ c.toNat then (match getV k (i + 1) r with | none => none | some (n, m) => some (c.toNat - 128 + 128 * n, m + 1)) else if c.toNat = 0 ∧ 0 < i then none else some (c.toNat, 1)
def getN (b : List UInt8) (i : Nat) : Option (Nat × Nat) := match getV 9 0 (b.drop i) with
 | none => none
 | some (n, m) => some (n, i + m)
def putT (s : List UInt8) : List UInt8 := putN s.length ++ s
def getT (b : List UInt8) (i : Nat) : Option (List UInt8 × Nat) := match getN b i with
 | none => none
 | some (n, j) => if n ≤ b.length - j then some ((b.drop j).take n, j + n) else none
def putL (l : List (List UInt8)) : List UInt8 := putN l.length ++ l.flatMap putT
def getTs (b : List UInt8) : Nat → Nat → Option (List (List UInt8) × Nat)
 | 0, j => some ([], j)
 | n + 1, j => match getT b j with
  | none => none
  | some (s, k) => match getTs b n k with
   | none => none
   | some (l, m) => some (s :: l, m)
def getL (b : List UInt8) (i : Nat) : Option (List (List UInt8) × Nat) := match getN b i with
 | none => none
 | some (n, j) => if n ≤ b.length - j then getTs b n j else none
theorem putN_small {n : Nat} (h : n < 128) : putN n = [UInt8.ofNat n] := by rw [putN, dif_pos h]
theorem putN_big {n : Nat} (h : 128 ≤ n) : putN n = UInt8.ofNat (n % 128 + 128) :: putN (n / 128) := by rw [putN, dif_neg (by omega)]
theorem toNat_of {n : Nat} (h : n < 256) : (UInt8.ofNat n).toNat = n := by simp; omega
theorem getV_zero : ∀ (k i : Nat) (l : List UInt8) (n m : Nat), getV k i l = some (n, m) → 0 < i → 0 < n
 | 0, _, _, _, _, h, _ => by simp [getV] at h
 | _ + 1, _, [], _, _, h, _ => by simp [getV] at h
 | k + 1, i, c :: r, n, m, h, hi => by
  rw [getV] at h
  split at h
  ·rename_i hc
   cases hg : getV k (i + 1) r with
   | none => rw [hg] at h; cases h
   | some x =>
    obtain ⟨n', m'⟩ := x; rw [hg] at h; simp only [Option.some.injEq, Prod.mk.injEq] at h; have := getV_zero k (i + 1) r n' m' hg (by omega); omega
  ·split at h
   ·cases h
   ·rename_i h1 h2; simp only [Option.some.injEq, Prod.mk.injEq] at h; omega
theorem getV_put : ∀ (k i : Nat) (l : List UInt8) (n m : Nat), getV k i l = some (n, m) → l = putN n ++ l.drop m ∧ m = (putN n).length ∧ n < 128 ^ k
 | 0, _, _, _, _, h => by simp [getV] at h
 | _ + 1, _, [], _, _, h => by simp [getV] at h
 | k + 1, i, c :: r, n, m, h => by
  rw [getV] at h; have hc := c.toNat_lt
  split at h
  ·rename_i h1
   cases hg : getV k (i + 1) r with
   | none => rw [hg] at h; cases h
   | some x =>
    obtain ⟨n', m'⟩ := x; rw [hg] at h; simp only [Option.some.injEq, Prod.mk.injEq] at h; have h0 := getV_zero k (i + 1) r n' m' hg (by omega); obtain ⟨e1, e2, e3⟩ := getV_put k (i + 1) r n' m' hg; obtain ⟨hn, hm⟩ := h; have hq : n / 128 = n' := by omega
    have hr : n % 128 + 128 = c.toNat := by omega
    rw [putN_big (by omega), hq, hr, ← hm]; refine ⟨?_, by simp [e2], ?_⟩
    ·rw [List.drop_succ_cons, List.cons_append, ← e1]
     congr 1
     exact UInt8.toNat_inj.1 (by rw [toNat_of (by omega)])
    ·rw [Nat.pow_succ]; omega
  ·split at h
   ·cases h
   ·simp only [Option.some.injEq, Prod.mk.injEq] at h; obtain ⟨hn, hm⟩ := h; rw [putN_small (by omega), ← hm, ← hn]; refine ⟨?_, rfl, ?_⟩
    ·simp
    ·have : 1 ≤ 128 ^ k := Nat.one_le_pow _ _ (by decide); rw [Nat.pow_succ]; omega
theorem getV_of : ∀ (k i n : Nat) (r : List UInt8), 0 < k → n < 128 ^ k → (0 < i → 0 < n) → getV k i (putN n ++ r) = some (n, (putN n).length)
 | 0, _, _, _, h, _, _ => by omega
 | k + 1, i, n, r, _, h, hi => by
  by_cases h1 : n < 128
  ·rw [putN_small h1]; show getV (k + 1) i (UInt8.ofNat n :: r) = _; rw [getV, toNat_of (by omega), if_neg (by omega)]; by_cases h2 : n = 0 ∧ 0 < i
   ·exact absurd (hi h2.2) (by omega)
   ·rw [if_neg h2]; rfl
  ·rw [putN_big (by omega)]; show getV (k + 1) i (UInt8.ofNat (n % 128 + 128) :: (putN (n / 128) ++ r)) = _; have hk : 0 < k := by
    rcases Nat.eq_zero_or_pos k with e | e
    ·subst e; simp at h; omega
    ·exact e
   have ih := getV_of k (i + 1) (n / 128) r hk (by rw [Nat.pow_succ] at h; omega) (by omega); rw [getV, toNat_of (by omega), if_pos (by omega), ih]; simp only [Option.some.injEq, Prod.mk.injEq, List.length_cons, and_true]; omega
theorem putN_pos (n : Nat) : 0 < (putN n).length := by
 by_cases h : n < 128
 ·rw [putN_small h]; simp
 ·rw [putN_big (by omega)]; simp
theorem drop_app {b p r : List UInt8} {i : Nat} (h : b.drop i = p ++ r) : b.drop (i + p.length) = r := by
 rw [← List.drop_drop, h, List.drop_left]
theorem getN_of {b r : List UInt8} {i n : Nat} (h : b.drop i = putN n ++ r) (hn : n < 128 ^ 9) : getN b i = some (n, i + (putN n).length) := by
 rw [getN, h, getV_of 9 0 n r (by decide) hn (by omega)]
theorem getN_put {b : List UInt8} {i n j : Nat} (h : getN b i = some (n, j)) : b.drop i = putN n ++ b.drop j ∧ j = i + (putN n).length ∧ n < 128 ^ 9 := by
 unfold getN at h
 cases hg : getV 9 0 (b.drop i) with
 | none => rw [hg] at h; cases h
 | some x =>
  obtain ⟨n', m⟩ := x; rw [hg] at h; simp only [Option.some.injEq, Prod.mk.injEq] at h; obtain ⟨rfl, rfl⟩ := h; obtain ⟨e1, e2, e3⟩ := getV_put 9 0 _ _ _ hg; rw [List.drop_drop] at e1; exact ⟨e1, by rw [e2], e3⟩
theorem getT_of {b r s : List UInt8} {i : Nat} (h : b.drop i = putT s ++ r) (hn : s.length < 128 ^ 9) : getT b i = some (s, i + (putT s).length) := by
 rw [putT, List.append_assoc] at h; rw [getT, getN_of h hn]; have h2 := drop_app h; have h3 : (b.drop (i + (putN s.length).length)).length = (s ++ r).length := by rw [h2]
 rw [List.length_drop, List.length_append] at h3; show (if s.length ≤ b.length - (i + (putN s.length).length) then _ else _) = _; rw [if_pos (by omega), h2, List.take_left, putT, List.length_append, Nat.add_assoc]
theorem getT_put {b s : List UInt8} {i j : Nat} (h : getT b i = some (s, j)) : b.drop i = putT s ++ b.drop j ∧ j = i + (putT s).length ∧ s.length < 128 ^ 9 := by
 unfold getT at h
 cases hg : getN b i with
 | none => rw [hg] at h; cases h
 | some x =>
  obtain ⟨n, k⟩ := x; rw [hg] at h; simp only at h
  split at h
  ·rename_i hl; simp only [Option.some.injEq, Prod.mk.injEq] at h; obtain ⟨rfl, rfl⟩ := h; obtain ⟨e1, e2, e3⟩ := getN_put hg; have hlen : ((b.drop k).take n).length = n := by simp; omega
   rw [putT, hlen]; refine ⟨?_, ?_, e3⟩
   ·rw [List.append_assoc, e1, ← List.drop_drop, List.take_append_drop]
   ·rw [List.length_append, hlen, e2]; omega
  ·cases h
theorem getTs_of {b r : List UInt8} : ∀ {l : List (List UInt8)} {i : Nat}, b.drop i = l.flatMap putT ++ r → (∀ s ∈ l, s.length < 128 ^ 9) → getTs b l.length i = some (l, i + (l.flatMap putT).length)
 | [], i, _, _ => by simp [getTs]
 | s :: l, i, h, hs => by
  rw [List.flatMap_cons, List.append_assoc] at h; rw [List.length_cons, getTs, getT_of h (hs s (List.mem_cons_self ..))]; simp only; rw [getTs_of (drop_app h) fun s h => hs s (List.mem_cons_of_mem _ h)]; simp [Nat.add_assoc]
theorem getTs_put {b : List UInt8} : ∀ {n : Nat} {l : List (List UInt8)} {i j : Nat}, getTs b n i = some (l, j) → b.drop i = l.flatMap putT ++ b.drop j ∧ j = i + (l.flatMap putT).length ∧ l.length = n ∧ (∀ s ∈ l, s.length < 128 ^ 9)
 | 0, l, i, j, h => by
  simp only [getTs, Option.some.injEq, Prod.mk.injEq] at h; obtain ⟨rfl, rfl⟩ := h
  simp
 | n + 1, l, i, j, h => by
  rw [getTs] at h
  cases hg : getT b i with
  | none => rw [hg] at h; cases h
  | some x =>
   obtain ⟨s, k⟩ := x; rw [hg] at h; simp only at h
   cases hg2 : getTs b n k with
   | none => rw [hg2] at h; cases h
   | some y =>
    obtain ⟨l', m⟩ := y; rw [hg2] at h; simp only [Option.some.injEq, Prod.mk.injEq] at h; obtain ⟨rfl, rfl⟩ := h; obtain ⟨e1, e2, e3⟩ := getT_put hg; obtain ⟨f1, f2, f3, f4⟩ := getTs_put hg2; refine ⟨?_, ?_, by simp [f3], fun s' h' => ?_⟩
    ·rw [List.flatMap_cons, List.append_assoc, ← f1]; exact e1
    ·rw [List.flatMap_cons, List.length_append]; omega
    ·rcases List.mem_cons.1 h' with rfl | h'
     ·exact e3
     ·exact f4 s' h'
theorem putT_pos (s : List UInt8) : 0 < (putT s).length := by
 have := putN_pos s.length; rw [putT, List.length_append]; omega
theorem texts_len : ∀ (l : List (List UInt8)), l.length ≤ (l.flatMap putT).length
 | [] => by simp
 | s :: l => by
  have := texts_len l; have := putT_pos s; rw [List.flatMap_cons, List.length_append, List.length_cons]; omega
theorem getL_of {b r : List UInt8} {l : List (List UInt8)} {i : Nat} (h : b.drop i = putL l ++ r) (hl : l.length < 128 ^ 9) (hs : ∀ s ∈ l, s.length < 128 ^ 9) : getL b i = some (l, i + (putL l).length) := by
 rw [putL, List.append_assoc] at h; rw [getL, getN_of h hl]; have h2 := drop_app h; have h3 : (b.drop (i + (putN l.length).length)).length = (l.flatMap putT ++ r).length := by rw [h2]
 rw [List.length_drop, List.length_append] at h3; have := texts_len l; show (if l.length ≤ b.length - (i + (putN l.length).length) then _ else _) = _; rw [if_pos (by omega), getTs_of h2 hs, putL, List.length_append, Nat.add_assoc]
theorem getL_put {b : List UInt8} {l : List (List UInt8)} {i j : Nat} (h : getL b i = some (l, j)) : b.drop i = putL l ++ b.drop j ∧ j = i + (putL l).length ∧ l.length < 128 ^ 9 ∧ ∀ s ∈ l, s.length < 128 ^ 9 := by
 unfold getL at h
 cases hg : getN b i with
 | none => rw [hg] at h; cases h
 | some x =>
  obtain ⟨n, k⟩ := x; rw [hg] at h; simp only at h
  split at h
  ·obtain ⟨e1, e2, e3⟩ := getN_put hg; obtain ⟨f1, f2, f3, f4⟩ := getTs_put h; rw [putL, f3]; refine ⟨?_, ?_, e3, f4⟩
   ·rw [List.append_assoc, ← f1]; exact e1
   ·rw [List.length_append]; omega
  ·cases h
theorem getL_free {b : List UInt8} {i : Nat} : getL b i = match getN b i with
  | none => none
  | some (n, j) => getTs b n j := by
 unfold getL
 cases hg : getN b i with
 | none => rfl
 | some x =>
  obtain ⟨n, k⟩ := x; simp only
  split
  ·rfl
  ·rename_i hl
   cases h : getTs b n k with
   | none => rfl
   | some y =>
    obtain ⟨l, j⟩ := y; obtain ⟨f1, f2, f3, f4⟩ := getTs_put h; have := texts_len l; have h3 : (b.drop k).length = (l.flatMap putT ++ b.drop j).length := by rw [← f1]
    rw [List.length_drop, List.length_append] at h3; omega
def textR : Elem (List UInt8) := fun _ _ cs s => cs = [str s] ∧ s.length ≤ 1000000
abbrev TextsQ (ok : Addr → Prop) : World → Value → List (List UInt8) → Prop := ListR 1 ok textR
abbrev any1 : Addr → Prop := fun _ => True
abbrev TextsR := TextsQ any1
theorem TextsQ.chg {S : List Nat} {ok : Addr → Prop} {w w' : World} {v : Value} {l : List (List UInt8)} (h : TextsQ ok w v l) (x : Chg S w w') (hs : l ≠ [] → ∀ a, ok a → a.block ∉ S) : TextsQ ok w' v l := ListR.chg h x hs fun _ _ _ _ h => h
theorem TextsQ.ext {ok : Addr → Prop} {w w' : World} {v : Value} {l : List (List UInt8)} (h : TextsQ ok w v l) (x : Ext w w') : TextsQ ok w' v l := TextsQ.chg h x (by simp)
theorem TextsQ.at {ok : Addr → Prop} {w : World} {p : Option Addr} {c : Nat} {l : List (List UInt8)} (h : TextsQ ok w (.slice p l.length c) l) {i : Nat} {s : List UInt8} (hi : l[i]? = some s) : ∃ a, p = some a ∧ ok a ∧ s.length ≤ 1000000 ∧ w.cell? (a.add (((i : Nat) : Int).toNat * 1)) = some (str s) := by
 obtain ⟨a, u, h1, h2, ⟨h3, h4⟩, h5⟩ := h.at1 hi; simp only [List.cons.injEq, and_true] at h3; subst h3; exact ⟨a, h1, h2, h4, h5⟩
structure ObjD where
 kind : Int
 rows : List (List (List UInt8))
 name : List UInt8
 cols : Int
 kids : List (List UInt8)
 parents : List (List UInt8)
 note : List UInt8
deriving DecidableEq
def idsB (l : List (List UInt8)) : Bool := l.all fun s => decide (s.length = 32)
noncomputable def chunkB (l : List (List (List UInt8))) : Bool := decide (1 ≤ l.length) && decide (l.length ≤ 4) && decide ((l.headD []).length ≤ 12) && l.all fun r => decide (r.length = (l.headD []).length) && r.all mayC
noncomputable def mayO (o : ObjD) : Bool :=
 idsB o.kids && idsB o.parents &&
 (if o.kind = 1 then decide (o.parents = []) && decide (o.note = []) && (decide (o.name = []) && decide (o.cols = 0)) && decide (o.kids = []) && chunkB o.rows
 else if o.kind = 2 then decide (o.parents = []) && decide (o.note = []) && decide (o.rows = []) && nameB o.name && decide (0 ≤ o.cols) && decide (o.cols ≤ 12) && decide (o.kids.length ≤ 6)
 else if o.kind = 3 then decide (o.parents = []) && decide (o.note = []) && decide (o.rows = []) && (decide (o.name = []) && decide (o.cols = 0)) && decide (o.kids.length ≤ 5)
 else if o.kind = 4 then decide (o.rows = []) && (decide (o.name = []) && decide (o.cols = 0)) && decide (o.kids.length = 1) && decide (o.parents.length ≤ 2) && decide (o.note.length ≤ 60)
 else false)
def bytesO (o : ObjD) : List UInt8 := putN o.kind.toNat ++
 (if o.kind = 1 then putN o.rows.length ++ o.rows.flatMap putL
 else if o.kind = 2 then putT o.name ++ putN o.cols.toNat ++ putL o.kids
 else if o.kind = 3 then putL o.kids
 else putL o.kids ++ putL o.parents ++ putT o.note)
noncomputable def putO (o : ObjD) : List UInt8 := if mayO o then bytesO o else []
def getRows (b : List UInt8) : Nat → Nat → Option (List (List (List UInt8)) × Nat)
 | 0, j => some ([], j)
 | n + 1, j => match getL b j with
  | none => none
  | some (s, k) => match getRows b n k with
   | none => none
   | some (l, m) => some (s :: l, m)
def obj0 (k : Int) : ObjD := ⟨k, [], [], 0, [], [], []⟩
def readO (b : List UInt8) : Option (ObjD × Nat) := match getN b 0 with
 | none => none
 | some (k, i) =>
  if k = 1 then (match getN b i with
   | none => none
   | some (n, j) => match getRows b (min n 5) j with
    | none => none
    | some (l, m) => some ({ obj0 1 with rows := l }, m))
  else if k = 2 then (match getT b i with
   | none => none
   | some (s, j) => match getN b j with
    | none => none
    | some (n, m) => match getL b m with
     | none => none
     | some (l, p) => some ({ obj0 2 with name := s, cols := n, kids := l }, p))
  else if k = 3 then (match getL b i with
   | none => none
   | some (l, p) => some ({ obj0 3 with kids := l }, p))
  else if k = 4 then (match getL b i with
   | none => none
   | some (l, j) => match getL b j with
    | none => none
    | some (u, m) => match getT b m with
     | none => none
     | some (s, p) => some ({ obj0 4 with kids := l, parents := u, note := s }, p))
  else some (obj0 k, i)
noncomputable def getO (b : List UInt8) : Option ObjD := match readO b with
 | none => none
 | some (o, p) => if p = b.length ∧ mayO o = true then some o else none
theorem getRows_of {b r : List UInt8} : ∀ {l : List (List (List UInt8))} {i : Nat}, b.drop i = l.flatMap putL ++ r → (∀ x ∈ l, x.length < 128 ^ 9 ∧ ∀ s ∈ x, s.length < 128 ^ 9) → getRows b l.length i = some (l, i + (l.flatMap putL).length)
 | [], i, _, _ => by simp [getRows]
 | s :: l, i, h, hs => by
  rw [List.flatMap_cons, List.append_assoc] at h; obtain ⟨h1, h2⟩ := hs s (List.mem_cons_self ..); rw [List.length_cons, getRows, getL_of h h1 h2]; simp only; rw [getRows_of (drop_app h) fun s h => hs s (List.mem_cons_of_mem _ h)]; simp [Nat.add_assoc]
theorem getRows_put {b : List UInt8} : ∀ {n : Nat} {l : List (List (List UInt8))} {i j : Nat}, getRows b n i = some (l, j) → b.drop i = l.flatMap putL ++ b.drop j ∧ l.length = n ∧ j = i + (l.flatMap putL).length
 | 0, l, i, j, h => by
  simp only [getRows, Option.some.injEq, Prod.mk.injEq] at h; obtain ⟨rfl, rfl⟩ := h
  simp
 | n + 1, l, i, j, h => by
  rw [getRows] at h
  cases hg : getL b i with
  | none => rw [hg] at h; cases h
  | some x =>
   obtain ⟨s, k⟩ := x; rw [hg] at h; simp only at h
   cases hg2 : getRows b n k with
   | none => rw [hg2] at h; cases h
   | some y =>
    obtain ⟨l', m⟩ := y; rw [hg2] at h; simp only [Option.some.injEq, Prod.mk.injEq] at h; obtain ⟨rfl, rfl⟩ := h; obtain ⟨e1, e2, -, -⟩ := getL_put hg; obtain ⟨f1, f2, f3⟩ := getRows_put hg2; refine ⟨?_, by simp [f2], ?_⟩
    ·rw [List.flatMap_cons, List.append_assoc, ← f1]; exact e1
    ·rw [List.flatMap_cons, List.length_append]; omega
theorem ids_small {l : List (List UInt8)} (h : idsB l = true) : ∀ s ∈ l, s.length < 128 ^ 9 := fun s hs => by
 have := List.all_eq_true.1 h s hs; rw [of_decide_eq_true this]; decide
theorem mayC_len300 {s : List UInt8} (h : mayC s = true) : s.length ≤ 300 := by
 unfold mayC at h
 split at h
 ·cases h
 ·omega
theorem mayC_small {s : List UInt8} (h : mayC s = true) : s.length < 128 ^ 9 := Nat.lt_of_le_of_lt (mayC_len300 h) (by decide)
theorem nameB_small {s : List UInt8} (h : nameB s = true) : s.length < 128 ^ 9 := Nat.lt_of_le_of_lt (name_parts h).2.1 (by decide)
theorem small_of {n m : Nat} (h : n ≤ m) (hm : m < 128 ^ 9 := by decide) : n < 128 ^ 9 := Nat.lt_of_le_of_lt h hm
theorem chunk_small {l : List (List (List UInt8))} (h : chunkB l = true) : l.length ≤ 4 ∧ 1 ≤ l.length ∧ ∀ x ∈ l, x.length < 128 ^ 9 ∧ ∀ s ∈ x, s.length < 128 ^ 9 := by
 simp only [chunkB, Bool.and_eq_true, decide_eq_true_eq, List.all_eq_true] at h; obtain ⟨⟨⟨h1, h2⟩, h3⟩, h4⟩ := h; refine ⟨h2, h1, fun x hx => ⟨?_, fun s hs => mayC_small ((h4 x hx).2 s hs)⟩⟩; rw [(h4 x hx).1]; exact small_of h3
theorem may_kind {o : ObjD} (h : mayO o = true) : o.kind = 1 ∨ o.kind = 2 ∨ o.kind = 3 ∨ o.kind = 4 := by
 unfold mayO at h; by_cases h1 : o.kind = 1
 ·exact .inl h1
 by_cases h2 : o.kind = 2
 ·exact .inr (.inl h2)
 by_cases h3 : o.kind = 3
 ·exact .inr (.inr (.inl h3))
 by_cases h4 : o.kind = 4
 ·exact .inr (.inr (.inr h4))
 rw [if_neg h1, if_neg h2, if_neg h3, if_neg h4] at h; simp at h
theorem readO_of {o : ObjD} {r : List UInt8} (h : mayO o = true) : readO (bytesO o ++ r) = some (o, (bytesO o).length) := by
 obtain ⟨k, rows, name, cols, kids, parents, note⟩ := o; have h0 := h; unfold mayO at h; simp only [Bool.and_eq_true] at h; obtain ⟨⟨hk, hp⟩, h⟩ := h; have hks := ids_small hk; have hps := ids_small hp; rcases may_kind h0 with e | e | e | e <;> (simp only at e; subst e) <;> simp [-List.append_assoc] at h
 ·obtain ⟨⟨⟨⟨rfl, rfl⟩, rfl, rfl⟩, rfl⟩, h⟩ := h; obtain ⟨c1, c2, c3⟩ := chunk_small h; have e1 : getN (bytesO ⟨1, rows, [], 0, [], [], []⟩ ++ r) 0 = some (1, 0 + (putN 1).length) := getN_of (r := (putN rows.length ++ rows.flatMap putL) ++ r) (by simp [bytesO]) (by decide); have d1 : (bytesO ⟨1, rows, [], 0, [], [], []⟩ ++ r).drop (0 + (putN 1).length) = putN rows.length ++ (rows.flatMap putL ++ r) := drop_app (by simp [bytesO]); have e2 := getN_of d1 (small_of c1); have e3 := getRows_of (drop_app d1) c3; rw [readO, e1]; simp only [if_pos, e2]; rw [show min rows.length 5 = rows.length by omega, e3]; simp [obj0, bytesO, Nat.add_assoc]
 ·obtain ⟨⟨⟨⟨⟨⟨rfl, rfl⟩, rfl⟩, hn⟩, hc⟩, hc2⟩, hl⟩ := h; obtain ⟨c, rfl⟩ : ∃ c : Nat, cols = c := ⟨cols.toNat, by omega⟩; have e1 : getN (bytesO ⟨2, [], name, c, kids, [], []⟩ ++ r) 0 = some (2, 0 + (putN 2).length) := getN_of (r := (putT name ++ putN c ++ putL kids) ++ r) (by simp [bytesO]) (by decide); have d1 : (bytesO ⟨2, [], name, c, kids, [], []⟩ ++ r).drop (0 + (putN 2).length) = putT name ++ (putN c ++ (putL kids ++ r)) := drop_app (by simp [bytesO]); have e2 := getT_of d1 (nameB_small hn); have d2 := drop_app d1; have e3 := getN_of d2 (small_of (m := 12) (by omega)); have e4 := getL_of (drop_app d2) (small_of hl) hks; rw [readO, e1]; simp only [if_neg (show ¬ (2 : Nat) = 1 by decide), if_pos, e2, e3, e4]; simp [obj0, bytesO, Nat.add_assoc]
 ·obtain ⟨⟨⟨⟨rfl, rfl⟩, rfl⟩, rfl, rfl⟩, hl⟩ := h; have e1 : getN (bytesO ⟨3, [], [], 0, kids, [], []⟩ ++ r) 0 = some (3, 0 + (putN 3).length) := getN_of (r := putL kids ++ r) (by simp [bytesO]) (by decide); have d1 : (bytesO ⟨3, [], [], 0, kids, [], []⟩ ++ r).drop (0 + (putN 3).length) = putL kids ++ r := drop_app (by simp [bytesO]); have e4 := getL_of d1 (small_of hl) hks; rw [readO, e1]; simp only [if_neg (show ¬ (3 : Nat) = 1 by decide), if_neg (show ¬ (3 : Nat) = 2 by decide), if_pos, e4]; simp [obj0, bytesO]
 ·obtain ⟨⟨⟨⟨rfl, rfl, rfl⟩, hl⟩, hl2⟩, hn⟩ := h; have e1 : getN (bytesO ⟨4, [], [], 0, kids, parents, note⟩ ++ r) 0 = some (4, 0 + (putN 4).length) := getN_of (r := putL kids ++ putL parents ++ putT note ++ r) (by simp [bytesO]) (by decide); have d1 : (bytesO ⟨4, [], [], 0, kids, parents, note⟩ ++ r).drop (0 + (putN 4).length) = putL kids ++ (putL parents ++ (putT note ++ r)) := drop_app (by simp [bytesO]); have e2 := getL_of d1 (small_of (m := 1) (by omega)) hks; have d2 := drop_app d1; have e3 := getL_of d2 (small_of hl2) hps; have e4 := getT_of (drop_app d2) (small_of hn); rw [readO, e1]; simp only [if_neg (show ¬ (4 : Nat) = 1 by decide), if_neg (show ¬ (4 : Nat) = 2 by decide), if_neg (show ¬ (4 : Nat) = 3 by decide), if_pos, e2, e3, e4]; simp [obj0, bytesO, Nat.add_assoc]
theorem readO_put {b : List UInt8} {o : ObjD} {p : Nat} (h : readO b = some (o, p)) (hm : mayO o = true) : b = bytesO o ++ b.drop p ∧ p = (bytesO o).length := by
 unfold readO at h
 cases hg : getN b 0 with
 | none => rw [hg] at h; cases h
 | some x =>
 obtain ⟨k, i⟩ := x; rw [hg] at h; obtain ⟨a1, a2, -⟩ := getN_put hg; rw [List.drop_zero] at a1; simp only at h
 split at h
 ·rename_i hk; subst hk
  cases h2 : getN b i with
  | none => rw [h2] at h; cases h
  | some x =>
  obtain ⟨n, j⟩ := x; rw [h2] at h; simp only at h; obtain ⟨b1, b2, -⟩ := getN_put h2
  cases h3 : getRows b (min n 5) j with
  | none => rw [h3] at h; cases h
  | some x =>
  obtain ⟨l, m⟩ := x; rw [h3] at h; simp only [Option.some.injEq, Prod.mk.injEq] at h; obtain ⟨rfl, rfl⟩ := h; obtain ⟨c1, c2, c3⟩ := getRows_put h3; have hr : chunkB l = true := by
   simp only [mayO, obj0, Bool.and_eq_true] at hm
   simpa using hm.2
  have := chunk_small hr; have en : n = l.length := by omega
  subst en; refine ⟨?_, ?_⟩
  ·show b = bytesO ⟨1, l, [], 0, [], [], []⟩ ++ _; simp only [bytesO, if_pos]; rw [List.append_assoc, List.append_assoc, ← c1, ← b1]; exact a1
  ·have e : bytesO { obj0 1 with rows := l } = putN 1 ++ (putN l.length ++ l.flatMap putL) := rfl; rw [e, List.length_append, List.length_append]; omega
 split at h
 ·rename_i hk; subst hk
  cases h2 : getT b i with
  | none => rw [h2] at h; cases h
  | some x =>
  obtain ⟨s, j⟩ := x; rw [h2] at h; simp only at h; obtain ⟨b1, b2, -⟩ := getT_put h2
  cases h3 : getN b j with
  | none => rw [h3] at h; cases h
  | some x =>
  obtain ⟨n, m⟩ := x; rw [h3] at h; simp only at h; obtain ⟨c1, c2, -⟩ := getN_put h3
  cases h4 : getL b m with
  | none => rw [h4] at h; cases h
  | some x =>
  obtain ⟨l, q⟩ := x; rw [h4] at h; simp only [Option.some.injEq, Prod.mk.injEq] at h; obtain ⟨rfl, rfl⟩ := h; obtain ⟨d1, d2, -⟩ := getL_put h4; refine ⟨?_, ?_⟩
  ·show b = bytesO ⟨2, [], s, n, l, [], []⟩ ++ _; simp only [bytesO, if_neg (show ¬ (2 : Int) = 1 by decide), if_pos, Int.toNat_natCast]; rw [List.append_assoc, List.append_assoc, List.append_assoc, ← d1, ← c1, ← b1]; exact a1
  ·simp [bytesO, obj0]; omega
 split at h
 ·rename_i hk; subst hk
  cases h2 : getL b i with
  | none => rw [h2] at h; cases h
  | some x =>
  obtain ⟨l, q⟩ := x; rw [h2] at h; simp only [Option.some.injEq, Prod.mk.injEq] at h; obtain ⟨rfl, rfl⟩ := h; obtain ⟨b1, b2, -⟩ := getL_put h2; refine ⟨?_, ?_⟩
  ·show b = bytesO ⟨3, [], [], 0, l, [], []⟩ ++ _; simp only [bytesO, if_neg (show ¬ (3 : Int) = 1 by decide), if_neg (show ¬ (3 : Int) = 2 by decide), if_pos]; rw [List.append_assoc, ← b1]; exact a1
  ·simp [bytesO, obj0]; omega
 split at h
 ·rename_i hk; subst hk
  cases h2 : getL b i with
  | none => rw [h2] at h; cases h
  | some x =>
  obtain ⟨l, j⟩ := x; rw [h2] at h; simp only at h; obtain ⟨b1, b2, -⟩ := getL_put h2
  cases h3 : getL b j with
  | none => rw [h3] at h; cases h
  | some x =>
  obtain ⟨u, m⟩ := x; rw [h3] at h; simp only at h; obtain ⟨c1, c2, -⟩ := getL_put h3
  cases h4 : getT b m with
  | none => rw [h4] at h; cases h
  | some x =>
  obtain ⟨s, q⟩ := x; rw [h4] at h; simp only [Option.some.injEq, Prod.mk.injEq] at h; obtain ⟨rfl, rfl⟩ := h; obtain ⟨d1, d2, -⟩ := getT_put h4; refine ⟨?_, ?_⟩
  ·show b = bytesO ⟨4, [], [], 0, l, u, s⟩ ++ _; simp only [bytesO, if_neg (show ¬ (4 : Int) = 1 by decide), if_neg (show ¬ (4 : Int) = 2 by decide), if_neg (show ¬ (4 : Int) = 3 by decide)]; rw [List.append_assoc, List.append_assoc, List.append_assoc, ← d1, ← c1, ← b1]; exact a1
  ·simp [bytesO, obj0]; omega
 ·rename_i h1 h2 h3 h4; simp only [Option.some.injEq, Prod.mk.injEq] at h; obtain ⟨rfl, rfl⟩ := h; have := may_kind hm; simp only [obj0] at this; omega
theorem bytesO_pos (o : ObjD) : 0 < (bytesO o).length := by
 have := putN_pos o.kind.toNat; rw [bytesO, List.length_append]; omega
theorem getO_put {b : List UInt8} {o : ObjD} (h : getO b = some o) : mayO o = true ∧ putO o = b := by
 unfold getO at h
 cases hr : readO b with
 | none => rw [hr] at h; cases h
 | some x =>
  obtain ⟨o', p⟩ := x; rw [hr] at h; simp only at h
  split at h
  ·rename_i hc; obtain rfl := Option.some.inj h; refine ⟨hc.2, ?_⟩; obtain ⟨h1, h2⟩ := readO_put hr hc.2; rw [putO, if_pos hc.2]; rw [hc.1, List.drop_length, List.append_nil] at h1; exact h1.symm
  ·cases h
theorem getO_of {o : ObjD} (h : mayO o = true) : getO (putO o) = some o := by
 have := readO_of (r := []) h; rw [List.append_nil] at this; rw [getO, putO, if_pos h, this]; simp [h]
theorem getO_ref (b : List UInt8) : (match readO b with
  | none => none
  | some (o, _) => if b ≠ [] ∧ putO o = b then some o else none) = getO b := by
 cases hg : getO b with
 | some o =>
  obtain ⟨h1, h2⟩ := getO_put hg; have h3 : readO b = some (o, b.length) := by
   rw [← h2, putO, if_pos h1]; have := readO_of (r := []) h1
   rwa [List.append_nil] at this
  rw [h3]; have h4 : b ≠ [] := by
   rw [← h2, putO, if_pos h1]; exact List.length_pos_iff.1 (bytesO_pos o)
  simp [h2, h4]
 | none =>
  cases hr : readO b with
  | none => rfl
  | some x =>
   obtain ⟨o, p⟩ := x; simp only; by_cases hc : b ≠ [] ∧ putO o = b
   ·exfalso; have hm : mayO o = true := by
     cases hm : mayO o with
     | true => rfl
     | false => rw [putO, hm] at hc; exact absurd hc.2.symm hc.1
    have h5 := getO_of hm; rw [hc.2, hg] at h5; cases h5
   ·rw [if_neg hc]
theorem getO_long {o : ObjD} {r : List UInt8} (h : mayO o = true) (hr : r ≠ []) : getO (putO o ++ r) = none := by
 rw [getO, putO, if_pos h, readO_of h]; have := List.length_pos_iff.2 hr; simp only [List.length_append]; rw [if_neg (by omega)]
theorem getO_cut {o : ObjD} {r : List UInt8} {b : List UInt8} (h : mayO o = true) (hb : b ++ r = putO o) (hr : r ≠ []) : getO b = none := by
 cases hg : getO b with
 | none => rfl
 | some o' =>
  obtain ⟨h1, h2⟩ := getO_put hg; have h3 := getO_long h1 hr; rw [h2, hb, getO_of h] at h3; cases h3
def byteR : Elem UInt8 := fun _ _ cs b => cs = [.int .u8 (b.toNat : Int)]
abbrev BytesQ (ok : Addr → Prop) : World → Value → List UInt8 → Prop := ListR 1 ok byteR
abbrev BytesR : World → Value → List UInt8 → Prop := BytesQ fun _ => True
abbrev BytesO (lo : Nat) (w : World) (v : Value) (l : List UInt8) : Prop := Own w lo 5 1 v l.length (bcells l)
theorem BytesQ.chg {S : List Nat} {ok : Addr → Prop} {w w' : World} {v : Value} {l : List UInt8} (h : BytesQ ok w v l) (x : Chg S w w') (hs : ∀ a, ok a → a.block ∉ S) : BytesQ ok w' v l := ListR.chg h x (fun _ => hs) fun _ _ _ _ h => h
theorem BytesQ.ext {ok : Addr → Prop} {w w' : World} {v : Value} {l : List UInt8} (h : BytesQ ok w v l) (x : Ext w w') : BytesQ ok w' v l := h.chg x (by simp)
theorem BytesQ.of {ok : Addr → Prop} {w : World} {v : Value} {l : List UInt8} (h : BytesQ ok w v l) : BytesR w v l := ListR.map h (fun _ _ => trivial) fun _ _ _ _ h => h
theorem BytesQ.at {ok : Addr → Prop} {w : World} {p : Option Addr} {c : Nat} {l : List UInt8} (h : BytesQ ok w (.slice p l.length c) l) {i : Nat} {b : UInt8} (hi : l[i]? = some b) : ∃ a, p = some a ∧ ok a ∧ w.cell? (a.add (((i : Nat) : Int).toNat * 1)) = some (.int .u8 (b.toNat : Int)) := by
 obtain ⟨a, u, h1, h2, h3, h5⟩ := h.at1 hi; simp only [byteR, List.cons.injEq, and_true] at h3; subst h3; exact ⟨a, h1, h2, h5⟩
theorem bcells_get {l : List UInt8} {j : Nat} : (bcells l)[j]? = (l[j]?).map fun b => .int .u8 (b.toNat : Int) := by simp [bcells]
theorem bcells_len' (l : List UInt8) : (bcells l).length = l.length := by simp [bcells]
theorem bcells_app (l m : List UInt8) : bcells (l ++ m) = bcells l ++ bcells m := by simp [bcells]
theorem bcells_one (l : List UInt8) : ∀ u ∈ bcells l, u.oneCell' = true := fun u hu => by
 simp only [bcells, List.mem_map] at hu; obtain ⟨b, _, rfl⟩ := hu; rfl
theorem BytesQ.cells {ok : Addr → Prop} {w : World} {p : Option Addr} {c : Nat} {l : List UInt8} (h : BytesQ ok w (.slice p l.length c) l) : p = none ∧ l.length = 0 ∨ ∃ a, p = some a ∧ ∀ j u, (bcells l)[j]? = some u → w.cell? (a.add j) = some u := by
 obtain ⟨h0, ⟨e, e2⟩ | ⟨a, c', e, hk, h⟩⟩ := h
 ·simp only [Value.slice.injEq] at e; exact .inl ⟨e.1, by rw [e2]; rfl⟩
 ·simp only [Value.slice.injEq] at e; refine .inr ⟨a, e.1, fun j u hj => ?_⟩; rw [bcells_get] at hj
  cases hl : l[j]? with
  | none => rw [hl] at hj; cases hj
  | some x =>
   rw [hl] at hj; simp only [Option.map_some, Option.some.injEq] at hj; subst hj; obtain ⟨cs, h1, h2, h3⟩ := h j x hl; rw [byteR] at h2; subst h2; have := h3 0 _ rfl
   rwa [add_zero', Nat.mul_one] at this
theorem BytesO.list {lo : Nat} {w : World} {v : Value} {l : List UInt8} (h : BytesO lo w v l) (hl : l.length ≤ 1000000) : BytesQ (fun a => lo ≤ a.block) w v l := by
 obtain ⟨hx, ⟨rfl, e⟩ | ⟨g, cap, sp, rfl, hB, h1, h2, h3⟩⟩ := h
 ·have : l = [] := List.eq_nil_of_length_eq_zero e; subst this; exact ListR.nil
 ·refine ⟨hl, .inr ⟨⟨g, 0, none⟩, cap, rfl, fun _ => h3, fun i b hi => ⟨_, rfl, rfl, fun j u hj => ?_⟩⟩⟩; have hj0 : j = 0 := by have := (List.getElem?_eq_some_iff.1 hj).1; simp at this; exact this
  subst hj0; simp only [List.getElem?_cons_zero, Option.some.injEq] at hj; subst hj; rw [add_addr, add_addr]; refine hB.cell ?_; have hil := (List.getElem?_eq_some_iff.1 hi).1; rw [show 0 + i * 1 + 0 = i by omega, List.getElem?_append_left (by rw [bcells_len']; exact hil), bcells_get, hi]; rfl
theorem BytesQ.bound {ok : Addr → Prop} {w : World} {v : Value} {l : List UInt8} (h : BytesQ ok w v l) : BytesQ (fun a => ok a ∧ a.block < w.heap.size) w v l := by
 have h0 := h; obtain ⟨k0, ⟨e1, e2⟩ | ⟨a, c, e1, h2, h3⟩⟩ := h
 ·exact ⟨k0, .inl ⟨e1, e2⟩⟩
 ·refine ⟨k0, .inr ⟨a, c, e1, fun hn => ⟨h2 hn, ?_⟩, h3⟩⟩; obtain ⟨a', c', e3, h4⟩ := h0.lt (by omega) hn; rw [e1] at e3; simp only [Value.slice.injEq, Option.some.injEq] at e3; rw [e3.1]; exact h4
theorem BytesQ.drop {ok ok' : Addr → Prop} {w : World} {p : Option Addr} {m c i : Nat} {l : List UInt8} (h : BytesQ ok w (.slice p m c) l) (hi : i ≤ m) (ho : ∀ a, ok a → ok' (a.add i)) (hc : m ≤ c) : BytesQ ok' w (.slice (if c = i then p else p.map (·.add (i * 1))) (m - i) (c - i)) (l.drop i) := by
 obtain ⟨h0, ⟨e, e2⟩ | ⟨a, c', e, hk, h⟩⟩ := h
 ·simp only [Value.slice.injEq] at e; obtain ⟨rfl, rfl, rfl⟩ := e; obtain rfl : i = 0 := by omega
  subst e2; exact ⟨by simp, .inl ⟨rfl, rfl⟩⟩
 ·simp only [Value.slice.injEq] at e; obtain ⟨rfl, rfl, rfl⟩ := e; refine ⟨by simp; omega, ?_⟩; by_cases hci : c = i
  ·subst hci; have hm : l.length = c := by omega
   rw [if_pos rfl]; exact .inr ⟨a, c - c, by simp, fun hn => absurd (by simp; omega) hn, fun j b hj => by
    have := (List.getElem?_eq_some_iff.1 hj).1; rw [List.length_drop] at this; omega⟩
  ·rw [if_neg hci]; refine .inr ⟨a.add i, c - i, by simp, fun hn => ho a (hk fun e => by rw [e] at hn; simp at hn), fun j b hj => ?_⟩; rw [List.getElem?_drop] at hj; obtain ⟨cs, h1, h2, h3⟩ := h (i + j) b hj; refine ⟨cs, h1, h2, fun q u hq => ?_⟩; have := h3 q u hq; rw [show (a.add i).add (j * 1) = a.add ((i + j) * 1) by
    have : ∀ (a : Addr) (i j : Nat), (a.add i).add j = a.add (i + j) := fun a i j => by
     unfold Addr.add; by_cases h1 : i = 0 <;> by_cases h2 : j = 0 <;> simp [h1, h2] <;> omega
    rw [this]
    congr 1
    omega]
   exact this
theorem BytesQ.take {ok : Addr → Prop} {w : World} {p : Option Addr} {m c i : Nat} {l : List UInt8} (h : BytesQ ok w (.slice p m c) l) (hi : i ≤ m) : BytesQ ok w (.slice p i c) (l.take i) := by
 obtain ⟨h0, ⟨e, e2⟩ | ⟨a, c', e, hk, h⟩⟩ := h
 ·simp only [Value.slice.injEq] at e; obtain ⟨rfl, rfl, rfl⟩ := e; obtain rfl : i = 0 := by omega
  subst e2; exact ⟨by simp, .inl ⟨rfl, rfl⟩⟩
 ·simp only [Value.slice.injEq] at e; obtain ⟨rfl, rfl, rfl⟩ := e; refine ⟨by simp; omega, .inr ⟨a, c, by rw [List.length_take, Nat.min_eq_left hi], fun hn => hk fun e => by rw [e] at hn; simp at hn, fun j b hj => ?_⟩⟩; have hjl := (List.getElem?_eq_some_iff.1 hj).1; rw [List.length_take] at hjl; rw [List.getElem?_take_of_lt (by omega)] at hj; exact h j b hj
def toB (zs : List Int) : List UInt8 := zs.map fun z => UInt8.ofNat z.toNat
theorem InS.bytes {w : World} {v : Value} {zs : List Int} (h : InS .u8 w v zs) (hz : ∀ z ∈ zs, 0 ≤ z ∧ z ≤ 255) (hl : zs.length ≤ 1000000) : BytesR w v (toB zs) := by
 obtain ⟨_, ⟨rfl, rfl⟩ | ⟨a, c, rfl, hc⟩⟩ := h
 ·exact ListR.nil
 ·refine ⟨by simp [toB]; exact hl, .inr ⟨a, c, by simp [toB], fun _ => trivial, fun i b hi => ⟨_, rfl, rfl, fun j u hj => ?_⟩⟩⟩; have hj0 : j = 0 := by have := (List.getElem?_eq_some_iff.1 hj).1; simp at this; exact this
  subst hj0; simp only [List.getElem?_cons_zero, Option.some.injEq] at hj; subst hj; simp only [toB, List.getElem?_map] at hi
  cases hzi : zs[i]? with
  | none => rw [hzi] at hi; cases hi
  | some z =>
   rw [hzi] at hi; simp only [Option.map_some, Option.some.injEq] at hi; subst hi; have h1 := hz z (List.mem_of_getElem? hzi); rw [add_zero', Nat.mul_one, hc i z hzi]; have : (UInt8.ofNat z.toNat).toNat = z.toNat := by simp; omega
   rw [this]
   congr 2
   omega
def Tr.fitB : {b : Bool} → Tr b → Bool
 | _, .leaf n => decide (1 ≤ n.kind) && decide (n.kind ≤ 6) && decide (n.kids = []) && plainB n
 | _, .neg a => a.fitB
 | _, .two k a b => decide (9 ≤ k) && decide (k ≤ 19) && a.fitB && b.fitB
 | _, .call x ks => nameF x && ks.fitB
 | _, .nil => true
 | _, .snoc ks a => ks.fitB && a.fitB
theorem Tr.fit_of : ∀ {b : Bool} (t : Tr b), t.fitB = true → t.Fit
 | _, .leaf n, h => by
  simp only [Tr.fitB, Bool.and_eq_true, decide_eq_true_eq] at h
  exact ⟨h.1.1.1, h.1.1.2, h.1.2, h.2⟩
 | _, .neg a, h => Tr.fit_of a h
 | _, .two k a b, h => by
  simp only [Tr.fitB, Bool.and_eq_true, decide_eq_true_eq] at h
  exact ⟨h.1.1.1, h.1.1.2, Tr.fit_of a h.1.2, Tr.fit_of b h.2⟩
 | _, .call x ks, h => by
  simp only [Tr.fitB, Bool.and_eq_true] at h
  exact ⟨h.1, Tr.fit_of ks h.2⟩
 | _, .nil, _ => trivial
 | _, .snoc ks a, h => by
  simp only [Tr.fitB, Bool.and_eq_true] at h; exact ⟨Tr.fit_of ks h.1, Tr.fit_of a h.2⟩
def Tr.numB {b : Bool} (t : Tr b) : Bool := t.toks.all fun k => decide (k.num ≤ 9223372036854775807)
theorem Tr.num_of' {b : Bool} {t : Tr b} (h : t.numB = true) : t.Num := fun k hk => by
 have := List.all_eq_true.1 h k hk
 simpa using this
def Tr.okB (t : Tr false) : Bool := t.fitB && t.numB && decide (t.text.length < 300) && decide (t.need ≤ 12)
theorem tree_may {t : Tr false} (hf : t.Fit) (hn : t.Num) (hl : t.text.length < 300) (hd : t.need ≤ 12) : mayC (61 :: t.text) = true := by
 have hp : parseT t.text = .ok (t.flat 0) := by rw [parseT_text t hf hn, if_neg (by omega), if_pos hd]
 rw [mayC, if_neg (by simp; omega), if_neg (by simp [byte]), if_pos (by simp [byte])]; show (match parseT t.text with | .error _ => false | .ok l => decide (printT l = t.text)) = true; rw [hp]; simp only; rw [printT_of hf]; simp
theorem okB_may {t : Tr false} (h : t.okB = true) : mayC (61 :: t.text) = true := by
 simp only [Tr.okB, Bool.and_eq_true, decide_eq_true_eq] at h; exact tree_may (t.fit_of h.1.1.1) (Tr.num_of' h.1.1.2) h.1.2 h.2
theorem may_itoa (n : Int) (b0 : -9223372036854775808 ≤ n) (b1 : n ≤ 9223372036854775807) : mayC (Lib.itoa n) = true := by
 obtain ⟨c1, c2, c3⟩ := numC_itoa b0 b1; have hlen := Lib.itoa_length_le n b0 b1; have n39 : ¬ (Lib.itoa n = [] ∨ byte (Lib.itoa n) 0 = 39) := by
  rintro (h | h)
  ·exact c2 h
  ·omega
 rw [mayC, if_neg (by omega), if_neg n39, if_neg (by omega), c1]; simp
def rfP (c r : Int) : RefD := ⟨[], c, r, false, false⟩
def lfR (x : RefD) : Tr false := .leaf { kind := 5, ref := x }
def lfN (z : Int) : Tr false := .leaf { kind := 1, num := z }
def trO (n : Nat) : Tr false := .two 16 (lfR (rfP 0 (n : Nat))) (lfN 1)
def cellO (n : Nat) : List UInt8 := if n % 4 = 0 then [] else if n % 4 = 1 then 39 :: Lib.itoa n else if n % 4 = 2 then Lib.itoa n else 61 :: (trO n).text
theorem trO_ok : ∀ n, n < 256 → (trO n).okB = true := by decide +kernel
theorem trO_text : ∀ n, n < 256 → 61 :: (trO n).text = [61, 65] ++ Lib.itoa ((1 + n : Nat) : Int) ++ [43, 49] := by decide +kernel
theorem cellO_len : ∀ n, n < 256 → (cellO n).length ≤ 40 := by decide +kernel
theorem cellO_may {n : Nat} (h : n < 256) : mayC (cellO n) = true := by
 unfold cellO
 split
 ·rw [mayC, if_neg (by simp), if_pos (.inl rfl)]
 split
 ·have := cellO_len n h; rename_i h1 h2; rw [cellO, if_neg h1, if_pos h2] at this; rw [mayC, if_neg (by omega), if_pos (.inr (by simp [byte]))]
 split
 ·exact may_itoa _ (by omega) (by omega)
 ·exact okB_may (trO_ok n h)
def idO (n : Nat) : List UInt8 := UInt8.ofNat n :: (List.replicate 30 0 ++ [UInt8.ofNat (n / 3)])
theorem idO_len (n : Nat) : (idO n).length = 32 := by simp [idO]
def cellAtO (zs : List Int) (k : Nat) : List UInt8 := match zs[k]? with
 | some z => cellO z.toNat
 | none => []
def rowO (zs : List Int) (C k : Nat) : List (List UInt8) := (List.range C).map fun c => cellAtO zs (k * C + c)
def kidsO (zs : List Int) (n : Nat) : List (List UInt8) := (zs.take n).map fun z => idO z.toNat
def colsO (k : Nat) : Nat := k / 4 % 4
def rowsO (k : Nat) : Nat := 1 + k / 16 % 4
def mkO (k : Nat) (zs : List Int) (t : List UInt8) : ObjD :=
 if k % 4 = 0 then { obj0 1 with rows := (List.range (rowsO k)).map (rowO zs (colsO k)) }
 else if k % 4 = 1 then { obj0 2 with name := 83 :: Lib.itoa k, cols := (k % 13 : Nat), kids := kidsO zs 5 }
 else if k % 4 = 2 then { obj0 3 with kids := kidsO zs 5 }
 else { obj0 4 with kids := [idO k], parents := kidsO zs 2, note := if t.length ≤ 60 then t else [] }
theorem cellAtO_may {zs : List Int} (hz : ∀ z ∈ zs, 0 ≤ z ∧ z ≤ 255) (k : Nat) : mayC (cellAtO zs k) = true := by
 unfold cellAtO
 split
 ·rename_i z h; have := hz z (List.mem_of_getElem? h); exact cellO_may (by omega)
 ·rw [mayC, if_neg (by simp), if_pos (.inl rfl)]
theorem kidsO_ids (zs : List Int) (n : Nat) : idsB (kidsO zs n) = true := by
 rw [idsB, List.all_eq_true]; intro s hs; simp only [kidsO, List.mem_map] at hs; obtain ⟨z, _, rfl⟩ := hs; simp [idO_len]
theorem kidsO_len (zs : List Int) (n : Nat) : (kidsO zs n).length ≤ n := by simp [kidsO]; omega
theorem nameS : ∀ k, k < 256 → nameB (83 :: Lib.itoa (k : Nat)) = true := by decide +kernel
theorem mkO_may {k : Nat} {zs : List Int} {t : List UInt8} (hk : k < 256) (hz : ∀ z ∈ zs, 0 ≤ z ∧ z ≤ 255) : mayO (mkO k zs t) = true := by
 have h5 := kidsO_ids zs 5; have h2 := kidsO_ids zs 2; have l5 := kidsO_len zs 5; have l2 := kidsO_len zs 2; have e0 : idsB [] = true := rfl; unfold mkO
 split
 ·have hr : chunkB ((List.range (rowsO k)).map (rowO zs (colsO k))) = true := by
   have hlen : ∀ r ∈ (List.range (rowsO k)).map (rowO zs (colsO k)), r.length = colsO k := fun r hr => by
    simp only [List.mem_map] at hr; obtain ⟨i, _, rfl⟩ := hr; simp [rowO]
   have hhd : (((List.range (rowsO k)).map (rowO zs (colsO k))).headD []).length = colsO k := by
    obtain ⟨n, hn⟩ : ∃ n, rowsO k = n + 1 := ⟨k / 16 % 4, by unfold rowsO; omega⟩; rw [hn, List.range_succ_eq_map]; simp [rowO]
   simp only [chunkB, Bool.and_eq_true, decide_eq_true_eq, List.all_eq_true, hhd, List.length_map, List.length_range]; refine ⟨⟨⟨by unfold rowsO; omega, by unfold rowsO; omega⟩, by unfold colsO; omega⟩, fun r hr => ⟨hlen r hr, fun c hc => ?_⟩⟩; simp only [List.mem_map] at hr; obtain ⟨i, _, rfl⟩ := hr; simp only [rowO, List.mem_map] at hc; obtain ⟨j, _, rfl⟩ := hc; exact cellAtO_may hz _
  simp [mayO, obj0, hr, e0]
 split
 ·simp [mayO, obj0, h5, e0, nameS k hk]; omega
 split
 ·simp [mayO, obj0, h5, e0]; omega
 ·have e : idsB [idO k] = true := by simp [idsB, idO_len]
  simp [mayO, obj0, h2, e, l2]
  split <;> (try simp) <;> omega
theorem or_tab : ∀ k, k < 256 → bits .or .u8 ((k : Nat) : Int) 128 = ((k % 128 + 128 : Nat) : Int) := by decide +kernel
theorem or128 (m : Nat) : bits .or .u8 ((UInt8.ofNat m).toNat : Int) 128 = ((UInt8.ofNat (m % 128 + 128)).toNat : Int) := by
 have e : (UInt8.ofNat m).toNat = m % 256 := by simp
 rw [e, or_tab _ (Nat.mod_lt _ (by decide)), toNat_of (by omega)]
 congr 1
 omega
theorem putN_len : ∀ (k n : Nat), 0 < k → n < 128 ^ k → (putN n).length ≤ k
 | 0, _, h, _ => by omega
 | k + 1, n, _, h => by
  by_cases h1 : n < 128
  ·rw [putN_small h1]; simp
  ·have hk : 0 < k := by
    rcases Nat.eq_zero_or_pos k with e | e
    ·subst e; simp at h; omega
    ·exact e
   rw [putN_big (by omega), List.length_cons]; have := putN_len k (n / 128) hk (by rw [Nat.pow_succ] at h; omega); omega
theorem putN_len10 {n : Nat} (h : n ≤ 9223372036854775807) : (putN n).length ≤ 10 := putN_len 10 n (by decide) (Nat.lt_of_le_of_lt h (by decide))
theorem putT_len {s : List UInt8} (h : s.length ≤ 1000000) : (putT s).length ≤ 1000010 := by
 have := putN_len10 (n := s.length) (by omega); rw [putT, List.length_append]; omega
theorem texts_bound : ∀ {l : List (List UInt8)}, (∀ s ∈ l, s.length ≤ 1000000) → (l.flatMap putT).length ≤ l.length * 1000010
 | [], _ => by simp
 | s :: l, h => by
  have := texts_bound (l := l) fun u hu => h u (List.mem_cons_of_mem _ hu); have := putT_len (h s (List.mem_cons_self ..)); rw [List.flatMap_cons, List.length_append, List.length_cons, Nat.add_mul]; omega
set_option maxRecDepth 8000 in
theorem Put_ret (n : Nat) (hn : n ≤ 9223372036854775807) (w : World) : Ret Tryz.prog 30 [.int .i64 (n : Int)] w (fun v w' => BytesO w.heap.size w' v (putN n) ∧ Ext w w') := by
 refine Rte Tryz.func30 Tryz.ntmps30 ?_; refine Su ?_; refine CW.loop (ι := Nat × List UInt8 × Value) (fun x w' => x.2.1 ++ putN x.1 = putN n ∧ x.1 ≤ n ∧ Ext w w' ∧ Own w' w.heap.size 5 1 x.2.2 x.2.1.length (bcells x.2.1)) (fun x => [(0, .int .i64 x.1), (3, x.2.2)]) (fun x => x.1) (n, [], .slice none 0 0) ⟨rfl, Nat.le_refl _, Chg.refl _ _, Own.nil _ _ _ _⟩ Sub2 ?_; rintro ⟨m, out, ov⟩ w1 ⟨heq, hmn, hx1, hO⟩; dsimp only at heq hmn hO; show CW _ _ _ _ _ [(0, .int .i64 (m : Int)), (3, ov)] _; have hol : out.length ≤ 10 := by
  have := congrArg List.length heq; rw [List.length_append] at this; have := putN_len10 hn; omega
 refine Su ?_; refine Cwc (fun h1 => ?_) fun h1 => ?_
 ·have h1 : 128 ≤ m := by simp at h1; omega
  refine Su ?_; refine LW.val rfl rfl rfl (Y.low (m := m) rfl rfl rfl rfl rfl) ?_; refine LW.bits (z := ((UInt8.ofNat (m % 128 + 128)).toNat : Int)) rfl rfl rfl (or128 m) rfl ?_; refine Lwl fun B w2 hbB hx2 hB => ?_; refine LW.append (lo := w.heap.size) (k := out.length) rfl rfl rfl rfl rfl rfl (hO.ext hx2) (by have := hx1.size; have := hx2.size; omega) hB rfl rfl rfl (by show (out.length + 1) * 2 ≤ _; omega) rfl ?_; intro v3 w3 hc3 hO3 hv3; replace hO3 : Own w3 w.heap.size 5 1 v3 (out.length + 1) (bcells out ++ bcells [UInt8.ofNat (m % 128 + 128)]) := hO3; rw [← bcells_app] at hO3; refine Su ?_; refine LW.shr (m := 7) (z := ((m / 128 : Nat) : Int)) rfl rfl (by decide) (by rw [show (2 : Int) ^ 7 = 128 by decide]; omega) rfl ?_; refine Su ?_; exact QW.again (m / 128, out ++ [UInt8.ofNat (m % 128 + 128)], v3) ⟨by
   rw [← heq, putN_big (n := m) h1]; simp, by show m / 128 ≤ n; omega, (hx1.trans hx2).step hc3 (fun b hb => by have := (hO.lt hb).1; omega), by
   show Own _ _ _ _ v3 (out ++ [UInt8.ofNat (m % 128 + 128)]).length _; rw [List.length_append]; exact hO3⟩ Sub2 (by show m / 128 < m; omega)
 have h1 : m < 128 := by simp at h1; omega
 refine Su ?_; refine Lwl fun B w2 hbB hx2 hB => ?_; replace hB : Blk w2 B (bcells [UInt8.ofNat m]) 5 := by
  have e : (m : Int) = ((UInt8.ofNat m).toNat : Int) := by rw [toNat_of (by omega)]
  rw [e] at hB; exact hB
 refine LW.append (lo := w.heap.size) (k := out.length) rfl rfl rfl rfl rfl rfl (hO.ext hx2) (by have := hx1.size; have := hx2.size; omega) hB rfl rfl rfl (by show (out.length + 1) * 2 ≤ _; omega) rfl ?_; intro v3 w3 hc3 hO3 hv3; rw [← bcells_app] at hO3; refine Su ?_; refine QW.body1 Tryz.results30 rfl ⟨?_, (hx1.trans hx2).step hc3 (fun b hb => by have := (hO.lt hb).1; omega)⟩; rw [← heq, putN_small h1]; show Own _ _ _ _ v3 (out ++ [UInt8.ofNat m]).length _; rw [List.length_append]; exact hO3
set_option maxRecDepth 8000 in
theorem rPut_ret (n : Nat) (hn : n ≤ 9223372036854775807) (w : World) : Ret Tryz.prog 32 [.int .i64 (n : Int)] w (fun v w' => BytesO w.heap.size w' v (putN n) ∧ Ext w w') := by
 refine Rte Tryz.func32 Tryz.ntmps32 ?_; refine Su ?_; refine CW.loop (ι := Nat × List UInt8 × Value) (fun x w' => x.2.1 ++ putN x.1 = putN n ∧ x.1 ≤ n ∧ Ext w w' ∧ Own w' w.heap.size 5 1 x.2.2 x.2.1.length (bcells x.2.1)) (fun x => [(0, .int .i64 x.1), (3, x.2.2)]) (fun x => x.1) (n, [], .slice none 0 0) ⟨rfl, Nat.le_refl _, Chg.refl _ _, Own.nil _ _ _ _⟩ Sub2 ?_; rintro ⟨m, out, ov⟩ w1 ⟨heq, hmn, hx1, hO⟩; dsimp only at heq hmn hO; show CW _ _ _ _ _ [(0, .int .i64 (m : Int)), (3, ov)] _; have hol : out.length ≤ 10 := by
  have := congrArg List.length heq; rw [List.length_append] at this; have := putN_len10 hn; omega
 refine Su ?_; refine Cwc (fun h1 => ?_) fun h1 => ?_
 ·have h1 : 128 ≤ m := by simp at h1; omega
  refine Su ?_; refine Lwl fun B w2 hbB hx2 hB => ?_; replace hB : Blk w2 B (bcells [UInt8.ofNat (m % 128 + 128)]) 5 := by
   have e : (128 + (m : Int) % 128) = ((UInt8.ofNat (m % 128 + 128)).toNat : Int) := by rw [toNat_of (by omega)]; omega
   rw [e] at hB; exact hB
  refine LW.append (lo := w.heap.size) (k := out.length) rfl rfl rfl rfl rfl rfl (hO.ext hx2) (by have := hx1.size; have := hx2.size; omega) hB rfl rfl rfl (by show (out.length + 1) * 2 ≤ _; omega) rfl ?_; intro v3 w3 hc3 hO3 hv3; rw [← bcells_app] at hO3; refine Su ?_; exact QW.again (m / 128, out ++ [UInt8.ofNat (m % 128 + 128)], v3) ⟨by
   rw [← heq, putN_big (n := m) h1]; simp, by show m / 128 ≤ n; omega, (hx1.trans hx2).step hc3 (fun b hb => by have := (hO.lt hb).1; omega), by
   show Own _ _ _ _ v3 (out ++ [UInt8.ofNat (m % 128 + 128)]).length _; rw [List.length_append]; exact hO3⟩ Sub2 (by show m / 128 < m; omega)
 have h1 : m < 128 := by simp at h1; omega
 refine Su ?_; refine Lwl fun B w2 hbB hx2 hB => ?_; replace hB : Blk w2 B (bcells [UInt8.ofNat m]) 5 := by
  have e : (m : Int) = ((UInt8.ofNat m).toNat : Int) := by rw [toNat_of (by omega)]
  rw [e] at hB; exact hB
 refine LW.append (lo := w.heap.size) (k := out.length) rfl rfl rfl rfl rfl rfl (hO.ext hx2) (by have := hx1.size; have := hx2.size; omega) hB rfl rfl rfl (by show (out.length + 1) * 2 ≤ _; omega) rfl ?_; intro v3 w3 hc3 hO3 hv3; rw [← bcells_app] at hO3; refine Su ?_; refine QW.body1 Tryz.results32 rfl ⟨?_, (hx1.trans hx2).step hc3 (fun b hb => by have := (hO.lt hb).1; omega)⟩; rw [← heq, putN_small h1]; show Own _ _ _ _ v3 (out ++ [UInt8.ofNat m]).length _; rw [List.length_append]; exact hO3
theorem BytesO.app {lo : Nat} {w : World} {v : Value} {l m : List UInt8} (h : Own w lo 5 1 v (l.length + m.length) (bcells l ++ bcells m)) : BytesO lo w v (l ++ m) := by
 show Own _ _ _ _ v (l ++ m).length _; rw [List.length_append, bcells_app]; exact h
theorem BytesO.bytes' {lo : Nat} {w : World} {p : Option Addr} {c : Nat} {l : List UInt8} (h : BytesO lo w (.slice p l.length c) l) : p = none ∧ l.length = 0 ∨ ∃ a, p = some a ∧ ∀ j u, (bcells l)[j]? = some u → w.cell? (a.add j) = some u := by
 obtain ⟨hx, ⟨e, e2⟩ | ⟨g, cap, sp, e, hB, h1, h2, h3⟩⟩ := h
 ·simp only [Value.slice.injEq] at e; exact .inl ⟨e.1, e2⟩
 ·simp only [Value.slice.injEq] at e; refine .inr ⟨_, e.1, fun j u hj => ?_⟩; rw [add_addr]; refine hB.cell ?_; rw [Nat.zero_add, List.getElem?_append_left (List.getElem?_eq_some_iff.1 hj).1]; exact hj
theorem PutText_ret (s : List UInt8) (hs : s.length ≤ 1000000) (w : World) : Ret Tryz.prog 82 [str s] w (fun v w' => BytesO w.heap.size w' v (putT s) ∧ Ext w w') := by
 refine Rte Tryz.func82 Tryz.ntmps82 ?_; refine Su ?_; refine Lc0 rfl rfl (Put_ret s.length (by omega) w) ?_; rintro v w1 ⟨hO, hx1⟩; obtain ⟨p, c, rfl⟩ := hO.slice; have := putN_len10 (n := s.length) (by omega); refine Su ?_; refine LW.append_str (k := (putN s.length).length) (xs := bcells (putN s.length)) (s := s) rfl rfl rfl rfl rfl rfl rfl rfl rfl hO hx1.size (by show ((putN s.length).length + s.length) * 2 ≤ _; omega) rfl ?_; intro v2 w2 hc2 hO2 hv2; refine Su ?_; exact QW.body1 Tryz.results82 rfl ⟨BytesO.app hO2, hx1.step hc2 (fun b hb => by have := (hO.lt hb).1; omega)⟩
theorem rPutText_ret (s : List UInt8) (hs : s.length ≤ 1000000) (w : World) : Ret Tryz.prog 34 [str s] w (fun v w' => BytesO w.heap.size w' v (putT s) ∧ Ext w w') := by
 refine Rte Tryz.func34 Tryz.ntmps34 ?_; refine Su ?_; refine Lc0 rfl rfl (rPut_ret s.length (by omega) w) ?_; rintro v w1 ⟨hO, hx1⟩; obtain ⟨p, c, rfl⟩ := hO.slice; have := putN_len10 (n := s.length) (by omega); refine Su ?_; refine LW.append_str (k := (putN s.length).length) (xs := bcells (putN s.length)) (s := s) rfl rfl rfl rfl rfl rfl rfl rfl rfl hO hx1.size (by show ((putN s.length).length + s.length) * 2 ≤ _; omega) rfl ?_; intro v2 w2 hc2 hO2 hv2; refine Su ?_; exact QW.body1 Tryz.results34 rfl ⟨BytesO.app hO2, hx1.step hc2 (fun b hb => by have := (hO.lt hb).1; omega)⟩
theorem texts_each {ok : Addr → Prop} {w : World} {v : Value} {l : List (List UInt8)} (h : TextsQ ok w v l) : ∀ s ∈ l, s.length ≤ 1000000 := fun s hs => by
 obtain ⟨i, hi⟩ := List.getElem?_of_mem hs; obtain ⟨p, c, rfl⟩ := h.slice; exact (TextsQ.at h hi).choose_spec.2.2.1
theorem putL_part {l : List (List UInt8)} (h : ∀ s ∈ l, s.length ≤ 1000000) (hl : l.length ≤ 1000000) (k : Nat) : (putN l.length ++ (l.take k).flatMap putT).length ≤ 10 + 1000000 * 1000010 := by
 have h1 := putN_len10 (n := l.length) (by omega); have h2 := texts_bound (l := l.take k) fun s hs => h s (List.mem_of_mem_take hs); have h3 : (l.take k).length * 1000010 ≤ 1000000 * 1000010 := Nat.mul_le_mul_right _ (by rw [List.length_take]; omega); rw [List.length_append]; omega
theorem PutList_ret (l : List (List UInt8)) (tv : Value) (w : World) (h : TextsR w tv l) : Ret Tryz.prog 80 [tv] w (fun v w' => BytesO w.heap.size w' v (putL l) ∧ Ext w w') := by
 obtain ⟨p, c, rfl⟩ := h.slice; have hl := h.1; have hs := texts_each h; refine Rte Tryz.func80 Tryz.ntmps80 ?_; refine Su ?_; refine Lc0 rfl rfl (Put_ret l.length (by omega) w) ?_; rintro v w1 ⟨hO, hx1⟩; refine Su ?_; refine CW.loop (ι := Nat × Value) (fun x w' => x.1 ≤ l.length ∧ Ext w w' ∧ BytesO w.heap.size w' x.2 (putN l.length ++ (l.take x.1).flatMap putT)) (fun x => [(3, x.2), (9, .slice p l.length c), (10, .int .i64 l.length), (11, .int .i64 x.1)]) (fun x => l.length - x.1) (0, v) ⟨by omega, hx1, by rw [List.take_zero, List.flatMap_nil, List.append_nil]; exact hO⟩ Sub4 ?_; rintro ⟨k, ov⟩ w2 ⟨hk, hx2, hO2⟩; dsimp only at hk hO2; show CW _ _ _ _ _ [(3, ov), (9, .slice p l.length c), (10, .int .i64 l.length), (11, .int .i64 (k : Int))] _; refine Su ?_; refine Cwc (fun h1 => ?_) fun h1 => ?_; rotate_left
 ·have h1 : k = l.length := by simp at h1; omega
  subst h1; refine Su ?_; refine QW.body1 Tryz.results80 rfl ⟨?_, hx2⟩; rw [List.take_length] at hO2; exact hO2
 have h1 : k < l.length := by simp at h1; omega
 obtain ⟨s, hsk⟩ : ∃ s, l[k]? = some s := ⟨_, List.getElem?_eq_getElem h1⟩; obtain ⟨a, rfl, -, hsl, hc⟩ := TextsQ.at (TextsQ.ext h hx2) hsk; refine Su ?_; refine Lc0 rfl rfl (PutText_ret s hsl w2) ?_; rintro u w3 ⟨hO3, hx3⟩; obtain ⟨pu, cu, rfl⟩ := hO3.slice; have hb := putL_part hs hl k; have ht := putT_len hsl; have hq := (BytesO.bytes' hO3); refine Su ?_; refine LW.append_any (lo := w.heap.size) (k := (putN l.length ++ (l.take k).flatMap putT).length) (xs := bcells (putN l.length ++ (l.take k).flatMap putT)) (news := bcells (putT s)) rfl rfl rfl rfl rfl rfl (hO2.ext hx3) (by have := hx2.size; have := hx3.size; omega) (by rw [bcells_len']; show _ = _ * 1; omega) hq (bcells_one _) (by show (_ + (putT s).length) * 2 ≤ _; omega) rfl ?_; intro v4 w4 hc4 hO4 hv4; refine Su ?_; exact QW.again (k + 1, v4) ⟨h1, (hx2.trans hx3).step hc4 (fun b hb => by have := (hO2.lt hb).1; omega), by
  have := BytesO.app hO4; rw [List.append_assoc] at this; show BytesO _ _ v4 (putN l.length ++ (l.take (k + 1)).flatMap putT); rw [List.take_add_one, hsk, List.flatMap_append]
  simpa using this⟩ Sub4 (by show l.length - (k + 1) < l.length - k; omega)
theorem rPutList_ret (l : List (List UInt8)) (tv : Value) (w : World) (h : TextsR w tv l) : Ret Tryz.prog 33 [tv] w (fun v w' => BytesO w.heap.size w' v (putL l) ∧ Ext w w') := by
 obtain ⟨p, c, rfl⟩ := h.slice; have hl := h.1; have hs := texts_each h; refine Rte Tryz.func33 Tryz.ntmps33 ?_; refine Su ?_; refine Lc0 rfl rfl (rPut_ret l.length (by omega) w) ?_; rintro v w1 ⟨hO, hx1⟩; refine Su ?_; refine CW.loop (ι := Nat × Value) (fun x w' => x.1 ≤ l.length ∧ Ext w w' ∧ BytesO w.heap.size w' x.2 (putN l.length ++ (l.take x.1).flatMap putT)) (fun x => [(0, .slice p l.length c), (3, x.2), (4, .int .i64 x.1)]) (fun x => l.length - x.1) (0, v) ⟨by omega, hx1, by rw [List.take_zero, List.flatMap_nil, List.append_nil]; exact hO⟩ Sub3 ?_; rintro ⟨k, ov⟩ w2 ⟨hk, hx2, hO2⟩; dsimp only at hk hO2; show CW _ _ _ _ _ [(0, .slice p l.length c), (3, ov), (4, .int .i64 (k : Int))] _; refine Su ?_; refine Cwc (fun h1 => ?_) fun h1 => ?_; rotate_left
 ·have h1 : k = l.length := by simp at h1; omega
  subst h1; refine Su ?_; refine QW.body1 Tryz.results33 rfl ⟨?_, hx2⟩; rw [List.take_length] at hO2; exact hO2
 have h1 : k < l.length := by simp at h1; omega
 obtain ⟨s, hsk⟩ : ∃ s, l[k]? = some s := ⟨_, List.getElem?_eq_getElem h1⟩; obtain ⟨a, rfl, -, hsl, hc⟩ := TextsQ.at (TextsQ.ext h hx2) hsk; refine Su ?_; refine Lc0 rfl rfl (rPutText_ret s hsl w2) ?_; rintro u w3 ⟨hO3, hx3⟩; obtain ⟨pu, cu, rfl⟩ := hO3.slice; have hb := putL_part hs hl k; have ht := putT_len hsl; have hq := (BytesO.bytes' hO3); refine Su ?_; refine LW.append_any (lo := w.heap.size) (k := (putN l.length ++ (l.take k).flatMap putT).length) (xs := bcells (putN l.length ++ (l.take k).flatMap putT)) (news := bcells (putT s)) rfl rfl rfl rfl rfl rfl (hO2.ext hx3) (by have := hx2.size; have := hx3.size; omega) (by rw [bcells_len']; show _ = _ * 1; omega) hq (bcells_one _) (by show (_ + (putT s).length) * 2 ≤ _; omega) rfl ?_; intro v4 w4 hc4 hO4 hv4; refine Su ?_; exact QW.again (k + 1, v4) ⟨h1, (hx2.trans hx3).step hc4 (fun b hb => by have := (hO2.lt hb).1; omega), by
  have := BytesO.app hO4; rw [List.append_assoc] at this; show BytesO _ _ v4 (putN l.length ++ (l.take (k + 1)).flatMap putT); rw [List.take_add_one, hsk, List.flatMap_append]
  simpa using this⟩ Sub3 (by show l.length - (k + 1) < l.length - k; omega)
def numV : Option (Nat × Nat) → Value
 | none => .tuple #[.int .i64 0, .int .i64 0, .bool false]
 | some (n, j) => .tuple #[.int .i64 (n : Int), .int .i64 (j : Int), .bool true]
theorem and_tab : ∀ k, k < 256 → bits .and .u8 ((k : Nat) : Int) 127 = ((k % 128 : Nat) : Int) := by decide +kernel
theorem or_join {k a c : Nat} (hk : k ≤ 8) (ha : a < 128 ^ k) (hc : c < 128) : bits .or .i64 (a : Int) ((c * 128 ^ k : Nat) : Int) = ((a + c * 128 ^ k : Nat) : Int) := by
 have e : (128 : Nat) ^ k = 2 ^ (7 * k) := by rw [show (128 : Nat) = 2 ^ 7 by decide, ← Nat.pow_mul]
 have h1 : (c * 128 ^ k : Nat) < 2 ^ 63 := by
  have : (128 : Nat) ^ k ≤ 128 ^ 8 := Nat.pow_le_pow_right (by decide) hk; have : c * 128 ^ k ≤ 127 * 128 ^ 8 := Nat.mul_le_mul (by omega) this; have : (127 : Nat) * 128 ^ 8 < 2 ^ 63 := by decide
  omega
 have h2 : a < 2 ^ 63 := by
  have : (128 : Nat) ^ k ≤ 128 ^ 8 := Nat.pow_le_pow_right (by decide) hk; have : (128 : Nat) ^ 8 < 2 ^ 63 := by decide
  omega
 rw [bits_join_low .i64 63 (by decide) (fun n h0 h1 => wrap_i64 (by omega) (by omega)) (7 * k) _ _ (by omega) (by rw [e] at ha; exact_mod_cast ha) (by exact_mod_cast h2) (by omega) (by
  rw [e]
  exact_mod_cast Nat.mul_mod_left c (2 ^ (7 * k))) (by exact_mod_cast h1)]
 omega
theorem shl_num {k c : Nat} (hk : k < 9) (hc : c < 128) : IntKind.i64.wrap ((c : Int) * 2 ^ (7 * k)) = ((c * 128 ^ k : Nat) : Int) := by
 have e : (2 : Int) ^ (7 * k) = ((128 ^ k : Nat) : Int) := by
  rw [show (128 : Nat) = 2 ^ 7 by decide, ← Nat.pow_mul]
  exact_mod_cast rfl
 have : (128 : Nat) ^ k ≤ 128 ^ 8 := Nat.pow_le_pow_right (by decide) (by omega); have : c * 128 ^ k ≤ 127 * 128 ^ 8 := Nat.mul_le_mul (by omega) this; have : (127 : Nat) * 128 ^ 8 < 9223372036854775808 := by decide
 rw [e, ← Int.natCast_mul]; exact wrap_i64 (by omega) (by omega)
def NumI (b : List UInt8) (i k a : Nat) : Prop := k ≤ 9 ∧ i + k ≤ b.length ∧ a < 128 ^ k ∧ getN b i = match getV (9 - k) k (b.drop (i + k)) with
 | none => none
 | some (n, m) => some (a + 128 ^ k * n, i + k + m)
theorem NumI.start {b : List UInt8} {i : Nat} (h : i ≤ b.length) : NumI b i 0 0 := ⟨by omega, h, by decide, by
 unfold getN
 cases getV 9 0 (b.drop i) with
 | none => rfl
 | some x => simp⟩
theorem NumI.nine {b : List UInt8} {i a : Nat} (h : NumI b i 9 a) : getN b i = none := h.2.2.2
theorem NumI.end {b : List UInt8} {i k a : Nat} (h : NumI b i k a) (hk : b.length ≤ i + k) : getN b i = none := by
 rw [h.2.2.2, List.drop_eq_nil_of_le hk]; cases 9 - k <;> rfl
theorem NumI.step {b : List UInt8} {i k a : Nat} {c : UInt8} (h : NumI b i k a) (hk : k < 9) (hc : b[i + k]? = some c) :
  (128 ≤ c.toNat → NumI b i (k + 1) (a + (c.toNat % 128) * 128 ^ k)) ∧ (c.toNat < 128 → c.toNat = 0 ∧ 0 < k → getN b i = none) ∧ (c.toNat < 128 → ¬ (c.toNat = 0 ∧ 0 < k) → getN b i = some (a + (c.toNat % 128) * 128 ^ k, i + k + 1)) := by
 obtain ⟨h1, h2, h3, h4⟩ := h; have hlt := (List.getElem?_eq_some_iff.1 hc).1; have hd : b.drop (i + k) = c :: b.drop (i + k + 1) := by
  rw [List.drop_eq_getElem_cons hlt]
  congr 1
  exact (List.getElem?_eq_some_iff.1 hc).2
 obtain ⟨q, hq⟩ : ∃ q, 9 - k = q + 1 := ⟨8 - k, by omega⟩; have hc256 : c.toNat < 256 := c.toNat_lt; rw [hd, hq, getV] at h4; refine ⟨fun hb => ⟨by omega, by omega, ?_, ?_⟩, fun hb hz => ?_, fun hb hz => ?_⟩
 ·rw [Nat.pow_succ]; have : c.toNat % 128 * 128 ^ k ≤ 127 * 128 ^ k := Nat.mul_le_mul_right _ (by omega); omega
 ·rw [if_pos hb] at h4; rw [h4, show 9 - (k + 1) = q by omega, ← Nat.add_assoc]
  cases getV q (k + 1) (b.drop (i + k + 1)) with
  | none => rfl
  | some x =>
   obtain ⟨n, m⟩ := x; simp only [Option.some.injEq, Prod.mk.injEq]; refine ⟨?_, by omega⟩; rw [show c.toNat % 128 = c.toNat - 128 by omega, Nat.mul_add, Nat.pow_succ, Nat.mul_comm (c.toNat - 128), Nat.mul_assoc]; omega
 ·rw [h4, if_neg (by omega), if_pos hz]
 ·rw [h4, if_neg (by omega), if_neg hz]; simp only [Option.some.injEq, Prod.mk.injEq]; refine ⟨?_, trivial⟩; rw [Nat.mod_eq_of_lt (by omega), Nat.mul_comm]
theorem NumI.bound {b : List UInt8} {i k a : Nat} (h : NumI b i k a) : a ≤ 9223372036854775807 := by
 have : (128 : Nat) ^ k ≤ 128 ^ 9 := Nat.pow_le_pow_right (by decide) h.1; have : (128 : Nat) ^ 9 = 9223372036854775808 := by decide
 have := h.2.2.1; omega
set_option maxRecDepth 8000 in
theorem Get_ret {ok : Addr → Prop} (b : List UInt8) (bv : Value) (i : Nat) (w : World) (h : BytesQ ok w bv b) (hi : i ≤ b.length) : Ret Tryz.prog 41 [bv, .int .i64 (i : Int)] w (fun v w' => v = numV (getN b i) ∧ Ext w w') := by
 obtain ⟨p, c, rfl⟩ := h.slice; have hl := h.1; refine Rte Tryz.func41 Tryz.ntmps41 ?_; refine Su ?_; refine CW.loop (ι := Nat × Nat) (fun x w' => NumI b i x.1 x.2 ∧ Ext w w') (fun x => [(0, .slice p b.length c), (1, .int .i64 (i : Int)), (4, .int .i64 x.2), (11, .int .i64 x.1)]) (fun x => 9 - x.1) (0, 0) ⟨NumI.start hi, Chg.refl _ _⟩ Sub4 ?_; rintro ⟨k, a⟩ w1 ⟨hI, hx1⟩; dsimp only at hI; show CW _ _ _ _ _ [(0, .slice p b.length c), (1, .int .i64 (i : Int)), (4, .int .i64 (a : Int)), (11, .int .i64 (k : Int))] _; have hab := hI.bound; have hk9 := hI.1; have hkl := hI.2.1; refine Su ?_; refine Cwc (fun h1 => ?_) fun h1 => ?_; rotate_left
 ·have h1 : k = 9 := by simp at h1; omega
  subst h1; refine Su ?_; exact QW.body3 Tryz.results41 rfl rfl rfl ⟨by rw [hI.nine]; rfl, hx1⟩
 have h1 : k < 9 := by simp at h1; omega
 refine Su ?_; refine Cwc (fun h2 => ?_) fun h2 => ?_
 ·have h2 : b.length ≤ i + k := by simp at h2; omega
  refine Su ?_; exact QW.body3 Tryz.results41 rfl rfl rfl ⟨by rw [hI.end h2]; rfl, hx1⟩
 have h2 : i + k < b.length := by simp at h2; omega
 obtain ⟨z, hz⟩ : ∃ z, b[i + k]? = some z := ⟨_, List.getElem?_eq_getElem h2⟩; obtain ⟨a0, rfl, -, hc⟩ := (h.ext hx1).at hz; obtain ⟨s1, s2, s3⟩ := hI.step h1 hz; have hz256 : z.toNat < 256 := z.toNat_lt; replace hc : w1.cell? (a0.add (((i : Int) + (k : Int)).toNat * 1)) = some (.int .u8 (z.toNat : Int)) := hc; refine Su ?_; refine LW.bits (z := ((z.toNat % 128 : Nat) : Int)) rfl rfl rfl (and_tab _ hz256) rfl ?_; refine Su ?_; refine LW.shl (m := 7 * k) (z := ((z.toNat % 128 * 128 ^ k : Nat) : Int)) rfl rfl (by show 7 * k ≤ 64; omega) (shl_num h1 (Nat.mod_lt _ (by decide))) rfl ?_; refine LW.bits (z := ((a + z.toNat % 128 * 128 ^ k : Nat) : Int)) rfl rfl rfl (or_join (by omega) hI.2.2.1 (Nat.mod_lt _ (by decide))) rfl ?_; refine Su ?_; refine Cwc (fun h3 => ?_) fun h3 => ?_
 ·have h3 : 128 ≤ z.toNat := by simp at h3; omega
  refine Su ?_; exact QW.again (k + 1, a + z.toNat % 128 * 128 ^ k) ⟨s1 h3, hx1⟩ Sub4 (by show 9 - (k + 1) < 9 - k; omega)
 have h3 : z.toNat < 128 := by simp at h3; omega
 refine Su ?_; refine Lwp (fun h4 => ?_) fun h4 => ?_
 ·have h4 : z.toNat = 0 := by simp at h4; omega
  refine Su ?_; refine Cwc (fun h5 => ?_) fun h5 => ?_
  ·have h5 : 0 < k := by simp at h5; omega
   refine Su ?_; exact QW.body3 Tryz.results41 rfl rfl rfl ⟨by rw [s2 h3 ⟨h4, h5⟩]; rfl, hx1⟩
  have h5 : ¬ 0 < k := by simp at h5; omega
  refine Su ?_; exact QW.body3 Tryz.results41 rfl rfl rfl ⟨by rw [s3 h3 (by omega)]; rfl, hx1⟩
 have h4 : z.toNat ≠ 0 := by simp at h4; omega
 refine Su ?_; exact QW.body3 Tryz.results41 rfl rfl rfl ⟨by rw [s3 h3 (by omega)]; rfl, hx1⟩
set_option maxRecDepth 8000 in
theorem rGet_ret {ok : Addr → Prop} (b : List UInt8) (bv : Value) (i : Nat) (w : World) (h : BytesQ ok w bv b) (hi : i ≤ b.length) : Ret Tryz.prog 46 [bv, .int .i64 (i : Int)] w (fun v w' => v = numV (getN b i) ∧ Ext w w') := by
 obtain ⟨p, c, rfl⟩ := h.slice; have hl := h.1; refine Rte Tryz.func46 Tryz.ntmps46 ?_; refine Su ?_; refine Cwc (fun h0 => ?_) fun h0 => ?_
 ·have h0 : b.length ≤ i := by simp at h0; omega
  refine Su ?_; exact QW.body3 Tryz.results46 rfl rfl rfl ⟨by rw [(NumI.start hi).end h0]; rfl, Chg.refl _ _⟩
 have h0 : i < b.length := by simp at h0; omega
 refine Su ?_; refine CW.loop (ι := Nat × Nat) (fun x w' => NumI b i x.1 x.2 ∧ Ext w w') (fun x => [(0, .slice p b.length c), (1, .int .i64 (i : Int)), (7, .int .i64 x.2), (8, .int .i64 x.1)]) (fun x => 9 - x.1) (0, 0) ⟨NumI.start hi, Chg.refl _ _⟩ Sub4 ?_; rintro ⟨k, a⟩ w1 ⟨hI, hx1⟩; dsimp only at hI; show CW _ _ _ _ _ [(0, .slice p b.length c), (1, .int .i64 (i : Int)), (7, .int .i64 (a : Int)), (8, .int .i64 (k : Int))] _; have hab := hI.bound; have hk9 := hI.1; have hkl := hI.2.1; refine Su ?_; refine Lwp (fun h1 => ?_) fun h1 => ?_; rotate_left
 ·have h1 : k = 9 := by simp at h1; omega
  subst h1; refine Su ?_; exact QW.body3 Tryz.results46 rfl rfl rfl ⟨by rw [hI.nine]; rfl, hx1⟩
 have h1 : k < 9 := by simp at h1; omega
 refine Su ?_; refine Cwc (fun h2 => ?_) fun h2 => ?_; rotate_left
 ·have h2 : b.length ≤ i + k := by simp at h2; omega
  refine Su ?_; exact QW.body3 Tryz.results46 rfl rfl rfl ⟨by rw [hI.end h2]; rfl, hx1⟩
 have h2 : i + k < b.length := by simp at h2; omega
 obtain ⟨z, hz⟩ : ∃ z, b[i + k]? = some z := ⟨_, List.getElem?_eq_getElem h2⟩; obtain ⟨a0, rfl, -, hc⟩ := (h.ext hx1).at hz; obtain ⟨s1, s2, s3⟩ := hI.step h1 hz; have hz256 : z.toNat < 256 := z.toNat_lt; replace hc : w1.cell? (a0.add (((i : Int) + (k : Int)).toNat * 1)) = some (.int .u8 (z.toNat : Int)) := hc; refine Su ?_; refine LW.shl (m := 7 * k) (z := ((z.toNat % 128 * 128 ^ k : Nat) : Int)) rfl rfl (by show 7 * k ≤ 64; omega) (shl_num h1 (Nat.mod_lt _ (by decide))) rfl ?_; refine LW.bits (z := ((a + z.toNat % 128 * 128 ^ k : Nat) : Int)) rfl rfl rfl (or_join (by omega) hI.2.2.1 (Nat.mod_lt _ (by decide))) rfl ?_; refine Su ?_; refine Cwc (fun h3 => ?_) fun h3 => ?_
 ·have h3 : 128 ≤ z.toNat := by simp at h3; omega
  refine Su ?_; exact QW.again (k + 1, a + z.toNat % 128 * 128 ^ k) ⟨s1 h3, hx1⟩ Sub4 (by show 9 - (k + 1) < 9 - k; omega)
 have h3 : z.toNat < 128 := by simp at h3; omega
 refine Su ?_; refine Lwp (fun h4 => ?_) fun h4 => ?_
 ·have h4 : z.toNat = 0 := by simp at h4; omega
  refine Su ?_; refine Cwc (fun h5 => ?_) fun h5 => ?_
  ·have h5 : 0 < k := by simp at h5; omega
   refine Su ?_; exact QW.body3 Tryz.results46 rfl rfl rfl ⟨by rw [s2 h3 ⟨h4, h5⟩]; rfl, hx1⟩
  have h5 : ¬ 0 < k := by simp at h5; omega
  refine Su ?_; exact QW.body3 Tryz.results46 rfl rfl rfl ⟨by rw [s3 h3 (by omega)]; rfl, hx1⟩
 have h4 : z.toNat ≠ 0 := by simp at h4; omega
 refine Su ?_; exact QW.body3 Tryz.results46 rfl rfl rfl ⟨by rw [s3 h3 (by omega)]; rfl, hx1⟩
def textV : Option (List UInt8 × Nat) → Value
 | none => .tuple #[str [], .int .i64 0, .bool false]
 | some (s, j) => .tuple #[str s, .int .i64 (j : Int), .bool true]
theorem getN_le {b : List UInt8} {i n j : Nat} (hi : i ≤ b.length) (h : getN b i = some (n, j)) : j ≤ b.length ∧ n ≤ 9223372036854775807 ∧ i < j := by
 obtain ⟨h1, h2, h3⟩ := getN_put h; have := congrArg List.length h1; rw [List.length_append, List.length_drop, List.length_drop] at this; have e : (128 : Nat) ^ 9 = 9223372036854775808 := by decide
 have h0 : 0 < (putN n).length := by
  by_cases h : n < 128
  ·rw [putN_small h]; simp
  ·rw [putN_big (by omega)]; simp
 omega
theorem BytesQ.mid {ok : Addr → Prop} {w : World} {p : Option Addr} {c j n : Nat} {b : List UInt8} (h : BytesQ ok w (.slice p b.length c) b) (hn : j + n ≤ b.length) (hc : b.length ≤ c) : (if c = j then p else p.map (·.add (j * 1))) = none ∧ ((b.drop j).take n).length = 0 ∨ ∃ a, (if c = j then p else p.map (·.add (j * 1))) = some a ∧ ∀ q u, (bcells ((b.drop j).take n))[q]? = some u → w.cell? (a.add q) = some u := by
 have h1 := BytesQ.take (i := n) (BytesQ.drop (ok' := fun _ => True) h (i := j) (by omega) (fun _ _ => trivial) hc) (by omega); have e : ((b.drop j).take n).length = n := by rw [List.length_take, List.length_drop]; omega
 have h2 := BytesQ.cells (p := if c = j then p else p.map (·.add (j * 1))) (c := c - j) (l := (b.drop j).take n) (by rw [e]; exact h1); exact h2
theorem GetText_ret {ok : Addr → Prop} (b : List UInt8) (p : Option Addr) (c i : Nat) (w : World) (h : BytesQ ok w (.slice p b.length c) b) (hcap : b.length ≤ c) (hi : i ≤ b.length) : Ret Tryz.prog 43 [.slice p b.length c, .int .i64 (i : Int)] w (fun v w' => v = textV (getT b i) ∧ Ext w w') := by
 have hl := h.1; refine Rte Tryz.func43 Tryz.ntmps43 ?_; refine Su ?_; refine Lc0 rfl rfl (Get_ret b _ i w h hi) ?_; rintro v w1 ⟨rfl, hx1⟩
 cases hg : getN b i with
 | none =>
  have hgT : getT b i = none := by unfold getT; rw [hg]
  dsimp only [numV]; refine Su ?_
  exact QW.body3 Tryz.results43 rfl rfl rfl ⟨by rw [hgT]; rfl, hx1⟩
 | some x =>
  obtain ⟨n, j⟩ := x; obtain ⟨hj, hn, hij⟩ := getN_le hi hg; dsimp only [numV]; refine Su ?_; refine Cwc (fun h1 => ?_) fun h1 => ?_
  ·have h1 : b.length - j < n := by simp at h1; omega
   have hgT : getT b i = none := by
    unfold getT; rw [hg]; exact if_neg (by omega)
   refine Su ?_; exact QW.body3 Tryz.results43 rfl rfl rfl ⟨by rw [hgT]; rfl, hx1⟩
  have h1 : j + n ≤ b.length := by simp at h1; omega
  have hgT : getT b i = some ((b.drop j).take n, j + n) := by
   unfold getT; rw [hg]; exact if_pos (by omega)
  refine Su ?_; refine LW.slice_mid (i := j) (j := j + n) (c := c) rfl rfl rfl rfl rfl rfl (by omega) (by omega) rfl ?_; refine LW.string_any (bs := (b.drop j).take n) rfl (by rw [List.length_take, List.length_drop]; omega) ((h.ext hx1).mid h1 hcap) rfl rfl rfl rfl rfl rfl rfl ?_; refine Su ?_; exact QW.body3 Tryz.results43 rfl rfl rfl ⟨by rw [hgT]; rfl, hx1⟩
theorem rGetText_ret {ok : Addr → Prop} (b : List UInt8) (p : Option Addr) (c i : Nat) (w : World) (h : BytesQ ok w (.slice p b.length c) b) (hcap : b.length ≤ c) (hi : i ≤ b.length) : Ret Tryz.prog 48 [.slice p b.length c, .int .i64 (i : Int)] w (fun v w' => v = textV (getT b i) ∧ Ext w w') := by
 have hl := h.1; refine Rte Tryz.func48 Tryz.ntmps48 ?_; refine Su ?_; refine Lc0 rfl rfl (rGet_ret b _ i w h hi) ?_; rintro v w1 ⟨rfl, hx1⟩
 cases hg : getN b i with
 | none =>
  have hgT : getT b i = none := by unfold getT; rw [hg]
  dsimp only [numV]; refine Su ?_
  exact QW.body3 Tryz.results48 rfl rfl rfl ⟨by rw [hgT]; rfl, hx1⟩
 | some x =>
  obtain ⟨n, j⟩ := x; obtain ⟨hj, hn, hij⟩ := getN_le hi hg; dsimp only [numV]; refine Su ?_; refine Cwc (fun h1 => ?_) fun h1 => ?_
  ·have h1 : b.length - j < n := by simp at h1; omega
   have hgT : getT b i = none := by
    unfold getT; rw [hg]; exact if_neg (by omega)
   refine Su ?_; exact QW.body3 Tryz.results48 rfl rfl rfl ⟨by rw [hgT]; rfl, hx1⟩
  have h1 : j + n ≤ b.length := by simp at h1; omega
  have hgT : getT b i = some ((b.drop j).take n, j + n) := by
   unfold getT; rw [hg]; exact if_pos (by omega)
  refine Su ?_; refine LW.slice_mid (i := j) (j := j + n) (c := c) rfl rfl rfl rfl rfl rfl (by omega) (by omega) rfl ?_; refine LW.string_any (bs := (b.drop j).take n) rfl (by rw [List.length_take, List.length_drop]; omega) ((h.ext hx1).mid h1 hcap) rfl rfl rfl rfl rfl rfl rfl ?_; refine Su ?_; exact QW.body3 Tryz.results48 rfl rfl rfl ⟨by rw [hgT]; rfl, hx1⟩
theorem one_parts' {l : List Value} : (l.map fun u => [u]).flatten = l := by
 induction l with
 | nil => rfl
 | cons a l ih => simp [ih]
theorem made_texts {w : World} {lo : Nat} {v : Value} {l : List (List UInt8)} (h : Own w lo 9 1 v l.length (l.map str)) (hl : l.length ≤ 1000000) (hs : ∀ s ∈ l, s.length ≤ 1000000) : TextsQ (fun a => lo ≤ a.block) w v l := by
 have hO : ListO 1 lo 9 textR w v l := by
  refine ⟨(l.map str).map fun u => [u], by simp, by simp, by rw [one_parts']; exact h, fun i x cs hi hc => ?_⟩; rw [List.getElem?_map, List.getElem?_map, hi] at hc; simp at hc; exact ⟨hc.symm, hs x (List.mem_of_getElem? hi)⟩
 exact hO.list hl (fun g hg _ => (hO.lt hg).1)
def listV (u : Value) : Option (List (List UInt8) × Nat) → Value
 | none => .tuple #[.slice none 0 0, .int .i64 0, .bool false]
 | some (_, j) => .tuple #[u, .int .i64 (j : Int), .bool true]
theorem getT_le {b s : List UInt8} {i j : Nat} (hi : i ≤ b.length) (h : getT b i = some (s, j)) : j ≤ b.length ∧ i < j ∧ s.length ≤ b.length := by
 unfold getT at h
 cases hg : getN b i with
 | none => rw [hg] at h; cases h
 | some x =>
  obtain ⟨n, q⟩ := x; rw [hg] at h; dsimp only at h; obtain ⟨h1, h2, h3⟩ := getN_le hi hg; by_cases hn : n ≤ b.length - q
  ·rw [if_pos hn] at h; simp only [Option.some.injEq, Prod.mk.injEq] at h; obtain ⟨rfl, rfl⟩ := h; refine ⟨by omega, by omega, ?_⟩; rw [List.length_take, List.length_drop]; omega
  ·rw [if_neg hn] at h; cases h
def TsI (b : List UInt8) (n i k j : Nat) (l : List (List UInt8)) : Prop := k ≤ n ∧ j ≤ b.length ∧ k ≤ j ∧ l.length = k ∧ (∀ s ∈ l, s.length ≤ b.length) ∧ getTs b n i = match getTs b (n - k) j with
 | none => none
 | some (l', m) => some (l ++ l', m)
theorem TsI.start {b : List UInt8} {n i : Nat} (h : i ≤ b.length) : TsI b n i 0 i [] := ⟨by omega, h, by omega, rfl, by simp, by
 show getTs b n i = match getTs b n i with | none => none | some (l', m) => some ([] ++ l', m)
 cases getTs b n i with
 | none => rfl
 | some x => rfl⟩
theorem TsI.done {b : List UInt8} {n i j : Nat} {l : List (List UInt8)} (h : TsI b n i n j l) : getTs b n i = some (l, j) := by
 have := h.2.2.2.2.2; rw [Nat.sub_self, getTs] at this; rw [this]; simp
theorem TsI.stop {b : List UInt8} {n i k j : Nat} {l : List (List UInt8)} (h : TsI b n i k j l) (hk : k < n) (hg : getT b j = none) : getTs b n i = none := by
 have := h.2.2.2.2.2; obtain ⟨q, hq⟩ : ∃ q, n - k = q + 1 := ⟨n - k - 1, by omega⟩; rw [hq, getTs, hg] at this; exact this
theorem TsI.step {b s : List UInt8} {n i k j m : Nat} {l : List (List UInt8)} (h : TsI b n i k j l) (hk : k < n) (hg : getT b j = some (s, m)) : TsI b n i (k + 1) m (l ++ [s]) := by
 obtain ⟨h1, h2, h3, h4, h5, h6⟩ := h; obtain ⟨g1, g2, g3⟩ := getT_le h2 hg; obtain ⟨q, hq⟩ : ∃ q, n - k = q + 1 := ⟨n - k - 1, by omega⟩; rw [hq, getTs, hg] at h6; refine ⟨by omega, g1, by omega, by simp [h4], fun t ht => ?_, ?_⟩
 ·rcases List.mem_append.1 ht with ht | ht
  ·exact h5 t ht
  ·simp at ht; subst ht; exact g3
 ·rw [h6, show n - (k + 1) = q by omega]; dsimp only
  cases getTs b q m with
  | none => rfl
  | some x => simp
set_option maxRecDepth 8000 in
theorem GetList_ret {ok : Addr → Prop} (b : List UInt8) (p : Option Addr) (c i : Nat) (w : World) (h : BytesQ ok w (.slice p b.length c) b) (hcap : b.length ≤ c) (hi : i ≤ b.length) : Ret Tryz.prog 45 [.slice p b.length c, .int .i64 (i : Int)] w (fun v w' => ∃ u, v = listV u (getL b i) ∧ (∀ l j, getL b i = some (l, j) → TextsQ (fun a => w.heap.size ≤ a.block) w' u l) ∧ Ext w w') := by
 have hl := h.1; refine Rte Tryz.func45 Tryz.ntmps45 ?_; refine Su ?_; refine Lc0 rfl rfl (Get_ret b _ i w h hi) ?_; rintro v w1 ⟨rfl, hx1⟩
 cases hg : getN b i with
 | none =>
  have hgL : getL b i = none := by unfold getL; rw [hg]
  dsimp only [numV]; refine Su ?_
  exact QW.body3 Tryz.results45 rfl rfl rfl ⟨.slice none 0 0, by rw [hgL]; rfl, by rw [hgL]; simp, hx1⟩
 | some x =>
  obtain ⟨n, j⟩ := x; obtain ⟨hj, hn, hij⟩ := getN_le hi hg; dsimp only [numV]; refine Su ?_; refine Cwc (fun h1 => ?_) fun h1 => ?_
  ·have h1 : b.length - j < n := by simp at h1; omega
   have hgL : getL b i = none := by
    unfold getL; rw [hg]; exact if_neg (by omega)
   refine Su ?_; exact QW.body3 Tryz.results45 rfl rfl rfl ⟨.slice none 0 0, by rw [hgL]; rfl, by rw [hgL]; simp, hx1⟩
  have h1 : j + n ≤ b.length := by simp at h1; omega
  have hgL : getL b i = getTs b n j := by
   unfold getL; rw [hg]; exact if_pos (by omega)
  refine Su ?_; refine CW.loop (ι := Nat × Nat × List (List UInt8) × Value) (fun x w' => TsI b n j x.1 x.2.1 x.2.2.1 ∧ Ext w w' ∧ Own w' w.heap.size 9 1 x.2.2.2 x.2.2.1.length (x.2.2.1.map str)) (fun x => [(0, .slice p b.length c), (4, x.2.2.2), (5, .int .i64 x.2.1), (28, .int .i64 (n : Int)), (29, .int .i64 x.1)]) (fun x => n - x.1) (0, j, [], .slice none 0 0) ⟨TsI.start hj, hx1, Own.nil _ _ _ _⟩ Sub5 ?_; rintro ⟨k, m, l, lv⟩ w2 ⟨hI, hx2, hO⟩; dsimp only at hI hO; show CW _ _ _ _ _ [(0, .slice p b.length c), (4, lv), (5, .int .i64 (m : Int)), (28, .int .i64 (n : Int)), (29, .int .i64 (k : Int))] _; obtain ⟨i1, i2, i3, i4, i5, i6⟩ := id hI; refine Su ?_; refine Cwc (fun h2 => ?_) fun h2 => ?_; rotate_left
  ·have h2 : k = n := by simp at h2; omega
   subst h2; refine Su ?_; refine QW.body3 Tryz.results45 rfl rfl rfl ⟨lv, by rw [hgL, hI.done]; rfl, fun l' j' hl' => ?_, hx2⟩; rw [hgL, hI.done] at hl'; simp only [Option.some.injEq, Prod.mk.injEq] at hl'; obtain ⟨rfl, rfl⟩ := hl'; exact made_texts hO (by omega) fun s hs => by have := i5 s hs; omega
  have h2 : k < n := by simp at h2; omega
  refine Su ?_; refine Lc0 rfl rfl (GetText_ret b p c m w2 (h.ext hx2) hcap i2) ?_; rintro v w3 ⟨rfl, hx3⟩
  cases hgt : getT b m with
  | none =>
   dsimp only [textV]; refine Su ?_
   exact QW.body3 Tryz.results45 rfl rfl rfl ⟨.slice none 0 0, by rw [hgL, hI.stop h2 hgt]; rfl, by rw [hgL, hI.stop h2 hgt]; simp, hx2.trans hx3⟩
  | some y =>
   obtain ⟨s, m'⟩ := y; have hI' := hI.step h2 hgt; have hm' := hI'.2.1; dsimp only [textV]; refine Su ?_; refine Lwl fun B w4 hbB hx4 hB => ?_; refine LW.append (lo := w.heap.size) (k := l.length) rfl rfl rfl rfl rfl rfl (hO.ext (hx3.trans hx4)) (by have := hx2.size; have := hx3.size; have := hx4.size; omega) hB rfl rfl rfl (by show (l.length + 1) * 17 ≤ _; omega) rfl ?_; intro v5 w5 hc5 hO5 hv5; refine Su ?_; exact QW.again (k + 1, m', l ++ [s], v5) ⟨hI', ((hx2.trans hx3).trans hx4).step hc5 (fun b hb => by have := (hO.lt hb).1; omega), by
    show Own _ _ _ _ v5 (l ++ [s]).length ((l ++ [s]).map str); rw [List.length_append, List.map_append]; exact hO5⟩ Sub5 (by show n - (k + 1) < n - k; omega)
set_option maxRecDepth 8000 in
theorem rGetList_ret {ok : Addr → Prop} (b : List UInt8) (p : Option Addr) (c i : Nat) (w : World) (h : BytesQ ok w (.slice p b.length c) b) (hcap : b.length ≤ c) (hi : i ≤ b.length) : Ret Tryz.prog 47 [.slice p b.length c, .int .i64 (i : Int)] w (fun v w' => ∃ u, v = listV u (getL b i) ∧ (∀ l j, getL b i = some (l, j) → TextsQ (fun a => w.heap.size ≤ a.block) w' u l) ∧ Ext w w') := by
 have hl := h.1; have hgF := getL_free (b := b) (i := i); refine Rte Tryz.func47 Tryz.ntmps47 ?_; refine Su ?_; refine Lc0 rfl rfl (rGet_ret b _ i w h hi) ?_; rintro v w1 ⟨rfl, hx1⟩
 cases hg : getN b i with
 | none =>
  rw [hg] at hgF; replace hgF : getL b i = none := hgF; dsimp only [numV]; refine Su ?_; refine CW.loop (ι := Unit) (fun x w' => Ext w w') (fun x => [(7, .int .i64 0), (9, .bool false), (11, .int .i64 0)]) (fun x => 0) () hx1 Sub3 ?_; rintro ⟨⟩ w2 hx2; show CW _ _ _ _ _ [(7, .int .i64 0), (9, .bool false), (11, .int .i64 0)] _; refine Su ?_
  exact QW.body3 Tryz.results47 rfl rfl rfl ⟨.slice none 0 0, by rw [hgF]; rfl, by rw [hgF]; simp, hx2⟩
 | some x =>
  obtain ⟨n, j⟩ := x; obtain ⟨hj, hn, hij⟩ := getN_le hi hg; rw [hg] at hgF; replace hgF : getL b i = getTs b n j := hgF; dsimp only [numV]; refine Su ?_; refine CW.loop (ι := Nat × Nat × List (List UInt8) × Value × Bool) (fun x w' => x.1 ≤ n ∧ (x.2.2.2.2 = true → TsI b n j x.1 x.2.1 x.2.2.1 ∧ Own w' w.heap.size 9 1 x.2.2.2.1 x.2.2.1.length (x.2.2.1.map str)) ∧ (x.2.2.2.2 = false → getTs b n j = none) ∧ Ext w w') (fun x => [(0, .slice p b.length c), (7, .int .i64 (n : Int)), (8, .int .i64 x.2.1), (9, .bool x.2.2.2.2), (10, x.2.2.2.1), (11, .int .i64 x.1)]) (fun x => n - x.1) (0, j, [], .slice none 0 0, true) ⟨by omega, fun _ => ⟨TsI.start hj, Own.nil _ _ _ _⟩, by simp, hx1⟩ Sub6 ?_; rintro ⟨k, m, l, lv, good⟩ w2 ⟨hkn, hI, hbad, hx2⟩; dsimp only at hI hbad hkn; show CW _ _ _ _ _ [(0, .slice p b.length c), (7, .int .i64 (n : Int)), (8, .int .i64 (m : Int)), (9, .bool good), (10, lv), (11, .int .i64 (k : Int))] _
  cases good with
  | false =>
   have hbad := hbad rfl; refine Su ?_; refine Lwp (fun h2 => ?_) fun h2 => ?_
   ·refine Su ?_; exact QW.body3 Tryz.results47 rfl rfl rfl ⟨.slice none 0 0, by rw [hgF, hbad]; rfl, by rw [hgF, hbad]; simp, hx2⟩
   refine Su ?_
   exact QW.body3 Tryz.results47 rfl rfl rfl ⟨.slice none 0 0, by rw [hgF, hbad]; rfl, by rw [hgF, hbad]; simp, hx2⟩
  | true =>
  obtain ⟨hI, hO⟩ := hI rfl; obtain ⟨i1, i2, i3, i4, i5, i6⟩ := id hI; refine Su ?_; refine Lwp (fun h2 => ?_) fun h2 => ?_; rotate_left
  ·have h2 : k = n := by simp at h2; omega
   subst h2; refine Su ?_; refine QW.body3 Tryz.results47 rfl rfl rfl ⟨lv, by rw [hgF, hI.done]; rfl, fun l' j' hl' => ?_, hx2⟩; rw [hgF, hI.done] at hl'; simp only [Option.some.injEq, Prod.mk.injEq] at hl'; obtain ⟨rfl, rfl⟩ := hl'; exact made_texts hO (by omega) fun s hs => by have := i5 s hs; omega
  have h2 : k < n := by simp at h2; omega
  refine Su ?_; refine Lc0 rfl rfl (rGetText_ret b p c m w2 (h.ext hx2) hcap i2) ?_; rintro v w3 ⟨rfl, hx3⟩
  cases hgt : getT b m with
  | none =>
   dsimp only [textV]; refine Su ?_; refine Lwl fun B w4 hbB hx4 hB => ?_; refine LW.append (lo := w.heap.size) (k := l.length) rfl rfl rfl rfl rfl rfl (hO.ext (hx3.trans hx4)) (by have := hx2.size; have := hx3.size; have := hx4.size; omega) hB rfl rfl rfl (by show (l.length + 1) * 17 ≤ _; omega) rfl ?_; intro v5 w5 hc5 hO5 hv5; refine Su ?_
   exact QW.again (k + 1, 0, l, v5, false) ⟨h2, by simp, fun _ => hI.stop h2 hgt, ((hx2.trans hx3).trans hx4).step hc5 (fun b hb => by have := (hO.lt hb).1; omega)⟩ Sub6 (by show n - (k + 1) < n - k; omega)
  | some y =>
   obtain ⟨s, m'⟩ := y; have hI' := hI.step h2 hgt; have hm' := hI'.2.1; dsimp only [textV]; refine Su ?_; refine Lwl fun B w4 hbB hx4 hB => ?_; refine LW.append (lo := w.heap.size) (k := l.length) rfl rfl rfl rfl rfl rfl (hO.ext (hx3.trans hx4)) (by have := hx2.size; have := hx3.size; have := hx4.size; omega) hB rfl rfl rfl (by show (l.length + 1) * 17 ≤ _; omega) rfl ?_; intro v5 w5 hc5 hO5 hv5; refine Su ?_; exact QW.again (k + 1, m', l ++ [s], v5, true) ⟨h2, fun _ => ⟨hI', by
    show Own _ _ _ _ v5 (l ++ [s]).length ((l ++ [s]).map str); rw [List.length_append, List.map_append]; exact hO5⟩, by simp, ((hx2.trans hx3).trans hx4).step hc5 (fun b hb => by have := (hO.lt hb).1; omega)⟩ Sub6 (by show n - (k + 1) < n - k; omega)
abbrev RdR (w : World) (X : Nat) (p : Option Addr) (n c i : Nat) (bad : Bool) : Prop := Blk w X [.slice p n c, .int .i64 (i : Int), .bool bad] 41
def rdS {α : Type} (g : Option (α × Nat)) (i : Nat) : Bool → Option α × Nat × Bool
 | true => (none, i, true)
 | false => match g with
  | none => (none, i, true)
  | some (x, j) => (some x, j, false)
theorem rdS_bad {α : Type} (g : Option (α × Nat)) (i : Nat) : rdS g i true = (none, i, true) := rfl
theorem rdS_none {α : Type} (i : Nat) (bad : Bool) : rdS (none : Option (α × Nat)) i bad = (none, i, true) := by cases bad <;> rfl
set_option maxRecDepth 8000 in
set_option maxHeartbeats 1000000 in
theorem takeN_ret {ok : Addr → Prop} (b : List UInt8) (p : Option Addr) (c i X : Nat) (bad : Bool) (w : World) (h : BytesQ ok w (.slice p b.length c) b) (_hcap : b.length ≤ c) (hi : i ≤ b.length) (hX : RdR w X p b.length c i bad) (_ho : ∀ a, ok a → a.block ≠ X) : Ret Tryz.prog 40 [.pointer (some ⟨X, 0, none⟩), .func (.func 41) ⟨[]⟩ ⟨[]⟩] w (fun v w' => v = .int .i64 (((rdS (getN b i) i bad).1.getD 0 : Nat) : Int) ∧ RdR w' X p b.length c (rdS (getN b i) i bad).2.1 (rdS (getN b i) i bad).2.2 ∧ Chg [X] w w') := by
 have hl := h.1; have hXlt := hX.lt; refine Rte Tryz.func40 Tryz.ntmps40 ?_; refine Su ?_; refine CW.drawG (Ext w) 16 (fun w' h => h) (by kernel_rfl) fun wa hxa => ?_; refine Sgv ?_; refine Gko 9 fun hS => ?_; refine LW.call (fs := []) (cs := []) rfl rfl rfl (by simpa using Get_ret b _ i _ (h.ext (by assumption)) hi) ?_; rintro v w1 ⟨rfl, hx1⟩; apply LW.nil; refine QW.headed (hS.trans hx1) ?_
 cases hg : getN b i with
 | none =>
  dsimp only [numV]; refine Gkp 10 ?_; refine Gkp 11 ?_; refine Gkp 12 ?_; refine Gkp 13 ?_; refine Gkp 14 ?_; refine Gkp 15 ?_; refine GW.tail rfl (by kernel_rfl) (fun hS => ?_); replace hX := hX.ext hS; refine Su ?_; refine Lwt fun w2 hc2 hX2 => ?_; refine Su ?_
  exact QW.body1 Tryz.results40 rfl ⟨by rw [rdS_none]; rfl, by rw [rdS_none]; exact hX2, (Chg.mono hS (by simp)).same hc2⟩
 | some x =>
  obtain ⟨x, j⟩ := x; obtain ⟨hj, hn, hij⟩ := getN_le hi hg; dsimp only [numV]; refine Gkp 10 ?_; refine Gkp 11 ?_; refine Gkp 12 ?_; refine Gkp 13 ?_; refine Gkp 14 ?_; refine Gkp 15 ?_; refine GW.tail rfl (by kernel_rfl) (fun hS => ?_); replace hX := hX.ext hS; refine Su ?_
  cases bad with
  | true =>
   refine Su ?_; refine Lwt fun w2 hc2 hX2 => ?_; refine Su ?_
   exact QW.body1 Tryz.results40 rfl ⟨rfl, hX2, (Chg.mono hS (by simp)).same hc2⟩
  | false =>
   refine Su ?_; refine Lwt fun w2 hc2 hX2 => ?_; refine Su ?_; exact QW.body1 Tryz.results40 rfl ⟨rfl, hX2, (Chg.mono hS (by simp)).same hc2⟩
set_option maxRecDepth 8000 in
set_option maxHeartbeats 1000000 in
theorem takeT_ret {ok : Addr → Prop} (b : List UInt8) (p : Option Addr) (c i X : Nat) (bad : Bool) (w : World) (h : BytesQ ok w (.slice p b.length c) b) (hcap : b.length ≤ c) (hi : i ≤ b.length) (hX : RdR w X p b.length c i bad) (_ho : ∀ a, ok a → a.block ≠ X) : Ret Tryz.prog 42 [.pointer (some ⟨X, 0, none⟩), .func (.func 43) ⟨[]⟩ ⟨[]⟩] w (fun v w' => v = str ((rdS (getT b i) i bad).1.getD []) ∧ RdR w' X p b.length c (rdS (getT b i) i bad).2.1 (rdS (getT b i) i bad).2.2 ∧ Chg [X] w w') := by
 have hl := h.1; have hXlt := hX.lt; refine Rte Tryz.func42 Tryz.ntmps42 ?_; refine Su ?_; refine CW.drawG (Ext w) 16 (fun w' h => h) (by kernel_rfl) fun wa hxa => ?_; refine Sgv ?_; refine Gko 9 fun hS => ?_; refine LW.call (fs := []) (cs := []) rfl rfl rfl (by simpa using GetText_ret b p c i _ (h.ext (by assumption)) hcap hi) ?_; rintro v w1 ⟨rfl, hx1⟩; apply LW.nil; refine QW.headed (hS.trans hx1) ?_
 cases hg : getT b i with
 | none =>
  dsimp only [textV]; refine Gkp 10 ?_; refine Gkp 11 ?_; refine Gkp 12 ?_; refine Gkp 13 ?_; refine Gkp 14 ?_; refine Gkp 15 ?_; refine GW.tail rfl (by kernel_rfl) (fun hS => ?_); replace hX := hX.ext hS; refine Su ?_; refine Lwt fun w2 hc2 hX2 => ?_; refine Su ?_
  exact QW.body1 Tryz.results42 rfl ⟨by rw [rdS_none]; exact rfl, by rw [rdS_none]; exact hX2, (Chg.mono hS (by simp)).same hc2⟩
 | some x =>
  obtain ⟨x, j⟩ := x
  skip
  dsimp only [textV]; refine Gkp 10 ?_; refine Gkp 11 ?_; refine Gkp 12 ?_; refine Gkp 13 ?_; refine Gkp 14 ?_; refine Gkp 15 ?_; refine GW.tail rfl (by kernel_rfl) (fun hS => ?_); replace hX := hX.ext hS; refine Su ?_
  cases bad with
  | true =>
   refine Su ?_; refine Lwt fun w2 hc2 hX2 => ?_; refine Su ?_
   exact QW.body1 Tryz.results42 rfl ⟨rfl, hX2, (Chg.mono hS (by simp)).same hc2⟩
  | false =>
   refine Su ?_; refine Lwt fun w2 hc2 hX2 => ?_; refine Su ?_; exact QW.body1 Tryz.results42 rfl ⟨(rfl), hX2, (Chg.mono hS (by simp)).same hc2⟩
set_option maxRecDepth 8000 in
set_option maxHeartbeats 1000000 in
theorem takeL_ret {ok : Addr → Prop} (b : List UInt8) (p : Option Addr) (c i X : Nat) (bad : Bool) (w : World) (h : BytesQ ok w (.slice p b.length c) b) (hcap : b.length ≤ c) (hi : i ≤ b.length) (hX : RdR w X p b.length c i bad) (_ho : ∀ a, ok a → a.block ≠ X) : Ret Tryz.prog 44 [.pointer (some ⟨X, 0, none⟩), .func (.func 45) ⟨[]⟩ ⟨[]⟩] w (fun v w' => TextsQ (fun a => w.heap.size ≤ a.block) w' v ((rdS (getL b i) i bad).1.getD []) ∧ RdR w' X p b.length c (rdS (getL b i) i bad).2.1 (rdS (getL b i) i bad).2.2 ∧ Chg [X] w w') := by
 have hl := h.1; have hXlt := hX.lt; refine Rte Tryz.func44 Tryz.ntmps44 ?_; refine Su ?_; refine CW.drawG (Ext w) 16 (fun w' h => h) (by kernel_rfl) fun wa hxa => ?_; refine Sgv ?_; refine Gko 9 fun hS => ?_; refine LW.call (fs := []) (cs := []) rfl rfl rfl (by simpa using GetList_ret b p c i _ (h.ext (by assumption)) hcap hi) ?_; rintro v w1 ⟨u, rfl, hu, hx1⟩; apply LW.nil; refine QW.headed (hS.trans hx1) ?_
 cases hg : getL b i with
 | none =>
  dsimp only [listV]; refine Gkp 10 ?_; refine Gkp 11 ?_; refine Gkp 12 ?_; refine Gkp 13 ?_; refine Gkp 14 ?_; refine Gkp 15 ?_; refine GW.tail rfl (by kernel_rfl) (fun hS => ?_); replace hX := hX.ext hS; refine Su ?_; refine Lwt fun w2 hc2 hX2 => ?_; refine Su ?_
  exact QW.body1 Tryz.results44 rfl ⟨by rw [rdS_none]; exact ListR.nil, by rw [rdS_none]; exact hX2, (Chg.mono hS (by simp)).same hc2⟩
 | some x =>
  obtain ⟨x, j⟩ := x
  skip
  dsimp only [listV]; refine Gkp 10 ?_; refine Gkp 11 ?_; refine Gkp 12 ?_; refine Gkp 13 ?_; refine Gkp 14 ?_; refine Gkp 15 ?_; refine GW.tail rfl (by kernel_rfl) (fun hS => ?_); replace hX := hX.ext hS; refine Su ?_
  cases bad with
  | true =>
   refine Su ?_; refine Lwt fun w2 hc2 hX2 => ?_; refine Su ?_
   exact QW.body1 Tryz.results44 rfl ⟨ListR.nil, hX2, (Chg.mono hS (by simp)).same hc2⟩
  | false =>
   refine Su ?_; refine Lwt fun w2 hc2 hX2 => ?_; refine Su ?_; exact QW.body1 Tryz.results44 rfl ⟨(TextsQ.chg (ListR.map (hu _ _ hg) (fun a ha => Nat.le_trans hxa.size ha) fun _ _ _ _ h => h) hc2 fun _ a ha => by simp; omega), hX2, (Chg.mono hS (by simp)).same hc2⟩
theorem rdNum_ret {ok : Addr → Prop} (b : List UInt8) (p : Option Addr) (c i X : Nat) (bad : Bool) (w : World) (h : BytesQ ok w (.slice p b.length c) b) (hcap : b.length ≤ c) (hi : i ≤ b.length) (hX : RdR w X p b.length c i bad) (ho : ∀ a, ok a → a.block ≠ X) : Ret Tryz.prog 19 [.pointer (some ⟨X, 0, none⟩)] w (fun v w' => v = .int .i64 (((rdS (getN b i) i bad).1.getD 0 : Nat) : Int) ∧ RdR w' X p b.length c (rdS (getN b i) i bad).2.1 (rdS (getN b i) i bad).2.2 ∧ Chg [X] w w') := by
 refine Rte Tryz.func19 Tryz.ntmps19 ?_; refine Su ?_; refine Lc0 rfl rfl (takeN_ret b p c i X bad w h hcap hi hX ho) ?_; rintro v w1 hv; refine Su ?_; exact QW.body1 Tryz.results19 rfl hv
theorem rdText_ret {ok : Addr → Prop} (b : List UInt8) (p : Option Addr) (c i X : Nat) (bad : Bool) (w : World) (h : BytesQ ok w (.slice p b.length c) b) (hcap : b.length ≤ c) (hi : i ≤ b.length) (hX : RdR w X p b.length c i bad) (ho : ∀ a, ok a → a.block ≠ X) : Ret Tryz.prog 20 [.pointer (some ⟨X, 0, none⟩)] w (fun v w' => v = str ((rdS (getT b i) i bad).1.getD []) ∧ RdR w' X p b.length c (rdS (getT b i) i bad).2.1 (rdS (getT b i) i bad).2.2 ∧ Chg [X] w w') := by
 refine Rte Tryz.func20 Tryz.ntmps20 ?_; refine Su ?_; refine Lc0 rfl rfl (takeT_ret b p c i X bad w h hcap hi hX ho) ?_; rintro v w1 hv; refine Su ?_; exact QW.body1 Tryz.results20 rfl hv
theorem rdList_ret {ok : Addr → Prop} (b : List UInt8) (p : Option Addr) (c i X : Nat) (bad : Bool) (w : World) (h : BytesQ ok w (.slice p b.length c) b) (hcap : b.length ≤ c) (hi : i ≤ b.length) (hX : RdR w X p b.length c i bad) (ho : ∀ a, ok a → a.block ≠ X) : Ret Tryz.prog 21 [.pointer (some ⟨X, 0, none⟩)] w (fun v w' => TextsQ (fun a => w.heap.size ≤ a.block) w' v ((rdS (getL b i) i bad).1.getD []) ∧ RdR w' X p b.length c (rdS (getL b i) i bad).2.1 (rdS (getL b i) i bad).2.2 ∧ Chg [X] w w') := by
 refine Rte Tryz.func21 Tryz.ntmps21 ?_; refine Su ?_; refine Lc0 rfl rfl (takeL_ret b p c i X bad w h hcap hi hX ho) ?_; rintro v w1 hv; refine Su ?_; exact QW.body1 Tryz.results21 rfl hv
end Go.Proofs.YtgdohpcnpgjpaaaGreatDoor
