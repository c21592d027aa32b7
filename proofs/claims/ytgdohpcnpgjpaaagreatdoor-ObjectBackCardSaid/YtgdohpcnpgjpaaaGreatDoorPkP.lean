/-
  Joined by program out of the texts ObjD ObjE ObjF ObjG OpenO.
-/
import Derived.Test.YtgdohpcnpgjpaaaGreatDoorPkO
import Derived.Test.YtgdohpcnpgjpaaaGreatDoorPkF
import Derived.Deep.Slices
namespace Go.Proofs.YtgdohpcnpgjpaaaGreatDoor
open Go Go.E
def loopP (b : List UInt8) : Nat → Nat → Bool → List (List (List UInt8)) × Nat × Bool
 | 0, i, bad => ([], i, bad)
 | _ + 1, i, true => ([], i, true)
 | n + 1, i, false => match getL b i with
  | none => ([[]], i, true)
  | some (l, j) => (l :: (loopP b n j false).1, (loopP b n j false).2)
abbrev sN (b : List UInt8) (i : Nat) (bad : Bool) : Option Nat × Nat × Bool := rdS (getN b i) i bad
abbrev sT (b : List UInt8) (i : Nat) (bad : Bool) : Option (List UInt8) × Nat × Bool := rdS (getT b i) i bad
abbrev sL (b : List UInt8) (i : Nat) (bad : Bool) : Option (List (List UInt8)) × Nat × Bool := rdS (getL b i) i bad
def kindP (b : List UInt8) : Nat := (sN b 0 false).1.getD 0
noncomputable def endP (b : List UInt8) (o : ObjD) (i : Nat) (bad : Bool) : Option ObjD := bif !bad && (decide (i = b.length) && mayO o) then some o else none
noncomputable def sheetP (b : List UInt8) (i : Nat) (bad : Bool) : Option ObjD :=
 endP b { obj0 2 with
  name := (sT b i bad).1.getD []
  cols := (((sN b (sT b i bad).2.1 (sT b i bad).2.2).1.getD 0 : Nat) : Int)
  kids := (sL b (sN b (sT b i bad).2.1 (sT b i bad).2.2).2.1 (sN b (sT b i bad).2.1 (sT b i bad).2.2).2.2).1.getD [] }
 (sL b (sN b (sT b i bad).2.1 (sT b i bad).2.2).2.1 (sN b (sT b i bad).2.1 (sT b i bad).2.2).2.2).2.1
 (sL b (sN b (sT b i bad).2.1 (sT b i bad).2.2).2.1 (sN b (sT b i bad).2.1 (sT b i bad).2.2).2.2).2.2
noncomputable def commitP (b : List UInt8) (i : Nat) (bad : Bool) : Option ObjD :=
 endP b { obj0 4 with
  kids := (sL b i bad).1.getD []
  parents := (sL b (sL b i bad).2.1 (sL b i bad).2.2).1.getD []
  note := (sT b (sL b (sL b i bad).2.1 (sL b i bad).2.2).2.1 (sL b (sL b i bad).2.1 (sL b i bad).2.2).2.2).1.getD [] }
 (sT b (sL b (sL b i bad).2.1 (sL b i bad).2.2).2.1 (sL b (sL b i bad).2.1 (sL b i bad).2.2).2.2).2.1
 (sT b (sL b (sL b i bad).2.1 (sL b i bad).2.2).2.1 (sL b (sL b i bad).2.1 (sL b i bad).2.2).2.2).2.2
noncomputable def bookP (b : List UInt8) (i : Nat) (bad : Bool) : Option ObjD :=
 endP b { obj0 3 with kids := (sL b i bad).1.getD [] } (sL b i bad).2.1 (sL b i bad).2.2
noncomputable def chunkP (b : List UInt8) (i : Nat) (bad : Bool) : Option ObjD :=
 endP b { obj0 1 with rows := (loopP b (min ((sN b i bad).1.getD 0) 5) (sN b i bad).2.1 (sN b i bad).2.2).1 }
  (loopP b (min ((sN b i bad).1.getD 0) 5) (sN b i bad).2.1 (sN b i bad).2.2).2.1 (loopP b (min ((sN b i bad).1.getD 0) 5) (sN b i bad).2.1 (sN b i bad).2.2).2.2
theorem endP_bad (b : List UInt8) (o : ObjD) (i : Nat) : endP b o i true = none := rfl
theorem endP_ok (b : List UInt8) (o : ObjD) (i : Nat) : endP b o i false = if i = b.length ∧ mayO o = true then some o else none := by
 unfold endP; by_cases h : i = b.length <;> cases hm : mayO o <;> simp [h]
theorem loopP_rows (b : List UInt8) : ∀ (n i : Nat), (match getRows b n i with
  | none => (loopP b n i false).2.2 = true
  | some (l, j) => loopP b n i false = (l, j, false))
 | 0, i => rfl
 | n + 1, i => by
  have ih := loopP_rows b n; rw [getRows, loopP]
  cases hg : getL b i with
  | none => rfl
  | some x =>
   obtain ⟨l, j⟩ := x; have ih := ih j; simp only
   cases hr : getRows b n j with
   | none => rw [hr] at ih; exact ih
   | some y => rw [hr] at ih; obtain ⟨l', m⟩ := y; simp only at ih ⊢; rw [ih]
theorem rdS_some {α : Type} (x : α × Nat) (i : Nat) : rdS (some x) i false = (some x.1, x.2, false) := rfl
theorem getO_P (b : List UInt8) : getO b = (
  if kindP b = 1 then chunkP b (sN b 0 false).2.1 (sN b 0 false).2.2
  else if kindP b = 2 then sheetP b (sN b 0 false).2.1 (sN b 0 false).2.2
  else if kindP b = 3 then bookP b (sN b 0 false).2.1 (sN b 0 false).2.2
  else if kindP b = 4 then commitP b (sN b 0 false).2.1 (sN b 0 false).2.2
  else none) := by
 unfold getO readO kindP
 cases hg : getN b 0 with
 | none => simp [sN, hg, rdS_none]
 | some x =>
  obtain ⟨k, i⟩ := x; simp only [sN, hg, rdS_some, Option.getD_some]; by_cases h1 : k = 1
  ·subst h1; simp only [if_pos, chunkP]
   cases h2 : getN b i with
   | none => simp only [sN, h2, rdS_none]; cases (min ((none : Option Nat).getD 0) 5) <;> rfl
   | some x =>
    obtain ⟨n, j⟩ := x; simp only [sN, h2, rdS_some, Option.getD_some]; have := loopP_rows b (min n 5) j
    cases h3 : getRows b (min n 5) j with
    | none => rw [h3] at this; simp only at this ⊢; rw [this]; rfl
    | some y => rw [h3] at this; obtain ⟨l, m⟩ := y; simp only at this ⊢; rw [this]; exact (endP_ok _ _ _).symm
  by_cases h2 : k = 2
  ·subst h2; simp only [if_neg (show ¬ (2 : Nat) = 1 by decide), if_pos, sheetP]
   cases h2 : getT b i with
   | none => simp only [sN, sT, sL, h2, rdS_none, rdS_bad]; rfl
   | some x =>
    obtain ⟨s, j⟩ := x; simp only [sN, sT, sL, h2, rdS_some, Option.getD_some]
    cases h3 : getN b j with
    | none => simp only [rdS_none, rdS_bad]; rfl
    | some x =>
     obtain ⟨n, m⟩ := x; simp only [rdS_some, Option.getD_some]
     cases h4 : getL b m with
     | none => simp only [rdS_none]; rfl
     | some x =>
      obtain ⟨l, q⟩ := x; simp only [rdS_some, Option.getD_some]; exact (endP_ok _ _ _).symm
  by_cases h3 : k = 3
  ·subst h3; simp only [if_neg (show ¬ (3 : Nat) = 1 by decide), if_neg (show ¬ (3 : Nat) = 2 by decide), if_pos, bookP]
   cases h4 : getL b i with
   | none => simp only [sL, h4, rdS_none]; rfl
   | some x =>
    obtain ⟨l, q⟩ := x; simp only [sL, h4, rdS_some, Option.getD_some]; exact (endP_ok _ _ _).symm
  by_cases h4 : k = 4
  ·subst h4; simp only [if_neg (show ¬ (4 : Nat) = 1 by decide), if_neg (show ¬ (4 : Nat) = 2 by decide), if_neg (show ¬ (4 : Nat) = 3 by decide), if_pos, commitP]
   cases h2 : getL b i with
   | none => simp only [sT, sL, h2, rdS_none, rdS_bad]; rfl
   | some x =>
    obtain ⟨s, j⟩ := x; simp only [sT, sL, h2, rdS_some, Option.getD_some]
    cases h3 : getL b j with
    | none => simp only [rdS_none, rdS_bad]; rfl
    | some x =>
     obtain ⟨n, m⟩ := x; simp only [rdS_some, Option.getD_some]
     cases h4 : getT b m with
     | none => simp only [rdS_none]; rfl
     | some x =>
      obtain ⟨l, q⟩ := x; simp only [rdS_some, Option.getD_some]; exact (endP_ok _ _ _).symm
  simp only [if_neg h1, if_neg h2, if_neg h3, if_neg h4]; rw [if_neg]; rintro ⟨-, hm⟩; have := may_kind hm; simp only [obj0] at this; omega
theorem rdS_le {α : Type} {b : List UInt8} {g : Option (α × Nat)} {i : Nat} (bad : Bool) (hi : i ≤ b.length) (hg : ∀ x j, g = some (x, j) → j ≤ b.length) : (rdS g i bad).2.1 ≤ b.length := by
 cases bad with
 | true => exact hi
 | false => cases g with
  | none => exact hi
  | some x => obtain ⟨x, j⟩ := x; exact hg x j rfl
def tot {α : Type} (g : Option (α × Nat)) (d : α) : α × Nat × Bool := match g with
 | none => (d, 0, false)
 | some (x, j) => (x, j, true)
theorem tot_some {α : Type} (x : α × Nat) (d : α) : tot (some x) d = (x.1, x.2, true) := rfl
theorem tot_none {α : Type} (d : α) : tot (none : Option (α × Nat)) d = (d, 0, false) := rfl
theorem tot_le {α : Type} {b : List UInt8} {g : Option (α × Nat)} {d : α} (hg : ∀ x j, g = some (x, j) → j ≤ b.length) : (tot g d).2.1 ≤ b.length := by
 cases g with
 | none => exact Nat.zero_le _
 | some x => obtain ⟨x, j⟩ := x; exact hg x j rfl
theorem numV_tot (g : Option (Nat × Nat)) : numV g = .tuple #[.int .i64 ((tot g 0).1 : Int), .int .i64 ((tot g 0).2.1 : Int), .bool (tot g 0).2.2] := by cases g <;> rfl
theorem textV_tot (g : Option (List UInt8 × Nat)) : textV g = .tuple #[str (tot g []).1, .int .i64 ((tot g []).2.1 : Int), .bool (tot g []).2.2] := by cases g <;> rfl
abbrev dN (b : List UInt8) (i : Nat) : Nat × Nat × Bool := tot (getN b i) 0
abbrev dT (b : List UInt8) (i : Nat) : List UInt8 × Nat × Bool := tot (getT b i) []
abbrev dL (b : List UInt8) (i : Nat) : List (List UInt8) × Nat × Bool := tot (getL b i) []
def readQ (b : List UInt8) : Option ObjD := match readO b with
 | none => none
 | some (o, _) => if o.kind = 1 ∨ o.kind = 2 ∨ o.kind = 3 ∨ o.kind = 4 then some o else none
theorem getO_Q (b : List UInt8) : (match readQ b with
  | none => none
  | some o => if b ≠ [] ∧ putO o = b then some o else none) = getO b := by
 rw [← getO_ref, readQ]
 cases hr : readO b with
 | none => rfl
 | some x =>
  obtain ⟨o, p⟩ := x; simp only; by_cases hk : o.kind = 1 ∨ o.kind = 2 ∨ o.kind = 3 ∨ o.kind = 4
  ·rw [if_pos hk]
  ·rw [if_neg hk]; have hm : mayO o = false := by
    cases hm : mayO o with
    | false => rfl
    | true => exact absurd (may_kind hm) hk
   simp only; rw [if_neg]; rintro ⟨h1, h2⟩; rw [putO, hm] at h2; exact h1 h2.symm
def optB {α : Type} (c : Bool) (x : α) : Option α := bif c then some x else none
theorem readQ_no {b : List UInt8} (h : (dN b 0).2.2 = false) : readQ b = none := by
 unfold readQ readO
 cases hg : getN b 0 with
 | none => rfl
 | some x => rw [dN, hg] at h; cases h
theorem readQ_is {b : List UInt8} (h : (dN b 0).2.2 = true) : readQ b = (
  if (dN b 0).1 = 1 then optB (!(loopP b (min (dN b (dN b 0).2.1).1 5) (dN b (dN b 0).2.1).2.1 (!(dN b (dN b 0).2.1).2.2)).2.2) { obj0 1 with rows := (loopP b (min (dN b (dN b 0).2.1).1 5) (dN b (dN b 0).2.1).2.1 (!(dN b (dN b 0).2.1).2.2)).1 }
  else if (dN b 0).1 = 2 then optB ((dT b (dN b 0).2.1).2.2 && (dN b (dT b (dN b 0).2.1).2.1).2.2 && (dL b (dN b (dT b (dN b 0).2.1).2.1).2.1).2.2) { obj0 2 with name := (dT b (dN b 0).2.1).1, cols := ((dN b (dT b (dN b 0).2.1).2.1).1 : Int), kids := (dL b (dN b (dT b (dN b 0).2.1).2.1).2.1).1 }
  else if (dN b 0).1 = 3 then optB (dL b (dN b 0).2.1).2.2 { obj0 3 with kids := (dL b (dN b 0).2.1).1 }
  else if (dN b 0).1 = 4 then optB ((dL b (dN b 0).2.1).2.2 && (dL b (dL b (dN b 0).2.1).2.1).2.2 && (dT b (dL b (dL b (dN b 0).2.1).2.1).2.1).2.2) { obj0 4 with kids := (dL b (dN b 0).2.1).1, parents := (dL b (dL b (dN b 0).2.1).2.1).1, note := (dT b (dL b (dL b (dN b 0).2.1).2.1).2.1).1 }
  else none) := by
 unfold readQ readO
 cases hg : getN b 0 with
 | none => rw [dN, hg] at h; cases h
 | some x =>
  obtain ⟨k, i⟩ := x; simp only [dN, hg, tot_some]; by_cases h1 : k = 1
  ·subst h1; simp only [if_pos]
   cases h2 : getN b i with
   | none => rfl
   | some x =>
    obtain ⟨n, j⟩ := x; simp only [tot_some, Bool.not_true]; have := loopP_rows b (min n 5) j
    cases h3 : getRows b (min n 5) j with
    | none => rw [h3] at this; simp only at this ⊢; rw [this]; rfl
    | some y => rw [h3] at this; obtain ⟨l, m⟩ := y; simp only at this ⊢; rw [this]; rfl
  by_cases h2 : k = 2
  ·subst h2; simp only [if_neg (show ¬ (2 : Nat) = 1 by decide), if_pos]
   cases h2 : getT b i with
   | none => simp only [dT, h2, tot_none]; rfl
   | some x =>
    obtain ⟨s, j⟩ := x; simp only [dT, h2, tot_some]
    cases h3 : getN b j with
    | none => simp only [tot_none]; rfl
    | some x =>
     obtain ⟨n, m⟩ := x; simp only [tot_some]
     cases h4 : getL b m with
     | none => simp only [dL, h4, tot_none]; rfl
     | some x => obtain ⟨l, q⟩ := x; simp only [dL, h4, tot_some]; rfl
  by_cases h3 : k = 3
  ·subst h3; simp only [if_neg (show ¬ (3 : Nat) = 1 by decide), if_neg (show ¬ (3 : Nat) = 2 by decide), if_pos]
   cases h4 : getL b i with
   | none => simp only [dL, h4, tot_none]; rfl
   | some x => obtain ⟨l, q⟩ := x; simp only [dL, h4, tot_some]; rfl
  by_cases h4 : k = 4
  ·subst h4; simp only [if_neg (show ¬ (4 : Nat) = 1 by decide), if_neg (show ¬ (4 : Nat) = 2 by decide), if_neg (show ¬ (4 : Nat) = 3 by decide), if_pos]
   cases h2 : getL b i with
   | none => simp only [dL, h2, tot_none]; rfl
   | some x =>
    obtain ⟨s, j⟩ := x; simp only [dL, h2, tot_some]
    cases h3 : getL b j with
    | none => simp only [tot_none]; rfl
    | some x =>
     obtain ⟨n, m⟩ := x; simp only [tot_some]
     cases h4 : getT b m with
     | none => simp only [dT, h4, tot_none]; rfl
     | some x => obtain ⟨l, q⟩ := x; simp only [dT, h4, tot_some]; rfl
  simp only [if_neg h1, if_neg h2, if_neg h3, if_neg h4]; rw [if_neg]; simp only [obj0]; omega
theorem ListR.there {α : Type} {m : Nat} {ok : Addr → Prop} {R : Elem α} {w : World} {v : Value} {l : List α} (h : ListR m ok R w v l) (hm : 0 < m) : ListR m (fun a => ok a ∧ a.block < w.heap.size) R w v l := by
 by_cases hn : l = []
 ·obtain ⟨h0, h1 | ⟨a, c, e, hk, h⟩⟩ := h
  ·exact ⟨h0, .inl h1⟩
  ·exact ⟨h0, .inr ⟨a, c, e, fun h => absurd hn h, h⟩⟩
 ·have h2 := h.lt hm hn; obtain ⟨a', c', e', hlt⟩ := h2; obtain ⟨h0, h1 | ⟨a, c, e, hk, h⟩⟩ := h
  ·exact ⟨h0, .inl h1⟩
  ·rw [e] at e'; simp only [Value.slice.injEq, Option.some.injEq] at e'; obtain ⟨rfl, -, -⟩ := e'; exact ⟨h0, .inr ⟨a, c, e, fun h => ⟨hk h, hlt⟩, h⟩⟩
theorem TextsQ.w {ok : Addr → Prop} {w : World} {v : Value} {l : List (List UInt8)} (h : TextsQ ok w v l) : TextsW w v l := by
 obtain ⟨h0, h1 | ⟨a, c, e, hk, h⟩⟩ := h
 ·exact ⟨by omega, .inl h1⟩
 ·refine ⟨by omega, .inr ⟨a, c, e, fun i x hi => ?_⟩⟩; obtain ⟨cs, h1, ⟨rfl, hx⟩, h3⟩ := h i x hi; have := h3 0 _ rfl; rw [add_zero'] at this; exact ⟨_, this, rfl, by omega⟩
def rowE (ok : Addr → Prop) : Elem (List (List UInt8)) := fun _ w cs r => ∃ u, cs = [u] ∧ TextsQ ok w u r
abbrev RowsO (lo : Nat) (ok : Addr → Prop) (w : World) (v : Value) (l : List (List (List UInt8))) : Prop := ListO 1 lo 23 (rowE ok) w v l
theorem RowsO.w {lo : Nat} {ok : Addr → Prop} {w : World} {v : Value} {l : List (List (List UInt8))} (h : RowsO lo ok w v l) (hl : l.length ≤ 1000000) : RowsW w v l := by
 obtain ⟨h0, h1 | ⟨a, c, e, hk, h⟩⟩ := ListO.list (ok := fun _ => True) h hl (fun _ _ _ => trivial)
 ·exact ⟨by omega, .inl h1⟩
 ·refine ⟨by omega, .inr ⟨a, c, e, fun i x hi => ?_⟩⟩; obtain ⟨cs, h1, ⟨u, rfl, hx⟩, h3⟩ := h i x hi; have := h3 0 _ rfl; rw [add_zero'] at this; exact ⟨_, this, hx.w⟩
theorem TextsW.nil {w : World} : TextsW w (.slice none 0 0) [] := ⟨by simp, .inl ⟨rfl, rfl⟩⟩
theorem RowsW.nil {w : World} : RowsW w (.slice none 0 0) [] := ⟨by simp, .inl ⟨rfl, rfl⟩⟩
abbrev objZ : List Value := [.int .i64 0, .slice none 0 0, str [], .int .i64 0, .slice none 0 0, .slice none 0 0, str []]
theorem objW_zero {w : World} : ObjW w objZ (obj0 0) := ⟨_, _, _, rfl, RowsW.nil, TextsW.nil, TextsW.nil, by simp [obj0], by simp [obj0], by simp [obj0], by simp [obj0], by simp [obj0], by simp [obj0]⟩
theorem getL_le {b : List UInt8} {l : List (List UInt8)} {i j : Nat} (hi : i ≤ b.length) (h : getL b i = some (l, j)) : j ≤ b.length := by
 obtain ⟨h1, h2, -⟩ := getL_put h; have := congrArg List.length h1; simp only [List.length_append, List.length_drop] at this; by_cases hj : j ≤ b.length
 ·exact hj
 ·omega
theorem sN_le {b : List UInt8} {i : Nat} {bad : Bool} (hi : i ≤ b.length) : (sN b i bad).2.1 ≤ b.length := rdS_le bad hi fun _ _ h => (getN_le hi h).1
theorem sT_le {b : List UInt8} {i : Nat} {bad : Bool} (hi : i ≤ b.length) : (sT b i bad).2.1 ≤ b.length := rdS_le bad hi fun _ _ h => (getT_le hi h).1
theorem sL_le {b : List UInt8} {i : Nat} {bad : Bool} (hi : i ≤ b.length) : (sL b i bad).2.1 ≤ b.length := rdS_le bad hi fun _ _ h => getL_le hi h
theorem sN_num {b : List UInt8} {i : Nat} {bad : Bool} (hi : i ≤ b.length) : (sN b i bad).1.getD 0 ≤ 9223372036854775807 := by
 unfold sN rdS
 cases bad with
 | true => simp
 | false =>
  cases hg : getN b i with
  | none => simp
  | some x => obtain ⟨x, j⟩ := x; exact (getN_le hi hg).2.1
theorem sT_len {b : List UInt8} {i : Nat} {bad : Bool} (hi : i ≤ b.length) : ((sT b i bad).1.getD []).length ≤ b.length := by
 unfold sT rdS
 cases bad with
 | true => simp
 | false =>
  cases hg : getT b i with
  | none => simp
  | some x => obtain ⟨x, j⟩ := x; exact (getT_le hi hg).2.2
theorem endP_no {b : List UInt8} {o : ObjD} {i : Nat} {bad : Bool} (h : mayO o = false) : endP b o i bad = none := by
 unfold endP; rw [h]; cases bad <;> simp
structure GetI (w : World) (b : List UInt8) (p : Option Addr) (c X O R : Nat) (x : ObjD × Nat × Bool × Value × Value × Value) (w' : World) : Prop where
 ext : Ext w w'
 rd : RdR w' X p b.length c x.2.1 x.2.2.1
 ob : Blk w' O (objL x.1 x.2.2.2.1 x.2.2.2.2.1 x.2.2.2.2.2) 25
 rb : Blk w' R objZ 25
 may : ∀ w2, Chg [R] w' w2 → ObjW w2 (objL x.1 x.2.2.2.1 x.2.2.2.2.1 x.2.2.2.2.2) x.1
 get : getO b = endP b x.1 x.2.1 x.2.2.1
set_option maxRecDepth 8000 in
set_option maxHeartbeats 8000000 in
theorem oGet_ret (b : List UInt8) (p : Option Addr) (c : Nat) (w : World) (g : Glob w) (h : BytesQ (fun a => a.block < w.heap.size) w (.slice p b.length c) b) (hcap : b.length ≤ c) : Ret Tryz.prog 8 [.slice p b.length c] w (fun r w' => ∃ cs, r = .tuple #[.agg ⟨cs⟩, .bool (getO b).isSome] ∧ ObjW w' cs ((getO b).getD (obj0 0)) ∧ Ext w w') := by
 have hl := h.1; refine Rte Tryz.func8 Tryz.ntmps8 ?_; refine Su ?_; refine Lwa fun R w1 hbR hx1 hR => ?_; replace hR : Blk w1 R objZ 25 := hR; have hRl := hR.lt; refine Su ?_; refine Lwb fun X w2 hbX hx2' hX => ?_; replace hX : RdR w2 X p b.length c 0 false := hX; have hx2 := hx1.trans hx2'; replace hR := hR.ext hx2'; have hXl := hX.lt; have hs1 := hx1.size; have hs2 := hx2'.size; have hXw : w.heap.size ≤ X := by omega
 have hRw : w.heap.size ≤ R := by omega
 have hRX : R ≠ X := by have := hx2'.size; omega
 refine Su ?_; refine LW.call (fs := []) (cs := []) rfl rfl rfl (by simpa using rdNum_ret b p c 0 X false w2 (h.ext hx2) hcap (by omega) hX (fun a ha e => by omega)) ?_; rintro v w3 ⟨rfl, hX3, hc3⟩; replace hR := hR.chg hc3 (by simp; exact hRX); have hx3 : Ext w w3 := hx2.step hc3 (by simp; exact hXw); have hk63 := sN_num (b := b) (i := 0) (bad := false) (by omega); have hi0 := sN_le (b := b) (i := 0) (bad := false) (by omega); have hkP : (rdS (getN b 0) 0 false).1.getD 0 = kindP b := rfl; have hG := getO_P b; rw [hkP] at hk63 ⊢; generalize hei : (rdS (getN b 0) 0 false).2.1 = i0 at *; generalize heb : (rdS (getN b 0) 0 false).2.2 = bad0 at *; generalize kindP b = k at *; refine Su ?_; refine Lwa fun O w4 hbO hx4' hO => ?_; refine Su ?_; refine Lws fun w5 hc5 hO => ?_; replace hO : Blk w5 O [.int .i64 (k : Int), .slice none 0 0, str [], .int .i64 0, .slice none 0 0, .slice none 0 0, str []] 25 := hO; have hs3 := hc3.size; have hs4 := hx4'.size; have hs5 := hc5.size; have hOl := hO.lt; have hRO : R ≠ O := by omega
 have hXO : X ≠ O := by omega
 have hx5 : Ext w w5 := (hx3.trans hx4').step hc5 (by simp; omega); replace hR := (hR.ext hx4').chg hc5 (by simp; exact hRO); have hX5 : RdR w5 X p b.length c i0 bad0 := (hX3.ext hx4').chg hc5 (by simp; exact hXO); refine Sl ?_; apply LW.nil; apply QW.then_n; refine CW.seq_cut (ι := ObjD × Nat × Bool × Value × Value × Value) (GetI w b p c X O R) (fun _ => [(0, .slice p b.length c), (2, .pointer (some ⟨R, 0, none⟩)), (3, .bool false), (4, .pointer (some ⟨X, 0, none⟩)), (8, .pointer (some ⟨O, 0, none⟩))]) ?_ ?_; rotate_left
 ·rintro ⟨o, i, bad, rv, kv, pv⟩ w6 ⟨hx6, hX6, hO6, hR6, hM6, hg6⟩; dsimp only at hX6 hO6 hR6 hM6 hg6; have hMR := hM6; replace hM6 := hM6 w6 (Chg.refl _ _); show CW _ _ _ _ _ [(0, .slice p b.length c), (2, .pointer (some ⟨R, 0, none⟩)), (3, .bool false), (4, .pointer (some ⟨X, 0, none⟩)), (8, .pointer (some ⟨O, 0, none⟩))] _; have bye : getO b = none → ∀ w7 w8, Ext w w7 → Chg [R] w7 w8 → ∃ cs, Value.tuple #[.agg ⟨objZ⟩, .bool false] = .tuple #[.agg ⟨cs⟩, .bool (getO b).isSome] ∧ ObjW w8 cs ((getO b).getD (obj0 0)) ∧ Ext w w8 := fun e w7 w8 h1 h2 => ⟨objZ, by rw [e]; rfl, by rw [e]; exact objW_zero, h1.step h2 (by simp; omega)⟩
  cases bad with
  | true =>
   rw [endP_bad] at hg6; refine Su ?_; refine Lws fun w7 hc7 hR7 => ?_; replace hR7 : Blk w7 R objZ 25 := hR7; refine Su ?_
   exact QW.body_ct Tryz.results8 rfl hR7 rfl rfl rfl rfl (bye hg6 _ _ hx6 hc7)
  | false =>
  rw [endP_ok] at hg6; refine Su ?_; refine Lwp (fun h1 => ?_) fun h1 => ?_
  ·have h1 : i ≠ b.length := by simp at h1; omega
   rw [if_neg (fun h => h1 h.1)] at hg6; refine Su ?_; refine Lws fun w7 hc7 hR7 => ?_; replace hR7 : Blk w7 R objZ 25 := hR7; refine Su ?_; exact QW.body_ct Tryz.results8 rfl hR7 rfl rfl rfl rfl (bye hg6 _ _ hx6 hc7)
  have h1 : i = b.length := by simp at h1; omega
  refine Su ?_; refine Lc0 rfl rfl (oMay_ret o _ w6 (g.ext hx6) hM6) ?_; rintro v w7 ⟨rfl, hx7⟩; replace hR6 := hR6.ext hx7; replace hO6 := hO6.ext hx7; have hx67 := hx6.trans hx7; have hs7 := hx7.size; refine Su ?_; refine Cwc (fun h2 => ?_) fun h2 => ?_
  ·have h2 : mayO o = false := by simpa using h2
   rw [if_neg (fun h => by rw [h2] at h; cases h.2)] at hg6; refine Su ?_; refine Lws fun w8 hc8 hR8 => ?_; replace hR8 : Blk w8 R objZ 25 := hR8; refine Su ?_; exact QW.body_ct Tryz.results8 rfl hR8 rfl rfl rfl rfl (bye hg6 _ _ hx67 hc8)
  have h2 : mayO o = true := by simpa using h2
  rw [if_pos ⟨h1, h2⟩] at hg6; have hM := hM6; obtain ⟨_, _, _, e, hmr, hmk, hmp, -⟩ := hM; simp only [objL, List.cons.injEq, true_and, and_true] at e; obtain ⟨rfl, rfl, rfl⟩ := e; obtain ⟨_, _, rfl⟩ := hmr.slice; obtain ⟨_, _, rfl⟩ := hmk.slice; obtain ⟨_, _, rfl⟩ := hmp.slice; refine Su ?_; refine Lws fun w8 hc8 hR8 => ?_; refine Su ?_; refine QW.body_ct Tryz.results8 rfl hR8 rfl rfl rfl rfl ⟨_, by rw [hg6]; rfl, ?_, hx67.step hc8 (by simp; omega)⟩; rw [hg6]; exact hMR _ (hx7.chg.same hc8)
 have hk63' : ((k : Nat) : Int) ≤ 9223372036854775807 := by omega
 refine Su ?_; refine Cwc (fun e1 => ?_) fun e1 => ?_
 ·have e1 : k = 1 := by simp at e1; omega
  subst e1; rw [if_pos rfl, chunkP] at hG; simp only [sN] at hG; refine Su ?_; refine LW.call (fs := []) (cs := []) rfl rfl rfl (by simpa using rdNum_ret b p c i0 X bad0 w5 (h.ext hx5) hcap hi0 hX5 (fun a ha e => by omega)) ?_; rintro v w6 ⟨rfl, hX6, hc6⟩; have hR6 := hR.chg hc6 (by simp; exact hRX); have hO6 := hO.chg hc6 (by simp; exact fun e => hXO e.symm); have hx6 : Ext w w6 := hx5.step hc6 (by simp; exact hXw); have hs6 := hc6.size; have hn63 := sN_num (b := b) (i := i0) (bad := bad0) hi0; have hj0 := sN_le (b := b) (i := i0) (bad := bad0) hi0; simp only [sN] at hn63 hj0; generalize (rdS (getN b i0) i0 bad0).1.getD 0 = n at *; generalize (rdS (getN b i0) i0 bad0).2.1 = j0 at *; generalize (rdS (getN b i0) i0 bad0).2.2 = bd0 at *; refine Su ?_; refine CW.loop (ι := Nat × Nat × Bool × List (List (List UInt8)) × Value) (fun x w' => x.1 ≤ 5 ∧ x.2.1 ≤ b.length ∧ x.2.2.2.1.length = x.1 ∧ Ext w w' ∧ Chg [X, O] w6 w' ∧ RdR w' X p b.length c x.2.1 x.2.2.1 ∧ Blk w' O [.int .i64 ((1 : Nat) : Int), x.2.2.2.2, str [], .int .i64 0, .slice none 0 0, .slice none 0 0, str []] 25 ∧ RowsO w6.heap.size (fun a => w6.heap.size ≤ a.block ∧ a.block < w'.heap.size ∧ a.block ∉ vblk x.2.2.2.2) w' x.2.2.2.2 x.2.2.2.1 ∧ loopP b (min n 5) j0 bd0 = (x.2.2.2.1 ++ (loopP b (min n 5 - x.1) x.2.1 x.2.2.1).1, (loopP b (min n 5 - x.1) x.2.1 x.2.2.1).2)) (fun x => [(0, .slice p b.length c), (2, .pointer (some ⟨R, 0, none⟩)), (3, .bool false), (4, .pointer (some ⟨X, 0, none⟩)), (7, .func (.func 21) ⟨[]⟩ ⟨[]⟩), (8, .pointer (some ⟨O, 0, none⟩)), (9, .int .i64 (n : Int)), (10, .int .i64 (x.1 : Int))]) (fun x => 5 - x.1) (0, j0, bd0, [], .slice none 0 0) ⟨by simp, hj0, rfl, hx6, Chg.refl _ _, hX6, hO6, ListO.nil, rfl⟩ Sub8 ?_; rintro ⟨q, j, bad, rows, ov⟩ w7 ⟨hq5, hj, hrl, hx7, hc7, hX7, hO7, hW, hlp⟩; dsimp only at hq5 hj hrl hX7 hO7 hW hlp; obtain ⟨po, co, rfl⟩ := hW.slice; have hR7 := hR6.chg hc7 (by simp; exact ⟨hRX, hRO⟩); have hs7 := hc7.size; show CW _ _ _ _ _ [(0, .slice p b.length c), (2, .pointer (some ⟨R, 0, none⟩)), (3, .bool false), (4, .pointer (some ⟨X, 0, none⟩)), (7, .func (.func 21) ⟨[]⟩ ⟨[]⟩), (8, .pointer (some ⟨O, 0, none⟩)), (9, .int .i64 (n : Int)), (10, .int .i64 (q : Int))] _; have leave : loopP b (min n 5 - q) j bad = ([], j, bad) → GetI w b p c X O R ({ obj0 1 with rows := rows }, j, bad, .slice po rows.length co, .slice none 0 0, .slice none 0 0) w7 := by
   intro h1; rw [h1, List.append_nil] at hlp; rw [hlp] at hG; exact ⟨hx7, hX7, hO7, hR7, fun w2 hc => ⟨_, _, _, rfl, RowsO.w (lo := w6.heap.size) (ok := fun a => w6.heap.size ≤ a.block ∧ a.block < w7.heap.size ∧ a.block ∉ vblk (.slice po rows.length co)) (ListO.chg hW hc (fun b hb => by have := (ListO.lt hW hb).1; simp; omega) (fun i y cs hi ⟨u, hu1, hu2⟩ => ⟨u, hu1, hu2.chg hc (fun hn a ha => by simp; omega)⟩)) (by show rows.length ≤ _; omega), TextsW.nil, TextsW.nil, by simp [obj0], by simp [obj0], by simp [obj0], by simp [obj0], by simp [obj0], by simp [obj0]⟩, hG⟩
  refine Su ?_; refine Lwp (fun h1 => ?_) fun h1 => ?_; rotate_left
  ·have h1 : ¬ q < n := by simp at h1; omega
   refine Su ?_; exact QW.head _ (leave (by rw [show min n 5 - q = 0 by omega]; rfl)) Sub5
  have h1 : q < n := by simp at h1; omega
  cases bad with
  | true =>
   refine Su ?_
   exact QW.head _ (leave (by cases (min n 5 - q) <;> rfl)) Sub5
  | false =>
  refine Su ?_; refine Cwc (fun h2 => ?_) fun h2 => ?_; rotate_left
  ·have h2 : ¬ q ≤ 4 := by simp at h2; omega
   refine Su ?_; exact QW.head _ (leave (by rw [show min n 5 - q = 0 by omega]; rfl)) Sub5
  have h2 : q ≤ 4 := by simp at h2; omega
  obtain ⟨m, hm⟩ : ∃ m, min n 5 - q = m + 1 := ⟨min n 5 - q - 1, by omega⟩; have hm2 : min n 5 - (q + 1) = m := by omega
  obtain ⟨css, g1, g2, g3, g4⟩ := hW; have hV : ∀ b, b ∈ vblk (.slice po rows.length co) → w6.heap.size ≤ b ∧ b < w7.heap.size := fun b hb => g3.lt hb; have hXl7 := hX7.lt; have hOl7 := hO7.lt; have n1 : O ∉ X :: vblk (.slice po rows.length co) := by
   simp only [List.mem_cons, not_or]; exact ⟨fun e => hXO e.symm, fun hb => by have := (hV _ hb).1; omega⟩
  have n2 : X ∉ vblk (.slice po rows.length co) := fun hb => by have := (hV _ hb).1; omega
  have n3 : ∀ b, b ∈ X :: vblk (.slice po rows.length co) → w.heap.size ≤ b := fun b hb => by
   rcases List.mem_cons.1 hb with rfl | hb
   ·exact hXw
   ·have := (hV _ hb).1; omega
  refine Su ?_; refine CW.drawG (Chg (X :: vblk (.slice po rows.length co)) w7) 7 (fun w' h => h.chg) (by kernel_rfl) fun wa hxa => ?_; refine Sg ?_; refine Gko 4 fun hS => ?_; refine LW.call (fs := []) (cs := []) rfl rfl rfl (by simpa using rdList_ret b p c j X false wa (h.ext (hx7.trans hxa)) hcap hj (hX7.ext hxa) (fun a ha e => by omega)) ?_; rintro v w8 ⟨hu, hX8, hc8⟩; have hsa := hxa.size; have hs8 := hc8.size; have hj' := sL_le (b := b) (i := j) (bad := false) hj; have hlo : loopP b (m + 1) j false = ((rdS (getL b j) j false).1.getD [] :: (loopP b m (rdS (getL b j) j false).2.1 (rdS (getL b j) j false).2.2).1, (loopP b m (rdS (getL b j) j false).2.1 (rdS (getL b j) j false).2.2).2) := by
   cases hg : getL b j with
   | none => rw [rdS_none, loopP, hg]; cases m <;> rfl
   | some x => obtain ⟨x, y⟩ := x; rw [rdS_some, loopP, hg]; rfl
  simp only [sL] at hj'; generalize (rdS (getL b j) j false).1.getD [] = row at *; generalize (rdS (getL b j) j false).2.1 = j' at *; generalize (rdS (getL b j) j false).2.2 = bad' at *; obtain ⟨pu, cu, rfl⟩ := hu.slice; have hS8 : Chg (X :: vblk (.slice po rows.length co)) w7 w8 := (Chg.trans hxa hc8).mono (fun b hb hlt => by simpa using .inl (by simpa using hb)); apply LW.nil; refine QW.headed hS8 ?_; refine Gko 5 fun hS => ?_; refine Lwl fun B w9 hbB hx9' hB => ?_; replace hB : Blk w9 B [.slice pu row.length cu] 23 := hB; have hs9 := hx9'.size; apply LW.nil; refine QW.headed (hS.ext hx9') ?_; refine Gko 6 fun hS => ?_; have g39 : Own w9 w6.heap.size 23 1 (.slice po rows.length co) rows.length css.flatten := ((g3.ext hxa).chg hc8 (fun b hb => by simp; rintro rfl; exact n2 hb)).ext hx9'; refine LW.append (lo := w6.heap.size) (k := rows.length) rfl rfl rfl rfl rfl rfl g39 (by omega) hB rfl rfl rfl (by show (rows.length + 1) * 25 ≤ _; omega) rfl ?_; intro v10 w10 hc10 hO10 hv10; obtain ⟨p10, c10, rfl⟩ := hO10.slice; have hs10 := hc10.size; have hS10 : Chg (X :: vblk (.slice po rows.length co)) w7 w10 := (Chg.trans (hS8.ext hx9') hc10).mono (fun b hb hlt => by
   rcases List.mem_append.1 hb with hb | hb
   ·exact hb
   ·exact List.mem_cons_of_mem _ hb)
  apply LW.nil; refine QW.headed hS10 ?_; refine GW.tail rfl (by kernel_rfl) (fun hS => ?_); have hO7' := hO7.chg hS10 n1; have hX10 : RdR w10 X p b.length c j' bad' := (hX8.ext hx9').chg hc10 n2; refine Su ?_; refine Lwt fun w11 hc11 hO11 => ?_; replace hO11 : Blk w11 O [.int .i64 ((1 : Nat) : Int), .slice p10 (rows.length + 1) c10, str [], .int .i64 0, .slice none 0 0, .slice none 0 0, str []] 25 := hO11; have hs11 := hc11.size; have hcc : Chg [X, O] w6 w11 := by
   refine (Chg.trans hc7 (Chg.trans hS10 hc11)).mono fun b hb hlt => ?_; simp only [List.mem_append, List.mem_cons, List.not_mem_nil, or_false] at hb ⊢; rcases hb with hb | (hb | hb) | hb
   ·exact hb
   ·exact .inl hb
   ·have := (hV b hb).1; omega
   ·exact .inr hb
  have hx11 : Ext w w11 := (hx7.step hS10 n3).step hc11 (by simp; omega); have hnew : ∀ b, b ∈ vblk (.slice p10 (rows.length + 1) c10) → b ∈ vblk (.slice po rows.length co) ∨ w9.heap.size ≤ b := hv10; have hV10 : ∀ b, b ∈ vblk (.slice p10 (rows.length + 1) c10) → b < w10.heap.size ∧ w6.heap.size ≤ b := fun b hb => ⟨(hO10.lt hb).2, (hO10.lt hb).1⟩; refine Su ?_; refine QW.again (q + 1, j', bad', rows ++ [row], .slice p10 (rows.length + 1) c10) ⟨by show q + 1 ≤ 5; omega, hj', by simp [hrl], hx11, hcc, hX10.chg hc11 (by simp; exact hXO), hO11, ?_, ?_⟩ Sub8 (by show 5 - (q + 1) < 5 - q; omega)
  ·refine ListO.snoc g1 g2 (hO10.chg hc11 (fun b hb => by have := (hV10 b hb).2; have := (hV10 b hb).1; simp; omega)) rfl (fun i y ds hi hd => ?_) ⟨_, rfl, ?_⟩
   ·obtain ⟨u, e1, e2⟩ := g4 i y ds hi hd; refine ⟨u, e1, (e2.chg (Chg.trans hS10 hc11) (fun hn a ha => ?_)).map (fun a ha => ?_) (fun _ _ _ _ h => h)⟩
    ·simp only [List.mem_append, List.mem_cons, List.not_mem_nil, or_false, not_or]; exact ⟨⟨by omega, ha.2.2⟩, by omega⟩
    ·refine ⟨ha.1, by omega, fun hb => ?_⟩; rcases hnew _ hb with hb | hb
     ·exact ha.2.2 hb
     ·omega
   ·have hu' : TextsQ (fun a => wa.heap.size ≤ a.block ∧ a.block < w8.heap.size) w8 (.slice pu row.length cu) row := ListR.there hu (by decide); refine ((hu'.ext hx9').chg (Chg.trans hc10 hc11) (fun hn a ha => ?_)).map (fun a ha => ?_) (fun _ _ _ _ h => h)
    ·simp only [List.mem_append, List.mem_singleton, not_or]; exact ⟨fun hb => by have := (hV _ hb).2; omega, by omega⟩
    ·refine ⟨by omega, by omega, fun hb => ?_⟩; rcases hnew _ hb with hb | hb
     ·have := (hV _ hb).2; omega
     ·omega
  ·show loopP b (min n 5) j0 bd0 = ((rows ++ [row]) ++ (loopP b (min n 5 - (q + 1)) j' bad').1, (loopP b (min n 5 - (q + 1)) j' bad').2); rw [hlp, hm, hm2, hlo, List.append_assoc]; rfl
 have e1 : ¬ k = 1 := by simp at e1; omega
 rw [if_neg e1] at hG; refine Su ?_; refine Cwc (fun e2 => ?_) fun e2 => ?_
 ·have e2 : k = 2 := by simp at e2; omega
  subst e2; rw [if_pos rfl, sheetP] at hG; simp only [sN, sT, sL] at hG; refine Su ?_; refine LW.call (fs := []) (cs := []) rfl rfl rfl (by simpa using rdText_ret b p c i0 X bad0 w5 (h.ext hx5) hcap hi0 hX5 (fun a ha e => by omega)) ?_; rintro v1 wr1 ⟨rfl, hXr1, hcr1⟩; replace hO := hO.chg hcr1 (by simp; exact fun e => hXO e.symm); replace hR := hR.chg hcr1 (by simp; exact hRX); have hr1 : Ext w wr1 := Chg.step hx5 hcr1 (by simp; exact hXw); have hz1 := hcr1.size; have hi1 := sT_le (b := b) (i := i0) (bad := bad0) hi0; have hv1 := sT_len (b := b) (i := i0) (bad := bad0) hi0; simp only [sT] at hi1 hv1; generalize (rdS (getT b i0) i0 bad0).1.getD [] = s1 at *; generalize (rdS (getT b i0) i0 bad0).2.1 = i1 at *; generalize (rdS (getT b i0) i0 bad0).2.2 = b1 at *; refine Su ?_; refine LW.call (fs := []) (cs := []) rfl rfl rfl (by simpa using rdNum_ret b p c i1 X b1 wr1 (h.ext hr1) hcap hi1 hXr1 (fun a ha e => by omega)) ?_; rintro v2 wr2 ⟨rfl, hXr2, hcr2⟩; replace hO := hO.chg hcr2 (by simp; exact fun e => hXO e.symm); replace hR := hR.chg hcr2 (by simp; exact hRX); have hr2 : Ext w wr2 := Chg.step hr1 hcr2 (by simp; exact hXw); have hz2 := hcr2.size; have hi2 := sN_le (b := b) (i := i1) (bad := b1) hi1; have hv2 := sN_num (b := b) (i := i1) (bad := b1) hi1; simp only [sN] at hi2 hv2; generalize (rdS (getN b i1) i1 b1).1.getD 0 = n2 at *; generalize (rdS (getN b i1) i1 b1).2.1 = i2 at *; generalize (rdS (getN b i1) i1 b1).2.2 = b2 at *; refine Su ?_; refine LW.call (fs := []) (cs := []) rfl rfl rfl (by simpa using rdList_ret b p c i2 X b2 wr2 (h.ext hr2) hcap hi2 hXr2 (fun a ha e => by omega)) ?_; rintro v3 wr3 ⟨hu3, hXr3, hcr3⟩; replace hO := hO.chg hcr3 (by simp; exact fun e => hXO e.symm); replace hR := hR.chg hcr3 (by simp; exact hRX); have hr3 : Ext w wr3 := Chg.step hr2 hcr3 (by simp; exact hXw); have hz3 := hcr3.size; have hi3 := sL_le (b := b) (i := i2) (bad := b2) hi2; simp only [sL] at hi3; generalize (rdS (getL b i2) i2 b2).1.getD [] = l3 at *; generalize (rdS (getL b i2) i2 b2).2.1 = i3 at *; generalize (rdS (getL b i2) i2 b2).2.2 = b3 at *; obtain ⟨pq3, cq3, rfl⟩ := hu3.slice; have hXr := hXr3; refine Su ?_; refine Lwt fun ws1 hcs1 hO => ?_; have hy1 : Ext w ws1 := Chg.step hr3 hcs1 (by simp; omega); replace hR := hR.chg hcs1 (by simp; exact hRO); replace hXr := hXr.chg hcs1 (by simp; exact hXO); replace hO : Blk ws1 O [.int .i64 ((2 : Nat) : Int), .slice none 0 0, str s1, .int .i64 0, .slice none 0 0, .slice none 0 0, str []] 25 := hO; replace hu3 := hu3.chg hcs1 (fun hn a ha => by simp; omega)
  refine Su ?_; refine Lwt fun ws2 hcs2 hO => ?_; have hy2 : Ext w ws2 := Chg.step hy1 hcs2 (by simp; omega); replace hR := hR.chg hcs2 (by simp; exact hRO); replace hXr := hXr.chg hcs2 (by simp; exact hXO); replace hO : Blk ws2 O [.int .i64 ((2 : Nat) : Int), .slice none 0 0, str s1, .int .i64 (n2 : Int), .slice none 0 0, .slice none 0 0, str []] 25 := hO; replace hu3 := hu3.chg hcs2 (fun hn a ha => by simp; omega); refine Su ?_; refine Lwt fun ws3 hcs3 hO => ?_; have hy3 : Ext w ws3 := Chg.step hy2 hcs3 (by simp; omega); replace hR := hR.chg hcs3 (by simp; exact hRO); replace hXr := hXr.chg hcs3 (by simp; exact hXO); replace hO : Blk ws3 O [.int .i64 ((2 : Nat) : Int), .slice none 0 0, str s1, .int .i64 (n2 : Int), .slice pq3 l3.length cq3, .slice none 0 0, str []] 25 := hO; replace hu3 := hu3.chg hcs3 (fun hn a ha => by simp; omega); refine Su ?_; exact QW.head ({ obj0 2 with name := s1, cols := (n2 : Int), kids := l3 }, i3, b3, .slice none 0 0, .slice pq3 l3.length cq3, .slice none 0 0) ⟨hy3, hXr, hO, hR, fun w2 hc => ⟨_, _, _, rfl, RowsW.nil, (hu3.chg hc (fun hn a ha => by simp; omega)).w, TextsW.nil, by show s1.length ≤ _; omega, by simp [obj0], by simp [obj0], by simp [obj0], by show _ ≤ ((n2 : Nat) : Int); omega, by show ((n2 : Nat) : Int) ≤ _; omega⟩, hG⟩ Sub5
 have e2 : ¬ k = 2 := by simp at e2; omega
 rw [if_neg e2] at hG; refine Su ?_; refine Cwc (fun e3 => ?_) fun e3 => ?_
 ·have e3 : k = 3 := by simp at e3; omega
  subst e3; rw [if_pos rfl, bookP] at hG; simp only [sL] at hG; refine Su ?_; refine LW.call (fs := []) (cs := []) rfl rfl rfl (by simpa using rdList_ret b p c i0 X bad0 w5 (h.ext hx5) hcap hi0 hX5 (fun a ha e => by omega)) ?_; rintro v1 wr1 ⟨hu1, hXr1, hcr1⟩; replace hO := hO.chg hcr1 (by simp; exact fun e => hXO e.symm); replace hR := hR.chg hcr1 (by simp; exact hRX); have hr1 : Ext w wr1 := Chg.step hx5 hcr1 (by simp; exact hXw); have hz1 := hcr1.size; have hi1 := sL_le (b := b) (i := i0) (bad := bad0) hi0; simp only [sL] at hi1; generalize (rdS (getL b i0) i0 bad0).1.getD [] = l1 at *; generalize (rdS (getL b i0) i0 bad0).2.1 = i1 at *; generalize (rdS (getL b i0) i0 bad0).2.2 = b1 at *; obtain ⟨pq1, cq1, rfl⟩ := hu1.slice; have hXr := hXr1; refine Su ?_; refine Lwt fun ws1 hcs1 hO => ?_; have hy1 : Ext w ws1 := Chg.step hr1 hcs1 (by simp; omega); replace hR := hR.chg hcs1 (by simp; exact hRO); replace hXr := hXr.chg hcs1 (by simp; exact hXO); replace hO : Blk ws1 O [.int .i64 ((3 : Nat) : Int), .slice none 0 0, str [], .int .i64 0, .slice pq1 l1.length cq1, .slice none 0 0, str []] 25 := hO; replace hu1 := hu1.chg hcs1 (fun hn a ha => by simp; omega); refine Su ?_; exact QW.head ({ obj0 3 with kids := l1 }, i1, b1, .slice none 0 0, .slice pq1 l1.length cq1, .slice none 0 0) ⟨hy1, hXr, hO, hR, fun w2 hc => ⟨_, _, _, rfl, RowsW.nil, (hu1.chg hc (fun hn a ha => by simp; omega)).w, TextsW.nil, by simp [obj0], by simp [obj0], by simp [obj0], by simp [obj0], by simp [obj0], by simp [obj0]⟩, hG⟩ Sub5
 have e3 : ¬ k = 3 := by simp at e3; omega
 rw [if_neg e3] at hG; refine Su ?_; refine Cwc (fun e4 => ?_) fun e4 => ?_
 ·have e4 : k = 4 := by simp at e4; omega
  subst e4; rw [if_pos rfl, commitP] at hG; simp only [sT, sL] at hG; refine Su ?_; refine LW.call (fs := []) (cs := []) rfl rfl rfl (by simpa using rdList_ret b p c i0 X bad0 w5 (h.ext hx5) hcap hi0 hX5 (fun a ha e => by omega)) ?_; rintro v1 wr1 ⟨hu1, hXr1, hcr1⟩; replace hO := hO.chg hcr1 (by simp; exact fun e => hXO e.symm); replace hR := hR.chg hcr1 (by simp; exact hRX); have hr1 : Ext w wr1 := Chg.step hx5 hcr1 (by simp; exact hXw); have hz1 := hcr1.size; have hi1 := sL_le (b := b) (i := i0) (bad := bad0) hi0; simp only [sL] at hi1; generalize (rdS (getL b i0) i0 bad0).1.getD [] = l1 at *; generalize (rdS (getL b i0) i0 bad0).2.1 = i1 at *; generalize (rdS (getL b i0) i0 bad0).2.2 = b1 at *; obtain ⟨pq1, cq1, rfl⟩ := hu1.slice; refine Su ?_; refine LW.call (fs := []) (cs := []) rfl rfl rfl (by simpa using rdList_ret b p c i1 X b1 wr1 (h.ext hr1) hcap hi1 hXr1 (fun a ha e => by omega)) ?_; rintro v2 wr2 ⟨hu2, hXr2, hcr2⟩; replace hO := hO.chg hcr2 (by simp; exact fun e => hXO e.symm); replace hR := hR.chg hcr2 (by simp; exact hRX); have hr2 : Ext w wr2 := Chg.step hr1 hcr2 (by simp; exact hXw); have hz2 := hcr2.size; replace hu1 := hu1.chg hcr2 (fun hn a ha => by simp; omega); have hi2 := sL_le (b := b) (i := i1) (bad := b1) hi1; simp only [sL] at hi2; generalize (rdS (getL b i1) i1 b1).1.getD [] = l2 at *; generalize (rdS (getL b i1) i1 b1).2.1 = i2 at *; generalize (rdS (getL b i1) i1 b1).2.2 = b2 at *; obtain ⟨pq2, cq2, rfl⟩ := hu2.slice; refine Su ?_; refine LW.call (fs := []) (cs := []) rfl rfl rfl (by simpa using rdText_ret b p c i2 X b2 wr2 (h.ext hr2) hcap hi2 hXr2 (fun a ha e => by omega)) ?_; rintro v3 wr3 ⟨rfl, hXr3, hcr3⟩; replace hO := hO.chg hcr3 (by simp; exact fun e => hXO e.symm); replace hR := hR.chg hcr3 (by simp; exact hRX); have hr3 : Ext w wr3 := Chg.step hr2 hcr3 (by simp; exact hXw); have hz3 := hcr3.size; replace hu1 := hu1.chg hcr3 (fun hn a ha => by simp; omega); replace hu2 := hu2.chg hcr3 (fun hn a ha => by simp; omega); have hi3 := sT_le (b := b) (i := i2) (bad := b2) hi2; have hv3 := sT_len (b := b) (i := i2) (bad := b2) hi2; simp only [sT] at hi3 hv3; generalize (rdS (getT b i2) i2 b2).1.getD [] = s3 at *; generalize (rdS (getT b i2) i2 b2).2.1 = i3 at *; generalize (rdS (getT b i2) i2 b2).2.2 = b3 at *; have hXr := hXr3; refine Su ?_; refine Lwt fun ws1 hcs1 hO => ?_; have hy1 : Ext w ws1 := Chg.step hr3 hcs1 (by simp; omega); replace hR := hR.chg hcs1 (by simp; exact hRO); replace hXr := hXr.chg hcs1 (by simp; exact hXO)
  replace hO : Blk ws1 O [.int .i64 ((4 : Nat) : Int), .slice none 0 0, str [], .int .i64 0, .slice pq1 l1.length cq1, .slice none 0 0, str []] 25 := hO; replace hu1 := hu1.chg hcs1 (fun hn a ha => by simp; omega); replace hu2 := hu2.chg hcs1 (fun hn a ha => by simp; omega); refine Su ?_; refine Lwt fun ws2 hcs2 hO => ?_; have hy2 : Ext w ws2 := Chg.step hy1 hcs2 (by simp; omega); replace hR := hR.chg hcs2 (by simp; exact hRO); replace hXr := hXr.chg hcs2 (by simp; exact hXO); replace hO : Blk ws2 O [.int .i64 ((4 : Nat) : Int), .slice none 0 0, str [], .int .i64 0, .slice pq1 l1.length cq1, .slice pq2 l2.length cq2, str []] 25 := hO; replace hu1 := hu1.chg hcs2 (fun hn a ha => by simp; omega); replace hu2 := hu2.chg hcs2 (fun hn a ha => by simp; omega); refine Su ?_; refine Lwt fun ws3 hcs3 hO => ?_; have hy3 : Ext w ws3 := Chg.step hy2 hcs3 (by simp; omega); replace hR := hR.chg hcs3 (by simp; exact hRO); replace hXr := hXr.chg hcs3 (by simp; exact hXO); replace hO : Blk ws3 O [.int .i64 ((4 : Nat) : Int), .slice none 0 0, str [], .int .i64 0, .slice pq1 l1.length cq1, .slice pq2 l2.length cq2, str s3] 25 := hO; replace hu1 := hu1.chg hcs3 (fun hn a ha => by simp; omega); replace hu2 := hu2.chg hcs3 (fun hn a ha => by simp; omega); refine Su ?_; exact QW.head ({ obj0 4 with kids := l1, parents := l2, note := s3 }, i3, b3, .slice none 0 0, .slice pq1 l1.length cq1, .slice pq2 l2.length cq2) ⟨hy3, hXr, hO, hR, fun w2 hc => ⟨_, _, _, rfl, RowsW.nil, (hu1.chg hc (fun hn a ha => by simp; omega)).w, (hu2.chg hc (fun hn a ha => by simp; omega)).w, by simp [obj0], by show s3.length ≤ _; omega, by simp [obj0], by simp [obj0], by simp [obj0], by simp [obj0]⟩, hG⟩ Sub5
 have e4 : ¬ k = 4 := by simp at e4; omega
 rw [if_neg e4] at hG; refine Su ?_; exact QW.head (obj0 k, i0, bad0, .slice none 0 0, .slice none 0 0, .slice none 0 0) ⟨hx5, hX5, hO, hR, fun w2 hc => ⟨_, _, _, rfl, RowsW.nil, TextsW.nil, TextsW.nil, by simp [obj0], by simp [obj0], by show _ ≤ ((k : Nat) : Int); omega, by show ((k : Nat) : Int) ≤ _; omega, by simp [obj0], by simp [obj0]⟩, by
  rw [hG, endP_no]
  cases hm : mayO (obj0 k) with
  | false => rfl
  | true =>
   have := may_kind hm; simp only [obj0] at this; omega⟩ Sub5
set_option maxRecDepth 8000 in
theorem rTexts_ret (a b : List (List UInt8)) (av bv : Value) (w : World) (ha : TextsW w av a) (hb : TextsW w bv b) : Ret Tryz.prog 35 [av, bv] w (fun v w' => v = .bool (decide (a = b)) ∧ Ext w w') := by
 obtain ⟨p, c, rfl⟩ := ha.slice; obtain ⟨q, d, rfl⟩ := hb.slice; have hla := ha.1; have hlb := hb.1; refine Rte Tryz.func35 Tryz.ntmps35 ?_; refine Su ?_; refine Cwc (fun h1 => ?_) fun h1 => ?_
 ·have h1 : a.length ≠ b.length := by simp at h1; omega
  refine Su ?_; refine QW.body1 Tryz.results35 rfl ⟨?_, Chg.refl _ _⟩; rw [decide_eq_false]; intro e; exact h1 (by rw [e])
 have h1 : a.length = b.length := by simp at h1; omega
 refine Su ?_; refine CW.loop (ι := Nat) (fun k w' => k ≤ a.length ∧ Ext w w' ∧ a.take k = b.take k) (fun k => [(0, .slice p a.length c), (1, .slice q b.length d), (5, .int .i64 k)]) (fun k => a.length - k) 0 ⟨by omega, Chg.refl _ _, rfl⟩ Sub3 ?_; rintro k w1 ⟨hk, hx1, hno⟩; refine Su ?_; refine Cwc (fun h2 => ?_) fun h2 => ?_; rotate_left
 ·have h2 : a.length ≤ k := by simp at h2; omega
  rw [List.take_of_length_le h2, List.take_of_length_le (by omega)] at hno; refine Su ?_; exact QW.body1 Tryz.results35 rfl ⟨by rw [decide_eq_true hno], hx1⟩
 have h2 : k < a.length := by simp at h2; omega
 obtain ⟨s, hs⟩ : ∃ s, a[k]? = some s := ⟨_, List.getElem?_eq_getElem h2⟩; obtain ⟨t, ht⟩ : ∃ s, b[k]? = some s := ⟨_, List.getElem?_eq_getElem (by omega)⟩; obtain ⟨a1, u1, rfl, ⟨rfl, hsl⟩, hc1⟩ := (ha.ext hx1).at hs; obtain ⟨a2, u2, rfl, ⟨rfl, htl⟩, hc2⟩ := (hb.ext hx1).at ht; refine Su ?_; refine Cwd ?_; refine Squ ?_; refine QL.nil fun w2 hx2 => ?_; refine Su ?_; refine Cwc (fun h3 => ?_) fun h3 => ?_
 ·have h3 : s ≠ t := by simpa using h3
  refine Su ?_; refine QW.body1 Tryz.results35 rfl ⟨?_, hx1.trans hx2⟩; rw [decide_eq_false]; intro e; rw [e, ht] at hs; exact h3 (Option.some.inj hs).symm
 have h3 : s = t := by simpa using h3
 refine Su ?_; exact QW.again (k + 1) ⟨by omega, hx1.trans hx2, by rw [List.take_add_one, List.take_add_one, hno, hs, ht, h3]⟩ Sub3 (by omega)
theorem objD_ne {o o' : ObjD} {α : Type} (f : ObjD → α) (h : f o ≠ f o') : decide (o = o') = false := decide_eq_false fun e => h (by rw [e])
theorem objD_par {o o' : ObjD} (h1 : o.kind = o'.kind) (h2 : o.rows = o'.rows) (h3 : o.name = o'.name) (h4 : o.cols = o'.cols) (h5 : o.kids = o'.kids) (h6 : o.note = o'.note) : decide (o.parents = o'.parents) = decide (o = o') := by
 cases o; cases o'; simp_all
set_option maxRecDepth 8000 in
set_option maxHeartbeats 4000000 in
theorem SameO_ret (o o' : ObjD) (cs ds : List Value) (w : World) (h : ObjW w cs o) (h' : ObjW w ds o') : Ret Tryz.prog 14 [.agg ⟨cs⟩, .agg ⟨ds⟩] w (fun v w' => v = .bool (decide (o = o')) ∧ Ext w w') := by
 obtain ⟨rv, kv, pv, rfl, hr, hk, hp, hn, ht, k1, k2, c1, c2⟩ := h; obtain ⟨rv', kv', pv', rfl, hr', hk', hp', hn', ht', k1', k2', c1', c2'⟩ := h'; obtain ⟨pr, cr, rfl⟩ := hr.slice; obtain ⟨pk, ck, rfl⟩ := hk.slice; obtain ⟨pp, cp, rfl⟩ := hp.slice; obtain ⟨pr', cr', rfl⟩ := hr'.slice; obtain ⟨pk', ck', rfl⟩ := hk'.slice; obtain ⟨pp', cp', rfl⟩ := hp'.slice; have hlr := hr.1; have hlr' := hr'.1; refine Rte Tryz.func14 Tryz.ntmps14 ?_; refine Su ?_; refine Lwb fun A w1 hbA hx1 hA => ?_; replace hA : Blk w1 A [.int .i64 o.kind, .slice pr o.rows.length cr, str o.name, .int .i64 o.cols, .slice pk o.kids.length ck, .slice pp o.parents.length cp, str o.note] 25 := hA; refine Su ?_; refine Lwb fun B w2 hbB hx2' hB => ?_; replace hB : Blk w2 B [.int .i64 o'.kind, .slice pr' o'.rows.length cr', str o'.name, .int .i64 o'.cols, .slice pk' o'.kids.length ck', .slice pp' o'.parents.length cp', str o'.note] 25 := hB; have hx2 := hx1.trans hx2'; replace hA := hA.ext hx2'; refine Su ?_; refine Lwp (fun d1 => ?_) fun d1 => ?_
 ·have d1 : o.kind ≠ o'.kind := by simpa using d1
  refine Su ?_; exact QW.body1 Tryz.results14 rfl ⟨by rw [objD_ne ObjD.kind d1], hx2⟩
 have d1 : o.kind = o'.kind := by simpa using d1
 refine Su ?_; refine Lwp (fun d2 => ?_) fun d2 => ?_
 ·have d2 : o.name ≠ o'.name := by simpa using d2
  refine Su ?_; exact QW.body1 Tryz.results14 rfl ⟨by rw [objD_ne ObjD.name d2], hx2⟩
 have d2 : o.name = o'.name := by simpa using d2
 refine Su ?_; refine Lwp (fun d3 => ?_) fun d3 => ?_
 ·have d3 : o.cols ≠ o'.cols := by simpa using d3
  refine Su ?_; exact QW.body1 Tryz.results14 rfl ⟨by rw [objD_ne ObjD.cols d3], hx2⟩
 have d3 : o.cols = o'.cols := by simpa using d3
 refine Su ?_; refine Lwp (fun d4 => ?_) fun d4 => ?_
 ·have d4 : o.note ≠ o'.note := by simpa using d4
  refine Su ?_; exact QW.body1 Tryz.results14 rfl ⟨by rw [objD_ne ObjD.note d4], hx2⟩
 have d4 : o.note = o'.note := by simpa using d4
 refine Su ?_; refine Cwc (fun d5 => ?_) fun d5 => ?_
 ·have d5 : o.rows.length ≠ o'.rows.length := by simp at d5; omega
  refine Su ?_; exact QW.body1 Tryz.results14 rfl ⟨by rw [objD_ne (fun o => o.rows.length) d5], hx2⟩
 have d5 : o.rows.length = o'.rows.length := by simp at d5; omega
 refine Su ?_; refine CW.loop (ι := Nat) (fun k w' => k ≤ o.rows.length ∧ Ext w2 w' ∧ o.rows.take k = o'.rows.take k) (fun k => [(2, .pointer (some ⟨A, 0, none⟩)), (3, .pointer (some ⟨B, 0, none⟩)), (5, .int .i64 k)]) (fun k => o.rows.length - k) 0 ⟨by omega, Chg.refl _ _, rfl⟩ Sub3 ?_; rintro k w3 ⟨hk3, hx3, hno⟩; replace hA := hA.ext hx3; replace hB := hB.ext hx3; have hr3 := RowsW.ext hr (hx2.trans hx3); have hr3' := RowsW.ext hr' (hx2.trans hx3); refine Su ?_; refine Cwc (fun d6 => ?_) fun d6 => ?_; rotate_left
 ·have d6 : o.rows.length ≤ k := by simp at d6; omega
  rw [List.take_of_length_le d6, List.take_of_length_le (by omega)] at hno; refine Su ?_; refine Lc0 rfl rfl (rTexts_ret o.kids o'.kids _ _ w3 (hk.ext (hx2.trans hx3)) (hk'.ext (hx2.trans hx3))) ?_; rintro v w4 ⟨rfl, hx4⟩; replace hA := hA.ext hx4; replace hB := hB.ext hx4; refine Su ?_; refine Lwp (fun d7 => ?_) fun d7 => ?_; rotate_left
  ·have d7 : o.kids ≠ o'.kids := by simpa using d7
   refine Su ?_; exact QW.body1 Tryz.results14 rfl ⟨by rw [objD_ne ObjD.kids d7], (hx2.trans hx3).trans hx4⟩
  have d7 : o.kids = o'.kids := by simpa using d7
  refine Su ?_; refine Lc0 rfl rfl (rTexts_ret o.parents o'.parents _ _ w4 (hp.ext ((hx2.trans hx3).trans hx4)) (hp'.ext ((hx2.trans hx3).trans hx4))) ?_; rintro v w5 ⟨rfl, hx5⟩; refine Su ?_; refine QW.body1 Tryz.results14 rfl ⟨?_, ((hx2.trans hx3).trans hx4).trans hx5⟩; rw [objD_par d1 hno d2 d3 d7 d4]
 have d6 : k < o.rows.length := by simp at d6; omega
 obtain ⟨x, hx⟩ : ∃ s, o.rows[k]? = some s := ⟨_, List.getElem?_eq_getElem d6⟩; obtain ⟨y, hy⟩ : ∃ s, o'.rows[k]? = some s := ⟨_, List.getElem?_eq_getElem (by omega)⟩; obtain ⟨a1, u1, rfl, hu1, hc1⟩ := hr3.at hx; obtain ⟨a2, u2, rfl, hu2, hc2⟩ := hr3'.at hy; refine Su ?_; refine CW.drawG (Ext w3) 11 (fun w' h => h) (by kernel_rfl) fun wa hxa => ?_; refine Sgv ?_; refine Gko 10 fun hS => ?_; refine Lc0 rfl rfl (rTexts_ret x y _ _ _ (hu1.ext (by assumption)) (hu2.ext (by assumption))) ?_; rintro v wb ⟨rfl, hxb⟩; apply LW.nil; refine QW.headed (hS.trans hxb) ?_; refine GW.tail rfl (by kernel_rfl) (fun hS => ?_); refine Su ?_; refine Cwc (fun d8 => ?_) fun d8 => ?_
 ·have d8 : x ≠ y := by simpa using d8
  refine Su ?_; refine QW.body1 Tryz.results14 rfl ⟨?_, hx2.trans (hx3.trans hS)⟩; rw [objD_ne (fun o => o.rows[k]?) (by rw [hx, hy]; intro e; exact d8 (Option.some.inj e))]
 have d8 : x = y := by simpa using d8
 refine Su ?_; exact QW.again (k + 1) ⟨by omega, hx3.trans hS, by rw [List.take_add_one, List.take_add_one, hno, hx, hy, d8]⟩ Sub3 (by omega)
theorem listV_tot {ok : Addr → Prop} {w : World} {u : Value} {g : Option (List (List UInt8) × Nat)} (h : ∀ l j, g = some (l, j) → TextsQ ok w u l) : ∃ u', listV u g = .tuple #[u', .int .i64 ((tot g []).2.1 : Int), .bool (tot g []).2.2] ∧ TextsQ ok w u' (tot g []).1 := by
 cases g with
 | none => exact ⟨.slice none 0 0, rfl, ListR.nil⟩
 | some x => obtain ⟨l, j⟩ := x; exact ⟨u, rfl, h l j rfl⟩
theorem dN_le {b : List UInt8} {i : Nat} (hi : i ≤ b.length) : (dN b i).2.1 ≤ b.length := tot_le fun _ _ h => (getN_le hi h).1
theorem dT_le {b : List UInt8} {i : Nat} (hi : i ≤ b.length) : (dT b i).2.1 ≤ b.length := tot_le fun _ _ h => (getT_le hi h).1
theorem dL_le {b : List UInt8} {i : Nat} (hi : i ≤ b.length) : (dL b i).2.1 ≤ b.length := tot_le fun _ _ h => getL_le hi h
theorem dN_num {b : List UInt8} {i : Nat} (hi : i ≤ b.length) : (dN b i).1 ≤ 9223372036854775807 := by
 unfold dN tot
 cases hg : getN b i with
 | none => simp
 | some x => obtain ⟨x, j⟩ := x; exact (getN_le hi hg).2.1
theorem dT_len {b : List UInt8} {i : Nat} (hi : i ≤ b.length) : (dT b i).1.length ≤ b.length := by
 unfold dT tot
 cases hg : getT b i with
 | none => simp
 | some x => obtain ⟨x, j⟩ := x; exact (getT_le hi hg).2.2
theorem rGet_tot {ok : Addr → Prop} (b : List UInt8) (bv : Value) (i : Nat) (w : World) (h : BytesQ ok w bv b) (hi : i ≤ b.length) : Ret Tryz.prog 46 [bv, .int .i64 (i : Int)] w (fun v w' => v = .tuple #[.int .i64 ((dN b i).1 : Int), .int .i64 ((dN b i).2.1 : Int), .bool (dN b i).2.2] ∧ Ext w w') :=
 (rGet_ret b bv i w h hi).mono fun _ _ ⟨h1, h2⟩ => ⟨h1.trans (numV_tot _), h2⟩
theorem rGetText_tot {ok : Addr → Prop} (b : List UInt8) (p : Option Addr) (c i : Nat) (w : World) (h : BytesQ ok w (.slice p b.length c) b) (hcap : b.length ≤ c) (hi : i ≤ b.length) : Ret Tryz.prog 48 [.slice p b.length c, .int .i64 (i : Int)] w (fun v w' => v = .tuple #[str (dT b i).1, .int .i64 ((dT b i).2.1 : Int), .bool (dT b i).2.2] ∧ Ext w w') :=
 (rGetText_ret b p c i w h hcap hi).mono fun _ _ ⟨h1, h2⟩ => ⟨h1.trans (textV_tot _), h2⟩
theorem rGetList_tot {ok : Addr → Prop} (b : List UInt8) (p : Option Addr) (c i : Nat) (w : World) (h : BytesQ ok w (.slice p b.length c) b) (hcap : b.length ≤ c) (hi : i ≤ b.length) : Ret Tryz.prog 47 [.slice p b.length c, .int .i64 (i : Int)] w (fun v w' => ∃ u, v = .tuple #[u, .int .i64 ((dL b i).2.1 : Int), .bool (dL b i).2.2] ∧ TextsQ (fun a => w.heap.size ≤ a.block) w' u (dL b i).1 ∧ Ext w w') :=
 (rGetList_ret b p c i w h hcap hi).mono fun _ _ ⟨_, h1, h2, h3⟩ => let ⟨u', h4, h5⟩ := listV_tot h2; ⟨u', h1.trans h4, h5, h3⟩
theorem optB_is {α : Type} {c : Bool} {x : α} : (optB c x).isSome = c := by cases c <;> rfl
theorem notin_of {R a lo : Nat} {S : List Nat} (h1 : a ≠ R) (hlo : ∀ k, k ∈ S → k < lo) (h2 : lo ≤ a) : a ∉ [R] ++ S := by
 simp only [List.mem_append, List.mem_singleton, not_or]; exact ⟨h1, fun h => by have := hlo _ h; omega⟩
abbrev ObjS (w w' : World) (cs : List Value) (o : ObjD) : Prop := ∀ S w2, Chg S w' w2 → (∀ k, k ∈ S → k < w.heap.size) → ObjW w2 cs o
abbrev rdPost (b : List UInt8) (w : World) (r : Value) (w' : World) : Prop := ∃ cs o, r = .tuple #[.agg ⟨cs⟩, .bool (readQ b).isSome] ∧ (∀ o', readQ b = some o' → o = o') ∧ ObjS w w' cs o ∧ Ext w w'
theorem rdPost_of {b : List UInt8} {w w' : World} {cs : List Value} {o o2 : ObjD} {c c2 : Bool} (h : readQ b = optB c o2) (ho : c = true → o = o2) (hc : c = c2) (h2 : ObjS w w' cs o) (h3 : Ext w w') : rdPost b w (.tuple #[.agg ⟨cs⟩, .bool c2]) w' := by
 subst hc; refine ⟨cs, o, by rw [h, optB_is], fun o' h' => ?_, h2, h3⟩
 cases c with
 | false => rw [h] at h'; cases h'
 | true => rw [h] at h'; rw [ho rfl]; exact Option.some.inj h'
set_option maxRecDepth 8000 in
set_option maxHeartbeats 8000000 in
theorem rread_ret {ok : Addr → Prop} (b : List UInt8) (p : Option Addr) (c : Nat) (w : World) (h : BytesQ ok w (.slice p b.length c) b) (hcap : b.length ≤ c) : Ret Tryz.prog 22 [.slice p b.length c] w (rdPost b w) := by
 have hl := h.1; refine Rte Tryz.func22 Tryz.ntmps22 ?_; refine Su ?_; refine Lwa fun R w1 hbR hx1 hR => ?_; replace hR : Blk w1 R objZ 25 := hR; have hRl := hR.lt; have hs1 := hx1.size; have hRw : w.heap.size ≤ R := by omega
 refine Su ?_; refine Lc0 rfl rfl (rGet_tot b _ 0 w1 (h.ext hx1) (by omega)) ?_; rintro v w2 ⟨rfl, hx2'⟩; have hx2 := hx1.trans hx2'; replace hR := hR.ext hx2'; have hs2 := hx2'.size; have hi0 := dN_le (b := b) (i := 0) (by omega); have hk63 := dN_num (b := b) (i := 0) (by omega); have hno : (dN b 0).2.2 = false → readQ b = none := readQ_no; have hyes : (dN b 0).2.2 = true → _ := readQ_is; generalize (dN b 0).2.1 = i0 at *; generalize (dN b 0).2.2 = is0 at *; generalize (dN b 0).1 = k at *; refine Su ?_; refine Lwa fun O w3 hbO hx3' hO => ?_; refine Su ?_; refine Lws fun w4 hc4 hO => ?_; replace hO : Blk w4 O [.int .i64 (k : Int), .slice none 0 0, str [], .int .i64 0, .slice none 0 0, .slice none 0 0, str []] 25 := hO; have hRO : R ≠ O := by omega
 have hs3 := hx3'.size; have hs4 := hc4.size; have hOl := hO.lt; have hOw : w.heap.size ≤ O := by have := hx1.size; omega
 have hx4 : Ext w w4 := (hx2.trans hx3').step hc4 (by simp; omega); replace hR := (hR.ext hx3').chg hc4 (by simp; exact hRO); refine Su ?_
 cases is0 with
 | false =>
  refine Su ?_; refine Lws fun w5 hc5 hR5 => ?_; refine Su ?_
  exact QW.body_ct Tryz.results22 rfl hR5 rfl rfl rfl rfl (rdPost_of (o := obj0 k) (o2 := obj0 0) (c := false) (hno rfl) (by simp) rfl (fun _ _ _ _ => ⟨_, _, _, rfl, RowsW.nil, TextsW.nil, TextsW.nil, by simp [obj0], by simp [obj0], by simp only [obj0]; omega, by simp only [obj0]; omega, by simp [obj0], by simp [obj0]⟩) (hx4.step hc5 (by simp; omega)))
 | true =>
 have hQ := hyes rfl; clear hno hyes; refine Su ?_; refine Cwc (fun e1 => ?_) fun e1 => ?_
 ·have e1 : k = 1 := by simp at e1; omega
  subst e1; rw [if_pos rfl] at hQ; refine Su ?_; refine Lc0 rfl rfl (rGet_tot b _ i0 w4 (h.ext hx4) hi0) ?_; rintro v w5 ⟨rfl, hx5'⟩; have hx5 := hx4.trans hx5'; replace hO := hO.ext hx5'; replace hR := hR.ext hx5'; have hs5 := hx5'.size; have hn63 := dN_num hi0; have hj0 := dN_le hi0; generalize (dN b i0).1 = n at *; generalize (dN b i0).2.1 = j0 at *; generalize (dN b i0).2.2 = is0 at *; refine Su ?_; refine CW.loop (ι := Nat × Nat × Bool × List (List (List UInt8)) × Value) (fun x w' => x.1 ≤ 5 ∧ x.2.1 ≤ b.length ∧ x.2.2.2.1.length = x.1 ∧ Ext w w' ∧ Chg [O] w5 w' ∧ Blk w' O [.int .i64 ((1 : Nat) : Int), x.2.2.2.2, str [], .int .i64 0, .slice none 0 0, .slice none 0 0, str []] 25 ∧ RowsO w5.heap.size (fun a => w5.heap.size ≤ a.block ∧ a.block < w'.heap.size ∧ a.block ∉ vblk x.2.2.2.2) w' x.2.2.2.2 x.2.2.2.1 ∧ (loopP b (min n 5) j0 (!is0)).1 = x.2.2.2.1 ++ (loopP b (min n 5 - x.1) x.2.1 (!x.2.2.1)).1 ∧ (loopP b (min n 5) j0 (!is0)).2.2 = (loopP b (min n 5 - x.1) x.2.1 (!x.2.2.1)).2.2) (fun x => [(0, .slice p b.length c), (2, .pointer (some ⟨R, 0, none⟩)), (7, .pointer (some ⟨O, 0, none⟩)), (8, .int .i64 (n : Int)), (9, .int .i64 (x.2.1 : Int)), (10, .bool x.2.2.1), (11, .int .i64 (x.1 : Int))]) (fun x => 5 - x.1) (0, j0, is0, [], .slice none 0 0) ⟨by simp, hj0, rfl, hx5, Chg.refl _ _, hO, ListO.nil, rfl, rfl⟩ Sub7 ?_; rintro ⟨q, j, is, rows, ov⟩ w6 ⟨hq5, hj, hrl, hx6, hc6, hO6, hW, hl1, hl2⟩; dsimp only at hq5 hj hrl hO6 hW hl1 hl2; obtain ⟨po, co, rfl⟩ := hW.slice; have hR6 := hR.chg hc6 (by simp; exact hRO); have hs6 := hc6.size; show CW _ _ _ _ _ [(0, .slice p b.length c), (2, .pointer (some ⟨R, 0, none⟩)), (7, .pointer (some ⟨O, 0, none⟩)), (8, .int .i64 (n : Int)), (9, .int .i64 (j : Int)), (10, .bool is), (11, .int .i64 (q : Int))] _; have leave : ∀ {c2 : Bool}, (loopP b (min n 5 - q) j (!is)) = ([], j, !is) → c2 = is → ∀ w9, Chg [R] w6 w9 → rdPost b w (.tuple #[.agg ⟨[.int .i64 ((1 : Nat) : Int), .slice po rows.length co, str [], .int .i64 0, .slice none 0 0, .slice none 0 0, str []]⟩, .bool c2]) w9 := by
   intro c2 h1 h2 w9 hc9; rw [h1, List.append_nil] at hl1; rw [h1] at hl2; rw [hl1, hl2] at hQ; refine rdPost_of (o := { obj0 1 with rows := rows }) hQ (fun _ => rfl) (by rw [h2, Bool.not_not]) (fun S w2 hS hlo => ⟨_, _, _, rfl, ?_, TextsW.nil, TextsW.nil, by simp [obj0], by simp [obj0], by simp [obj0], by simp [obj0], by simp [obj0], by simp [obj0]⟩) (hx6.step hc9 (by simp; omega)); refine RowsO.w (lo := w5.heap.size) (ok := fun a => w5.heap.size ≤ a.block ∧ a.block < w6.heap.size ∧ a.block ∉ vblk (.slice po rows.length co)) ?_ (by show rows.length ≤ _; omega); exact hW.chg (Chg.trans hc9 hS) (fun b hb => notin_of (by have := (hW.lt hb).1; omega) hlo (by have := (hW.lt hb).1; omega)) (fun i y cs hi ⟨u, hu1, hu2⟩ => ⟨u, hu1, hu2.chg (Chg.trans hc9 hS) (fun hn a ha => notin_of (by omega) hlo (by omega))⟩)
  refine Su ?_; refine Lwp (fun h1 => ?_) fun h1 => ?_; rotate_left
  ·have h1 : ¬ q < n := by simp at h1; omega
   refine Su ?_; refine Lws fun w9 hc9 hR9 => ?_; refine Su ?_; exact QW.body_ct Tryz.results22 rfl hR9 rfl rfl rfl rfl (leave (by rw [show min n 5 - q = 0 by omega]; rfl) rfl _ hc9)
  have h1 : q < n := by simp at h1; omega
  refine Su ?_; refine Lwp (fun h2 => ?_) fun h2 => ?_; rotate_left
  ·have h2 : ¬ q ≤ 4 := by simp at h2; omega
   refine Su ?_; refine Lws fun w9 hc9 hR9 => ?_; refine Su ?_; exact QW.body_ct Tryz.results22 rfl hR9 rfl rfl rfl rfl (leave (by rw [show min n 5 - q = 0 by omega]; rfl) rfl _ hc9)
  have h2 : q ≤ 4 := by simp at h2; omega
  obtain ⟨m, hm⟩ : ∃ m, min n 5 - q = m + 1 := ⟨min n 5 - q - 1, by omega⟩; have hm2 : min n 5 - (q + 1) = m := by omega
  cases is with
  | false =>
   refine Su ?_; refine Lws fun w9 hc9 hR9 => ?_; refine Su ?_
   exact QW.body_ct Tryz.results22 rfl hR9 rfl rfl rfl rfl (leave (by rw [hm]; rfl) rfl _ hc9)
  | true =>
  refine Su ?_; refine Lc0 rfl rfl (rGetList_tot b p c j w6 (h.ext hx6) hcap hj) ?_; rintro v w7 ⟨u, rfl, hu, hx7'⟩; have hO7 := hO6.ext hx7'; have hs7 := hx7'.size; have hj' := dL_le hj; obtain ⟨pu, cu, rfl⟩ := hu.slice; refine Su ?_; refine Lwl fun B w8 hbB hx8' hB => ?_; replace hB : Blk w8 B [.slice pu (dL b j).1.length cu] 23 := hB; have hO8 := hO7.ext hx8'; have hs8 := hx8'.size; have hx8 := hx7'.trans hx8'; obtain ⟨css, g1, g2, g3, g4⟩ := hW; have hV : ∀ b, b ∈ vblk (.slice po rows.length co) → w5.heap.size ≤ b ∧ b < w6.heap.size := fun b hb => g3.lt hb; refine LW.append (lo := w5.heap.size) (k := rows.length) rfl rfl rfl rfl rfl rfl (g3.ext hx8) (by omega) hB rfl rfl rfl (by show (rows.length + 1) * 25 ≤ _; omega) rfl ?_; intro v9 w9 hc9 hO9 hv9; obtain ⟨p9, c9, rfl⟩ := hO9.slice; have hO9' := hO8.chg hc9 (fun hb => by have := (hV _ hb).1; omega); have hs9 := hc9.size; refine Su ?_; refine Lwt fun w10 hc10 hO10 => ?_; replace hO10 : Blk w10 O [.int .i64 ((1 : Nat) : Int), .slice p9 (rows.length + 1) c9, str [], .int .i64 0, .slice none 0 0, .slice none 0 0, str []] 25 := hO10; have hs10 := hc10.size; have hcc : Chg [O] w5 w10 := by
   refine (Chg.trans (Chg.trans hc6 hx8) (Chg.trans hc9 hc10)).mono fun b hb hlt => ?_; simp only [List.append_nil, List.mem_append, List.mem_singleton] at hb ⊢; rcases hb with hb | hb | hb
   ·exact hb
   ·have := (hV b hb).1; omega
   ·exact hb
  have hx10 : Ext w w10 := (((hx6.trans hx8).step hc9 (fun b hb => by have := (hV b hb).1; omega))).step hc10 (by simp; omega); have hnew : ∀ b, b ∈ vblk (.slice p9 (rows.length + 1) c9) → b ∈ vblk (.slice po rows.length co) ∨ w8.heap.size ≤ b := hv9; have hV9 : ∀ b, b ∈ vblk (.slice p9 (rows.length + 1) c9) → b < w9.heap.size ∧ w5.heap.size ≤ b := fun b hb => ⟨(hO9.lt hb).2, (hO9.lt hb).1⟩; refine Su ?_; refine QW.again (q + 1, (dL b j).2.1, (dL b j).2.2, rows ++ [(dL b j).1], .slice p9 (rows.length + 1) c9) ⟨by show q + 1 ≤ 5; omega, hj', by simp [hrl], hx10, hcc, hO10, ?_, ?_, ?_⟩ Sub7 (by show 5 - (q + 1) < 5 - q; omega)
  ·refine ListO.snoc g1 g2 (hO9.chg hc10 (fun b hb => by have := (hV9 b hb).2; simp; omega)) rfl (fun i y ds hi hd => ?_) ⟨_, rfl, ?_⟩
   ·obtain ⟨u, e1, e2⟩ := g4 i y ds hi hd; refine ⟨u, e1, ((e2.ext hx8).chg (Chg.trans hc9 hc10) (fun hn a ha => ?_)).map (fun a ha => ?_) (fun _ _ _ _ h => h)⟩
    ·simp only [List.mem_append, List.mem_singleton, not_or]; exact ⟨ha.2.2, by omega⟩
    ·refine ⟨ha.1, by omega, fun hb => ?_⟩; rcases hnew _ hb with hb | hb
     ·exact ha.2.2 hb
     ·omega
   ·have hu' : TextsQ (fun a => w6.heap.size ≤ a.block ∧ a.block < w7.heap.size) w7 (.slice pu (dL b j).1.length cu) (dL b j).1 := ListR.there hu (by decide); refine ((hu'.ext hx8').chg (Chg.trans hc9 hc10) (fun hn a ha => ?_)).map (fun a ha => ?_) (fun _ _ _ _ h => h)
    ·simp only [List.mem_append, List.mem_singleton, not_or]; exact ⟨fun hb => by have := (hV _ hb).2; omega, by omega⟩
    ·refine ⟨by omega, by omega, fun hb => ?_⟩; rcases hnew _ hb with hb | hb
     ·have := (hV _ hb).2; omega
     ·omega
  ·show (loopP b (min n 5) j0 (!is0)).1 = _ ++ (loopP b (min n 5 - (q + 1)) (dL b j).2.1 (!(dL b j).2.2)).1; rw [hl1, hm, hm2, List.append_assoc]
   congr 1
   cases hg : getL b j with
   | none => simp only [dL, hg, tot_none]; rw [Bool.not_true, loopP, hg]; cases m <;> rfl
   | some x => obtain ⟨x, y⟩ := x; simp only [dL, hg, tot_some]; rw [Bool.not_true, loopP, hg]; rfl
  ·show (loopP b (min n 5) j0 (!is0)).2.2 = (loopP b (min n 5 - (q + 1)) (dL b j).2.1 (!(dL b j).2.2)).2.2; rw [hl2, hm, hm2]
   cases hg : getL b j with
   | none => simp only [dL, hg, tot_none]; rw [Bool.not_true, loopP, hg]; cases m <;> rfl
   | some x => obtain ⟨x, y⟩ := x; simp only [dL, hg, tot_some]; rw [Bool.not_true, loopP, hg]
 have e1 : ¬ k = 1 := by simp at e1; omega
 rw [if_neg e1] at hQ; refine Su ?_; refine Cwc (fun e2 => ?_) fun e2 => ?_
 ·have e2 : k = 2 := by simp at e2; omega
  subst e2; rw [if_pos rfl] at hQ; refine Su ?_; refine Lc0 rfl rfl (rGetText_tot b p c i0 w4 (h.ext hx4) hcap hi0) ?_; rintro v1 wg1 ⟨rfl, hxg1⟩; have hg1 := hx4.trans hxg1; replace hO := hO.ext hxg1; replace hR := hR.ext hxg1; have hj1 := dT_le hi0; have ht1 := dT_len hi0; generalize dT b i0 = t1 at *; refine Su ?_; refine Lc0 rfl rfl (rGet_tot b _ t1.2.1 wg1 (h.ext hg1) hj1) ?_; rintro v2 wg2 ⟨rfl, hxg2⟩; have hg2 := hg1.trans hxg2; replace hO := hO.ext hxg2; replace hR := hR.ext hxg2; have hj2 := dN_le hj1; have hn2 := dN_num hj1; generalize dN b t1.2.1 = n2 at *; refine Su ?_; refine Lc0 rfl rfl (rGetList_tot b p c n2.2.1 wg2 (h.ext hg2) hcap hj2) ?_; rintro v3 wg3 ⟨u3, rfl, hu3, hxg3⟩; have hg3 := hg2.trans hxg3; replace hO := hO.ext hxg3; replace hR := hR.ext hxg3; have hz3 := hxg3.size; have hz2 := hxg2.size; have hz1 := hxg1.size; generalize dL b n2.2.1 = l3 at *; obtain ⟨q3, d3, rfl⟩ := hu3.slice; refine Su ?_; refine Lwt fun ws1 hcs1 hO => ?_; have hs1' := hg3.step hcs1 (by simp; omega); replace hR := hR.chg hcs1 (by simp; exact hRO); replace hO : Blk ws1 O [.int .i64 ((2 : Nat) : Int), .slice none 0 0, str t1.1, .int .i64 0, .slice none 0 0, .slice none 0 0, str []] 25 := hO; replace hu3 := hu3.chg hcs1 (fun hn a ha => by simp; omega); refine Su ?_; refine Lwt fun ws2 hcs2 hO => ?_; have hs2' := hs1'.step hcs2 (by simp; omega); replace hR := hR.chg hcs2 (by simp; exact hRO); replace hO : Blk ws2 O [.int .i64 ((2 : Nat) : Int), .slice none 0 0, str t1.1, .int .i64 (n2.1 : Int), .slice none 0 0, .slice none 0 0, str []] 25 := hO; replace hu3 := hu3.chg hcs2 (fun hn a ha => by simp; omega); refine Su ?_; refine Lwt fun ws3 hcs3 hO => ?_; have hs3' := hs2'.step hcs3 (by simp; omega); replace hR := hR.chg hcs3 (by simp; exact hRO); replace hO : Blk ws3 O [.int .i64 ((2 : Nat) : Int), .slice none 0 0, str t1.1, .int .i64 (n2.1 : Int), .slice q3 l3.1.length d3, .slice none 0 0, str []] 25 := hO; replace hu3 := hu3.chg hcs3 (fun hn a ha => by simp; omega); refine Su ?_; refine Lwp (fun p1 => ?_) fun p1 => ?_; rotate_left
  ·have p1 : t1.2.2 = false := by simpa using p1
   refine Su ?_; refine Lws fun w9 hc9 hR9 => ?_; refine Su ?_; exact QW.body_ct Tryz.results22 rfl hR9 rfl rfl rfl rfl (rdPost_of (o := { obj0 2 with name := t1.1, cols := (n2.1 : Int), kids := l3.1 }) hQ (fun _ => rfl) (by simp [p1]) (fun S w2 hS hlo => ⟨_, _, _, rfl, RowsW.nil, (hu3.chg (Chg.trans hc9 hS) (fun hn a ha => notin_of (by omega) hlo (by omega))).w, TextsW.nil, by show t1.1.length ≤ _; omega, by simp [obj0], by simp [obj0], by simp [obj0], by show _ ≤ ((n2.1 : Nat) : Int); omega, by show ((n2.1 : Nat) : Int) ≤ _; omega⟩) (hs3'.step hc9 (by simp; omega)))
  have p1 : t1.2.2 = true := by simpa using p1
  refine Su ?_; refine Lwp (fun p2 => ?_) fun p2 => ?_; rotate_left
  ·have p2 : n2.2.2 = false := by simpa using p2
   refine Su ?_; refine Lws fun w9 hc9 hR9 => ?_; refine Su ?_; exact QW.body_ct Tryz.results22 rfl hR9 rfl rfl rfl rfl (rdPost_of (o := { obj0 2 with name := t1.1, cols := (n2.1 : Int), kids := l3.1 }) hQ (fun _ => rfl) (by simp [p1, p2]) (fun S w2 hS hlo => ⟨_, _, _, rfl, RowsW.nil, (hu3.chg (Chg.trans hc9 hS) (fun hn a ha => notin_of (by omega) hlo (by omega))).w, TextsW.nil, by show t1.1.length ≤ _; omega, by simp [obj0], by simp [obj0], by simp [obj0], by show _ ≤ ((n2.1 : Nat) : Int); omega, by show ((n2.1 : Nat) : Int) ≤ _; omega⟩) (hs3'.step hc9 (by simp; omega)))
  have p2 : n2.2.2 = true := by simpa using p2
  refine Su ?_; refine Lws fun w9 hc9 hR9 => ?_; refine Su ?_; exact QW.body_ct Tryz.results22 rfl hR9 rfl rfl rfl rfl (rdPost_of (o := { obj0 2 with name := t1.1, cols := (n2.1 : Int), kids := l3.1 }) hQ (fun _ => rfl) (by simp [p1, p2]) (fun S w2 hS hlo => ⟨_, _, _, rfl, RowsW.nil, (hu3.chg (Chg.trans hc9 hS) (fun hn a ha => notin_of (by omega) hlo (by omega))).w, TextsW.nil, by show t1.1.length ≤ _; omega, by simp [obj0], by simp [obj0], by simp [obj0], by show _ ≤ ((n2.1 : Nat) : Int); omega, by show ((n2.1 : Nat) : Int) ≤ _; omega⟩) (hs3'.step hc9 (by simp; omega)))
 have e2 : ¬ k = 2 := by simp at e2; omega
 rw [if_neg e2] at hQ; refine Su ?_; refine Cwc (fun e3 => ?_) fun e3 => ?_
 ·have e3 : k = 3 := by simp at e3; omega
  subst e3; rw [if_pos rfl] at hQ; refine Su ?_; refine Lc0 rfl rfl (rGetList_tot b p c i0 w4 (h.ext hx4) hcap hi0) ?_; rintro v1 wg1 ⟨u3, rfl, hu3, hxg1⟩; have hg1 := hx4.trans hxg1; replace hO := hO.ext hxg1; replace hR := hR.ext hxg1; have hz3 := hxg1.size; generalize dL b i0 = l3 at *; obtain ⟨q3, d3, rfl⟩ := hu3.slice; refine Su ?_; refine Lwt fun ws1 hcs1 hO => ?_; have hs1' := hg1.step hcs1 (by simp; omega); replace hR := hR.chg hcs1 (by simp; exact hRO); replace hO : Blk ws1 O [.int .i64 ((3 : Nat) : Int), .slice none 0 0, str [], .int .i64 0, .slice q3 l3.1.length d3, .slice none 0 0, str []] 25 := hO; replace hu3 := hu3.chg hcs1 (fun hn a ha => by simp; omega); refine Su ?_; refine Lws fun w9 hc9 hR9 => ?_; refine Su ?_; exact QW.body_ct Tryz.results22 rfl hR9 rfl rfl rfl rfl (rdPost_of (o := { obj0 3 with kids := l3.1 }) hQ (fun _ => rfl) (by rfl) (fun S w2 hS hlo => ⟨_, _, _, rfl, RowsW.nil, (hu3.chg (Chg.trans hc9 hS) (fun hn a ha => notin_of (by omega) hlo (by omega))).w, TextsW.nil, by simp [obj0], by simp [obj0], by simp [obj0], by simp [obj0], by simp [obj0], by simp [obj0]⟩) (hs1'.step hc9 (by simp; omega)))
 have e3 : ¬ k = 3 := by simp at e3; omega
 rw [if_neg e3] at hQ; refine Su ?_; refine Cwc (fun e4 => ?_) fun e4 => ?_
 ·have e4 : k = 4 := by simp at e4; omega
  subst e4; rw [if_pos rfl] at hQ; refine Su ?_; refine Lc0 rfl rfl (rGetList_tot b p c i0 w4 (h.ext hx4) hcap hi0) ?_; rintro v1 wg1 ⟨u1, rfl, hu1, hxg1⟩; have hg1 := hx4.trans hxg1; replace hO := hO.ext hxg1; replace hR := hR.ext hxg1; have hz1 := hxg1.size; have hj1 := dL_le hi0; generalize dL b i0 = t1 at *; obtain ⟨q1, d1, rfl⟩ := hu1.slice; refine Su ?_; refine Lc0 rfl rfl (rGetList_tot b p c t1.2.1 wg1 (h.ext hg1) hcap hj1) ?_; rintro v2 wg2 ⟨u2, rfl, hu2, hxg2⟩; have hg2 := hg1.trans hxg2; replace hO := hO.ext hxg2; replace hR := hR.ext hxg2; have hz2 := hxg2.size; have hj2 := dL_le hj1; replace hu1 := hu1.ext hxg2; generalize dL b t1.2.1 = n2 at *; obtain ⟨q2, d2, rfl⟩ := hu2.slice; refine Su ?_; refine Lc0 rfl rfl (rGetText_tot b p c n2.2.1 wg2 (h.ext hg2) hcap hj2) ?_; rintro v3 wg3 ⟨rfl, hxg3⟩; have hg3 := hg2.trans hxg3; replace hO := hO.ext hxg3; replace hR := hR.ext hxg3; have hz3 := hxg3.size; have ht3 := dT_len hj2; replace hu1 := hu1.ext hxg3; replace hu2 := hu2.ext hxg3; generalize dT b n2.2.1 = l3 at *; refine Su ?_; refine Lwt fun ws1 hcs1 hO => ?_; have hs1' := hg3.step hcs1 (by simp; omega); replace hR := hR.chg hcs1 (by simp; exact hRO); replace hO : Blk ws1 O [.int .i64 ((4 : Nat) : Int), .slice none 0 0, str [], .int .i64 0, .slice q1 t1.1.length d1, .slice none 0 0, str []] 25 := hO; replace hu1 := hu1.chg hcs1 (fun hn a ha => by simp; omega); replace hu2 := hu2.chg hcs1 (fun hn a ha => by simp; omega); refine Su ?_; refine Lwt fun ws2 hcs2 hO => ?_; have hs2' := hs1'.step hcs2 (by simp; omega); replace hR := hR.chg hcs2 (by simp; exact hRO); replace hO : Blk ws2 O [.int .i64 ((4 : Nat) : Int), .slice none 0 0, str [], .int .i64 0, .slice q1 t1.1.length d1, .slice q2 n2.1.length d2, str []] 25 := hO; replace hu1 := hu1.chg hcs2 (fun hn a ha => by simp; omega); replace hu2 := hu2.chg hcs2 (fun hn a ha => by simp; omega); refine Su ?_; refine Lwt fun ws3 hcs3 hO => ?_; have hs3' := hs2'.step hcs3 (by simp; omega); replace hR := hR.chg hcs3 (by simp; exact hRO); replace hO : Blk ws3 O [.int .i64 ((4 : Nat) : Int), .slice none 0 0, str [], .int .i64 0, .slice q1 t1.1.length d1, .slice q2 n2.1.length d2, str l3.1] 25 := hO; replace hu1 := hu1.chg hcs3 (fun hn a ha => by simp; omega); replace hu2 := hu2.chg hcs3 (fun hn a ha => by simp; omega); refine Su ?_; refine Lwp (fun p1 => ?_) fun p1 => ?_; rotate_left
  ·have p1 : t1.2.2 = false := by simpa using p1
   refine Su ?_; refine Lws fun w9 hc9 hR9 => ?_; refine Su ?_; exact QW.body_ct Tryz.results22 rfl hR9 rfl rfl rfl rfl (rdPost_of (o := { obj0 4 with kids := t1.1, parents := n2.1, note := l3.1 }) hQ (fun _ => rfl) (by simp [p1]) (fun S w2 hS hlo => ⟨_, _, _, rfl, RowsW.nil, (hu1.chg (Chg.trans hc9 hS) (fun hn a ha => notin_of (by omega) hlo (by omega))).w, (hu2.chg (Chg.trans hc9 hS) (fun hn a ha => notin_of (by omega) hlo (by omega))).w, by simp [obj0], by show l3.1.length ≤ _; omega, by simp [obj0], by simp [obj0], by simp [obj0], by simp [obj0]⟩) (hs3'.step hc9 (by simp; omega)))
  have p1 : t1.2.2 = true := by simpa using p1
  refine Su ?_; refine Lwp (fun p2 => ?_) fun p2 => ?_; rotate_left
  ·have p2 : n2.2.2 = false := by simpa using p2
   refine Su ?_; refine Lws fun w9 hc9 hR9 => ?_; refine Su ?_; exact QW.body_ct Tryz.results22 rfl hR9 rfl rfl rfl rfl (rdPost_of (o := { obj0 4 with kids := t1.1, parents := n2.1, note := l3.1 }) hQ (fun _ => rfl) (by simp [p1, p2]) (fun S w2 hS hlo => ⟨_, _, _, rfl, RowsW.nil, (hu1.chg (Chg.trans hc9 hS) (fun hn a ha => notin_of (by omega) hlo (by omega))).w, (hu2.chg (Chg.trans hc9 hS) (fun hn a ha => notin_of (by omega) hlo (by omega))).w, by simp [obj0], by show l3.1.length ≤ _; omega, by simp [obj0], by simp [obj0], by simp [obj0], by simp [obj0]⟩) (hs3'.step hc9 (by simp; omega)))
  have p2 : n2.2.2 = true := by simpa using p2
  refine Su ?_; refine Lws fun w9 hc9 hR9 => ?_; refine Su ?_; exact QW.body_ct Tryz.results22 rfl hR9 rfl rfl rfl rfl (rdPost_of (o := { obj0 4 with kids := t1.1, parents := n2.1, note := l3.1 }) hQ (fun _ => rfl) (by simp [p1, p2]) (fun S w2 hS hlo => ⟨_, _, _, rfl, RowsW.nil, (hu1.chg (Chg.trans hc9 hS) (fun hn a ha => notin_of (by omega) hlo (by omega))).w, (hu2.chg (Chg.trans hc9 hS) (fun hn a ha => notin_of (by omega) hlo (by omega))).w, by simp [obj0], by show l3.1.length ≤ _; omega, by simp [obj0], by simp [obj0], by simp [obj0], by simp [obj0]⟩) (hs3'.step hc9 (by simp; omega)))
 have e4 : ¬ k = 4 := by simp at e4; omega
 rw [if_neg e4] at hQ; refine Su ?_; refine Lws fun w5 hc5 hR5 => ?_; refine Su ?_; exact QW.body_ct Tryz.results22 rfl hR5 rfl rfl rfl rfl (rdPost_of (o := obj0 k) (o2 := obj0 0) (c := false) hQ (by simp) rfl (fun _ _ _ _ => ⟨_, _, _, rfl, RowsW.nil, TextsW.nil, TextsW.nil, by simp [obj0], by simp [obj0], by simp only [obj0]; omega, by simp only [obj0]; omega, by simp [obj0], by simp [obj0]⟩) (hx4.step hc5 (by simp; omega)))
open Go Go.E Go.ChangeShapes Go.WideShapes Go.ChangeAt Go.RowKit Go.Joins Go.ChangeMaps
section
variable {H : Type} {enc : TypeId × Value → H} {W : World} {base : Nat} {sp : Nat → Bool} {held : Bool}
theorem list_cells {α : Type} [Inhabited α] {R : World → Value → α → Prop} {t e n : Nat} {c : Value} {x : DataW H × List MemPlace} (ht : Tryz.prog.underlying t = some (.slice e)) (hc : Tryz.prog.cellsOf e = 1) (h : DataW.trod enc Tryz.prog W base sp held n t [c] = some x)
  (hR : ∀ (m : Nat) (u : Value) (y : DataW H × List MemPlace), DataW.trod enc Tryz.prog W base sp held m e [u] = some y → ∃ a, R W u a) : ∃ l, ListW R W c l := by
 have hmx : maxLen ≤ 9223372036854775807 := by decide
 rcases Go.Deep.open_slice1 ht hc h with ⟨e1, _⟩ | ⟨a', len', cap', m, n, V, D, Pl, e1, _, hl, hm, hmm, _, hx⟩
 ·have e2 : c = .slice none 0 0 := by simpa using e1
  rw [e2]; exact ⟨[], by simp, .inl ⟨rfl, rfl⟩⟩
 ·have e2 : c = .slice (some a') len' cap' := by simpa using e1
  rw [e2]; have hlen : len' ≤ m := by rw [hmm]; split <;> omega
  have key : ∀ i, i < len' → ∃ z : α, R W (V i) z := fun i hi => hR _ _ _ (hx i (by omega)).2; obtain ⟨N, hN⟩ := Go.Deep.choose_lt key; refine ⟨(List.range len').map N, by simp; omega, .inr ⟨a', cap', by simp, fun i z hi => ?_⟩⟩; have hil : i < len' := by
   have := (List.getElem?_eq_some_iff.1 hi).1
   simpa using this
  have : N i = z := by simpa [hil] using hi
  subst this; exact ⟨V i, by rw [Nat.mul_one]; exact (hx i (by omega)).1, hN i hil⟩
theorem texts_in {n : Nat} {c : Value} {x : DataW H × List MemPlace} (h : DataW.trod enc Tryz.prog W base sp held n 23 [c] = some x) : ∃ l, TextsW W c l :=
 list_cells Tryz.underlying23 (by kernel_rfl) h fun m u y hy => by
  obtain ⟨s, e0, _, hs⟩ := DataW.trod_string Tryz.underlying9 hy; simp only [List.cons.injEq, and_true] at e0; exact ⟨s.data.toList, by rw [e0], bsize_le hs⟩
theorem rows_in {n : Nat} {c : Value} {x : DataW H × List MemPlace} (h : DataW.trod enc Tryz.prog W base sp held n 22 [c] = some x) : ∃ l, RowsW W c l :=
 list_cells Tryz.underlying22 (by kernel_rfl) h fun m u y hy => texts_in hy
set_option maxRecDepth 100000 in
theorem open_object {b0 : Nat} {v : Value} {d : DataW H} {p : List MemPlace} (hv : Value.okWide Tryz.prog W .any b0 25 v) (h : DataW.Trod enc Tryz.prog W base sp held 25 v d p) : ∃ cs o, v = .agg ⟨cs⟩ ∧ ObjW W cs o := by
 have hu := Tryz.underlying25; have hC : Tryz.prog.cellsOf 25 = 7 := by kernel_rfl
 obtain ⟨cs0, rfl, hsz⟩ := okWide_struct hu hv; obtain ⟨cs⟩ := cs0
 match cs, hsz.trans hC with
 | [c0, c1, c2, c3, c4, c5, c6], _ =>
  obtain ⟨fuel, hf⟩ := h; obtain ⟨xs, n', _, hx, _, hlen, hg⟩ := DataW.trod_struct hu hf; have g0 := hg 0 _ rfl; have g1 := hg 1 _ rfl; have g2 := hg 2 _ rfl; have g3 := hg 3 _ rfl; have g4 := hg 4 _ rfl; have g5 := hg 5 _ rfl; have g6 := hg 6 _ rfl
  match xs, hlen with
  | [y0, y1, y2, y3, y4, y5, y6], _ =>
   have k1 : Tryz.prog.cellsOf 9 = 1 := by kernel_rfl
   have k2 : Tryz.prog.cellsOf 3 = 1 := by kernel_rfl
   have k3 : Tryz.prog.cellsOf 22 = 1 := by kernel_rfl
   have k4 : Tryz.prog.cellsOf 23 = 1 := by kernel_rfl
   obtain ⟨z0, e0, _, w0⟩ := DataW.trod_int Tryz.underlying3 g0; obtain ⟨s2, e2, _, hs2⟩ := DataW.trod_string Tryz.underlying9 g2; obtain ⟨z3, e3, _, w3⟩ := DataW.trod_int Tryz.underlying3 g3; obtain ⟨s6, e6, _, hs6⟩ := DataW.trod_string Tryz.underlying9 g6; simp [k1, k2, Value.cells] at e0 e2 e3 e6; have g1' : DataW.trod enc Tryz.prog W base sp held n' 22 [c1] = some y1 := by simpa [k3, Value.cells] using g1
   have g4' : DataW.trod enc Tryz.prog W base sp held n' 23 [c4] = some y4 := by simpa [k4, Value.cells] using g4
   have g5' : DataW.trod enc Tryz.prog W base sp held n' 23 [c5] = some y5 := by simpa [k4, Value.cells] using g5
   obtain ⟨rows, hr⟩ := rows_in g1'; obtain ⟨kids, hk⟩ := texts_in g4'; obtain ⟨par, hp⟩ := texts_in g5'; simp only [Lit.wf, Bool.and_eq_true, decide_eq_true_eq, IntKind.min, IntKind.max, IntKind.signed, IntKind.bits] at w0 w3; refine ⟨_, ⟨z0, rows, s2.data.toList, z3, kids, par, s6.data.toList⟩, rfl, c1, c4, c5, ?_, hr, hk, hp, bsize_le hs2, bsize_le hs6, ?_, ?_, ?_, ?_⟩
   ·rw [e0, e2, e3, e6]; rfl
   all_goals (simp at w0 w3 ⊢; omega)
end
end Go.Proofs.YtgdohpcnpgjpaaaGreatDoor
