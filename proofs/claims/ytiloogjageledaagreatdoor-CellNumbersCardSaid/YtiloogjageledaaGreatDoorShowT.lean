/-
  Plain: a list of nodes is one tree's alone; what it is as text. No program in sight.
-/
import Derived.Test.YtiloogjageledaaGreatDoorShowS
namespace Go.Proofs.YtiloogjageledaaGreatDoor
open Go Go.E

def rootN (o : Nat) : Tr false → NodeD
  | .leaf n => n
  | .neg a => { kind := 8, kids := [((o + a.cnt - 1 : Nat) : Int)] }
  | .two k a b => { kind := k, kids := [((o + a.cnt - 1 : Nat) : Int), ((o + a.cnt + b.cnt - 1 : Nat) : Int)] }
  | .call x ks => { kind := 7, text := x, kids := ks.kids o }
def bodyN (o : Nat) : Tr false → List NodeD
  | .leaf _ => []
  | .neg a => a.flat o
  | .two _ a b => a.flat o ++ b.flat (o + a.cnt)
  | .call _ ks => ks.flat o
theorem flat_root (o : Nat) (t : Tr false) : t.flat o = bodyN o t ++ [rootN o t] := by
  cases t with
  | leaf n => rfl
  | neg a => rfl
  | two k a b => rfl
  | call x ks => rfl
theorem body_len (o : Nat) (t : Tr false) : (bodyN o t).length + 1 = t.cnt := by
  have := congrArg List.length (flat_root o t)
  simpa [Tr.flat_len] using this.symm
theorem snoc_inj {α : Type} {a b : List α} {x y : α} (h : a ++ [x] = b ++ [y]) : a = b ∧ x = y := by
  have := List.append_inj' h rfl
  exact ⟨this.1, by simpa using this.2⟩
theorem kids_len : ∀ (ks : Tr true) (o o' : Nat), (ks.kids o).length = (ks.kids o').length
  | .nil, _, _ => rfl
  | .snoc rs a, o, o' => by simp [Tr.kids, kids_len rs o o']

/-- Two trees of one list are one. -/
theorem Tr.inj : ∀ {b : Bool} (t u : Tr b), t.Fit → u.Fit → ∀ l m : List NodeD, l ++ t.flat l.length = m ++ u.flat m.length → (b = false ∨ (t.kids 0).length = (u.kids 0).length) → t = u ∧ l = m
  | _, .leaf n, u, hf, hu, l, m, h, _ => by
    rw [flat_root _ u, ← List.append_assoc] at h
    obtain ⟨h1, h2⟩ := snoc_inj (a := l) h
    cases u with
    | leaf n' => exact ⟨by rw [show n = n' from h2], by simpa [bodyN] using h1⟩
    | neg a => have := hf.2.1; rw [h2] at this; simp [rootN] at this
    | two k a b => have := hf.2.1; have := hu.1; rw [h2] at *; simp [rootN] at *; omega
    | call x ks => have := hf.2.1; rw [h2] at this; simp [rootN] at this
  | _, .neg a, u, hf, hu, l, m, h, _ => by
    rw [flat_root _ u, flat_root _ (.neg a), ← List.append_assoc, ← List.append_assoc] at h
    obtain ⟨h1, h2⟩ := snoc_inj h
    cases u with
    | leaf n' => have := hu.2.1; rw [← show rootN l.length (.neg a) = n' from h2] at this; simp [rootN] at this
    | neg a' =>
      obtain ⟨e1, e2⟩ := inj a a' hf hu l m h1 (.inl rfl)
      exact ⟨by rw [e1], e2⟩
    | two k a b => have := hu.1; have h3 := congrArg NodeD.kind h2; simp [rootN] at h3; omega
    | call x ks => have h3 := congrArg NodeD.kind h2; simp [rootN] at h3
  | _, .two k a b, u, hf, hu, l, m, h, _ => by
    rw [flat_root _ u, flat_root _ (.two k a b), ← List.append_assoc, ← List.append_assoc] at h
    obtain ⟨h1, h2⟩ := snoc_inj h
    have h3 := congrArg NodeD.kind h2
    have hk := hf.1
    cases u with
    | leaf n' => have := hu.2.1; simp [rootN] at h3; omega
    | neg a' => simp [rootN] at h3; omega
    | two k' a' b' =>
      simp only [bodyN] at h1
      rw [← List.append_assoc, ← List.append_assoc] at h1
      have e : l.length + a.cnt = (l ++ a.flat l.length).length := by simp [Tr.flat_len]
      have e' : m.length + a'.cnt = (m ++ a'.flat m.length).length := by simp [Tr.flat_len]
      rw [e, e'] at h1
      obtain ⟨q1, q2⟩ := inj b b' hf.2.2.2 hu.2.2.2 _ _ h1 (.inl rfl)
      obtain ⟨q3, q4⟩ := inj a a' hf.2.2.1 hu.2.2.1 l m q2 (.inl rfl)
      refine ⟨?_, q4⟩
      rw [q1, q3, show k = k' from h3]
    | call x ks => simp [rootN] at h3; omega
  | _, .call x ks, u, hf, hu, l, m, h, _ => by
    rw [flat_root _ u, flat_root _ (.call x ks), ← List.append_assoc, ← List.append_assoc] at h
    obtain ⟨h1, h2⟩ := snoc_inj h
    have h3 := congrArg NodeD.kind h2
    cases u with
    | leaf n' => have := hu.2.1; simp [rootN] at h3; omega
    | neg a' => simp [rootN] at h3
    | two k a b => have := hu.1; simp [rootN] at h3; omega
    | call x' ks' =>
      have h4 := congrArg (fun n => n.kids.length) h2
      simp only [rootN] at h4
      obtain ⟨q1, q2⟩ := inj ks ks' hf.2 hu.2 l m h1 (.inr (by rw [kids_len ks 0 l.length, kids_len ks' 0 m.length]; exact h4))
      have h5 := congrArg NodeD.text h2
      refine ⟨?_, q2⟩
      rw [q1, show x = x' from h5]
  | _, .nil, u, _, _, l, m, h, hk => by
    rcases u.snoc_form with rfl | ⟨rs, a, rfl⟩
    · exact ⟨rfl, by simpa [Tr.flat] using h⟩
    · simp [Tr.kids] at hk
  | _, .snoc rs a, u, hf, hu, l, m, h, hk => by
    rcases u.snoc_form with rfl | ⟨rs', a', rfl⟩
    · simp [Tr.kids] at hk
    · simp only [Tr.flat] at h
      rw [← List.append_assoc, ← List.append_assoc] at h
      have e : l.length + rs.cnt = (l ++ rs.flat l.length).length := by simp [Tr.flat_len]
      have e' : m.length + rs'.cnt = (m ++ rs'.flat m.length).length := by simp [Tr.flat_len]
      rw [e, e'] at h
      obtain ⟨q1, q2⟩ := inj a a' hf.2 hu.2 _ _ h (.inl rfl)
      obtain ⟨q3, q4⟩ := inj rs rs' hf.1 hu.1 l m q2 (.inr (by simpa [Tr.kids] using hk))
      exact ⟨by rw [q1, q3], q4⟩

/-- A tree's nodes are a formula's. -/
theorem Tr.goes : ∀ {b : Bool} (t : Tr b), t.Fit → ∀ (o : Nat) (st : List Int), treeGo o st (t.flat o) = some (st ++ (if b then t.kids o else [((o + t.cnt - 1 : Nat) : Int)]))
  | _, .leaf n, hf, o, st => by
    have hc : kidN n = n.kids.length := by
      have h1 := hf.1
      have h2 := hf.2.1
      have hcI : countI n.kind = 0 := by
        unfold countI
        rw [if_neg (by omega), if_neg (by omega), if_neg (by omega), if_neg (by omega)]
      rw [hf.2.2.1, kidN, hcI]
      rfl
    have := tree_put (l := []) (i := o) (st := st) (st' := st) (ks := []) (by simp [treeGo]) hf.2.2.1 hc hf.2.2.2
    simpa [Tr.cnt, Tr.flat] using this
  | _, .neg a, hf, o, st => by
    have h := goes a hf o st
    have := tree_put (ks := [((o + a.cnt - 1 : Nat) : Int)]) (n := { kind := 8, kids := [((o + a.cnt - 1 : Nat) : Int)] }) h rfl rfl rfl
    rw [Tr.flat_len] at this
    simpa [Tr.cnt, Tr.flat] using this
  | _, .two k a b, hf, o, st => by
    have h1 := goes a hf.2.2.1 o st
    have h2 := goes b hf.2.2.2 (o + a.cnt) (st ++ [((o + a.cnt - 1 : Nat) : Int)])
    have hn := two_node hf.1 hf.2.1 ((o + a.cnt - 1 : Nat) : Int) ((o + a.cnt + b.cnt - 1 : Nat) : Int)
    have h3 : treeGo o st (a.flat o ++ b.flat (o + a.cnt)) = some (st ++ [((o + a.cnt - 1 : Nat) : Int), ((o + a.cnt + b.cnt - 1 : Nat) : Int)]) := by
      rw [treeGo_app, h1]
      simp only [Bool.false_eq_true, if_false, Option.bind_some, Tr.flat_len]
      simp only [Bool.false_eq_true, if_false] at h2
      rw [h2]
      simp
    have := tree_put (n := { kind := k, kids := [((o + a.cnt - 1 : Nat) : Int), ((o + a.cnt + b.cnt - 1 : Nat) : Int)] }) h3 rfl hn.1 hn.2
    simp only [List.length_append, Tr.flat_len] at this
    simp only [Tr.flat, this, Tr.cnt]
    simp
  | _, .call x ks, hf, o, st => by
    have h := goes ks hf.2 o st
    simp only [if_true] at h
    have hn := call_node hf.1 (ks.kids o)
    have := tree_put (n := { kind := 7, text := x, kids := ks.kids o }) h rfl hn.1 hn.2
    rw [Tr.flat_len] at this
    simpa [Tr.cnt, Tr.flat] using this
  | _, .nil, _, o, st => by simp [treeGo, Tr.flat, Tr.kids]
  | _, .snoc rs a, hf, o, st => by
    have h1 := goes rs hf.1 o st
    have h2 := goes a hf.2 (o + rs.cnt) (st ++ rs.kids o)
    simp only [if_true] at h1
    simp only [Bool.false_eq_true, if_false] at h2
    simp only [Tr.flat, Tr.kids, treeGo_app, h1, Option.bind_some, Tr.flat_len, h2, if_true]
    simp
theorem Tr.tree (t : Tr false) (hf : t.Fit) : treeB (t.flat 0) = true := by
  have := t.goes hf 0 []
  simp only [List.nil_append, Bool.false_eq_true, if_false] at this
  rw [treeB, this]
  rfl

/-- What nodes are as text. -/
noncomputable def printT (l : List NodeD) : List UInt8 := open Classical in if h : ∃ t : Tr false, t.Fit ∧ t.flat 0 = l then h.choose.text else []
theorem printT_of {t : Tr false} (hf : t.Fit) : printT (t.flat 0) = t.text := by
  unfold printT
  have hx : ∃ u : Tr false, u.Fit ∧ u.flat 0 = t.flat 0 := ⟨t, hf, rfl⟩
  rw [dif_pos hx]
  obtain ⟨h1, h2⟩ := hx.choose_spec
  rw [(Tr.inj _ t h1 hf [] [] (by simpa using h2) (.inl rfl)).1]
theorem printT_no {l : List NodeD} (h : treeB l = false) : printT l = [] := by
  unfold printT
  rw [dif_neg]
  rintro ⟨t, hf, rfl⟩
  rw [t.tree hf] at h
  cases h
/-- What is read is told as something no longer, which is read as it again. -/
theorem print_parse {s : List UInt8} {l : List NodeD} (h : parseT s = .ok l) : parseT (printT l) = .ok l ∧ (printT l).length ≤ s.length ∧ treeB l = true ∧ ∃ t : Tr false, t.Fit ∧ t.Num ∧ t.flat 0 = l ∧ printT l = t.text := by
  obtain ⟨h3, t, hf, hn, rfl, hd, hl⟩ := parseT_ok h
  rw [printT_of hf, parseT_text t hf hn, if_neg (by omega), if_pos hd]
  exact ⟨rfl, hl, t.tree hf, t, hf, hn, rfl, rfl⟩

/-! ### How long a tree's text is -/

theorem quote_len (s : List UInt8) : (quoteT s).length ≤ 2 * s.length + 2 := by
  have : ∀ s : List UInt8, (s.flatMap (fun c => if c = (34 : UInt8) then [34, 34] else [c])).length ≤ 2 * s.length := by
    intro s
    induction s with
    | nil => simp
    | cons c s ih =>
      simp only [List.flatMap_cons, List.length_append, List.length_cons]
      by_cases h : c = 34
      · rw [if_pos h]; simp only [List.length_cons, List.length_nil]; omega
      · rw [if_neg h]; simp only [List.length_cons, List.length_nil]; omega
  have := this s
  simp only [quoteT, List.length_cons, List.length_append, List.length_nil]
  omega
theorem textB_len {r : RefD} (h : mayB r = true) : (textB r).length ≤ r.sheet.length + 10 := by
  obtain ⟨_, _, _, r0, r1⟩ := may_parts h
  have h1 := (itoa_ok (z := r.row + 1) (by omega) (by omega)).2.2.1
  have h2 := colT_length r.col
  have h3 := markT_length r.ac
  have h4 := markT_length r.ar
  unfold textB
  split <;> simp only [List.length_append, List.length_cons, List.length_nil] <;> omega
end Go.Proofs.YtiloogjageledaaGreatDoor
