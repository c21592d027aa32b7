/-
  Plain: a formula's nodes as a tree.
-/
import Derived.Test.YtiloogjageledaaGreatDoorTreeP
namespace Go.Proofs.YtiloogjageledaaGreatDoor
open Go Go.E

/-- Trees (false), and rows of trees (true). -/
inductive Tr : Bool → Type where
  | leaf (n : NodeD) : Tr false
  | neg (a : Tr false) : Tr false
  | two (k : Int) (a b : Tr false) : Tr false
  | call (x : List UInt8) (ks : Tr true) : Tr false
  | nil : Tr true
  | snoc (ks : Tr true) (a : Tr false) : Tr true

/-- How many nodes. -/
def Tr.cnt : {b : Bool} → Tr b → Nat
  | _, .leaf _ => 1
  | _, .neg a => a.cnt + 1
  | _, .two _ a b => a.cnt + b.cnt + 1
  | _, .call _ ks => ks.cnt + 1
  | _, .nil => 0
  | _, .snoc ks a => ks.cnt + a.cnt
/-- The places of a row's trees. -/
def Tr.kids (o : Nat) : {b : Bool} → Tr b → List Int
  | _, .snoc ks a => ks.kids o ++ [((o + ks.cnt + a.cnt - 1 : Nat) : Int)]
  | _, _ => []
/-- Its nodes, from a place on. -/
def Tr.flat : (o : Nat) → {b : Bool} → Tr b → List NodeD
  | _, _, .leaf n => [n]
  | o, _, .neg a => a.flat o ++ [{ kind := 8, kids := [((o + a.cnt - 1 : Nat) : Int)] }]
  | o, _, .two k a b => a.flat o ++ b.flat (o + a.cnt) ++ [{ kind := k, kids := [((o + a.cnt - 1 : Nat) : Int), ((o + a.cnt + b.cnt - 1 : Nat) : Int)] }]
  | o, _, .call x ks => ks.flat o ++ [{ kind := 7, text := x, kids := ks.kids o }]
  | _, _, .nil => []
  | o, _, .snoc ks a => ks.flat o ++ a.flat (o + ks.cnt)
/-- Are its nodes as their kinds want them? -/
def Tr.Fit : {b : Bool} → Tr b → Prop
  | _, .leaf n => 1 ≤ n.kind ∧ n.kind ≤ 6 ∧ n.kids = [] ∧ plainB n = true
  | _, .neg a => a.Fit
  | _, .two k a b => 9 ≤ k ∧ k ≤ 19 ∧ a.Fit ∧ b.Fit
  | _, .call x ks => nameF x = true ∧ ks.Fit
  | _, .nil => True
  | _, .snoc ks a => ks.Fit ∧ a.Fit

theorem Tr.flat_len : ∀ {b : Bool} (t : Tr b) (o : Nat), (t.flat o).length = t.cnt
  | _, .leaf n, o => rfl
  | _, .neg a, o => by simp [Tr.flat, Tr.cnt, flat_len a]
  | _, .two k a b, o => by simp [Tr.flat, Tr.cnt, flat_len a, flat_len b]; omega
  | _, .call x ks, o => by simp [Tr.flat, Tr.cnt, flat_len ks]
  | _, .nil, o => rfl
  | _, .snoc ks a, o => by simp [Tr.flat, Tr.cnt, flat_len ks, flat_len a]
theorem Tr.snoc_form (ts : Tr true) : ts = .nil ∨ ∃ ks a, ts = .snoc ks a := by
  cases ts with
  | nil => exact .inl rfl
  | snoc ks a => exact .inr ⟨ks, a, rfl⟩
/-- The last trees of a row, as a row of their own. -/
theorem Tr.split (k : Nat) : ∀ (ts : Tr true), ts.Fit → k ≤ (ts.kids 0).length → ∃ ts1 ks : Tr true, ts.flat 0 = ts1.flat 0 ++ ks.flat ts1.cnt ∧ ts.kids 0 = ts1.kids 0 ++ ks.kids ts1.cnt ∧ (ks.kids ts1.cnt).length = k ∧ ts.cnt = ts1.cnt + ks.cnt ∧ ts1.Fit ∧ ks.Fit := by
  induction k with
  | zero => exact fun ts hf _ => ⟨ts, .nil, by simp [Tr.flat], by simp [Tr.kids], rfl, rfl, hf, trivial⟩
  | succ k ih =>
    intro ts hf hk
    rcases Tr.snoc_form ts with rfl | ⟨rs, a, rfl⟩
    · simp [Tr.kids] at hk
    · simp only [Tr.kids, List.length_append, List.length_singleton] at hk
      obtain ⟨ts1, ks, h1, h2, h3, h4, h5, h6⟩ := ih rs hf.1 (by omega)
      refine ⟨ts1, .snoc ks a, ?_, ?_, ?_, ?_, h5, h6, hf.2⟩
      · simp only [Tr.flat, h1, h4, List.append_assoc, Nat.zero_add]
      · simp only [Tr.kids, h2, h4, List.append_assoc, Nat.zero_add]
      · simp only [Tr.kids, List.length_append, h3, List.length_singleton]
      · simp only [Tr.cnt, h4, Nat.add_assoc]
theorem kid_kinds {n : NodeD} (h : kidN n = n.kids.length) : (1 ≤ n.kind ∧ n.kind ≤ 6 ∧ n.kids = []) ∨ n.kind = 7 ∨ (n.kind = 8 ∧ n.kids.length = 1) ∨ (9 ≤ n.kind ∧ n.kind ≤ 19 ∧ n.kids.length = 2) := by
  unfold kidN countI at h
  by_cases h1 : n.kind < 1 ∨ 19 < n.kind
  · rw [if_pos h1, if_neg (by decide)] at h; omega
  rw [if_neg h1] at h
  by_cases h2 : n.kind = 7
  · exact .inr (.inl h2)
  rw [if_neg h2] at h
  by_cases h3 : n.kind = 8
  · rw [if_pos h3, if_neg (by decide)] at h
    exact .inr (.inr (.inl ⟨h3, by omega⟩))
  rw [if_neg h3] at h
  by_cases h4 : 8 < n.kind
  · rw [if_pos h4, if_neg (by decide)] at h
    exact .inr (.inr (.inr ⟨by omega, by omega, by omega⟩))
  · rw [if_neg h4, if_neg (by decide)] at h
    exact .inl ⟨by omega, by omega, List.eq_nil_of_length_eq_zero (by omega)⟩
theorem bare_node {n : NodeD} (hp : plainB n = true) (hk : 8 ≤ n.kind) : n = { kind := n.kind, kids := n.kids } := by
  simp only [plainB, Bool.and_eq_true, decide_eq_true_eq] at hp
  have hb : bareN n = n := by
    unfold bareN
    rw [if_neg (by omega), if_neg (by omega), if_neg (by omega), if_neg (by omega), if_neg (by omega), if_neg (by omega)]
  rw [hb] at hp
  obtain ⟨_, h1, h2, h3, h4⟩ := hp
  cases n
  simp_all
theorem call_form {n : NodeD} (hp : plainB n = true) (hk : n.kind = 7) : n = { kind := 7, text := n.text, kids := n.kids } ∧ nameF n.text = true := by
  simp only [plainB, Bool.and_eq_true, decide_eq_true_eq] at hp
  have hb : bareN n = { n with text := [] } := by
    unfold bareN
    rw [if_neg (by omega), if_neg (by omega), if_neg (by omega), if_pos hk]
  have ho : okK n = nameF n.text := by
    unfold okK
    rw [if_neg (by omega), if_neg (by omega), if_neg (by omega), if_pos hk]
  rw [hb, ho] at hp
  obtain ⟨h0, h1, h2, h3, h4⟩ := hp
  refine ⟨?_, h0⟩
  cases n
  simp_all

theorem rev_ind {α : Type} {p : List α → Prop} (h0 : p []) (h1 : ∀ l a, p l → p (l ++ [a])) : ∀ l, p l := by
  intro l
  have : ∀ (n : Nat) (l : List α), l.length = n → p l := by
    intro n
    induction n with
    | zero => intro l hl; rw [List.eq_nil_of_length_eq_zero hl]; exact h0
    | succ n ih =>
      intro l hl
      have hne : l ≠ [] := by intro e; subst e; simp at hl
      rw [← List.dropLast_concat_getLast hne]
      exact h1 _ _ (ih _ (by simp [hl]))
  exact this _ l rfl

/-- Nodes that stand are a row of trees. -/
theorem forest_of : ∀ (l : List NodeD) (st : List Int), treeGo 0 [] l = some st → ∃ ts : Tr true, ts.flat 0 = l ∧ ts.kids 0 = st ∧ ts.Fit := by
  refine rev_ind ?_ ?_
  · intro st h
    simp only [treeGo, Option.some.injEq] at h
    exact ⟨.nil, rfl, h, trivial⟩
  · intro l n ih st h
    rw [treeGo_app] at h
    cases e : treeGo 0 [] l with
    | none => rw [e] at h; cases h
    | some s0 =>
      rw [e] at h
      simp only [Option.bind_some, treeGo, Nat.zero_add] at h
      obtain ⟨ts, hf, hk, hfit⟩ := ih s0 e
      cases e2 : treeStep l.length s0 n with
      | none => rw [e2] at h; cases h
      | some s1 =>
        rw [e2] at h
        simp only [Option.some.injEq] at h
        subst h
        unfold treeStep at e2
        split at e2
        · rename_i hc
          simp only [Option.some.injEq] at e2
          obtain ⟨c1, c2, c3, c4⟩ := hc
          obtain ⟨ts1, ks, a1, a2, a3, a4, a5, a6⟩ := ts.split n.kids.length hfit (by rw [hk]; exact c2)
          have hkids : ks.kids ts1.cnt = n.kids := by
            rw [← c3, ← hk, a2]
            have : (ts1.kids 0 ++ ks.kids ts1.cnt).length - n.kids.length = (ts1.kids 0).length := by rw [List.length_append, a3]; omega
            rw [this, List.drop_left']
            rfl
          have htake : s0.take (s0.length - n.kids.length) = ts1.kids 0 := by
            rw [← hk, a2]
            have : (ts1.kids 0 ++ ks.kids ts1.cnt).length - n.kids.length = (ts1.kids 0).length := by rw [List.length_append, a3]; omega
            rw [this, List.take_left']
            rfl
          have hlen : l.length = ts1.cnt + ks.cnt := by rw [← hf, Tr.flat_len, a4]
          have key : ∀ a : Tr false, a.Fit → a.cnt = ks.cnt + 1 → a.flat ts1.cnt = ks.flat ts1.cnt ++ [n] → ∃ ts : Tr true, ts.flat 0 = l ++ [n] ∧ ts.kids 0 = s1 ∧ ts.Fit := by
            intro a h1 h2 h3
            refine ⟨.snoc ts1 a, ?_, ?_, a5, h1⟩
            · simp only [Tr.flat, Nat.zero_add, h3]
              rw [← List.append_assoc, ← a1, hf]
            · simp only [Tr.kids, Nat.zero_add]
              rw [← e2, htake, hlen, h2]
              rfl
          rcases kid_kinds c1 with ⟨b1, b2, b3⟩ | b1 | ⟨b1, b2⟩ | ⟨b1, b2, b3⟩
          · have has : ks.kids ts1.cnt = [] := by rw [hkids, b3]
            rcases ks.snoc_form with rfl | ⟨rs, a, rfl⟩
            · exact key (.leaf n) ⟨b1, b2, b3, c4⟩ rfl rfl
            · simp [Tr.kids] at has
          · obtain ⟨d1, d2⟩ := call_form c4 b1
            refine key (.call n.text ks) ⟨d2, a6⟩ rfl ?_
            simp only [Tr.flat, hkids]
            rw [← d1]
          · rcases ks.snoc_form with rfl | ⟨rs, a, rfl⟩
            · simp [Tr.kids] at a3; omega
            · rcases rs.snoc_form with rfl | ⟨rs', a', rfl⟩
              · refine key (.neg a) a6.2 (by simp [Tr.cnt]) ?_
                have hn := bare_node c4 (by omega)
                rw [← hkids, b1] at hn
                simp only [Tr.flat, Tr.kids, Tr.cnt, List.nil_append, Nat.add_zero] at hn ⊢
                rw [hn]
              · simp [Tr.kids] at a3; omega
          · rcases ks.snoc_form with rfl | ⟨rs, b, rfl⟩
            · simp [Tr.kids] at a3; omega
            · rcases rs.snoc_form with rfl | ⟨rs', a, rfl⟩
              · simp [Tr.kids] at a3; omega
              · rcases rs'.snoc_form with rfl | ⟨rs'', a', rfl⟩
                · refine key (.two n.kind a b) ⟨b1, b2, a6.1.2, a6.2⟩ (by simp [Tr.cnt]) ?_
                  have hn := bare_node c4 (by omega)
                  rw [← hkids] at hn
                  simp only [Tr.flat, Tr.kids, Tr.cnt, List.nil_append, Nat.zero_add, Nat.add_zero, List.cons_append] at hn ⊢
                  rw [← hn]
                · simp [Tr.kids] at a3; omega
        · cases e2
/-- A formula's nodes are a tree's. -/
theorem tree_of {l : List NodeD} (h : treeB l = true) : ∃ t : Tr false, t.flat 0 = l ∧ t.Fit := by
  unfold treeB at h
  split at h
  · rename_i st e
    obtain ⟨ts, h1, h2, h3⟩ := forest_of l st e
    have h := of_decide_eq_true h
    rcases ts.snoc_form with rfl | ⟨rs, a, rfl⟩
    · rw [← h2] at h; simp [Tr.kids] at h
    · rcases rs.snoc_form with rfl | ⟨rs', a', rfl⟩
      · exact ⟨a, by simpa [Tr.flat, Tr.cnt] using h1, h3.2⟩
      · rw [← h2] at h; simp [Tr.kids] at h
  · cases h
end Go.Proofs.YtiloogjageledaaGreatDoor
