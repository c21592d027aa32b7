/-
  Plain: where a tree's nodes lie in a list; its text, part by part. No program in sight.
-/
import Derived.Test.YtiloogjageledaaGreatDoorNodesM
namespace Go.Proofs.YtiloogjageledaaGreatDoor
open Go Go.E

/-! ### Places -/

/-- A tree's nodes lie in a list, from a place on. -/
def Lies (l : List NodeD) (o : Nat) {b : Bool} (t : Tr b) : Prop := ∃ suf, l.drop o = t.flat o ++ suf

theorem drop_more {l : List NodeD} {o n : Nat} {x y : List NodeD} (h : l.drop o = x ++ y) (hn : x.length = n) : l.drop (o + n) = y := by
  rw [← List.drop_drop, h, ← hn, List.drop_left]
theorem Lies.node {l : List NodeD} {o : Nat} {t : Tr false} (h : Lies l o t) : l[o + t.cnt - 1]? = some (rootN o t) := by
  obtain ⟨suf, h⟩ := h
  rw [flat_root, List.append_assoc] at h
  have hb := body_len o t
  have e := drop_more h rfl
  have e2 : o + t.cnt - 1 = o + (bodyN o t).length := by omega
  have := congrArg List.head? e
  rw [e2, ← List.head?_drop, this]
  rfl
theorem Lies.neg {l : List NodeD} {o : Nat} {a : Tr false} (h : Lies l o (.neg a)) : Lies l o a := by
  obtain ⟨suf, h⟩ := h
  simp only [Tr.flat, List.append_assoc] at h
  exact ⟨_, h⟩
theorem Lies.two {l : List NodeD} {o : Nat} {k : Int} {a b : Tr false} (h : Lies l o (.two k a b)) : Lies l o a ∧ Lies l (o + a.cnt) b := by
  obtain ⟨suf, h⟩ := h
  simp only [Tr.flat, List.append_assoc] at h
  exact ⟨⟨_, h⟩, _, drop_more h (a.flat_len o)⟩
theorem Lies.call {l : List NodeD} {o : Nat} {x : List UInt8} {ks : Tr true} (h : Lies l o (.call x ks)) : Lies l o ks := by
  obtain ⟨suf, h⟩ := h
  simp only [Tr.flat, List.append_assoc] at h
  exact ⟨_, h⟩
theorem Lies.snoc {l : List NodeD} {o : Nat} {ks : Tr true} {a : Tr false} (h : Lies l o (.snoc ks a)) : Lies l o ks ∧ Lies l (o + ks.cnt) a := by
  obtain ⟨suf, h⟩ := h
  simp only [Tr.flat, List.append_assoc] at h
  exact ⟨⟨_, h⟩, _, drop_more h (ks.flat_len o)⟩
theorem Lies.whole (t : Tr false) : Lies (t.flat 0) 0 t := ⟨[], by simp⟩

/-- A row's trees, each with its place. -/
def Tr.row (o : Nat) : {b : Bool} → Tr b → List (Nat × Tr false)
  | _, .snoc ks a => ks.row o ++ [(o + ks.cnt, a)]
  | _, _ => []
theorem row_kids (o : Nat) : ∀ (ks : Tr true), ks.kids o = (ks.row o).map (fun x => ((x.1 + x.2.cnt - 1 : Nat) : Int))
  | .nil => rfl
  | .snoc rs a => by simp [Tr.kids, Tr.row, row_kids o rs]
theorem Tr.cnt_pos (t : Tr false) : 0 < t.cnt := by cases t <;> simp [Tr.cnt]
theorem snoc_text (rs : Tr true) (a : Tr false) : (Tr.snoc rs a).text = rs.text ++ (a.text ++ [44]) := by
  simp only [Tr.text, Tr.toks, List.flatMap_append, List.flatMap_cons, List.flatMap_nil, tokT_sg, List.append_nil]
theorem tokT_word (x : List UInt8) : tokT ⟨3, x, 0, refN, 0⟩ = x := rfl
theorem call_snoc (x : List UInt8) (rs : Tr true) (a : Tr false) : (Tr.call x (.snoc rs a)).text = x ++ ([40] ++ (rs.text ++ (a.text ++ [41]))) := by
  simp only [Tr.text, Tr.toks, List.flatMap_append, List.flatMap_cons, List.flatMap_nil, tokT_sg, tokT_word, List.append_nil]
theorem row_mem {l : List NodeD} {o : Nat} : ∀ (ks : Tr true), ks.Fit → ks.Num → Lies l o ks → ∀ x ∈ ks.row o, Lies l x.1 x.2 ∧ x.2.Fit ∧ x.2.Num ∧ x.2.cnt ≤ ks.cnt ∧ x.2.text.length ≤ ks.text.length
  | .nil, _, _, _, x, hx => by cases hx
  | .snoc rs a, hf, hn, h, x, hx => by
    have hnr : rs.Num := fun u hu => hn u (by simp only [Tr.toks]; simp [hu])
    have hna : a.Num := fun u hu => hn u (by simp only [Tr.toks]; simp [hu])
    have htx : (Tr.snoc rs a).text.length = rs.text.length + a.text.length + 1 := by rw [snoc_text]; simp only [List.length_append, List.length_cons, List.length_nil]; omega
    simp only [Tr.row, List.mem_append, List.mem_singleton] at hx
    rcases hx with hx | rfl
    · obtain ⟨h1, h2, h3, h4, h5⟩ := row_mem rs hf.1 hnr h.snoc.1 x hx
      exact ⟨h1, h2, h3, by simp only [Tr.cnt]; omega, by omega⟩
    · exact ⟨h.snoc.2, hf.2, hna, by simp [Tr.cnt], by simp only; omega⟩

/-! ### Texts -/

def brkT (b : Bool) (s : List UInt8) : List UInt8 := if b then [40] ++ s ++ [41] else s
theorem brk_text (b : Bool) (l : List TokD) : (brk b l).flatMap tokT = brkT b (l.flatMap tokT) := by
  unfold brk brkT
  split <;> simp [tokT_sg]
theorem neg_text (a : Tr false) : (Tr.neg a).text = [45] ++ brkT (decide (a.rank < 5)) a.text := by
  simp [Tr.text, Tr.toks, tokT_sg, brk_text]
theorem two_text (k : Int) (a b : Tr false) : (Tr.two k a b).text = brkT (decide (a.rank < rankK k)) a.text ++ signK k ++ brkT (decide (b.rank < rankK k + 1)) b.text := by
  simp [Tr.text, Tr.toks, tokT_sg, brk_text]
def rowT (r : List (Nat × Tr false)) : List UInt8 := r.flatMap (fun x => x.2.text ++ [44])
theorem row_text (o : Nat) : ∀ (ks : Tr true), ks.text = rowT (ks.row o)
  | .nil => rfl
  | .snoc rs a => by
    have ih := row_text o rs
    simp only [Tr.text] at ih
    simp [Tr.text, Tr.toks, Tr.row, rowT, ih, tokT_sg]
/-- What is told of a row once so many of its trees are. -/
def rowS (r : List (Nat × Tr false)) : Nat → List UInt8
  | 0 => []
  | i + 1 => rowT (r.take i) ++ (match r[i]? with
    | some x => x.2.text
    | none => [])
theorem rowT_snoc {r : List (Nat × Tr false)} {i : Nat} {x : Nat × Tr false} (h : r[i]? = some x) : rowT (r.take (i + 1)) = rowT (r.take i) ++ x.2.text ++ [44] := by
  rw [List.take_add_one, h]
  simp [rowT]
theorem rowS_step {r : List (Nat × Tr false)} {i : Nat} {x : Nat × Tr false} (h : r[i]? = some x) : rowS r (i + 1) = rowS r i ++ (if 0 < i then [44] else []) ++ x.2.text := by
  cases i with
  | zero => simp [rowS, h, rowT]
  | succ j =>
    have hj : j < r.length := by
      rcases Nat.lt_or_ge j r.length with h' | h'
      · exact h'
      · rw [List.getElem?_eq_none (by omega)] at h; cases h
    have hy : r[j]? = some r[j] := List.getElem?_eq_getElem hj
    simp only [rowS, h, hy, rowT_snoc hy]
    simp
theorem call_text (x : List UInt8) (o : Nat) (ks : Tr true) : (Tr.call x ks).text = x ++ [40] ++ rowS (ks.row o) (ks.row o).length ++ [41] := by
  rcases ks.snoc_form with rfl | ⟨rs, a, rfl⟩
  · simp [Tr.text, Tr.toks, tokT_sg, tokT_word, Tr.row, rowS]
  · have hr := row_text o rs
    have hl : (rs.row o ++ [(o + rs.cnt, a)]).length = (rs.row o).length + 1 := by simp
    simp only [Tr.row, hl, rowS]
    rw [call_snoc, hr]
    simp
theorem leaf_text {n : NodeD} (hp : plainB n = true) (h0 : 1 ≤ n.kind) (h1 : n.kind ≤ 6) : (Tr.leaf n).text = if n.kind = 1 then Lib.itoa n.num else if n.kind = 2 then quoteT n.text else if n.kind = 3 then (if n.num = 1 then trueT else falseT) else if n.kind = 4 then deadT else if n.kind = 5 then textT n.ref else textT n.ref ++ [58] ++ textT n.to := by
  have ho := plain_parts hp
  have : n.kind = 1 ∨ n.kind = 2 ∨ n.kind = 3 ∨ n.kind = 4 ∨ n.kind = 5 ∨ n.kind = 6 := by omega
  rcases this with h | h | h | h | h | h <;> simp only [okK, h, if_true, if_false, Int.reduceEq, Bool.and_eq_true, decide_eq_true_eq] at ho <;> simp [Tr.text, Tr.toks, leafK, h, tokT, sg]
  · rw [textT, if_pos ho]
  · rw [textT, textT, if_pos ho.1, if_pos ho.2.1]
theorem root_rank (o : Nat) (t : Tr false) (hf : t.Fit) : rankK (rootN o t).kind = t.rank := by
  cases t with
  | leaf n =>
    have h0 := hf.1
    have h1 := hf.2.1
    show rankK n.kind = 6
    unfold rankK
    rw [if_neg (by omega), if_neg (by omega), if_neg (by omega), if_neg (by omega), if_neg (by omega)]
  | neg a => rfl
  | two k a b => rfl
  | call x ks => rfl

theorem brkT_len (b : Bool) (s : List UInt8) : s.length ≤ (brkT b s).length ∧ (brkT b s).length ≤ s.length + 2 := by
  unfold brkT
  split
  · simp only [List.length_append, List.length_cons, List.length_nil]; omega
  · omega
theorem rowS_mono {r : List (Nat × Tr false)} (i : Nat) : ∀ k, i + k ≤ r.length → (rowS r i).length ≤ (rowS r (i + k)).length
  | 0, _ => Nat.le_refl _
  | k + 1, h => by
    have ih := rowS_mono (r := r) i k (by omega)
    have hlt : i + k < r.length := by omega
    have hx : r[i + k]? = some r[i + k] := List.getElem?_eq_getElem hlt
    have e := congrArg List.length (rowS_step hx)
    simp only [List.length_append] at e
    rw [← Nat.add_assoc, e]
    omega
theorem call_num {x : List UInt8} {ks : Tr true} (h : (Tr.call x ks).Num) : ks.Num := by
  rcases ks.snoc_form with rfl | ⟨rs, a, rfl⟩
  · intro u hu; cases hu
  · intro u hu
    simp only [Tr.toks, List.mem_append, List.mem_cons, List.not_mem_nil, or_false] at hu
    rcases hu with hu | hu | rfl
    · exact h u (by simp only [Tr.toks]; simp [hu])
    · exact h u (by simp only [Tr.toks]; simp [hu])
    · simp [sg]

theorem Tr.num_of : ∀ {b : Bool} (t : Tr b) (o : Nat), t.Fit → (∀ n ∈ t.flat o, n.num ≤ 9223372036854775807) → t.Num
  | _, .leaf n, o, hf, hs => by
    have hx := hs n (by simp [Tr.flat])
    intro u hu
    have h0 := hf.1
    have h1 := hf.2.1
    have : n.kind = 1 ∨ n.kind = 2 ∨ n.kind = 3 ∨ n.kind = 4 ∨ n.kind = 5 ∨ n.kind = 6 := by omega
    rcases this with h | h | h | h | h | h <;> simp only [Tr.toks, leafK, h, if_true, if_false, Int.reduceEq, List.mem_cons, List.not_mem_nil, or_false] at hu
    · subst hu; exact hx
    · subst hu; simp
    · subst hu; simp
    · subst hu; simp
    · subst hu; simp
    · rcases hu with rfl | rfl | rfl <;> simp [sg]
  | _, .neg a, o, hf, hs => by
    have ha := num_of a o hf (fun n hm => hs n (by simp only [Tr.flat]; simp [hm]))
    intro u hu
    simp only [Tr.toks, List.mem_cons] at hu
    rcases hu with rfl | hu
    · simp [sg]
    · rcases brk_mem hu with hu | rfl | rfl
      · exact ha u hu
      · simp [sg]
      · simp [sg]
  | _, .two k a b, o, hf, hs => by
    have ha := num_of a o hf.2.2.1 (fun n hm => hs n (by simp only [Tr.flat]; simp [hm]))
    have hb := num_of b (o + a.cnt) hf.2.2.2 (fun n hm => hs n (by simp only [Tr.flat]; simp [hm]))
    intro u hu
    simp only [Tr.toks, List.mem_append, List.mem_cons] at hu
    rcases hu with hu | rfl | hu
    · rcases brk_mem hu with hu | rfl | rfl
      · exact ha u hu
      · simp [sg]
      · simp [sg]
    · simp [sg]
    · rcases brk_mem hu with hu | rfl | rfl
      · exact hb u hu
      · simp [sg]
      · simp [sg]
  | _, .call x .nil, o, hf, hs => by
    intro u hu
    simp only [Tr.toks, List.mem_cons, List.not_mem_nil, or_false] at hu
    rcases hu with rfl | rfl | rfl <;> simp [sg]
  | _, .call x (.snoc rs a), o, hf, hs => by
    have hr := num_of rs o hf.2.1 (fun n hm => hs n (by simp only [Tr.flat]; simp [hm]))
    have ha := num_of a (o + rs.cnt) hf.2.2 (fun n hm => hs n (by simp only [Tr.flat]; simp [hm]))
    intro u hu
    simp only [Tr.toks, List.mem_cons, List.mem_append, List.not_mem_nil, or_false] at hu
    rcases hu with rfl | rfl | hu | hu | rfl
    · simp
    · simp [sg]
    · exact hr u hu
    · exact ha u hu
    · simp [sg]
  | _, .nil, o, _, _ => fun u hu => by cases hu
  | _, .snoc rs a, o, hf, hs => by
    have hr := num_of rs o hf.1 (fun n hm => hs n (by simp only [Tr.flat]; simp [hm]))
    have ha := num_of a (o + rs.cnt) hf.2 (fun n hm => hs n (by simp only [Tr.flat]; simp [hm]))
    intro u hu
    simp only [Tr.toks, List.mem_append, List.mem_cons, List.not_mem_nil, or_false] at hu
    rcases hu with hu | hu | rfl
    · exact hr u hu
    · exact ha u hu
    · simp [sg]

/-- How long it may be. -/
theorem Tr.len_le : ∀ {b : Bool} (t : Tr b) (o : Nat), t.Fit → t.Num → (∀ n ∈ t.flat o, n.text.length ≤ 1000) → t.text.length + cond b 0 1 ≤ 4000 * t.cnt
  | _, .leaf n, o, hf, hn, hs => by
    have hx := hs n (by simp [Tr.flat])
    have hc := (Tr.leaf n).can hf hn
    obtain ⟨h0, h1, hk, hp⟩ := hf
    have ho := plain_parts hp
    have hq := quote_len n.text
    rw [leaf_text hp h0 h1]
    have htb : ∀ r : RefD, mayB r = true → (textT r).length ≤ 30 := fun r hm => by
      have h2 := textB_len hm
      have h3 := (may_parts hm).1
      rw [textT, if_pos hm]
      rcases h3 with h3 | h3
      · rw [h3] at h2; simp at h2; omega
      · have := (name_parts h3).2.1; omega
    show _ + 1 ≤ _
    simp only [Tr.cnt]
    have : n.kind = 1 ∨ n.kind = 2 ∨ n.kind = 3 ∨ n.kind = 4 ∨ n.kind = 5 ∨ n.kind = 6 := by omega
    rcases this with h | h | h | h | h | h <;> simp only [okK, h, if_true, if_false, Int.reduceEq, Bool.and_eq_true, decide_eq_true_eq] at ho ⊢
    · have := Lib.itoa_length_le n.num (by omega) (hn ⟨1, [], n.num, refN, 0⟩ (by simp [Tr.toks, leafK, h]))
      omega
    · omega
    · split <;> simp [trueT, falseT]
    · simp [deadT]
    · have := htb _ ho; omega
    · have := htb _ ho.1; have := htb _ ho.2.1
      simp only [List.length_append, List.length_cons, List.length_nil]; omega
  | _, .neg a, o, hf, hn, hs => by
    have ha : a.text.length + 1 ≤ _ := len_le a o hf (fun u hu => hn u (by simp only [Tr.toks]; exact List.mem_cons_of_mem _ (sub_brk hu))) (fun n hm => hs n (by simp only [Tr.flat]; simp [hm]))
    show _ + 1 ≤ _
    rw [neg_text]
    simp only [Tr.cnt, brkT]
    split <;> simp only [List.length_append, List.length_cons, List.length_nil] <;> omega
  | _, .two k a b, o, hf, hn, hs => by
    have ha : a.text.length + 1 ≤ _ := len_le a o hf.2.2.1 (fun u hu => hn u (by simp only [Tr.toks]; exact List.mem_append_left _ (sub_brk hu))) (fun n hm => hs n (by simp only [Tr.flat]; simp [hm]))
    have hb : b.text.length + 1 ≤ _ := len_le b (o + a.cnt) hf.2.2.2 (fun u hu => hn u (by simp only [Tr.toks]; exact List.mem_append_right _ (List.mem_cons_of_mem _ (sub_brk hu)))) (fun n hm => hs n (by simp only [Tr.flat]; simp [hm]))
    have hsg : ∀ s ∈ signsT, s.length ≤ 2 := by decide
    have h2 := hsg _ (signK_mem hf.1 hf.2.1)
    show _ + 1 ≤ _
    rw [two_text]
    simp only [Tr.cnt, brkT]
    split <;> split <;> simp only [List.length_append, List.length_cons, List.length_nil] <;> omega
  | _, .call x .nil, o, hf, hn, hs => by
    have hx : x.length ≤ 1000 := hs { kind := 7, text := x, kids := Tr.nil.kids o } (by simp [Tr.flat])
    show _ + 1 ≤ _
    rw [call_text x o]
    simp only [Tr.cnt, Tr.row, rowS, List.length_append, List.length_cons, List.length_nil]
    omega
  | _, .call x (.snoc rs a), o, hf, hn, hs => by
    have hx : x.length ≤ 1000 := hs { kind := 7, text := x, kids := (Tr.snoc rs a).kids o } (by simp [Tr.flat])
    have hr : rs.text.length + 0 ≤ _ := len_le rs o hf.2.1 (fun u hu => hn u (by simp only [Tr.toks]; simp [hu])) (fun n hm => hs n (by simp only [Tr.flat]; simp [hm]))
    have ha : a.text.length + 1 ≤ _ := len_le a (o + rs.cnt) hf.2.2 (fun u hu => hn u (by simp only [Tr.toks]; simp [hu])) (fun n hm => hs n (by simp only [Tr.flat]; simp [hm]))
    have e : (Tr.call x (.snoc rs a)).text.length = x.length + 1 + (rs.text.length + (a.text.length + 1)) := by
      rw [call_snoc]; simp only [List.length_append, List.length_cons, List.length_nil]; omega
    show _ + 1 ≤ _
    rw [e]
    simp only [Tr.cnt]
    omega
  | _, .nil, o, _, _, _ => by show _ + 0 ≤ _; simp [Tr.text, Tr.toks]
  | _, .snoc rs a, o, hf, hn, hs => by
    have hr : rs.text.length + 0 ≤ _ := len_le rs o hf.1 (fun u hu => hn u (by simp only [Tr.toks]; simp [hu])) (fun n hm => hs n (by simp only [Tr.flat]; simp [hm]))
    have ha : a.text.length + 1 ≤ _ := len_le a (o + rs.cnt) hf.2 (fun u hu => hn u (by simp only [Tr.toks]; simp [hu])) (fun n hm => hs n (by simp only [Tr.flat]; simp [hm]))
    have hp := a.cnt_pos
    have e : (Tr.snoc rs a).text.length = rs.text.length + a.text.length + 1 := by rw [snoc_text]; simp only [List.length_append, List.length_cons, List.length_nil]; omega
    show _ + 0 ≤ _
    rw [e]
    simp only [Tr.cnt]
    omega
/-- Its numbers, if it is a tree's, are not too great. -/
def NumOk (l : List NodeD) : Prop := ∀ t : Tr false, t.Fit → t.flat 0 = l → t.Num
theorem numOk_of {l : List NodeD} (h : ∀ n ∈ l, n.num ≤ 9223372036854775807) : NumOk l := fun t hf e => t.num_of 0 hf (by rw [e]; exact h)
theorem PIs.num {s : List UInt8} {l : List NodeD} {e : Int} (h : PIs s l e) : NumOk l := by
  intro t hf et
  rcases h with ⟨h, rfl⟩ | ⟨_, rfl, _⟩
  · obtain ⟨_, _, _, u, hu, hn, e1, _⟩ := print_parse h
    have := Tr.inj t u hf hu [] [] (by simpa using et.trans e1.symm) (.inl rfl)
    rw [this.1]
    exact hn
  · have := t.flat_len 0
    rw [et] at this
    have := t.cnt_pos
    simp at *
    omega
end Go.Proofs.YtiloogjageledaaGreatDoor
