/-
  Plain: the relation of formulas reckoned out; it tells one thing alone. No program in sight.
  Plain: what is read as a formula is a formula's nodes.
  Plain: operators and numbers in a row: what their tree's top is.
-/
import Derived.Test.YtiloogjageledaaGreatDoorParL1
import Derived.Test.YtiloogjageledaaGreatDoorTree
import Derived.Test.YtiloogjageledaaGreatDoorLexN
namespace Go.Proofs.YtiloogjageledaaGreatDoor
open Go Go.E

def evalP (T : List TokD) : Nat → PMode → PSt → Option PRes
  | 0, _, _ => none
  | n + 1, .lev k, s => match evalP T n (below k) s with
    | some (.ok s1 a) => evalP T n (.loop k a) s1
    | some (.err e) => some (.err e)
    | none => none
  | n + 1, .loop k a, s => match opIx T s k with
    | none => some (.ok s a)
    | some i => match evalP T n (below k) (adv s) with
      | some (.ok s1 b) => evalP T n (.loop k s1.out.length) (putS s1 { kind := (kindsN k).getD i 0, kids := [(a : Int), (b : Int)] })
      | some (.err e) => some (.err e)
      | none => none
  | n + 1, .unary, s => if isS T s [45] = true then (if 12 ≤ s.deep then some (.err 6) else match evalP T n .unary (deeper (adv s)) with
      | some (.ok s1 a) => some (.ok (putS (upper s1) { kind := 8, kids := [(a : Int)] }) s1.out.length)
      | some (.err e) => some (.err e)
      | none => none) else evalP T n .prim s
  | n + 1, .prim, s =>
    if (tokAt T s).kind = 5 then
      if isS T s [40] = true then (if 12 ≤ s.deep then some (.err 6) else match evalP T n (.lev 0) (deeper (adv s)) with
        | some (.ok s1 a) => if isS T s1 [41] = true then some (.ok (upper (adv s1)) a) else some (.err 5)
        | some (.err e) => some (.err e)
        | none => none)
      else some (.err 5)
    else if (tokAt T s).kind = 0 then some (.err 5)
    else if (tokAt T s).kind = 1 then some (.ok (putS (adv s) { kind := 1, num := (tokAt T s).num }) s.out.length)
    else if (tokAt T s).kind = 2 then some (.ok (putS (adv s) { kind := 2, text := (tokAt T s).text }) s.out.length)
    else if (tokAt T s).kind = 6 then some (.ok (putS (adv s) { kind := 4 }) s.out.length)
    else if (tokAt T s).kind = 4 then
      if isS T (adv s) [58] = true then
        if (tokAt T (adv (adv s))).kind = 4 ∧ rangesB (tokAt T s).ref (tokAt T (adv (adv s))).ref = true then some (.ok (putS (adv (adv (adv s))) { kind := 6, ref := (tokAt T s).ref, to := (tokAt T (adv (adv s))).ref }) s.out.length)
        else some (.err 5)
      else some (.ok (putS (adv s) { kind := 5, ref := (tokAt T s).ref }) s.out.length)
    else if (tokAt T s).kind = 3 then
      if (tokAt T s).text = trueT then some (.ok (putS (adv s) { kind := 3, num := 1 }) s.out.length)
      else if (tokAt T s).text = falseT then some (.ok (putS (adv s) { kind := 3 }) s.out.length)
      else if isS T (adv s) [40] = true then
        if 12 ≤ s.deep then some (.err 6)
        else if isS T (deeper (adv (adv s))) [41] = true then some (.ok (putS (upper (adv (deeper (adv (adv s))))) { kind := 7, text := (tokAt T s).text }) s.out.length)
        else evalP T n (.args (tokAt T s).text []) (deeper (adv (adv s)))
      else some (.err 5)
    else none
  | n + 1, .args x ks, s => match evalP T n (.lev 0) s with
    | some (.ok s1 a) => if isS T s1 [44] = true then evalP T n (.args x (ks ++ [(a : Int)])) (adv s1)
      else if isS T s1 [41] = true then some (.ok (putS (upper (adv s1)) { kind := 7, text := x, kids := ks ++ [(a : Int)] }) s1.out.length)
      else some (.err 5)
    | some (.err e) => some (.err e)
    | none => none

theorem isS_of {T : List TokD} {s : PSt} {x : List UInt8} (h : isS T s x = true) : (tokAt T s).kind = 5 := by
  simp [isS] at h; exact h.1
theorem isS_no {T : List TokD} {s : PSt} {x : List UInt8} (h2 : (tokAt T s).text ≠ x) : isS T s x = false := by
  simp [isS, h2]

/-- What the relation tells is reckoned. -/
theorem PE.eval {T : List TokD} {m : PMode} {s : PSt} {r : PRes} (h : PE T m s r) : ∃ N, ∀ n, N ≤ n → evalP T n m s = some r := by
  induction h with
  | lev_err _ ih =>
    obtain ⟨N, ih⟩ := ih
    refine ⟨N + 1, fun n hn => ?_⟩
    obtain ⟨n, rfl⟩ : ∃ k, n = k + 1 := ⟨n - 1, by omega⟩
    simp only [evalP, ih n (by omega)]
  | lev_ok _ _ ih1 ih2 =>
    obtain ⟨N, ih1⟩ := ih1
    obtain ⟨M, ih2⟩ := ih2
    refine ⟨N + M + 1, fun n hn => ?_⟩
    obtain ⟨n, rfl⟩ : ∃ k, n = k + 1 := ⟨n - 1, by omega⟩
    simp only [evalP, ih1 n (by omega), ih2 n (by omega)]
  | loop_end h =>
    refine ⟨1, fun n hn => ?_⟩
    obtain ⟨n, rfl⟩ : ∃ k, n = k + 1 := ⟨n - 1, by omega⟩
    simp only [evalP, h]
  | loop_err h _ ih =>
    obtain ⟨N, ih⟩ := ih
    refine ⟨N + 1, fun n hn => ?_⟩
    obtain ⟨n, rfl⟩ : ∃ k, n = k + 1 := ⟨n - 1, by omega⟩
    simp only [evalP, h, ih n (by omega)]
  | loop_go h _ _ ih1 ih2 =>
    obtain ⟨N, ih1⟩ := ih1
    obtain ⟨M, ih2⟩ := ih2
    refine ⟨N + M + 1, fun n hn => ?_⟩
    obtain ⟨n, rfl⟩ : ∃ k, n = k + 1 := ⟨n - 1, by omega⟩
    simp only [evalP, h, ih1 n (by omega), ih2 n (by omega)]
  | un_prim h _ ih =>
    obtain ⟨N, ih⟩ := ih
    refine ⟨N + 1, fun n hn => ?_⟩
    obtain ⟨n, rfl⟩ : ∃ k, n = k + 1 := ⟨n - 1, by omega⟩
    simp only [evalP, h, ih n (by omega), Bool.false_eq_true, if_false]
  | un_deep h hd =>
    refine ⟨1, fun n hn => ?_⟩
    obtain ⟨n, rfl⟩ : ∃ k, n = k + 1 := ⟨n - 1, by omega⟩
    simp only [evalP, h, hd, if_true]
  | un_err h hd _ ih =>
    obtain ⟨N, ih⟩ := ih
    refine ⟨N + 1, fun n hn => ?_⟩
    obtain ⟨n, rfl⟩ : ∃ k, n = k + 1 := ⟨n - 1, by omega⟩
    simp only [evalP, h, ih n (by omega), if_true, Nat.not_le.2 hd, if_false]
  | un_ok h hd _ ih =>
    obtain ⟨N, ih⟩ := ih
    refine ⟨N + 1, fun n hn => ?_⟩
    obtain ⟨n, rfl⟩ : ∃ k, n = k + 1 := ⟨n - 1, by omega⟩
    simp only [evalP, h, ih n (by omega), if_true, Nat.not_le.2 hd, if_false]
  | pr_sign h h2 =>
    refine ⟨1, fun n hn => ?_⟩
    obtain ⟨n, rfl⟩ : ∃ k, n = k + 1 := ⟨n - 1, by omega⟩
    simp only [evalP, h, if_true, isS_no h2, Bool.false_eq_true, if_false]
  | pr_deep h hd =>
    refine ⟨1, fun n hn => ?_⟩
    obtain ⟨n, rfl⟩ : ∃ k, n = k + 1 := ⟨n - 1, by omega⟩
    simp only [evalP, isS_of h, h, hd, if_true]
  | pr_err h hd _ ih =>
    obtain ⟨N, ih⟩ := ih
    refine ⟨N + 1, fun n hn => ?_⟩
    obtain ⟨n, rfl⟩ : ∃ k, n = k + 1 := ⟨n - 1, by omega⟩
    simp only [evalP, isS_of h, h, ih n (by omega), if_true, Nat.not_le.2 hd, if_false]
  | pr_open h hd _ h2 ih =>
    obtain ⟨N, ih⟩ := ih
    refine ⟨N + 1, fun n hn => ?_⟩
    obtain ⟨n, rfl⟩ : ∃ k, n = k + 1 := ⟨n - 1, by omega⟩
    simp only [evalP, isS_of h, h, ih n (by omega), if_true, Nat.not_le.2 hd, if_false, h2, Bool.false_eq_true]
  | pr_ok h hd _ h2 ih =>
    obtain ⟨N, ih⟩ := ih
    refine ⟨N + 1, fun n hn => ?_⟩
    obtain ⟨n, rfl⟩ : ∃ k, n = k + 1 := ⟨n - 1, by omega⟩
    simp only [evalP, isS_of h, h, ih n (by omega), if_true, Nat.not_le.2 hd, if_false, h2]
  | pr_end h | pr_num h | pr_text h | pr_dead h =>
    refine ⟨1, fun n hn => ?_⟩
    obtain ⟨n, rfl⟩ : ∃ k, n = k + 1 := ⟨n - 1, by omega⟩
    simp [evalP, h]
  | pr_ref h h2 | pr_true h h2 | pr_false h h2 =>
    refine ⟨1, fun n hn => ?_⟩
    obtain ⟨n, rfl⟩ : ∃ k, n = k + 1 := ⟨n - 1, by omega⟩
    simp [evalP, h, h2, trueT, falseT]
  | pr_norange h h2 h3 =>
    refine ⟨1, fun n hn => ?_⟩
    obtain ⟨n, rfl⟩ : ∃ k, n = k + 1 := ⟨n - 1, by omega⟩
    have h4 : ¬ ((tokAt T (adv (adv _))).kind = 4 ∧ rangesB (tokAt T _).ref (tokAt T (adv (adv _))).ref = true) := fun hh => by
      rcases h3 with h3 | h3
      · exact h3 hh.1
      · rw [hh.2] at h3; cases h3
    simp only [evalP, h, h2, if_neg h4]
    rfl
  | pr_range h h2 h3 h4 =>
    refine ⟨1, fun n hn => ?_⟩
    obtain ⟨n, rfl⟩ : ∃ k, n = k + 1 := ⟨n - 1, by omega⟩
    simp [evalP, h, h2, h3, h4]
  | pr_nocall h h2 h3 h4 =>
    refine ⟨1, fun n hn => ?_⟩
    obtain ⟨n, rfl⟩ : ∃ k, n = k + 1 := ⟨n - 1, by omega⟩
    simp [evalP, h, h2, h3, h4]
  | pr_calldeep h h2 h3 h4 h5 =>
    refine ⟨1, fun n hn => ?_⟩
    obtain ⟨n, rfl⟩ : ∃ k, n = k + 1 := ⟨n - 1, by omega⟩
    simp [evalP, h, h2, h3, h4, h5]
  | pr_call0 h h2 h3 h4 h5 h6 =>
    refine ⟨1, fun n hn => ?_⟩
    obtain ⟨n, rfl⟩ : ∃ k, n = k + 1 := ⟨n - 1, by omega⟩
    simp [evalP, h, h2, h3, h4, Nat.not_le.2 h5, h6]
  | pr_call h h2 h3 h4 h5 h6 _ ih =>
    obtain ⟨N, ih⟩ := ih
    refine ⟨N + 1, fun n hn => ?_⟩
    obtain ⟨n, rfl⟩ : ∃ k, n = k + 1 := ⟨n - 1, by omega⟩
    have := ih n (by omega)
    simp [evalP, h, h2, h3, h4, Nat.not_le.2 h5, h6, this]
  | ar_err _ ih =>
    obtain ⟨N, ih⟩ := ih
    refine ⟨N + 1, fun n hn => ?_⟩
    obtain ⟨n, rfl⟩ : ∃ k, n = k + 1 := ⟨n - 1, by omega⟩
    simp only [evalP, ih n (by omega)]
  | ar_go _ h _ ih1 ih2 =>
    obtain ⟨N, ih1⟩ := ih1
    obtain ⟨M, ih2⟩ := ih2
    refine ⟨N + M + 1, fun n hn => ?_⟩
    obtain ⟨n, rfl⟩ : ∃ k, n = k + 1 := ⟨n - 1, by omega⟩
    simp only [evalP, ih1 n (by omega), h, if_true, ih2 n (by omega)]
  | ar_open _ h h2 ih =>
    obtain ⟨N, ih⟩ := ih
    refine ⟨N + 1, fun n hn => ?_⟩
    obtain ⟨n, rfl⟩ : ∃ k, n = k + 1 := ⟨n - 1, by omega⟩
    simp only [evalP, ih n (by omega), h, h2, Bool.false_eq_true, if_false]
  | ar_end _ h h2 ih =>
    obtain ⟨N, ih⟩ := ih
    refine ⟨N + 1, fun n hn => ?_⟩
    obtain ⟨n, rfl⟩ : ∃ k, n = k + 1 := ⟨n - 1, by omega⟩
    simp only [evalP, ih n (by omega), h, h2, Bool.false_eq_true, if_false, if_true]
theorem PE.det {T : List TokD} {m : PMode} {s : PSt} {r r' : PRes} (h : PE T m s r) (h' : PE T m s r') : r = r' := by
  obtain ⟨N, h⟩ := h.eval
  obtain ⟨M, h'⟩ := h'.eval
  have := (h (N + M) (by omega)).symm.trans (h' (N + M) (by omega))
  simpa using this

/-- What is reckoned the relation tells. -/
theorem evalP_PE (T : List TokD) : ∀ (n : Nat) (m : PMode) (s : PSt) (r : PRes), evalP T n m s = some r → PE T m s r
  | 0, _, _, _, h => by cases h
  | n + 1, .lev k, s, r, h => by
    rw [evalP] at h
    split at h
    · rename_i s1 a e
      exact .lev_ok (evalP_PE T n _ _ _ e) (evalP_PE T n _ _ _ h)
    · rename_i e' e
      simp only [Option.some.injEq] at h
      subst h
      exact .lev_err (evalP_PE T n _ _ _ e)
    · cases h
  | n + 1, .loop k a, s, r, h => by
    rw [evalP] at h
    split at h
    · rename_i e
      simp only [Option.some.injEq] at h
      subst h
      exact .loop_end e
    · rename_i i e
      split at h
      · rename_i s1 b e2
        exact .loop_go e (evalP_PE T n _ _ _ e2) (evalP_PE T n _ _ _ h)
      · rename_i e' e2
        simp only [Option.some.injEq] at h
        subst h
        exact .loop_err e (evalP_PE T n _ _ _ e2)
      · cases h
  | n + 1, .unary, s, r, h => by
    rw [evalP] at h
    split at h
    · rename_i hs
      split at h
      · rename_i hd
        simp only [Option.some.injEq] at h
        subst h
        exact .un_deep hs hd
      · rename_i hd
        split at h
        · rename_i s1 a e
          simp only [Option.some.injEq] at h
          subst h
          exact .un_ok hs (by omega) (evalP_PE T n _ _ _ e)
        · rename_i e' e
          simp only [Option.some.injEq] at h
          subst h
          exact .un_err hs (by omega) (evalP_PE T n _ _ _ e)
        · cases h
    · rename_i hs
      exact .un_prim (by simpa using hs) (evalP_PE T n _ _ _ h)
  | n + 1, .prim, s, r, h => by
    rw [evalP] at h
    by_cases h5 : (tokAt T s).kind = 5
    · rw [if_pos h5] at h
      by_cases hs : isS T s [40] = true
      · rw [if_pos hs] at h
        by_cases hd : 12 ≤ s.deep
        · rw [if_pos hd] at h
          simp only [Option.some.injEq] at h
          subst h
          exact .pr_deep hs hd
        · rw [if_neg hd] at h
          split at h
          · rename_i s1 a e
            split at h
            · rename_i h2
              simp only [Option.some.injEq] at h
              subst h
              exact .pr_ok hs (by omega) (evalP_PE T n _ _ _ e) h2
            · rename_i h2
              simp only [Option.some.injEq] at h
              subst h
              exact .pr_open hs (by omega) (evalP_PE T n _ _ _ e) (by simpa using h2)
          · rename_i e' e
            simp only [Option.some.injEq] at h
            subst h
            exact .pr_err hs (by omega) (evalP_PE T n _ _ _ e)
          · cases h
      · rw [if_neg hs] at h
        simp only [Option.some.injEq] at h
        subst h
        exact .pr_sign h5 (fun ht => hs (by simp [isS, h5, ht]))
    rw [if_neg h5] at h
    by_cases hk : (tokAt T s).kind = 0
    · rw [if_pos hk] at h; simp only [Option.some.injEq] at h; subst h; exact .pr_end hk
    rw [if_neg hk] at h
    clear hk
    by_cases hk : (tokAt T s).kind = 1
    · rw [if_pos hk] at h; simp only [Option.some.injEq] at h; subst h; exact .pr_num hk
    rw [if_neg hk] at h
    clear hk
    by_cases hk : (tokAt T s).kind = 2
    · rw [if_pos hk] at h; simp only [Option.some.injEq] at h; subst h; exact .pr_text hk
    rw [if_neg hk] at h
    clear hk
    by_cases hk : (tokAt T s).kind = 6
    · rw [if_pos hk] at h; simp only [Option.some.injEq] at h; subst h; exact .pr_dead hk
    rw [if_neg hk] at h
    clear hk
    by_cases hk : (tokAt T s).kind = 4
    · rw [if_pos hk] at h
      by_cases hs : isS T (adv s) [58] = true
      · rw [if_pos hs] at h
        by_cases hh : (tokAt T (adv (adv s))).kind = 4 ∧ rangesB (tokAt T s).ref (tokAt T (adv (adv s))).ref = true
        · rw [if_pos hh] at h; simp only [Option.some.injEq] at h; subst h; exact .pr_range hk hs hh.1 hh.2
        · rw [if_neg hh] at h
          simp only [Option.some.injEq] at h
          subst h
          refine .pr_norange hk hs ?_
          by_cases h4 : (tokAt T (adv (adv s))).kind = 4
          · exact .inr (by simpa using fun h6 => hh ⟨h4, h6⟩)
          · exact .inl h4
      · rw [if_neg hs] at h; simp only [Option.some.injEq] at h; subst h; exact .pr_ref hk (by simpa using hs)
    rw [if_neg hk] at h
    clear hk
    by_cases hk : (tokAt T s).kind = 3
    · rw [if_pos hk] at h
      by_cases ht : (tokAt T s).text = trueT
      · rw [if_pos ht] at h; simp only [Option.some.injEq] at h; subst h; exact .pr_true hk ht
      rw [if_neg ht] at h
      by_cases hf : (tokAt T s).text = falseT
      · rw [if_pos hf] at h; simp only [Option.some.injEq] at h; subst h; exact .pr_false hk hf
      rw [if_neg hf] at h
      by_cases hs : isS T (adv s) [40] = true
      · rw [if_pos hs] at h
        by_cases hd : 12 ≤ s.deep
        · rw [if_pos hd] at h; simp only [Option.some.injEq] at h; subst h; exact .pr_calldeep hk ht hf hs hd
        rw [if_neg hd] at h
        by_cases h2 : isS T (deeper (adv (adv s))) [41] = true
        · rw [if_pos h2] at h; simp only [Option.some.injEq] at h; subst h; exact .pr_call0 hk ht hf hs (by omega) h2
        · rw [if_neg h2] at h; exact .pr_call hk ht hf hs (by omega) (by simpa using h2) (evalP_PE T n _ _ _ h)
      · rw [if_neg hs] at h; simp only [Option.some.injEq] at h; subst h; exact .pr_nocall hk ht hf (by simpa using hs)
    · rw [if_neg hk] at h; cases h
  | n + 1, .args x ks, s, r, h => by
    rw [evalP] at h
    split at h
    · rename_i s1 a e
      split at h
      · rename_i h4
        exact .ar_go (evalP_PE T n _ _ _ e) h4 (evalP_PE T n _ _ _ h)
      · rename_i h4
        split at h
        · rename_i h5
          simp only [Option.some.injEq] at h
          subst h
          exact .ar_end (evalP_PE T n _ _ _ e) (by simpa using h4) h5
        · rename_i h5
          simp only [Option.some.injEq] at h
          subst h
          exact .ar_open (evalP_PE T n _ _ _ e) (by simpa using h4) (by simpa using h5)
    · rename_i e' e
      simp only [Option.some.injEq] at h
      subst h
      exact .ar_err (evalP_PE T n _ _ _ e)
    · cases h

/-- What comes of a text, reckoned with so much fuel. -/
def evalT (n : Nat) (s : List UInt8) : Option (Except Int (List NodeD)) :=
  if 300 < s.length then some (.error 4) else match lexT s with
  | none => some (.error 5)
  | some T => match evalP T n (.lev 0) ⟨0, [], 0⟩ with
    | some (.err e) => some (.error e)
    | some (.ok s1 _) => if (tokAt T s1).kind = 0 then some (.ok s1.out) else some (.error 5)
    | none => none
theorem Parsed.det {T : List TokD} {o o' : Except Int (List NodeD)} (h : Parsed T o) (h' : Parsed T o') : o = o' := by
  unfold Parsed at h h'
  split at h <;> split at h'
  · rcases h with h | ⟨rfl, s, a, h, hk⟩ <;> rcases h' with h' | ⟨rfl, s', a', h', hk'⟩
    · have := h.det h'
      simp only [PRes.err.injEq] at this
      rw [this]
    · cases h.det h'
    · cases h.det h'
    · rfl
  · obtain ⟨s', a', h', hk', rfl⟩ := h'
    rcases h with h | ⟨rfl, s, a, h, hk⟩
    · cases h.det h'
    · have := h.det h'
      simp only [PRes.ok.injEq] at this
      obtain ⟨rfl, rfl⟩ := this
      exact absurd hk' hk
  · obtain ⟨s, a, h, hk, rfl⟩ := h
    rcases h' with h' | ⟨rfl, s', a', h', hk'⟩
    · cases h.det h'
    · have := h.det h'
      simp only [PRes.ok.injEq] at this
      obtain ⟨rfl, rfl⟩ := this
      exact absurd hk hk'
  · obtain ⟨s, a, h, hk, rfl⟩ := h
    obtain ⟨s', a', h', hk', rfl⟩ := h'
    have := h.det h'
    simp only [PRes.ok.injEq] at this
    rw [this.1]
end Go.Proofs.YtiloogjageledaaGreatDoor

namespace Go.Proofs.YtiloogjageledaaGreatDoor
open Go Go.E

/-! ### Tokens that may be -/

structure TokOk (t : TokD) : Prop where
  num : t.kind = 1 → 0 ≤ t.num
  text : t.kind = 2 → prB t.text = true
  word : t.kind = 3 → fnB t.text = true ∧ okRead t.text = false
  ref : t.kind = 4 → mayB t.ref = true
  len : t.text.length ≤ 1000

theorem prB_cons {c : UInt8} {l : List UInt8} (hc : ¬ c < 32) (h : prB l = true) : prB (c :: l) = true := by
  simp only [prB, decide_eq_true_eq] at h ⊢
  intro j hj
  cases j with
  | zero =>
    show 32 ≤ (c.toNat : Int)
    have : ¬ c.toNat < 32 := fun hh => hc (UInt8.lt_iff_toNat_lt.2 (by simpa using hh))
    omega
  | succ j => exact h j (by simpa using hj)
theorem scan_pr : ∀ (l : List UInt8) {x : List UInt8 × Nat}, scanT l = some x → prB x.1 = true ∧ x.1.length ≤ l.length
  | [], x, h => by simp [scanT] at h
  | [c], x, h => by
    simp only [scanT] at h
    split at h
    · simp only [Option.some.injEq] at h
      subst h; exact ⟨rfl, by simp⟩
    · cases h
  | c :: d :: r, x, h => by
    simp only [scanT] at h
    split at h
    · split at h
      · cases e : scanT r with
        | none => rw [e] at h; cases h
        | some y =>
          rw [e] at h
          simp only [Option.map_some, Option.some.injEq] at h
          have := scan_pr r e
          subst h
          exact ⟨prB_cons (by decide) this.1, by simp; omega⟩
      · simp only [Option.some.injEq] at h
        subst h; exact ⟨rfl, by simp⟩
    · split at h
      · cases h
      · rename_i hc
        cases e : scanT (d :: r) with
        | none => rw [e] at h; cases h
        | some y =>
          rw [e] at h
          simp only [Option.map_some, Option.some.injEq] at h
          have := scan_pr (d :: r) e
          subst h
          exact ⟨prB_cons hc this.1, by have := this.2; simp at this ⊢; omega⟩
theorem okRead_may {s : List UInt8} (h : okRead s = true) : mayB (candV s) = true := by
  simp only [okRead, Bool.and_eq_true, decide_eq_true_eq, Bool.not_eq_true', decide_eq_false_iff_not] at h
  cases hm : mayB (candV s) with
  | true => rfl
  | false =>
    have := h.1.2
    rw [textT, hm] at this
    exact absurd this.symm h.2
theorem oneO_ok {l : List UInt8} {t : TokD} {k : Nat} (hl : l.length ≤ 1000) (h : oneO l = some (t, k)) : TokOk t := by
  unfold oneO at h
  split at h
  · rename_i h0
    have hne : spanL digB l ≠ [] := by
      have := (span_pos (p := digB) (l := l) (by
        cases l with
        | nil => cases h0
        | cons a b => simp) h0).1
      exact List.length_pos_iff.1 this
    rw [numO_is hne] at h
    split at h
    · simp only [Option.some.injEq, Prod.mk.injEq] at h
      rw [← h.1]
      exact ⟨fun _ => (num_bound _ (fun j hj => by
      have hh := span_all digB l _ (List.getElem_mem hj)
      simpa [byte, List.getD_eq_getElem?_getD, List.getElem?_eq_getElem hj] using hh)).1, by simp, by simp, by simp, by simp⟩
    · cases h
  · split at h
    · unfold textO at h
      cases e : scanT (l.drop 1) with
      | none => rw [e] at h; cases h
      | some x =>
        rw [e] at h
        simp only [Option.map_some, Option.some.injEq, Prod.mk.injEq] at h
        have := scan_pr _ e
        rw [← h.1]
        exact ⟨by simp, fun _ => this.1, by simp, by simp, by have := this.2; simp at this ⊢; omega⟩
    · split at h
      · unfold wordO at h
        simp only at h
        have hsp := span_le wiB l
        split at h
        · rename_i hr
          simp only [Option.some.injEq, Prod.mk.injEq] at h
          rw [← h.1]
          exact ⟨by simp, by simp, by simp, fun _ => okRead_may hr, by simp⟩
        · rename_i hr
          split at h
          · rename_i hf
            simp only [Option.some.injEq, Prod.mk.injEq] at h
            rw [← h.1]
            exact ⟨by simp, by simp, fun _ => ⟨hf, by simpa using hr⟩, by simp, by show (spanL wiB l).length ≤ 1000; omega⟩
          · cases h
      · unfold signO at h
        split at h
        · simp only [Option.some.injEq, Prod.mk.injEq] at h
          rw [← h.1]
          exact ⟨by simp, by simp, by simp, by simp, by simp⟩
        · cases e : signsT.find? fun s => Lib.hasPrefix l s with
          | none => rw [e] at h; cases h
          | some x =>
            rw [e] at h
            simp only [Option.map_some, Option.some.injEq, Prod.mk.injEq] at h
            have := pre_le (List.find?_some e)
            rw [← h.1]
            exact ⟨by simp, by simp, by simp, by simp, by show x.length ≤ 1000; omega⟩
theorem tokOk_end (a : Int) : TokOk ⟨0, [], 0, refN, a⟩ := ⟨by simp, by simp, by simp, by simp, by simp⟩
theorem lexF_ok : ∀ (n : Nat) (l : List UInt8) (a : Nat) {out : List TokD}, l.length ≤ n → l.length ≤ 1000 → lexF l a = some out → ∀ t ∈ out, TokOk t
  | n, l, a, out, hn, hl, h => by
    cases e : l.drop (spanL spB l).length with
    | nil =>
      rw [lexF_end e] at h
      simp only [Option.some.injEq] at h
      subst h
      intro t ht
      rw [List.mem_singleton.1 ht]
      exact tokOk_end _
    | cons c r =>
      have hl' := congrArg List.length e
      simp at hl'
      cases ho : oneO (c :: r) with
      | none => rw [lexF_bad e (by simp) ho] at h; cases h
      | some x =>
        obtain ⟨t, k⟩ := x
        have hk := oneO_pos (by simp) ho
        have hok := oneO_ok (by simp; omega) ho
        rw [lexF_go e (by simp) ho hk] at h
        cases hr : lexF ((c :: r).drop k) (a + (spanL spB l).length + k) with
        | none => rw [hr] at h; cases h
        | some y =>
          rw [hr] at h
          simp only [Option.map_some, Option.some.injEq] at h
          subst h
          match n with
          | 0 => omega
          | n + 1 =>
            have hd : ((c :: r).drop k).length = r.length + 1 - k := by simp
            have := lexF_ok n ((c :: r).drop k) _ (by rw [hd]; omega) (by rw [hd]; omega) hr
            intro t' ht
            rcases List.mem_cons.1 ht with rfl | ht
            · exact ⟨hok.num, hok.text, hok.word, hok.ref, hok.len⟩
            · exact this t' ht
theorem lexT_ok {s : List UInt8} {T : List TokD} (hs : s.length ≤ 1000) (h : lexT s = some T) : ∀ t ∈ T, TokOk t := lexF_ok _ s 0 (Nat.le_refl _) hs h
theorem tokAt_ok {T : List TokD} (h : ∀ t ∈ T, TokOk t) (s : PSt) : TokOk (tokAt T s) := by
  unfold tokAt
  rcases Nat.lt_or_ge s.at_ T.length with hl | hl
  · rw [List.getD_eq_getElem?_getD, List.getElem?_eq_getElem hl]
    exact h _ (List.getElem_mem hl)
  · rw [List.getD_eq_getElem?_getD, List.getElem?_eq_none hl]
    exact tokOk_end 0

/-! ### What is put, on a heap of what is open -/

theorem treeGo_app : ∀ (l m : List NodeD) (i : Nat) (st : List Int), treeGo i st (l ++ m) = (treeGo i st l).bind fun st' => treeGo (i + l.length) st' m
  | [], m, i, st => by simp [treeGo]
  | n :: t, m, i, st => by
    rw [List.cons_append, treeGo, treeGo]
    cases treeStep i st n with
    | none => rfl
    | some st' =>
      simp only
      rw [treeGo_app t m (i + 1) st', List.length_cons, show i + 1 + t.length = i + (t.length + 1) by omega]
/-- One node more. -/
theorem tree_put {l : List NodeD} {i : Nat} {st st' ks : List Int} {n : NodeD} (h : treeGo i st l = some (st' ++ ks)) (hk : n.kids = ks) (hc : kidN n = n.kids.length) (hp : plainB n = true) : treeGo i st (l ++ [n]) = some (st' ++ [((i + l.length : Nat) : Int)]) := by
  subst hk
  rw [treeGo_app, h]
  simp only [Option.bind_some, treeGo, treeStep]
  have e : (st' ++ n.kids).length - n.kids.length = st'.length := by simp
  rw [e, if_pos ⟨hc, by simp, by simp, hp⟩]
  simp

theorem plain_leaf {n : NodeD} (h : okK n = true) (hb : (bareN n).num = 0 ∧ (bareN n).text = [] ∧ (bareN n).ref = refN ∧ (bareN n).to = refN) : plainB n = true := by
  simp [plainB, h, hb]

/-- What of a formula's nodes is put from a place on: 'ks' ahead of it, then 'a'. -/
def Put (s s1 : PSt) (ks : List Int) (a : Nat) : Prop :=
  ∃ new, s1.out = s.out ++ new ∧ Short new ∧ ∀ st, treeGo s.out.length (st ++ ks) new = some (st ++ [(a : Int)])
theorem Put.same {s s1 s2 s3 : PSt} {ks : List Int} {a : Nat} (h : Put s s1 ks a) (e1 : s2.out = s.out) (e2 : s3.out = s1.out) : Put s2 s3 ks a := by
  obtain ⟨new, h1, h2, h3⟩ := h
  exact ⟨new, by rw [e2, e1, h1], h2, by rw [e1]; exact h3⟩
theorem short_app {l m : List NodeD} (h : Short l) (k : Short m) : Short (l ++ m) := fun n hn => by
  rcases List.mem_append.1 hn with hn | hn
  · exact h n hn
  · exact k n hn
theorem Put.nil (s s1 : PSt) (a : Nat) (e : s1.out = s.out) : Put s s1 [(a : Int)] a := ⟨[], by simp [e], (fun n hn => by cases hn), fun st => by simp [treeGo]⟩
theorem Put.trans {s s1 s2 : PSt} {ks : List Int} {a b : Nat} (h : Put s s1 ks a) (k : Put s1 s2 [(a : Int)] b) : Put s s2 ks b := by
  obtain ⟨n1, e1, p1, t1⟩ := h
  obtain ⟨n2, e2, p2, t2⟩ := k
  refine ⟨n1 ++ n2, by rw [e2, e1, List.append_assoc], short_app p1 p2, fun st => ?_⟩
  rw [treeGo_app, t1]
  simp only [Option.bind_some]
  have := t2 st
  rw [e1, List.length_append] at this
  exact this
/-- What is put behind what stands. -/
theorem Put.more {s s1 s2 : PSt} {ks ks1 : List Int} {a b : Nat} (h : Put s s1 ks a) (k : Put s1 s2 (ks1 ++ [(a : Int)]) b) : Put s s2 (ks1 ++ ks) b := by
  obtain ⟨n1, e1, p1, t1⟩ := h
  obtain ⟨n2, e2, p2, t2⟩ := k
  refine ⟨n1 ++ n2, by rw [e2, e1, List.append_assoc], short_app p1 p2, fun st => ?_⟩
  rw [treeGo_app, ← List.append_assoc, t1]
  simp only [Option.bind_some]
  have := t2 st
  rw [e1, List.length_append] at this
  rw [List.append_assoc]
  exact this
/-- A node that takes what is open. -/
theorem Put.node {s s2 s3 : PSt} {n : NodeD} {ks : List Int} (hk : n.kids = ks) (hc : kidN n = n.kids.length) (hp : plainB n = true) (hs : n.text.length ≤ 1000 ∧ n.ref.sheet.length ≤ 1000 ∧ n.to.sheet.length ≤ 1000) (e : s3.out = s.out ++ [n]) (e2 : s2.out = s.out) : Put s2 s3 ks s.out.length := by
  refine ⟨[n], by rw [e, e2], fun x hx => by rw [List.mem_singleton.1 hx]; exact hs, fun st => ?_⟩
  have := tree_put (l := []) (i := s2.out.length) (st := st ++ ks) (st' := st) (ks := ks) rfl hk hc hp
  simpa [e2] using this

theorem sheet_short {x : RefD} (h : mayB x = true) : x.sheet.length ≤ 1000 := by
  simp only [mayB, Bool.and_eq_true, Bool.or_eq_true, decide_eq_true_eq] at h
  rcases h.1.1.1.1 with h | h
  · rw [h]; simp
  · simp only [nameB, Bool.and_eq_true, decide_eq_true_eq] at h
    omega
theorem refN_sheet : refN.sheet.length ≤ 1000 := by decide

def PutR (m : PMode) (s : PSt) : PRes → Prop
  | .err _ => True
  | .ok s1 b => match m with
    | .loop _ a => Put s s1 [(a : Int)] b
    | .args x ks => nameF x = true → Put s s1 ks b
    | _ => Put s s1 [] b
theorem putR_below {n : Nat} {s s1 : PSt} {a : Nat} (h : PutR (below n) s (.ok s1 a)) : Put s s1 [] a := by
  unfold below at h
  split at h <;> exact h
theorem kinds_two {T : List TokD} {s : PSt} {n i : Nat} (h : opIx T s n = some i) : 9 ≤ (kindsN n).getD i 0 ∧ (kindsN n).getD i 0 ≤ 19 := by
  unfold opIx at h
  split at h
  · have hi := (List.findIdx?_eq_some_iff_getElem.1 h).1
    have e : (signsN n).length = (kindsN n).length := by
      unfold signsN kindsN
      match n with
      | 0 => rfl
      | 1 => rfl
      | 2 => rfl
      | _ + 3 => rfl
    have hall : ∀ z ∈ kindsN n, 9 ≤ z ∧ z ≤ 19 := by
      unfold kindsN
      match n with
      | 0 => decide
      | 1 => decide
      | 2 => decide
      | _ + 3 =>
        show ∀ z ∈ [18, 19], (9 : Int) ≤ z ∧ z ≤ 19
        decide
    rw [List.getD_eq_getElem?_getD, List.getElem?_eq_getElem (by omega)]
    exact hall _ (List.getElem_mem _)
  · cases h
theorem two_node {k : Int} (h0 : 9 ≤ k) (h1 : k ≤ 19) (a b : Int) : kidN { kind := k, kids := [a, b] } = 2 ∧ plainB { kind := k, kids := [a, b] } = true := by
  have hc : countI k = 2 := by
    unfold countI
    rw [if_neg (by omega), if_neg (by omega), if_neg (by omega), if_pos (by omega)]
  constructor
  · simp [kidN, hc]
  · have hb : bareN { kind := k, kids := [a, b] } = { kind := k, kids := [a, b] } := by
      unfold bareN
      rw [if_neg (show ¬ k = 1 by omega), if_neg (show ¬ k = 3 by omega), if_neg (show ¬ k = 2 by omega), if_neg (show ¬ k = 7 by omega), if_neg (show ¬ k = 5 by omega), if_neg (show ¬ k = 6 by omega)]
    have ho : okK { kind := k, kids := [a, b] } = true := by
      unfold okK
      rw [if_neg (show ¬ k = 1 by omega), if_neg (show ¬ k = 3 by omega), if_neg (show ¬ k = 2 by omega), if_neg (show ¬ k = 7 by omega), if_neg (show ¬ k = 5 by omega), if_neg (show ¬ k = 6 by omega)]
    exact plain_leaf ho (by rw [hb]; exact ⟨rfl, rfl, rfl, rfl⟩)
theorem call_node {x : List UInt8} (h : nameF x = true) (ks : List Int) : kidN { kind := 7, text := x, kids := ks } = ks.length ∧ plainB { kind := 7, text := x, kids := ks } = true := by
  refine ⟨if_pos rfl, plain_leaf h ⟨rfl, rfl, rfl, rfl⟩⟩
theorem name_short {x : List UInt8} (h : nameF x = true) : x.length ≤ 1000 := by
  simp only [nameF, fnB, Bool.and_eq_true, decide_eq_true_eq] at h
  omega
theorem word_name {T : List TokD} (hT : ∀ t ∈ T, TokOk t) {s : PSt} (h : (tokAt T s).kind = 3) (h1 : (tokAt T s).text ≠ trueT) (h2 : (tokAt T s).text ≠ falseT) : nameF (tokAt T s).text = true := by
  have := (tokAt_ok hT s).word h
  simp [nameF, this, h1, h2]

theorem PE.puts {T : List TokD} (hT : ∀ t ∈ T, TokOk t) {m : PMode} {s : PSt} {r : PRes} (h : PE T m s r) : PutR m s r := by
  induction h with
  | lev_err _ _ => trivial
  | @lev_ok n s s1 a r _ _ ih1 ih2 =>
    cases r with
    | err e => trivial
    | ok s2 b => exact (putR_below ih1).trans ih2
  | loop_end _ => exact Put.nil _ _ _ rfl
  | loop_err _ _ _ => trivial
  | @loop_go n s a i s1 b r hi _ _ ih1 ih2 =>
    cases r with
    | err e => trivial
    | ok s2 c =>
      obtain ⟨k0, k1⟩ := kinds_two hi
      have hn := two_node k0 k1 (a : Int) (b : Int)
      have hp : Put s1 (putS s1 { kind := (kindsN n).getD i 0, kids := [(a : Int), (b : Int)] }) ([(a : Int)] ++ [(b : Int)]) s1.out.length := Put.node (s := s1) rfl hn.1 hn.2 ⟨by simp, refN_sheet, refN_sheet⟩ rfl rfl
      have h1 : Put s s1 [] b := (putR_below ih1).same rfl rfl
      have := h1.more hp
      exact this.trans ih2
  | @un_prim s r _ _ ih =>
    cases r with
    | err e => trivial
    | ok s2 b => exact ih
  | un_deep _ _ => trivial
  | un_err _ _ _ _ => trivial
  | @un_ok s s1 a _ _ _ ih =>
    have h1 : Put s s1 [] a := Put.same ih rfl rfl
    have hp : Put s1 (putS (upper s1) { kind := 8, kids := [(a : Int)] }) ([] ++ [(a : Int)]) s1.out.length := Put.node (s := s1) rfl rfl rfl ⟨by simp, refN_sheet, refN_sheet⟩ rfl rfl
    exact h1.more hp
  | pr_sign _ _ => trivial
  | pr_deep _ _ => trivial
  | pr_err _ _ _ _ => trivial
  | pr_open _ _ _ _ _ => trivial
  | pr_ok _ _ _ _ ih => exact Put.same ih rfl rfl
  | pr_end _ => trivial
  | @pr_num s h =>
    have h0 := (tokAt_ok hT s).num h
    exact Put.node (s := s) rfl rfl (plain_leaf (by show decide (0 ≤ (tokAt T s).num) = true; simpa using h0) ⟨rfl, rfl, rfl, rfl⟩) ⟨by simp, refN_sheet, refN_sheet⟩ rfl rfl
  | @pr_text s h =>
    exact Put.node (s := s) rfl rfl (plain_leaf (by show prB (tokAt T s).text = true; exact (tokAt_ok hT s).text h) ⟨rfl, rfl, rfl, rfl⟩) ⟨(tokAt_ok hT s).len, refN_sheet, refN_sheet⟩ rfl rfl
  | @pr_dead s h => exact Put.node (s := s) rfl rfl rfl ⟨by simp, refN_sheet, refN_sheet⟩ rfl rfl
  | @pr_ref s h _ =>
    have h0 := (tokAt_ok hT s).ref h
    exact Put.node (s := s) rfl rfl (plain_leaf (by show mayB (tokAt T s).ref = true; exact h0) ⟨rfl, rfl, rfl, rfl⟩) ⟨by simp, sheet_short h0, refN_sheet⟩ rfl rfl
  | @pr_range s h _ h' hr =>
    have h0 := (tokAt_ok hT s).ref h
    have h1 := (tokAt_ok hT (adv (adv s))).ref h'
    exact Put.node (s := s) rfl rfl (plain_leaf (by show (mayB (tokAt T s).ref && (mayB (tokAt T (adv (adv s))).ref && rangesB (tokAt T s).ref (tokAt T (adv (adv s))).ref)) = true; rw [h0, h1, hr]; rfl) ⟨rfl, rfl, rfl, rfl⟩) ⟨by simp, sheet_short h0, sheet_short h1⟩ rfl rfl
  | pr_norange _ _ _ => trivial
  | @pr_true s _ _ => exact Put.node (s := s) rfl rfl rfl ⟨by simp, refN_sheet, refN_sheet⟩ rfl rfl
  | @pr_false s _ _ => exact Put.node (s := s) rfl rfl rfl ⟨by simp, refN_sheet, refN_sheet⟩ rfl rfl
  | pr_nocall _ _ _ _ => trivial
  | pr_calldeep _ _ _ _ _ => trivial
  | @pr_call0 s h h1 h2 _ _ _ =>
    have hn := word_name hT h h1 h2
    have hc := call_node hn []
    exact Put.node (s := s) rfl hc.1 hc.2 ⟨name_short hn, refN_sheet, refN_sheet⟩ rfl rfl
  | @pr_call s r h h1 h2 _ _ _ _ ih =>
    cases r with
    | err e => trivial
    | ok s2 b => exact Put.same (ih (word_name hT h h1 h2)) rfl rfl
  | ar_err _ _ => trivial
  | @ar_go x ks s s1 a r _ _ _ ih1 ih2 =>
    cases r with
    | err e => trivial
    | ok s2 b =>
      intro hn
      have h2 : Put s1 s2 (ks ++ [(a : Int)]) b := Put.same (ih2 hn) rfl rfl
      have h1 : Put s s1 [] a := ih1
      have := h1.more h2
      rwa [List.append_nil] at this
  | ar_open _ _ _ _ => trivial
  | @ar_end x ks s s1 a _ _ _ ih =>
    intro hn
    have hc := call_node hn (ks ++ [(a : Int)])
    have hp : Put s1 (putS (upper (adv s1)) { kind := 7, text := x, kids := ks ++ [(a : Int)] }) (ks ++ [(a : Int)]) s1.out.length := Put.node (s := s1) rfl hc.1 hc.2 ⟨name_short hn, refN_sheet, refN_sheet⟩ rfl rfl
    have h1 : Put s s1 [] a := ih
    have := h1.more hp
    rwa [List.append_nil] at this

/-- What is read as a formula is a formula's nodes. -/
theorem Parsed.tree {T : List TokD} {l : List NodeD} (hT : ∀ t ∈ T, TokOk t) (h : Parsed T (.ok l)) : treeB l = true ∧ Short l := by
  obtain ⟨s, a, hp, _, he⟩ := h
  obtain ⟨new, h1, h2, h3⟩ : Put ⟨0, [], 0⟩ s [] a := hp.puts hT
  have : l = new := by rw [← he, h1]; rfl
  subst this
  refine ⟨?_, h2⟩
  have h4 : treeGo 0 [] l = some [(a : Int)] := h3 []
  rw [treeB, h4]
  rfl
end Go.Proofs.YtiloogjageledaaGreatDoor

namespace Go.Proofs.YtiloogjageledaaGreatDoor
open Go Go.E

def opSigns : List (List UInt8) := [[61], [60, 62], [60], [60, 61], [62], [62, 61], [38], [43], [45], [42], [47]]
def opRanks : List Nat := [0, 0, 0, 0, 0, 0, 1, 2, 2, 3, 3]
def signS (o : Nat) : List UInt8 := opSigns.getD o []
def rankN (o : Nat) : Nat := opRanks.getD o 0
def textFrom : Nat → List Nat → List UInt8
  | _, [] => []
  | i, o :: r => signS o ++ (Lib.decDigits (i + 1) ++ textFrom (i + 1) r)
def ktT (t : TokD) : Int × List UInt8 := (t.kind, t.text)
def coreT (ops : List Nat) : List (Int × List UInt8) := ops.flatMap (fun o => [(5, signS o), (1, [])]) ++ [(0, [])]

/-! ### Its tokens -/

theorem one_dig {u : Nat} (hu : u ≤ 9223372036854775807) {R : List UInt8} (hR : R = [] ∨ digB (byte R 0) = false) : oneO (Lib.decDigits u ++ R) = some (⟨1, [], u, refN, 0⟩, (Lib.decDigits u).length) := by
  obtain ⟨h1, h2, h3, h4, h5⟩ := dec_facts u u (Nat.le_refl _)
  have h0 : digB (byte (Lib.decDigits u ++ R) 0) = true := by
    rw [byte_head h2]
    obtain ⟨c, hm, e⟩ := byte_mem (List.length_pos_iff.2 h2)
    rw [e]; exact h1 c hm
  have hs : spanL digB (Lib.decDigits u ++ R) = Lib.decDigits u := by
    rw [span_append digB _ R h1]
    have : spanL digB R = [] := by
      rcases hR with rfl | h
      · rfl
      · cases R with
        | nil => rfl
        | cons c r =>
          have : digB (c.toNat : Int) = false := h
          simp [spanL, this]
    rw [this, List.append_nil]
  have hc : ((u : Nat) : Int) ≤ 9223372036854775807 ∧ (byte (Lib.decDigits u) 0 ≠ 48 ∨ (Lib.decDigits u).length = 1) := by
    refine ⟨by omega, ?_⟩
    by_cases hz : u = 0
    · exact .inr (h5 hz)
    · exact .inl (h4 hz)
  rw [oneO, h0, if_pos rfl, numO_is (by rw [hs]; exact h2), hs, h3, if_pos hc]

theorem one_sign {o : Nat} (ho : o < 11) {R : List UInt8} (hR : digB (byte R 0) = true) : oneO (signS o ++ R) = some (⟨5, signS o, 0, refN, 0⟩, (signS o).length) := by
  cases R with
  | nil => cases hR
  | cons d r =>
    have hd : digB (d.toNat : Int) = true := hR
    have h61 : (61 == d) = false := by
      rw [beq_eq_false_iff_ne]; rintro rfl; revert hd; decide
    have h62 : (62 == d) = false := by
      rw [beq_eq_false_iff_ne]; rintro rfl; revert hd; decide
    have h82 : (82 == d) = false := by
      rw [beq_eq_false_iff_ne]; rintro rfl; revert hd; decide
    have hall : ∀ o, o < 11 → (digB (byte (signS o) 0) = false ∧ byte (signS o) 0 ≠ 34 ∧ begB (byte (signS o) 0) = false ∧ signS o ≠ []) := by decide
    obtain ⟨a1, a2, a3, a4⟩ := hall o ho
    have hb : byte (signS o ++ d :: r) 0 = byte (signS o) 0 := byte_head a4 _
    rw [oneO, hb, a1, a3, if_neg (by simp), if_neg a2, if_neg (by simp)]
    have : o = 0 ∨ o = 1 ∨ o = 2 ∨ o = 3 ∨ o = 4 ∨ o = 5 ∨ o = 6 ∨ o = 7 ∨ o = 8 ∨ o = 9 ∨ o = 10 := by omega
    rcases this with rfl | rfl | rfl | rfl | rfl | rfl | rfl | rfl | rfl | rfl | rfl <;>
      simp [signO, signS, opSigns, deadT, Lib.hasPrefix, List.isPrefixOf, signsT, List.find?, h61, h62]

theorem lexF_step {X R : List UInt8} {t : TokD} {a : Nat} (hX : X ≠ []) (hb : byte X 0 ≠ 32) (h1 : oneO (X ++ R) = some (t, X.length)) : lexF (X ++ R) a = (lexF R (a + X.length)).map ({ t with at_ := (a : Int) } :: ·) := by
  have hs : spanL spB (X ++ R) = [] := by
    cases X with
    | nil => exact absurd rfl hX
    | cons c r =>
      have : spB (c.toNat : Int) = false := by simp [spB]; exact hb
      simp [spanL, this]
  have := lexF_go (l := X ++ R) (l' := X ++ R) (a := a) (t := t) (k := X.length) (by rw [hs]; rfl) (by simp [hX]) h1 (List.length_pos_iff.2 hX)
  rw [this, hs]
  simp [List.drop_left']

theorem sign_facts : ∀ o, o < 11 → (digB (byte (signS o) 0) = false ∧ byte (signS o) 0 ≠ 32 ∧ signS o ≠ []) := by decide
theorem textFrom_soft (i : Nat) {ops : List Nat} (h : ∀ o ∈ ops, o < 11) : textFrom i ops = [] ∨ digB (byte (textFrom i ops) 0) = false := by
  cases ops with
  | nil => exact .inl rfl
  | cons o r =>
    obtain ⟨h1, h2, h3⟩ := sign_facts o (h o (by simp))
    refine .inr ?_
    rw [textFrom, byte_head h3]
    exact h1
theorem dec_head (u : Nat) : digB (byte (Lib.decDigits u) 0) = true ∧ Lib.decDigits u ≠ [] ∧ byte (Lib.decDigits u) 0 ≠ 32 := by
  obtain ⟨h1, h2, _⟩ := dec_facts u u (Nat.le_refl _)
  obtain ⟨c, hm, e⟩ := byte_mem (List.length_pos_iff.2 h2)
  exact ⟨by rw [e]; exact h1 c hm, h2, dig_ne32 h2 h1⟩
theorem ops_lex : ∀ (ops : List Nat) (i a : Nat), (∀ o ∈ ops, o < 11) → i + ops.length ≤ 1000 → ∃ T, lexF (textFrom i ops) a = some T ∧ T.map ktT = coreT ops
  | [], i, a, _, _ => ⟨_, lexF_end rfl, rfl⟩
  | o :: r, i, a, ho, hi => by
    obtain ⟨f1, f2, f3⟩ := sign_facts o (ho o (by simp))
    obtain ⟨g1, g2, g3⟩ := dec_head (i + 1)
    simp only [List.length_cons] at hi
    obtain ⟨T, h1, h2⟩ := ops_lex r (i + 1) (a + (signS o).length + (Lib.decDigits (i + 1)).length) (fun x hx => ho x (by simp [hx])) (by omega)
    rw [textFrom, lexF_step f3 f2 (one_sign (ho o (by simp)) (by rw [byte_head g2]; exact g1)), lexF_step g2 g3 (one_dig (by omega) (textFrom_soft (i + 1) (fun x hx => ho x (by simp [hx])))), h1]
    refine ⟨_, rfl, ?_⟩
    simp only [List.map_cons, h2]
    simp [coreT, ktT]
theorem textFrom_snoc : ∀ (ops : List Nat) (i o : Nat), textFrom i (ops ++ [o]) = textFrom i ops ++ (signS o ++ Lib.decDigits (i + ops.length + 1))
  | [], i, o => by simp [textFrom]
  | x :: r, i, o => by
    rw [List.cons_append, textFrom, textFrom, textFrom_snoc r (i + 1) o, List.length_cons, show i + 1 + r.length + 1 = i + (r.length + 1) + 1 by omega]
    simp [List.append_assoc]
/-- The whole: a nought ahead. -/
theorem order_lex {ops : List Nat} (h : ∀ o ∈ ops, o < 11) (hl : ops.length ≤ 900) : ∃ T, lexT ([48] ++ textFrom 0 ops) = some T ∧ T.map ktT = (1, []) :: coreT ops := by
  have e : ([48] : List UInt8) = Lib.decDigits 0 := by rw [Lib.decDigits, dif_pos (by omega)]; rfl
  obtain ⟨g1, g2, g3⟩ := dec_head 0
  obtain ⟨T, h1, h2⟩ := ops_lex ops 0 (0 + (Lib.decDigits 0).length) h (by omega)
  rw [lexT, e, lexF_step g2 g3 (one_dig (by omega) (textFrom_soft 0 h)), h1]
  exact ⟨_, rfl, by simp only [List.map_cons, h2]; rfl⟩

/-! ### Its tree -/

structure Row (T : List TokD) (ops : List Nat) : Prop where
  lt : ∀ o ∈ ops, o < 11
  num : ∀ i, i ≤ ops.length → (T.getD (2 * i) tokZ).kind = 1
  sign : ∀ i, i < ops.length → (T.getD (2 * i + 1) tokZ).kind = 5 ∧ (T.getD (2 * i + 1) tokZ).text = signS (ops.getD i 0)
  fin : (T.getD (2 * ops.length + 1) tokZ).kind = 0
theorem core_get : ∀ (ops : List Nat), (∀ i, i < ops.length → (coreT ops)[2 * i]? = some (5, signS (ops.getD i 0)) ∧ (coreT ops)[2 * i + 1]? = some (1, [])) ∧ (coreT ops)[2 * ops.length]? = some (0, [])
  | [] => ⟨fun i hi => by simp at hi, rfl⟩
  | o :: r => by
    obtain ⟨h1, h2⟩ := core_get r
    have e : coreT (o :: r) = (5, signS o) :: (1, []) :: coreT r := by simp [coreT]
    rw [e]
    refine ⟨fun i hi => ?_, ?_⟩
    · cases i with
      | zero => exact ⟨rfl, rfl⟩
      | succ i =>
        have := h1 i (by simpa using hi)
        rw [show 2 * (i + 1) = 2 * i + 1 + 1 by omega]
        simpa using this
    · rw [List.length_cons, show 2 * (r.length + 1) = 2 * r.length + 1 + 1 by omega]
      simpa using h2
theorem kt_at {T : List TokD} {i : Nat} {x : Int × List UInt8} (h : (T.map ktT)[i]? = some x) : (T.getD i tokZ).kind = x.1 ∧ (T.getD i tokZ).text = x.2 := by
  rw [List.getElem?_map] at h
  cases e : T[i]? with
  | none => rw [e] at h; cases h
  | some t =>
    rw [e] at h
    simp only [Option.map_some, Option.some.injEq] at h
    rw [List.getD_eq_getElem?_getD, e, ← h]
    exact ⟨rfl, rfl⟩
theorem Row.of {T : List TokD} {ops : List Nat} (h : ∀ o ∈ ops, o < 11) (e : T.map ktT = (1, []) :: coreT ops) : Row T ops := by
  obtain ⟨h1, h2⟩ := core_get ops
  refine ⟨h, fun i hi => ?_, fun i hi => ?_, ?_⟩
  · cases i with
    | zero => exact (kt_at (x := (1, [])) (by rw [e]; rfl)).1
    | succ i =>
      refine (kt_at (x := (1, [])) ?_).1
      rw [e, show 2 * (i + 1) = 2 * i + 1 + 1 by omega, List.getElem?_cons_succ]
      exact (h1 i (by omega)).2
  · refine kt_at (x := (5, signS (ops.getD i 0))) ?_
    rw [e, List.getElem?_cons_succ]
    exact (h1 i hi).1
  · refine (kt_at (x := (0, [])) ?_).1
    rw [e, List.getElem?_cons_succ]
    exact h2

theorem ix_all : ∀ o, o < 11 → ∀ n, n < 4 → (signsN n).findIdx? (fun x => decide (x = signS o)) = (if rankN o = n then (signsN n).findIdx? (fun x => decide (x = signS o)) else none) ∧ (rankN o = n → ∃ i, (signsN n).findIdx? (fun x => decide (x = signS o)) = some i ∧ (kindsN n).getD i 0 = 9 + (o : Int)) := by
  intro o ho n hn
  have ho' : o = 0 ∨ o = 1 ∨ o = 2 ∨ o = 3 ∨ o = 4 ∨ o = 5 ∨ o = 6 ∨ o = 7 ∨ o = 8 ∨ o = 9 ∨ o = 10 := by omega
  have : n = 0 ∨ n = 1 ∨ n = 2 ∨ n = 3 := by omega
  rcases ho' with rfl | rfl | rfl | rfl | rfl | rfl | rfl | rfl | rfl | rfl | rfl <;> rcases this with rfl | rfl | rfl | rfl <;> first
    | exact ⟨rfl, fun h => absurd h (by decide)⟩
    | exact ⟨rfl, fun _ => ⟨_, rfl, rfl⟩⟩
theorem rank_lt : ∀ o, rankN o < 4 := by
  intro o
  have : o = 0 ∨ o = 1 ∨ o = 2 ∨ o = 3 ∨ o = 4 ∨ o = 5 ∨ o = 6 ∨ o = 7 ∨ o = 8 ∨ o = 9 ∨ o = 10 ∨ 11 ≤ o := by omega
  rcases this with rfl | rfl | rfl | rfl | rfl | rfl | rfl | rfl | rfl | rfl | rfl | h <;> first | decide | skip
  rw [rankN, List.getD_eq_getElem?_getD, List.getElem?_eq_none (by show 11 ≤ o; exact h)]
  decide

def rk (ops : List Nat) (i : Nat) : Nat := rankN (ops.getD i 0)
/-- The operators from i on to j: the last of the least rank is what stands last. -/
def Top (ops : List Nat) (L i j : Nat) (out : List NodeD) : Prop :=
  ∃ k, i ≤ k ∧ k < j ∧ (∀ t, i ≤ t → t < j → rk ops k ≤ rk ops t) ∧ (∀ t, k < t → t < j → rk ops k < rk ops t) ∧
    out[L + 2 * (j - i)]? = some { kind := 9 + (ops.getD k 0 : Int), kids := [((L + 2 * (k - i) : Nat) : Int), ((L + 2 * (j - i) - 1 : Nat) : Int)] }
/-- What has been read: numbers i to j. -/
structure Seg (ops : List Nat) (n i j : Nat) (s s1 : PSt) : Prop where
  le : i ≤ j
  le2 : j ≤ ops.length
  at_ : s1.at_ = 2 * j + 1
  deep : s1.deep = s.deep
  len : s1.out.length = s.out.length + 2 * (j - i) + 1
  rank : ∀ t, i ≤ t → t < j → n ≤ rk ops t
  top : i < j → Top ops s.out.length i j s1.out
def modeN (n : Nat) : PMode := if n < 4 then .lev n else .unary
theorem below_mode {n : Nat} (h : n < 4) : below n = modeN (n + 1) := by
  unfold below modeN
  by_cases h3 : n < 3
  · rw [if_pos h3, if_pos (by omega)]
  · rw [if_neg h3, if_neg (by omega)]

theorem Row.ix_no {T : List TokD} {ops : List Nat} (R : Row T ops) {s : PSt} {j n : Nat} (hn : n < 4) (hj : j ≤ ops.length) (hs : s.at_ = 2 * j + 1) (h : j = ops.length ∨ rk ops j ≠ n) : opIx T s n = none := by
  unfold opIx
  split
  · rename_i hk
    unfold tokAt at hk ⊢
    rw [hs] at hk ⊢
    rcases Nat.lt_or_ge j ops.length with hl | hl
    · have h := h.resolve_left (by omega)
      rw [(R.sign j hl).2, (ix_all _ (R.lt _ (by rw [List.getD_eq_getElem?_getD, List.getElem?_eq_getElem hl]; exact List.getElem_mem hl)) n hn).1]
      exact if_neg h
    · have : j = ops.length := by omega
      subst this
      rw [R.fin] at hk
      cases hk
  · rfl
theorem Row.ix_yes {T : List TokD} {ops : List Nat} (R : Row T ops) {s : PSt} {j n : Nat} (hn : n < 4) (hj : j < ops.length) (hs : s.at_ = 2 * j + 1) (h : rk ops j = n) : ∃ i, opIx T s n = some i ∧ (kindsN n).getD i 0 = 9 + (ops.getD j 0 : Int) := by
  unfold opIx tokAt
  rw [hs, if_pos (R.sign j hj).1, (R.sign j hj).2]
  exact (ix_all _ (R.lt _ (by rw [List.getD_eq_getElem?_getD, List.getElem?_eq_getElem hj]; exact List.getElem_mem hj)) n hn).2 h

theorem Row.loop {T : List TokD} {ops : List Nat} (R : Row T ops) {n : Nat} (hn : n < 4)
    (sub : ∀ (i : Nat) (s : PSt), i ≤ ops.length → s.at_ = 2 * i → ∃ j s1, PE T (below n) s (.ok s1 (s.out.length + 2 * (j - i))) ∧ Seg ops (n + 1) i j s s1 ∧ (j = ops.length ∨ rk ops j < n + 1)) :
    ∀ (d i j : Nat) (s s1 : PSt), ops.length - j ≤ d → Seg ops n i j s s1 → (j = ops.length ∨ rk ops j < n + 1) → ∃ j' s2, PE T (.loop n (s.out.length + 2 * (j - i))) s1 (.ok s2 (s.out.length + 2 * (j' - i))) ∧ Seg ops n i j' s s2 ∧ (j' = ops.length ∨ rk ops j' < n) := by
  intro d
  induction d with
  | zero =>
    intro i j s s1 hd hS _
    have := hS.le2
    have hj : j = ops.length := by omega
    exact ⟨j, s1, .loop_end (R.ix_no hn hS.le2 hS.at_ (.inl hj)), hS, .inl hj⟩
  | succ d ih =>
    intro i j s s1 hd hS hr
    have hle := hS.le
    have hle2 := hS.le2
    by_cases hj : j = ops.length
    · exact ⟨j, s1, .loop_end (R.ix_no hn hS.le2 hS.at_ (.inl hj)), hS, .inl hj⟩
    have hr := hr.resolve_left hj
    by_cases hk : rk ops j = n
    · obtain ⟨x, hx, hkind⟩ := R.ix_yes hn (by omega) hS.at_ hk
      obtain ⟨j2, s2, hp, hS2, hr2⟩ := sub (j + 1) (adv s1) (by omega) (by show s1.at_ + 1 = _; rw [hS.at_]; omega)
      have g1 := hS2.le
      have g2 := hS2.le2
      have e0 : (adv s1).out.length = s.out.length + 2 * (j - i) + 1 := hS.len
      have e1 : s2.out.length = s.out.length + 2 * (j2 - i) := by rw [hS2.len, e0]; omega
      have hS3 : Seg ops n i j2 s (putS s2 { kind := (kindsN n).getD x 0, kids := [((s.out.length + 2 * (j - i) : Nat) : Int), (((adv s1).out.length + 2 * (j2 - (j + 1)) : Nat) : Int)] }) := by
        refine ⟨by omega, g2, hS2.at_, hS2.deep.trans hS.deep, by show (s2.out ++ [_]).length = _; rw [List.length_append, e1]; rfl, fun t h1 h2 => ?_, fun _ => ⟨j, by omega, by omega, fun t h1 h2 => ?_, fun t h1 h2 => ?_, ?_⟩⟩
        · rcases Nat.lt_or_ge t j with h | h
          · exact hS.rank t h1 h
          · rcases Nat.lt_or_ge j t with h' | h'
            · have := hS2.rank t (by omega) h2; omega
            · have : t = j := by omega
              subst this; omega
        · rw [hk]
          rcases Nat.lt_or_ge t j with h | h
          · exact hS.rank t h1 h
          · rcases Nat.lt_or_ge j t with h' | h'
            · have := hS2.rank t (by omega) h2; omega
            · have : t = j := by omega
              subst this; omega
        · have := hS2.rank t (by omega) h2; omega
        · show (s2.out ++ [_])[_]? = _
          rw [List.getElem?_append_right (by omega), e1, Nat.sub_self, hkind, e0]
          rw [show s.out.length + 2 * (j - i) + 1 + 2 * (j2 - (j + 1)) = s.out.length + 2 * (j2 - i) - 1 by omega]
          rfl
      obtain ⟨j3, s3, hp3, hS4, hr4⟩ := ih i j2 s _ (by omega) hS3 hr2
      refine ⟨j3, s3, .loop_go hx hp ?_, hS4, hr4⟩
      rw [e1]
      exact hp3
    · exact ⟨j, s1, .loop_end (R.ix_no hn hS.le2 hS.at_ (.inr hk)), hS, .inr (by omega)⟩

theorem Row.lev {T : List TokD} {ops : List Nat} (R : Row T ops) : ∀ (d n : Nat), n + d = 4 → ∀ (i : Nat) (s : PSt), i ≤ ops.length → s.at_ = 2 * i → ∃ j s1, PE T (modeN n) s (.ok s1 (s.out.length + 2 * (j - i))) ∧ Seg ops n i j s s1 ∧ (j = ops.length ∨ rk ops j < n) := by
  intro d
  induction d with
  | zero =>
    intro n hn i s hi hs
    have hn : n = 4 := by omega
    subst hn
    have hk : (tokAt T s).kind = 1 := by unfold tokAt; rw [hs]; exact R.num i hi
    have hS : isS T s [45] = false := by simp [isS, hk]
    refine ⟨i, putS (adv s) { kind := 1, num := (tokAt T s).num }, .un_prim hS (by rw [Nat.sub_self, Nat.mul_zero, Nat.add_zero]; exact .pr_num hk), ⟨Nat.le_refl _, hi, by show s.at_ + 1 = _; rw [hs], rfl, by show (s.out ++ [_]).length = _; simp, (fun t h1 h2 => by omega), (fun h => by omega)⟩, .inr (rank_lt _)⟩
  | succ d ih =>
    intro n hn i s hi hs
    have hn4 : n < 4 := by omega
    have hb := below_mode hn4
    have sub : ∀ (i : Nat) (s : PSt), i ≤ ops.length → s.at_ = 2 * i → ∃ j s1, PE T (below n) s (.ok s1 (s.out.length + 2 * (j - i))) ∧ Seg ops (n + 1) i j s s1 ∧ (j = ops.length ∨ rk ops j < n + 1) := by
      intro i s hi hs
      rw [hb]
      exact ih (n + 1) (by omega) i s hi hs
    obtain ⟨j, s1, hp, hS, hr⟩ := sub i s hi hs
    have hS' : Seg ops n i j s s1 := ⟨hS.le, hS.le2, hS.at_, hS.deep, hS.len, fun t h1 h2 => by have := hS.rank t h1 h2; omega, hS.top⟩
    obtain ⟨j', s2, hp2, hS2, hr2⟩ := R.loop hn4 sub _ i j s s1 (Nat.le_refl _) hS' hr
    refine ⟨j', s2, ?_, hS2, hr2⟩
    rw [modeN, if_pos hn4]
    exact .lev_ok hp hp2

/-- What is read, whole. -/
theorem Row.parsed {T : List TokD} {ops : List Nat} (R : Row T ops) (h : 0 < ops.length) : ∃ l, Parsed T (.ok l) ∧ l.length = 2 * ops.length + 1 ∧ ∃ k, k < ops.length ∧ (∀ t, t < ops.length → rk ops k ≤ rk ops t) ∧ (∀ t, k < t → t < ops.length → rk ops k < rk ops t) ∧
    l[2 * ops.length]? = some { kind := 9 + (ops.getD k 0 : Int), kids := [((2 * k : Nat) : Int), ((2 * ops.length - 1 : Nat) : Int)] } := by
  obtain ⟨j, s1, hp, hS, hr⟩ := R.lev 4 0 rfl 0 ⟨0, [], 0⟩ (by omega) rfl
  have hj : j = ops.length := hr.resolve_right (by omega)
  subst hj
  obtain ⟨k, h1, h2, h3, h4, h5⟩ := hS.top h
  refine ⟨s1.out, ⟨s1, _, hp, by unfold tokAt; rw [hS.at_]; exact R.fin, rfl⟩, by have := hS.len; simpa using this, k, h2, fun t ht => h3 t (by omega) ht, h4, ?_⟩
  simpa using h5
end Go.Proofs.YtiloogjageledaaGreatDoor
