/-
  Plain: the relation of formulas reckoned out; it tells one thing alone. No program in sight.
-/
import Derived.Test.YtfpklhgkndnjjaaDoorParP
namespace Go.Proofs.YtfpklhgkndnjjaaDoor
open Go Go.E

def evalP (T : List TokD) : Nat → PMode → PSt → Option PRes
  | 0, _, _ => none
  | n + 1, .lev k, s => match evalP T n (below k) s with
    | some (.ok s1 a) => evalP T n (.loop k a) s1
    | some (.err e) => some (.err e)
    | none => none
  | n + 1, .loop k a, s => match opIx T s k with
    | none => some (.ok s a)
    | some i => match evalP T n (below k) (adv s) with
      | some (.ok s1 b) => evalP T n (.loop k s1.out.length) (putS s1 { kind := (kindsN k).getD i 0, kids := [(a : Int), (b : Int)] })
      | some (.err e) => some (.err e)
      | none => none
  | n + 1, .unary, s => if isS T s [45] = true then (if 12 ≤ s.deep then some (.err 6) else match evalP T n .unary (deeper (adv s)) with
      | some (.ok s1 a) => some (.ok (putS (upper s1) { kind := 8, kids := [(a : Int)] }) s1.out.length)
      | some (.err e) => some (.err e)
      | none => none) else evalP T n .prim s
  | n + 1, .prim, s =>
    if (tokAt T s).kind = 5 then
      if isS T s [40] = true then (if 12 ≤ s.deep then some (.err 6) else match evalP T n (.lev 0) (deeper (adv s)) with
        | some (.ok s1 a) => if isS T s1 [41] = true then some (.ok (upper (adv s1)) a) else some (.err 5)
        | some (.err e) => some (.err e)
        | none => none)
      else some (.err 5)
    else if (tokAt T s).kind = 0 then some (.err 5)
    else if (tokAt T s).kind = 1 then some (.ok (putS (adv s) { kind := 1, num := (tokAt T s).num }) s.out.length)
    else if (tokAt T s).kind = 2 then some (.ok (putS (adv s) { kind := 2, text := (tokAt T s).text }) s.out.length)
    else if (tokAt T s).kind = 6 then some (.ok (putS (adv s) { kind := 4 }) s.out.length)
    else if (tokAt T s).kind = 4 then
      if isS T (adv s) [58] = true then
        if (tokAt T (adv (adv s))).kind = 4 ∧ rangesB (tokAt T s).ref (tokAt T (adv (adv s))).ref = true then some (.ok (putS (adv (adv (adv s))) { kind := 6, ref := (tokAt T s).ref, to := (tokAt T (adv (adv s))).ref }) s.out.length)
        else some (.err 5)
      else some (.ok (putS (adv s) { kind := 5, ref := (tokAt T s).ref }) s.out.length)
    else if (tokAt T s).kind = 3 then
      if (tokAt T s).text = trueT then some (.ok (putS (adv s) { kind := 3, num := 1 }) s.out.length)
      else if (tokAt T s).text = falseT then some (.ok (putS (adv s) { kind := 3 }) s.out.length)
      else if isS T (adv s) [40] = true then
        if 12 ≤ s.deep then some (.err 6)
        else if isS T (deeper (adv (adv s))) [41] = true then some (.ok (putS (upper (adv (deeper (adv (adv s))))) { kind := 7, text := (tokAt T s).text }) s.out.length)
        else evalP T n (.args (tokAt T s).text []) (deeper (adv (adv s)))
      else some (.err 5)
    else none
  | n + 1, .args x ks, s => match evalP T n (.lev 0) s with
    | some (.ok s1 a) => if isS T s1 [44] = true then evalP T n (.args x (ks ++ [(a : Int)])) (adv s1)
      else if isS T s1 [41] = true then some (.ok (putS (upper (adv s1)) { kind := 7, text := x, kids := ks ++ [(a : Int)] }) s1.out.length)
      else some (.err 5)
    | some (.err e) => some (.err e)
    | none => none

theorem isS_of {T : List TokD} {s : PSt} {x : List UInt8} (h : isS T s x = true) : (tokAt T s).kind = 5 := by
  simp [isS] at h; exact h.1
theorem isS_no {T : List TokD} {s : PSt} {x : List UInt8} (h2 : (tokAt T s).text ≠ x) : isS T s x = false := by
  simp [isS, h2]

/-- What the relation tells is reckoned. -/
theorem PE.eval {T : List TokD} {m : PMode} {s : PSt} {r : PRes} (h : PE T m s r) : ∃ N, ∀ n, N ≤ n → evalP T n m s = some r := by
  induction h with
  | lev_err _ ih =>
    obtain ⟨N, ih⟩ := ih
    refine ⟨N + 1, fun n hn => ?_⟩
    obtain ⟨n, rfl⟩ : ∃ k, n = k + 1 := ⟨n - 1, by omega⟩
    simp only [evalP, ih n (by omega)]
  | lev_ok _ _ ih1 ih2 =>
    obtain ⟨N, ih1⟩ := ih1
    obtain ⟨M, ih2⟩ := ih2
    refine ⟨N + M + 1, fun n hn => ?_⟩
    obtain ⟨n, rfl⟩ : ∃ k, n = k + 1 := ⟨n - 1, by omega⟩
    simp only [evalP, ih1 n (by omega), ih2 n (by omega)]
  | loop_end h =>
    refine ⟨1, fun n hn => ?_⟩
    obtain ⟨n, rfl⟩ : ∃ k, n = k + 1 := ⟨n - 1, by omega⟩
    simp only [evalP, h]
  | loop_err h _ ih =>
    obtain ⟨N, ih⟩ := ih
    refine ⟨N + 1, fun n hn => ?_⟩
    obtain ⟨n, rfl⟩ : ∃ k, n = k + 1 := ⟨n - 1, by omega⟩
    simp only [evalP, h, ih n (by omega)]
  | loop_go h _ _ ih1 ih2 =>
    obtain ⟨N, ih1⟩ := ih1
    obtain ⟨M, ih2⟩ := ih2
    refine ⟨N + M + 1, fun n hn => ?_⟩
    obtain ⟨n, rfl⟩ : ∃ k, n = k + 1 := ⟨n - 1, by omega⟩
    simp only [evalP, h, ih1 n (by omega), ih2 n (by omega)]
  | un_prim h _ ih =>
    obtain ⟨N, ih⟩ := ih
    refine ⟨N + 1, fun n hn => ?_⟩
    obtain ⟨n, rfl⟩ : ∃ k, n = k + 1 := ⟨n - 1, by omega⟩
    simp only [evalP, h, ih n (by omega), Bool.false_eq_true, if_false]
  | un_deep h hd =>
    refine ⟨1, fun n hn => ?_⟩
    obtain ⟨n, rfl⟩ : ∃ k, n = k + 1 := ⟨n - 1, by omega⟩
    simp only [evalP, h, hd, if_true]
  | un_err h hd _ ih =>
    obtain ⟨N, ih⟩ := ih
    refine ⟨N + 1, fun n hn => ?_⟩
    obtain ⟨n, rfl⟩ : ∃ k, n = k + 1 := ⟨n - 1, by omega⟩
    simp only [evalP, h, ih n (by omega), if_true, Nat.not_le.2 hd, if_false]
  | un_ok h hd _ ih =>
    obtain ⟨N, ih⟩ := ih
    refine ⟨N + 1, fun n hn => ?_⟩
    obtain ⟨n, rfl⟩ : ∃ k, n = k + 1 := ⟨n - 1, by omega⟩
    simp only [evalP, h, ih n (by omega), if_true, Nat.not_le.2 hd, if_false]
  | pr_sign h h2 =>
    refine ⟨1, fun n hn => ?_⟩
    obtain ⟨n, rfl⟩ : ∃ k, n = k + 1 := ⟨n - 1, by omega⟩
    simp only [evalP, h, if_true, isS_no h2, Bool.false_eq_true, if_false]
  | pr_deep h hd =>
    refine ⟨1, fun n hn => ?_⟩
    obtain ⟨n, rfl⟩ : ∃ k, n = k + 1 := ⟨n - 1, by omega⟩
    simp only [evalP, isS_of h, h, hd, if_true]
  | pr_err h hd _ ih =>
    obtain ⟨N, ih⟩ := ih
    refine ⟨N + 1, fun n hn => ?_⟩
    obtain ⟨n, rfl⟩ : ∃ k, n = k + 1 := ⟨n - 1, by omega⟩
    simp only [evalP, isS_of h, h, ih n (by omega), if_true, Nat.not_le.2 hd, if_false]
  | pr_open h hd _ h2 ih =>
    obtain ⟨N, ih⟩ := ih
    refine ⟨N + 1, fun n hn => ?_⟩
    obtain ⟨n, rfl⟩ : ∃ k, n = k + 1 := ⟨n - 1, by omega⟩
    simp only [evalP, isS_of h, h, ih n (by omega), if_true, Nat.not_le.2 hd, if_false, h2, Bool.false_eq_true]
  | pr_ok h hd _ h2 ih =>
    obtain ⟨N, ih⟩ := ih
    refine ⟨N + 1, fun n hn => ?_⟩
    obtain ⟨n, rfl⟩ : ∃ k, n = k + 1 := ⟨n - 1, by omega⟩
    simp only [evalP, isS_of h, h, ih n (by omega), if_true, Nat.not_le.2 hd, if_false, h2]
  | pr_end h | pr_num h | pr_text h | pr_dead h =>
    refine ⟨1, fun n hn => ?_⟩
    obtain ⟨n, rfl⟩ : ∃ k, n = k + 1 := ⟨n - 1, by omega⟩
    simp [evalP, h]
  | pr_ref h h2 | pr_true h h2 | pr_false h h2 =>
    refine ⟨1, fun n hn => ?_⟩
    obtain ⟨n, rfl⟩ : ∃ k, n = k + 1 := ⟨n - 1, by omega⟩
    simp [evalP, h, h2, trueT, falseT]
  | pr_norange h h2 h3 =>
    refine ⟨1, fun n hn => ?_⟩
    obtain ⟨n, rfl⟩ : ∃ k, n = k + 1 := ⟨n - 1, by omega⟩
    have h4 : ¬ ((tokAt T (adv (adv _))).kind = 4 ∧ rangesB (tokAt T _).ref (tokAt T (adv (adv _))).ref = true) := fun hh => by
      rcases h3 with h3 | h3
      · exact h3 hh.1
      · rw [hh.2] at h3; cases h3
    simp only [evalP, h, h2, if_neg h4]
    rfl
  | pr_range h h2 h3 h4 =>
    refine ⟨1, fun n hn => ?_⟩
    obtain ⟨n, rfl⟩ : ∃ k, n = k + 1 := ⟨n - 1, by omega⟩
    simp [evalP, h, h2, h3, h4]
  | pr_nocall h h2 h3 h4 =>
    refine ⟨1, fun n hn => ?_⟩
    obtain ⟨n, rfl⟩ : ∃ k, n = k + 1 := ⟨n - 1, by omega⟩
    simp [evalP, h, h2, h3, h4]
  | pr_calldeep h h2 h3 h4 h5 =>
    refine ⟨1, fun n hn => ?_⟩
    obtain ⟨n, rfl⟩ : ∃ k, n = k + 1 := ⟨n - 1, by omega⟩
    simp [evalP, h, h2, h3, h4, h5]
  | pr_call0 h h2 h3 h4 h5 h6 =>
    refine ⟨1, fun n hn => ?_⟩
    obtain ⟨n, rfl⟩ : ∃ k, n = k + 1 := ⟨n - 1, by omega⟩
    simp [evalP, h, h2, h3, h4, Nat.not_le.2 h5, h6]
  | pr_call h h2 h3 h4 h5 h6 _ ih =>
    obtain ⟨N, ih⟩ := ih
    refine ⟨N + 1, fun n hn => ?_⟩
    obtain ⟨n, rfl⟩ : ∃ k, n = k + 1 := ⟨n - 1, by omega⟩
    have := ih n (by omega)
    simp [evalP, h, h2, h3, h4, Nat.not_le.2 h5, h6, this]
  | ar_err _ ih =>
    obtain ⟨N, ih⟩ := ih
    refine ⟨N + 1, fun n hn => ?_⟩
    obtain ⟨n, rfl⟩ : ∃ k, n = k + 1 := ⟨n - 1, by omega⟩
    simp only [evalP, ih n (by omega)]
  | ar_go _ h _ ih1 ih2 =>
    obtain ⟨N, ih1⟩ := ih1
    obtain ⟨M, ih2⟩ := ih2
    refine ⟨N + M + 1, fun n hn => ?_⟩
    obtain ⟨n, rfl⟩ : ∃ k, n = k + 1 := ⟨n - 1, by omega⟩
    simp only [evalP, ih1 n (by omega), h, if_true, ih2 n (by omega)]
  | ar_open _ h h2 ih =>
    obtain ⟨N, ih⟩ := ih
    refine ⟨N + 1, fun n hn => ?_⟩
    obtain ⟨n, rfl⟩ : ∃ k, n = k + 1 := ⟨n - 1, by omega⟩
    simp only [evalP, ih n (by omega), h, h2, Bool.false_eq_true, if_false]
  | ar_end _ h h2 ih =>
    obtain ⟨N, ih⟩ := ih
    refine ⟨N + 1, fun n hn => ?_⟩
    obtain ⟨n, rfl⟩ : ∃ k, n = k + 1 := ⟨n - 1, by omega⟩
    simp only [evalP, ih n (by omega), h, h2, Bool.false_eq_true, if_false, if_true]
theorem PE.det {T : List TokD} {m : PMode} {s : PSt} {r r' : PRes} (h : PE T m s r) (h' : PE T m s r') : r = r' := by
  obtain ⟨N, h⟩ := h.eval
  obtain ⟨M, h'⟩ := h'.eval
  have := (h (N + M) (by omega)).symm.trans (h' (N + M) (by omega))
  simpa using this

/-- What is reckoned the relation tells. -/
theorem evalP_PE (T : List TokD) : ∀ (n : Nat) (m : PMode) (s : PSt) (r : PRes), evalP T n m s = some r → PE T m s r
  | 0, _, _, _, h => by cases h
  | n + 1, .lev k, s, r, h => by
    rw [evalP] at h
    split at h
    · rename_i s1 a e
      exact .lev_ok (evalP_PE T n _ _ _ e) (evalP_PE T n _ _ _ h)
    · rename_i e' e
      simp only [Option.some.injEq] at h
      subst h
      exact .lev_err (evalP_PE T n _ _ _ e)
    · cases h
  | n + 1, .loop k a, s, r, h => by
    rw [evalP] at h
    split at h
    · rename_i e
      simp only [Option.some.injEq] at h
      subst h
      exact .loop_end e
    · rename_i i e
      split at h
      · rename_i s1 b e2
        exact .loop_go e (evalP_PE T n _ _ _ e2) (evalP_PE T n _ _ _ h)
      · rename_i e' e2
        simp only [Option.some.injEq] at h
        subst h
        exact .loop_err e (evalP_PE T n _ _ _ e2)
      · cases h
  | n + 1, .unary, s, r, h => by
    rw [evalP] at h
    split at h
    · rename_i hs
      split at h
      · rename_i hd
        simp only [Option.some.injEq] at h
        subst h
        exact .un_deep hs hd
      · rename_i hd
        split at h
        · rename_i s1 a e
          simp only [Option.some.injEq] at h
          subst h
          exact .un_ok hs (by omega) (evalP_PE T n _ _ _ e)
        · rename_i e' e
          simp only [Option.some.injEq] at h
          subst h
          exact .un_err hs (by omega) (evalP_PE T n _ _ _ e)
        · cases h
    · rename_i hs
      exact .un_prim (by simpa using hs) (evalP_PE T n _ _ _ h)
  | n + 1, .prim, s, r, h => by
    rw [evalP] at h
    by_cases h5 : (tokAt T s).kind = 5
    · rw [if_pos h5] at h
      by_cases hs : isS T s [40] = true
      · rw [if_pos hs] at h
        by_cases hd : 12 ≤ s.deep
        · rw [if_pos hd] at h
          simp only [Option.some.injEq] at h
          subst h
          exact .pr_deep hs hd
        · rw [if_neg hd] at h
          split at h
          · rename_i s1 a e
            split at h
            · rename_i h2
              simp only [Option.some.injEq] at h
              subst h
              exact .pr_ok hs (by omega) (evalP_PE T n _ _ _ e) h2
            · rename_i h2
              simp only [Option.some.injEq] at h
              subst h
              exact .pr_open hs (by omega) (evalP_PE T n _ _ _ e) (by simpa using h2)
          · rename_i e' e
            simp only [Option.some.injEq] at h
            subst h
            exact .pr_err hs (by omega) (evalP_PE T n _ _ _ e)
          · cases h
      · rw [if_neg hs] at h
        simp only [Option.some.injEq] at h
        subst h
        exact .pr_sign h5 (fun ht => hs (by simp [isS, h5, ht]))
    rw [if_neg h5] at h
    by_cases hk : (tokAt T s).kind = 0
    · rw [if_pos hk] at h; simp only [Option.some.injEq] at h; subst h; exact .pr_end hk
    rw [if_neg hk] at h
    clear hk
    by_cases hk : (tokAt T s).kind = 1
    · rw [if_pos hk] at h; simp only [Option.some.injEq] at h; subst h; exact .pr_num hk
    rw [if_neg hk] at h
    clear hk
    by_cases hk : (tokAt T s).kind = 2
    · rw [if_pos hk] at h; simp only [Option.some.injEq] at h; subst h; exact .pr_text hk
    rw [if_neg hk] at h
    clear hk
    by_cases hk : (tokAt T s).kind = 6
    · rw [if_pos hk] at h; simp only [Option.some.injEq] at h; subst h; exact .pr_dead hk
    rw [if_neg hk] at h
    clear hk
    by_cases hk : (tokAt T s).kind = 4
    · rw [if_pos hk] at h
      by_cases hs : isS T (adv s) [58] = true
      · rw [if_pos hs] at h
        by_cases hh : (tokAt T (adv (adv s))).kind = 4 ∧ rangesB (tokAt T s).ref (tokAt T (adv (adv s))).ref = true
        · rw [if_pos hh] at h; simp only [Option.some.injEq] at h; subst h; exact .pr_range hk hs hh.1 hh.2
        · rw [if_neg hh] at h
          simp only [Option.some.injEq] at h
          subst h
          refine .pr_norange hk hs ?_
          by_cases h4 : (tokAt T (adv (adv s))).kind = 4
          · exact .inr (by simpa using fun h6 => hh ⟨h4, h6⟩)
          · exact .inl h4
      · rw [if_neg hs] at h; simp only [Option.some.injEq] at h; subst h; exact .pr_ref hk (by simpa using hs)
    rw [if_neg hk] at h
    clear hk
    by_cases hk : (tokAt T s).kind = 3
    · rw [if_pos hk] at h
      by_cases ht : (tokAt T s).text = trueT
      · rw [if_pos ht] at h; simp only [Option.some.injEq] at h; subst h; exact .pr_true hk ht
      rw [if_neg ht] at h
      by_cases hf : (tokAt T s).text = falseT
      · rw [if_pos hf] at h; simp only [Option.some.injEq] at h; subst h; exact .pr_false hk hf
      rw [if_neg hf] at h
      by_cases hs : isS T (adv s) [40] = true
      · rw [if_pos hs] at h
        by_cases hd : 12 ≤ s.deep
        · rw [if_pos hd] at h; simp only [Option.some.injEq] at h; subst h; exact .pr_calldeep hk ht hf hs hd
        rw [if_neg hd] at h
        by_cases h2 : isS T (deeper (adv (adv s))) [41] = true
        · rw [if_pos h2] at h; simp only [Option.some.injEq] at h; subst h; exact .pr_call0 hk ht hf hs (by omega) h2
        · rw [if_neg h2] at h; exact .pr_call hk ht hf hs (by omega) (by simpa using h2) (evalP_PE T n _ _ _ h)
      · rw [if_neg hs] at h; simp only [Option.some.injEq] at h; subst h; exact .pr_nocall hk ht hf (by simpa using hs)
    · rw [if_neg hk] at h; cases h
  | n + 1, .args x ks, s, r, h => by
    rw [evalP] at h
    split at h
    · rename_i s1 a e
      split at h
      · rename_i h4
        exact .ar_go (evalP_PE T n _ _ _ e) h4 (evalP_PE T n _ _ _ h)
      · rename_i h4
        split at h
        · rename_i h5
          simp only [Option.some.injEq] at h
          subst h
          exact .ar_end (evalP_PE T n _ _ _ e) (by simpa using h4) h5
        · rename_i h5
          simp only [Option.some.injEq] at h
          subst h
          exact .ar_open (evalP_PE T n _ _ _ e) (by simpa using h4) (by simpa using h5)
    · rename_i e' e
      simp only [Option.some.injEq] at h
      subst h
      exact .ar_err (evalP_PE T n _ _ _ e)
    · cases h

/-- What comes of a text, reckoned with so much fuel. -/
def evalT (n : Nat) (s : List UInt8) : Option (Except Int (List NodeD)) :=
  if 300 < s.length then some (.error 4) else match lexT s with
  | none => some (.error 5)
  | some T => match evalP T n (.lev 0) ⟨0, [], 0⟩ with
    | some (.err e) => some (.error e)
    | some (.ok s1 _) => if (tokAt T s1).kind = 0 then some (.ok s1.out) else some (.error 5)
    | none => none
theorem Parsed.det {T : List TokD} {o o' : Except Int (List NodeD)} (h : Parsed T o) (h' : Parsed T o') : o = o' := by
  unfold Parsed at h h'
  split at h <;> split at h'
  · rcases h with h | ⟨rfl, s, a, h, hk⟩ <;> rcases h' with h' | ⟨rfl, s', a', h', hk'⟩
    · have := h.det h'
      simp only [PRes.err.injEq] at this
      rw [this]
    · cases h.det h'
    · cases h.det h'
    · rfl
  · obtain ⟨s', a', h', hk', rfl⟩ := h'
    rcases h with h | ⟨rfl, s, a, h, hk⟩
    · cases h.det h'
    · have := h.det h'
      simp only [PRes.ok.injEq] at this
      obtain ⟨rfl, rfl⟩ := this
      exact absurd hk' hk
  · obtain ⟨s, a, h, hk, rfl⟩ := h
    rcases h' with h' | ⟨rfl, s', a', h', hk'⟩
    · cases h.det h'
    · have := h.det h'
      simp only [PRes.ok.injEq] at this
      obtain ⟨rfl, rfl⟩ := this
      exact absurd hk hk'
  · obtain ⟨s, a, h, hk, rfl⟩ := h
    obtain ⟨s', a', h', hk', rfl⟩ := h'
    have := h.det h'
    simp only [PRes.ok.injEq] at this
    rw [this.1]
end Go.Proofs.YtfpklhgkndnjjaaDoor
