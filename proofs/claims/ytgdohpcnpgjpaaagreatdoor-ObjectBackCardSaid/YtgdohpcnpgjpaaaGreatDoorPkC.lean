/-
  Joined by program out of the texts TreeP ShowP ShowQ ShowR ShowS ShowT NodesM ShowU.
-/
import Derived.Test.YtgdohpcnpgjpaaaGreatDoorPkB
import Derived.Test.YtgdohpcnpgjpaaaGreatDoorPkE
namespace Go.Proofs.YtgdohpcnpgjpaaaGreatDoor
open Go Go.E
def evalP (T : List TokD) : Nat → PMode → PSt → Option PRes
 | 0, _, _ => none
 | n + 1, .lev k, s => match evalP T n (below k) s with
  | some (.ok s1 a) => evalP T n (.loop k a) s1
  | some (.err e) => some (.err e)
  | none => none
 | n + 1, .loop k a, s => match opIx T s k with
  | none => some (.ok s a)
  | some i => match evalP T n (below k) (adv s) with
   | some (.ok s1 b) => evalP T n (.loop k s1.out.length) (putS s1 { kind := (kindsN k).getD i 0, kids := [(a : Int), (b : Int)] })
   | some (.err e) => some (.err e)
   | none => none
 | n + 1, .unary, s => if isS T s [45] = true then (if 12 ≤ s.deep then some (.err 6) else match evalP T n .unary (deeper (adv s)) with
   | some (.ok s1 a) => some (.ok (putS (upper s1) { kind := 8, kids := [(a : Int)] }) s1.out.length)
   | some (.err e) => some (.err e)
   | none => none) else evalP T n .prim s
 | n + 1, .prim, s =>
  if (tokAt T s).kind = 5 then
   if isS T s [40] = true then (if 12 ≤ s.deep then some (.err 6) else match evalP T n (.lev 0) (deeper (adv s)) with
    | some (.ok s1 a) => if isS T s1 [41] = true then some (.ok (upper (adv s1)) a) else some (.err 5)
    | some (.err e) => some (.err e)
    | none => none)
   else some (.err 5)
  else if (tokAt T s).kind = 0 then some (.err 5)
  else if (tokAt T s).kind = 1 then some (.ok (putS (adv s) { kind := 1, num := (tokAt T s).num }) s.out.length)
  else if (tokAt T s).kind = 2 then some (.ok (putS (adv s) { kind := 2, text := (tokAt T s).text }) s.out.length)
  else if (tokAt T s).kind = 6 then some (.ok (putS (adv s) { kind := 4 }) s.out.length)
  else if (tokAt T s).kind = 4 then
   if isS T (adv s) [58] = true then
    if (tokAt T (adv (adv s))).kind = 4 ∧ rangesB (tokAt T s).ref (tokAt T (adv (adv s))).ref = true then some (.ok (putS (adv (adv (adv s))) { kind := 6, ref := (tokAt T s).ref, to := (tokAt T (adv (adv s))).ref }) s.out.length)
    else some (.err 5)
   else some (.ok (putS (adv s) { kind := 5, ref := (tokAt T s).ref }) s.out.length)
  else if (tokAt T s).kind = 3 then
   if (tokAt T s).text = trueT then some (.ok (putS (adv s) { kind := 3, num := 1 }) s.out.length)
   else if (tokAt T s).text = falseT then some (.ok (putS (adv s) { kind := 3 }) s.out.length)
   else if isS T (adv s) [40] = true then
    if 12 ≤ s.deep then some (.err 6)
    else if isS T (deeper (adv (adv s))) [41] = true then some (.ok (putS (upper (adv (deeper (adv (adv s))))) { kind := 7, text := (tokAt T s).text }) s.out.length)
    else evalP T n (.args (tokAt T s).text []) (deeper (adv (adv s)))
   else some (.err 5)
  else none
 | n + 1, .args x ks, s => match evalP T n (.lev 0) s with
  | some (.ok s1 a) => if isS T s1 [44] = true then evalP T n (.args x (ks ++ [(a : Int)])) (adv s1)
   else if isS T s1 [41] = true then some (.ok (putS (upper (adv s1)) { kind := 7, text := x, kids := ks ++ [(a : Int)] }) s1.out.length)
   else some (.err 5)
  | some (.err e) => some (.err e)
  | none => none
theorem isS_of {T : List TokD} {s : PSt} {x : List UInt8} (h : isS T s x = true) : (tokAt T s).kind = 5 := by
 simp [isS] at h; exact h.1
theorem isS_no {T : List TokD} {s : PSt} {x : List UInt8} (h2 : (tokAt T s).text ≠ x) : isS T s x = false := by
 simp [isS, h2]
theorem PE.eval {T : List TokD} {m : PMode} {s : PSt} {r : PRes} (h : PE T m s r) : ∃ N, ∀ n, N ≤ n → evalP T n m s = some r := by
 induction h with
 | lev_err _ ih =>
  obtain ⟨N, ih⟩ := ih; refine ⟨N + 1, fun n hn => ?_⟩; obtain ⟨n, rfl⟩ : ∃ k, n = k + 1 := ⟨n - 1, by omega⟩
  simp only [evalP, ih n (by omega)]
 | lev_ok _ _ ih1 ih2 =>
  obtain ⟨N, ih1⟩ := ih1; obtain ⟨M, ih2⟩ := ih2; refine ⟨N + M + 1, fun n hn => ?_⟩; obtain ⟨n, rfl⟩ : ∃ k, n = k + 1 := ⟨n - 1, by omega⟩
  simp only [evalP, ih1 n (by omega), ih2 n (by omega)]
 | loop_end h =>
  refine ⟨1, fun n hn => ?_⟩; obtain ⟨n, rfl⟩ : ∃ k, n = k + 1 := ⟨n - 1, by omega⟩
  simp only [evalP, h]
 | loop_err h _ ih =>
  obtain ⟨N, ih⟩ := ih; refine ⟨N + 1, fun n hn => ?_⟩; obtain ⟨n, rfl⟩ : ∃ k, n = k + 1 := ⟨n - 1, by omega⟩
  simp only [evalP, h, ih n (by omega)]
 | loop_go h _ _ ih1 ih2 =>
  obtain ⟨N, ih1⟩ := ih1; obtain ⟨M, ih2⟩ := ih2; refine ⟨N + M + 1, fun n hn => ?_⟩; obtain ⟨n, rfl⟩ : ∃ k, n = k + 1 := ⟨n - 1, by omega⟩
  simp only [evalP, h, ih1 n (by omega), ih2 n (by omega)]
 | un_prim h _ ih =>
  obtain ⟨N, ih⟩ := ih; refine ⟨N + 1, fun n hn => ?_⟩; obtain ⟨n, rfl⟩ : ∃ k, n = k + 1 := ⟨n - 1, by omega⟩
  simp only [evalP, h, ih n (by omega), Bool.false_eq_true, if_false]
 | un_deep h hd =>
  refine ⟨1, fun n hn => ?_⟩; obtain ⟨n, rfl⟩ : ∃ k, n = k + 1 := ⟨n - 1, by omega⟩
  simp only [evalP, h, hd, if_true]
 | un_err h hd _ ih =>
  obtain ⟨N, ih⟩ := ih; refine ⟨N + 1, fun n hn => ?_⟩; obtain ⟨n, rfl⟩ : ∃ k, n = k + 1 := ⟨n - 1, by omega⟩
  simp only [evalP, h, ih n (by omega), if_true, Nat.not_le.2 hd, if_false]
 | un_ok h hd _ ih =>
  obtain ⟨N, ih⟩ := ih; refine ⟨N + 1, fun n hn => ?_⟩; obtain ⟨n, rfl⟩ : ∃ k, n = k + 1 := ⟨n - 1, by omega⟩
  simp only [evalP, h, ih n (by omega), if_true, Nat.not_le.2 hd, if_false]
 | pr_sign h h2 =>
  refine ⟨1, fun n hn => ?_⟩; obtain ⟨n, rfl⟩ : ∃ k, n = k + 1 := ⟨n - 1, by omega⟩
  simp only [evalP, h, if_true, isS_no h2, Bool.false_eq_true, if_false]
 | pr_deep h hd =>
  refine ⟨1, fun n hn => ?_⟩; obtain ⟨n, rfl⟩ : ∃ k, n = k + 1 := ⟨n - 1, by omega⟩
  simp only [evalP, isS_of h, h, hd, if_true]
 | pr_err h hd _ ih =>
  obtain ⟨N, ih⟩ := ih; refine ⟨N + 1, fun n hn => ?_⟩; obtain ⟨n, rfl⟩ : ∃ k, n = k + 1 := ⟨n - 1, by omega⟩
  simp only [evalP, isS_of h, h, ih n (by omega), if_true, Nat.not_le.2 hd, if_false]
 | pr_open h hd _ h2 ih =>
  obtain ⟨N, ih⟩ := ih; refine ⟨N + 1, fun n hn => ?_⟩; obtain ⟨n, rfl⟩ : ∃ k, n = k + 1 := ⟨n - 1, by omega⟩
  simp only [evalP, isS_of h, h, ih n (by omega), if_true, Nat.not_le.2 hd, if_false, h2, Bool.false_eq_true]
 | pr_ok h hd _ h2 ih =>
  obtain ⟨N, ih⟩ := ih; refine ⟨N + 1, fun n hn => ?_⟩; obtain ⟨n, rfl⟩ : ∃ k, n = k + 1 := ⟨n - 1, by omega⟩
  simp only [evalP, isS_of h, h, ih n (by omega), if_true, Nat.not_le.2 hd, if_false, h2]
 | pr_end h | pr_num h | pr_text h | pr_dead h =>
  refine ⟨1, fun n hn => ?_⟩; obtain ⟨n, rfl⟩ : ∃ k, n = k + 1 := ⟨n - 1, by omega⟩
  simp [evalP, h]
 | pr_ref h h2 | pr_true h h2 | pr_false h h2 =>
  refine ⟨1, fun n hn => ?_⟩; obtain ⟨n, rfl⟩ : ∃ k, n = k + 1 := ⟨n - 1, by omega⟩
  simp [evalP, h, h2, trueT, falseT]
 | pr_norange h h2 h3 =>
  refine ⟨1, fun n hn => ?_⟩; obtain ⟨n, rfl⟩ : ∃ k, n = k + 1 := ⟨n - 1, by omega⟩; have h4 : ¬ ((tokAt T (adv (adv _))).kind = 4 ∧ rangesB (tokAt T _).ref (tokAt T (adv (adv _))).ref = true) := fun hh => by
   rcases h3 with h3 | h3
   ·exact h3 hh.1
   ·rw [hh.2] at h3; cases h3
  simp only [evalP, h, h2, if_neg h4]
  rfl
 | pr_range h h2 h3 h4 =>
  refine ⟨1, fun n hn => ?_⟩; obtain ⟨n, rfl⟩ : ∃ k, n = k + 1 := ⟨n - 1, by omega⟩
  simp [evalP, h, h2, h3, h4]
 | pr_nocall h h2 h3 h4 =>
  refine ⟨1, fun n hn => ?_⟩; obtain ⟨n, rfl⟩ : ∃ k, n = k + 1 := ⟨n - 1, by omega⟩
  simp [evalP, h, h2, h3, h4]
 | pr_calldeep h h2 h3 h4 h5 =>
  refine ⟨1, fun n hn => ?_⟩; obtain ⟨n, rfl⟩ : ∃ k, n = k + 1 := ⟨n - 1, by omega⟩
  simp [evalP, h, h2, h3, h4, h5]
 | pr_call0 h h2 h3 h4 h5 h6 =>
  refine ⟨1, fun n hn => ?_⟩; obtain ⟨n, rfl⟩ : ∃ k, n = k + 1 := ⟨n - 1, by omega⟩
  simp [evalP, h, h2, h3, h4, Nat.not_le.2 h5, h6]
 | pr_call h h2 h3 h4 h5 h6 _ ih =>
  obtain ⟨N, ih⟩ := ih; refine ⟨N + 1, fun n hn => ?_⟩; obtain ⟨n, rfl⟩ : ∃ k, n = k + 1 := ⟨n - 1, by omega⟩; have := ih n (by omega)
  simp [evalP, h, h2, h3, h4, Nat.not_le.2 h5, h6, this]
 | ar_err _ ih =>
  obtain ⟨N, ih⟩ := ih; refine ⟨N + 1, fun n hn => ?_⟩; obtain ⟨n, rfl⟩ : ∃ k, n = k + 1 := ⟨n - 1, by omega⟩
  simp only [evalP, ih n (by omega)]
 | ar_go _ h _ ih1 ih2 =>
  obtain ⟨N, ih1⟩ := ih1; obtain ⟨M, ih2⟩ := ih2; refine ⟨N + M + 1, fun n hn => ?_⟩; obtain ⟨n, rfl⟩ : ∃ k, n = k + 1 := ⟨n - 1, by omega⟩
  simp only [evalP, ih1 n (by omega), h, if_true, ih2 n (by omega)]
 | ar_open _ h h2 ih =>
  obtain ⟨N, ih⟩ := ih; refine ⟨N + 1, fun n hn => ?_⟩; obtain ⟨n, rfl⟩ : ∃ k, n = k + 1 := ⟨n - 1, by omega⟩
  simp only [evalP, ih n (by omega), h, h2, Bool.false_eq_true, if_false]
 | ar_end _ h h2 ih =>
  obtain ⟨N, ih⟩ := ih; refine ⟨N + 1, fun n hn => ?_⟩; obtain ⟨n, rfl⟩ : ∃ k, n = k + 1 := ⟨n - 1, by omega⟩; simp only [evalP, ih n (by omega), h, h2, Bool.false_eq_true, if_false, if_true]
theorem PE.det {T : List TokD} {m : PMode} {s : PSt} {r r' : PRes} (h : PE T m s r) (h' : PE T m s r') : r = r' := by
 obtain ⟨N, h⟩ := h.eval; obtain ⟨M, h'⟩ := h'.eval; have := (h (N + M) (by omega)).symm.trans (h' (N + M) (by omega))
 simpa using this
theorem Parsed.det {T : List TokD} {o o' : Except Int (List NodeD)} (h : Parsed T o) (h' : Parsed T o') : o = o' := by
 unfold Parsed at h h'
 split at h <;> split at h'
 ·rcases h with h | ⟨rfl, s, a, h, hk⟩ <;> rcases h' with h' | ⟨rfl, s', a', h', hk'⟩
  ·have := h.det h'; simp only [PRes.err.injEq] at this; rw [this]
  ·cases h.det h'
  ·cases h.det h'
  ·rfl
 ·obtain ⟨s', a', h', hk', rfl⟩ := h'; rcases h with h | ⟨rfl, s, a, h, hk⟩
  ·cases h.det h'
  ·have := h.det h'; simp only [PRes.ok.injEq] at this; obtain ⟨rfl, rfl⟩ := this; exact absurd hk' hk
 ·obtain ⟨s, a, h, hk, rfl⟩ := h; rcases h' with h' | ⟨rfl, s', a', h', hk'⟩
  ·cases h.det h'
  ·have := h.det h'; simp only [PRes.ok.injEq] at this; obtain ⟨rfl, rfl⟩ := this; exact absurd hk hk'
 ·obtain ⟨s, a, h, hk, rfl⟩ := h; obtain ⟨s', a', h', hk', rfl⟩ := h'; have := h.det h'; simp only [PRes.ok.injEq] at this; rw [this.1]
structure TokOk (t : TokD) : Prop where
 num : t.kind = 1 → 0 ≤ t.num
 text : t.kind = 2 → prB t.text = true
 word : t.kind = 3 → fnB t.text = true ∧ okRead t.text = false
 ref : t.kind = 4 → mayB t.ref = true
 len : t.text.length ≤ 1000
theorem prB_cons {c : UInt8} {l : List UInt8} (hc : ¬ c < 32) (h : prB l = true) : prB (c :: l) = true := by
 simp only [prB, decide_eq_true_eq] at h ⊢; intro j hj
 cases j with
 | zero =>
  show 32 ≤ (c.toNat : Int); have : ¬ c.toNat < 32 := fun hh => hc (UInt8.lt_iff_toNat_lt.2 (by simpa using hh))
  omega
 | succ j => exact h j (by simpa using hj)
theorem scan_pr : ∀ (l : List UInt8) {x : List UInt8 × Nat}, scanT l = some x → prB x.1 = true ∧ x.1.length ≤ l.length
 | [], x, h => by simp [scanT] at h
 | [c], x, h => by
  simp only [scanT] at h
  split at h
  ·simp only [Option.some.injEq] at h; subst h; exact ⟨rfl, by simp⟩
  ·cases h
 | c :: d :: r, x, h => by
  simp only [scanT] at h
  split at h
  ·split at h
   ·cases e : scanT r with
    | none => rw [e] at h; cases h
    | some y =>
     rw [e] at h; simp only [Option.map_some, Option.some.injEq] at h; have := scan_pr r e; subst h; exact ⟨prB_cons (by decide) this.1, by simp; omega⟩
   ·simp only [Option.some.injEq] at h; subst h; exact ⟨rfl, by simp⟩
  ·split at h
   ·cases h
   ·rename_i hc
    cases e : scanT (d :: r) with
    | none => rw [e] at h; cases h
    | some y =>
     rw [e] at h; simp only [Option.map_some, Option.some.injEq] at h; have := scan_pr (d :: r) e; subst h; exact ⟨prB_cons hc this.1, by have := this.2; simp at this ⊢; omega⟩
theorem okRead_may {s : List UInt8} (h : okRead s = true) : mayB (candV s) = true := by
 simp only [okRead, Bool.and_eq_true, decide_eq_true_eq, Bool.not_eq_true', decide_eq_false_iff_not] at h
 cases hm : mayB (candV s) with
 | true => rfl
 | false =>
  have := h.1.2; rw [textT, hm] at this; exact absurd this.symm h.2
theorem oneO_ok {l : List UInt8} {t : TokD} {k : Nat} (hl : l.length ≤ 1000) (h : oneO l = some (t, k)) : TokOk t := by
 unfold oneO at h
 split at h
 ·rename_i h0; have hne : spanL digB l ≠ [] := by
   have := (span_pos (p := digB) (l := l) (by
    cases l with
    | nil => cases h0
    | cons a b => simp) h0).1
   exact List.length_pos_iff.1 this
  rw [numO_is hne] at h
  split at h
  ·simp only [Option.some.injEq, Prod.mk.injEq] at h; rw [← h.1]; exact ⟨fun _ => (num_bound _ (fun j hj => by
   have hh := span_all digB l _ (List.getElem_mem hj)
   simpa [byte, List.getD_eq_getElem?_getD, List.getElem?_eq_getElem hj] using hh)).1, by simp, by simp, by simp, by simp⟩
  ·cases h
 ·split at h
  ·unfold textO at h
   cases e : scanT (l.drop 1) with
   | none => rw [e] at h; cases h
   | some x =>
    rw [e] at h; simp only [Option.map_some, Option.some.injEq, Prod.mk.injEq] at h; have := scan_pr _ e; rw [← h.1]; exact ⟨by simp, fun _ => this.1, by simp, by simp, by have := this.2; simp at this ⊢; omega⟩
  ·split at h
   ·unfold wordO at h; simp only at h; have hsp := span_le wiB l
    split at h
    ·rename_i hr; simp only [Option.some.injEq, Prod.mk.injEq] at h; rw [← h.1]; exact ⟨by simp, by simp, by simp, fun _ => okRead_may hr, by simp⟩
    ·rename_i hr
     split at h
     ·rename_i hf; simp only [Option.some.injEq, Prod.mk.injEq] at h; rw [← h.1]; exact ⟨by simp, by simp, fun _ => ⟨hf, by simpa using hr⟩, by simp, by show (spanL wiB l).length ≤ 1000; omega⟩
     ·cases h
   ·unfold signO at h
    split at h
    ·simp only [Option.some.injEq, Prod.mk.injEq] at h; rw [← h.1]; exact ⟨by simp, by simp, by simp, by simp, by simp⟩
    ·cases e : signsT.find? fun s => Lib.hasPrefix l s with
     | none => rw [e] at h; cases h
     | some x =>
      rw [e] at h; simp only [Option.map_some, Option.some.injEq, Prod.mk.injEq] at h; have := pre_le (List.find?_some e); rw [← h.1]; exact ⟨by simp, by simp, by simp, by simp, by show x.length ≤ 1000; omega⟩
theorem tokOk_end (a : Int) : TokOk ⟨0, [], 0, refN, a⟩ := ⟨by simp, by simp, by simp, by simp, by simp⟩
theorem lexF_ok : ∀ (n : Nat) (l : List UInt8) (a : Nat) {out : List TokD}, l.length ≤ n → l.length ≤ 1000 → lexF l a = some out → ∀ t ∈ out, TokOk t
 | n, l, a, out, hn, hl, h => by
  cases e : l.drop (spanL spB l).length with
  | nil =>
   rw [lexF_end e] at h; simp only [Option.some.injEq] at h; subst h; intro t ht; rw [List.mem_singleton.1 ht]
   exact tokOk_end _
  | cons c r =>
   have hl' := congrArg List.length e; simp at hl'
   cases ho : oneO (c :: r) with
   | none => rw [lexF_bad e (by simp) ho] at h; cases h
   | some x =>
    obtain ⟨t, k⟩ := x; have hk := oneO_pos (by simp) ho; have hok := oneO_ok (by simp; omega) ho; rw [lexF_go e (by simp) ho hk] at h
    cases hr : lexF ((c :: r).drop k) (a + (spanL spB l).length + k) with
    | none => rw [hr] at h; cases h
    | some y =>
     rw [hr] at h; simp only [Option.map_some, Option.some.injEq] at h; subst h
     match n with
     | 0 => omega
     | n + 1 =>
      have hd : ((c :: r).drop k).length = r.length + 1 - k := by simp
      have := lexF_ok n ((c :: r).drop k) _ (by rw [hd]; omega) (by rw [hd]; omega) hr; intro t' ht; rcases List.mem_cons.1 ht with rfl | ht
      ·exact ⟨hok.num, hok.text, hok.word, hok.ref, hok.len⟩
      ·exact this t' ht
theorem lexT_ok {s : List UInt8} {T : List TokD} (hs : s.length ≤ 1000) (h : lexT s = some T) : ∀ t ∈ T, TokOk t := lexF_ok _ s 0 (Nat.le_refl _) hs h
theorem tokAt_ok {T : List TokD} (h : ∀ t ∈ T, TokOk t) (s : PSt) : TokOk (tokAt T s) := by
 unfold tokAt; rcases Nat.lt_or_ge s.at_ T.length with hl | hl
 ·rw [List.getD_eq_getElem?_getD, List.getElem?_eq_getElem hl]; exact h _ (List.getElem_mem hl)
 ·rw [List.getD_eq_getElem?_getD, List.getElem?_eq_none hl]; exact tokOk_end 0
theorem treeGo_app : ∀ (l m : List NodeD) (i : Nat) (st : List Int), treeGo i st (l ++ m) = (treeGo i st l).bind fun st' => treeGo (i + l.length) st' m
 | [], m, i, st => by simp [treeGo]
 | n :: t, m, i, st => by
  rw [List.cons_append, treeGo, treeGo]
  cases treeStep i st n with
  | none => rfl
  | some st' =>
   simp only; rw [treeGo_app t m (i + 1) st', List.length_cons, show i + 1 + t.length = i + (t.length + 1) by omega]
theorem tree_put {l : List NodeD} {i : Nat} {st st' ks : List Int} {n : NodeD} (h : treeGo i st l = some (st' ++ ks)) (hk : n.kids = ks) (hc : kidN n = n.kids.length) (hp : plainB n = true) : treeGo i st (l ++ [n]) = some (st' ++ [((i + l.length : Nat) : Int)]) := by
 subst hk; rw [treeGo_app, h]; simp only [Option.bind_some, treeGo, treeStep]; have e : (st' ++ n.kids).length - n.kids.length = st'.length := by simp
 rw [e, if_pos ⟨hc, by simp, by simp, hp⟩]; simp
theorem plain_leaf {n : NodeD} (h : okK n = true) (hb : (bareN n).num = 0 ∧ (bareN n).text = [] ∧ (bareN n).ref = refN ∧ (bareN n).to = refN) : plainB n = true := by
 simp [plainB, h, hb]
def Put (s s1 : PSt) (ks : List Int) (a : Nat) : Prop :=
 ∃ new, s1.out = s.out ++ new ∧ Short new ∧ ∀ st, treeGo s.out.length (st ++ ks) new = some (st ++ [(a : Int)])
theorem Put.same {s s1 s2 s3 : PSt} {ks : List Int} {a : Nat} (h : Put s s1 ks a) (e1 : s2.out = s.out) (e2 : s3.out = s1.out) : Put s2 s3 ks a := by
 obtain ⟨new, h1, h2, h3⟩ := h; exact ⟨new, by rw [e2, e1, h1], h2, by rw [e1]; exact h3⟩
theorem short_app {l m : List NodeD} (h : Short l) (k : Short m) : Short (l ++ m) := fun n hn => by
 rcases List.mem_append.1 hn with hn | hn
 ·exact h n hn
 ·exact k n hn
theorem Put.nil (s s1 : PSt) (a : Nat) (e : s1.out = s.out) : Put s s1 [(a : Int)] a := ⟨[], by simp [e], (fun n hn => by cases hn), fun st => by simp [treeGo]⟩
theorem Put.trans {s s1 s2 : PSt} {ks : List Int} {a b : Nat} (h : Put s s1 ks a) (k : Put s1 s2 [(a : Int)] b) : Put s s2 ks b := by
 obtain ⟨n1, e1, p1, t1⟩ := h; obtain ⟨n2, e2, p2, t2⟩ := k; refine ⟨n1 ++ n2, by rw [e2, e1, List.append_assoc], short_app p1 p2, fun st => ?_⟩; rw [treeGo_app, t1]; simp only [Option.bind_some]; have := t2 st; rw [e1, List.length_append] at this; exact this
theorem Put.more {s s1 s2 : PSt} {ks ks1 : List Int} {a b : Nat} (h : Put s s1 ks a) (k : Put s1 s2 (ks1 ++ [(a : Int)]) b) : Put s s2 (ks1 ++ ks) b := by
 obtain ⟨n1, e1, p1, t1⟩ := h; obtain ⟨n2, e2, p2, t2⟩ := k; refine ⟨n1 ++ n2, by rw [e2, e1, List.append_assoc], short_app p1 p2, fun st => ?_⟩; rw [treeGo_app, ← List.append_assoc, t1]; simp only [Option.bind_some]; have := t2 st; rw [e1, List.length_append] at this; rw [List.append_assoc]; exact this
theorem Put.node {s s2 s3 : PSt} {n : NodeD} {ks : List Int} (hk : n.kids = ks) (hc : kidN n = n.kids.length) (hp : plainB n = true) (hs : n.text.length ≤ 1000 ∧ n.ref.sheet.length ≤ 1000 ∧ n.to.sheet.length ≤ 1000) (e : s3.out = s.out ++ [n]) (e2 : s2.out = s.out) : Put s2 s3 ks s.out.length := by
 refine ⟨[n], by rw [e, e2], fun x hx => by rw [List.mem_singleton.1 hx]; exact hs, fun st => ?_⟩; have := tree_put (l := []) (i := s2.out.length) (st := st ++ ks) (st' := st) (ks := ks) rfl hk hc hp
 simpa [e2] using this
theorem sheet_short {x : RefD} (h : mayB x = true) : x.sheet.length ≤ 1000 := by
 simp only [mayB, Bool.and_eq_true, Bool.or_eq_true, decide_eq_true_eq] at h; rcases h.1.1.1.1 with h | h
 ·rw [h]; simp
 ·simp only [nameB, Bool.and_eq_true, decide_eq_true_eq] at h; omega
theorem refN_sheet : refN.sheet.length ≤ 1000 := by decide
def PutR (m : PMode) (s : PSt) : PRes → Prop
 | .err _ => True
 | .ok s1 b => match m with
  | .loop _ a => Put s s1 [(a : Int)] b
  | .args x ks => nameF x = true → Put s s1 ks b
  | _ => Put s s1 [] b
theorem putR_below {n : Nat} {s s1 : PSt} {a : Nat} (h : PutR (below n) s (.ok s1 a)) : Put s s1 [] a := by
 unfold below at h
 split at h <;> exact h
theorem kinds_two {T : List TokD} {s : PSt} {n i : Nat} (h : opIx T s n = some i) : 9 ≤ (kindsN n).getD i 0 ∧ (kindsN n).getD i 0 ≤ 19 := by
 unfold opIx at h
 split at h
 ·have hi := (List.findIdx?_eq_some_iff_getElem.1 h).1; have e : (signsN n).length = (kindsN n).length := by
   unfold signsN kindsN
   match n with
   | 0 => rfl
   | 1 => rfl
   | 2 => rfl
   | _ + 3 => rfl
  have hall : ∀ z ∈ kindsN n, 9 ≤ z ∧ z ≤ 19 := by
   unfold kindsN
   match n with
   | 0 => decide
   | 1 => decide
   | 2 => decide
   | _ + 3 =>
    show ∀ z ∈ [18, 19], (9 : Int) ≤ z ∧ z ≤ 19
    decide
  rw [List.getD_eq_getElem?_getD, List.getElem?_eq_getElem (by omega)]; exact hall _ (List.getElem_mem _)
 ·cases h
theorem two_node {k : Int} (h0 : 9 ≤ k) (h1 : k ≤ 19) (a b : Int) : kidN { kind := k, kids := [a, b] } = 2 ∧ plainB { kind := k, kids := [a, b] } = true := by
 have hc : countI k = 2 := by
  unfold countI; rw [if_neg (by omega), if_neg (by omega), if_neg (by omega), if_pos (by omega)]
 constructor
 ·simp [kidN, hc]
 ·have hb : bareN { kind := k, kids := [a, b] } = { kind := k, kids := [a, b] } := by
   unfold bareN; rw [if_neg (show ¬ k = 1 by omega), if_neg (show ¬ k = 3 by omega), if_neg (show ¬ k = 2 by omega), if_neg (show ¬ k = 7 by omega), if_neg (show ¬ k = 5 by omega), if_neg (show ¬ k = 6 by omega)]
  have ho : okK { kind := k, kids := [a, b] } = true := by
   unfold okK; rw [if_neg (show ¬ k = 1 by omega), if_neg (show ¬ k = 3 by omega), if_neg (show ¬ k = 2 by omega), if_neg (show ¬ k = 7 by omega), if_neg (show ¬ k = 5 by omega), if_neg (show ¬ k = 6 by omega)]
  exact plain_leaf ho (by rw [hb]; exact ⟨rfl, rfl, rfl, rfl⟩)
theorem call_node {x : List UInt8} (h : nameF x = true) (ks : List Int) : kidN { kind := 7, text := x, kids := ks } = ks.length ∧ plainB { kind := 7, text := x, kids := ks } = true := by
 refine ⟨if_pos rfl, plain_leaf h ⟨rfl, rfl, rfl, rfl⟩⟩
theorem name_short {x : List UInt8} (h : nameF x = true) : x.length ≤ 1000 := by
 simp only [nameF, fnB, Bool.and_eq_true, decide_eq_true_eq] at h; omega
theorem word_name {T : List TokD} (hT : ∀ t ∈ T, TokOk t) {s : PSt} (h : (tokAt T s).kind = 3) (h1 : (tokAt T s).text ≠ trueT) (h2 : (tokAt T s).text ≠ falseT) : nameF (tokAt T s).text = true := by
 have := (tokAt_ok hT s).word h; simp [nameF, this, h1, h2]
theorem PE.puts {T : List TokD} (hT : ∀ t ∈ T, TokOk t) {m : PMode} {s : PSt} {r : PRes} (h : PE T m s r) : PutR m s r := by
 induction h with
 | lev_err _ _ => trivial
 | @lev_ok n s s1 a r _ _ ih1 ih2 =>
  cases r with
  | err e => trivial
  | ok s2 b => exact (putR_below ih1).trans ih2
 | loop_end _ => exact Put.nil _ _ _ rfl
 | loop_err _ _ _ => trivial
 | @loop_go n s a i s1 b r hi _ _ ih1 ih2 =>
  cases r with
  | err e => trivial
  | ok s2 c =>
   obtain ⟨k0, k1⟩ := kinds_two hi; have hn := two_node k0 k1 (a : Int) (b : Int); have hp : Put s1 (putS s1 { kind := (kindsN n).getD i 0, kids := [(a : Int), (b : Int)] }) ([(a : Int)] ++ [(b : Int)]) s1.out.length := Put.node (s := s1) rfl hn.1 hn.2 ⟨by simp, refN_sheet, refN_sheet⟩ rfl rfl; have h1 : Put s s1 [] b := (putR_below ih1).same rfl rfl; have := h1.more hp
   exact this.trans ih2
 | @un_prim s r _ _ ih =>
  cases r with
  | err e => trivial
  | ok s2 b => exact ih
 | un_deep _ _ => trivial
 | un_err _ _ _ _ => trivial
 | @un_ok s s1 a _ _ _ ih =>
  have h1 : Put s s1 [] a := Put.same ih rfl rfl; have hp : Put s1 (putS (upper s1) { kind := 8, kids := [(a : Int)] }) ([] ++ [(a : Int)]) s1.out.length := Put.node (s := s1) rfl rfl rfl ⟨by simp, refN_sheet, refN_sheet⟩ rfl rfl
  exact h1.more hp
 | pr_sign _ _ => trivial
 | pr_deep _ _ => trivial
 | pr_err _ _ _ _ => trivial
 | pr_open _ _ _ _ _ => trivial
 | pr_ok _ _ _ _ ih => exact Put.same ih rfl rfl
 | pr_end _ => trivial
 | @pr_num s h =>
  have h0 := (tokAt_ok hT s).num h
  exact Put.node (s := s) rfl rfl (plain_leaf (by show decide (0 ≤ (tokAt T s).num) = true; simpa using h0) ⟨rfl, rfl, rfl, rfl⟩) ⟨by simp, refN_sheet, refN_sheet⟩ rfl rfl
 | @pr_text s h =>
  exact Put.node (s := s) rfl rfl (plain_leaf (by show prB (tokAt T s).text = true; exact (tokAt_ok hT s).text h) ⟨rfl, rfl, rfl, rfl⟩) ⟨(tokAt_ok hT s).len, refN_sheet, refN_sheet⟩ rfl rfl
 | @pr_dead s h => exact Put.node (s := s) rfl rfl rfl ⟨by simp, refN_sheet, refN_sheet⟩ rfl rfl
 | @pr_ref s h _ =>
  have h0 := (tokAt_ok hT s).ref h
  exact Put.node (s := s) rfl rfl (plain_leaf (by show mayB (tokAt T s).ref = true; exact h0) ⟨rfl, rfl, rfl, rfl⟩) ⟨by simp, sheet_short h0, refN_sheet⟩ rfl rfl
 | @pr_range s h _ h' hr =>
  have h0 := (tokAt_ok hT s).ref h; have h1 := (tokAt_ok hT (adv (adv s))).ref h'
  exact Put.node (s := s) rfl rfl (plain_leaf (by show (mayB (tokAt T s).ref && (mayB (tokAt T (adv (adv s))).ref && rangesB (tokAt T s).ref (tokAt T (adv (adv s))).ref)) = true; rw [h0, h1, hr]; rfl) ⟨rfl, rfl, rfl, rfl⟩) ⟨by simp, sheet_short h0, sheet_short h1⟩ rfl rfl
 | pr_norange _ _ _ => trivial
 | @pr_true s _ _ => exact Put.node (s := s) rfl rfl rfl ⟨by simp, refN_sheet, refN_sheet⟩ rfl rfl
 | @pr_false s _ _ => exact Put.node (s := s) rfl rfl rfl ⟨by simp, refN_sheet, refN_sheet⟩ rfl rfl
 | pr_nocall _ _ _ _ => trivial
 | pr_calldeep _ _ _ _ _ => trivial
 | @pr_call0 s h h1 h2 _ _ _ =>
  have hn := word_name hT h h1 h2; have hc := call_node hn []
  exact Put.node (s := s) rfl hc.1 hc.2 ⟨name_short hn, refN_sheet, refN_sheet⟩ rfl rfl
 | @pr_call s r h h1 h2 _ _ _ _ ih =>
  cases r with
  | err e => trivial
  | ok s2 b => exact Put.same (ih (word_name hT h h1 h2)) rfl rfl
 | ar_err _ _ => trivial
 | @ar_go x ks s s1 a r _ _ _ ih1 ih2 =>
  cases r with
  | err e => trivial
  | ok s2 b =>
   intro hn; have h2 : Put s1 s2 (ks ++ [(a : Int)]) b := Put.same (ih2 hn) rfl rfl; have h1 : Put s s1 [] a := ih1; have := h1.more h2
   rwa [List.append_nil] at this
 | ar_open _ _ _ _ => trivial
 | @ar_end x ks s s1 a _ _ _ ih =>
  intro hn; have hc := call_node hn (ks ++ [(a : Int)]); have hp : Put s1 (putS (upper (adv s1)) { kind := 7, text := x, kids := ks ++ [(a : Int)] }) (ks ++ [(a : Int)]) s1.out.length := Put.node (s := s1) rfl hc.1 hc.2 ⟨name_short hn, refN_sheet, refN_sheet⟩ rfl rfl; have h1 : Put s s1 [] a := ih; have := h1.more hp
  rwa [List.append_nil] at this
theorem Parsed.tree {T : List TokD} {l : List NodeD} (hT : ∀ t ∈ T, TokOk t) (h : Parsed T (.ok l)) : treeB l = true ∧ Short l := by
 obtain ⟨s, a, hp, _, he⟩ := h; obtain ⟨new, h1, h2, h3⟩ : Put ⟨0, [], 0⟩ s [] a := hp.puts hT; have : l = new := by rw [← he, h1]; rfl
 subst this; refine ⟨?_, h2⟩; have h4 : treeGo 0 [] l = some [(a : Int)] := h3 []; rw [treeB, h4]; rfl
def opSigns : List (List UInt8) := [[61], [60, 62], [60], [60, 61], [62], [62, 61], [38], [43], [45], [42], [47]]
theorem one_dig {u : Nat} (hu : u ≤ 9223372036854775807) {R : List UInt8} (hR : R = [] ∨ digB (byte R 0) = false) : oneO (Lib.decDigits u ++ R) = some (⟨1, [], u, refN, 0⟩, (Lib.decDigits u).length) := by
 obtain ⟨h1, h2, h3, h4, h5⟩ := dec_facts u u (Nat.le_refl _); have h0 : digB (byte (Lib.decDigits u ++ R) 0) = true := by
  rw [byte_head h2]; obtain ⟨c, hm, e⟩ := byte_mem (List.length_pos_iff.2 h2); rw [e]; exact h1 c hm
 have hs : spanL digB (Lib.decDigits u ++ R) = Lib.decDigits u := by
  rw [span_append digB _ R h1]; have : spanL digB R = [] := by
   rcases hR with rfl | h
   ·rfl
   ·cases R with
    | nil => rfl
    | cons c r =>
     have : digB (c.toNat : Int) = false := h; simp [spanL, this]
  rw [this, List.append_nil]
 have hc : ((u : Nat) : Int) ≤ 9223372036854775807 ∧ (byte (Lib.decDigits u) 0 ≠ 48 ∨ (Lib.decDigits u).length = 1) := by
  refine ⟨by omega, ?_⟩; by_cases hz : u = 0
  ·exact .inr (h5 hz)
  ·exact .inl (h4 hz)
 rw [oneO, h0, if_pos rfl, numO_is (by rw [hs]; exact h2), hs, h3, if_pos hc]
theorem lexF_step {X R : List UInt8} {t : TokD} {a : Nat} (hX : X ≠ []) (hb : byte X 0 ≠ 32) (h1 : oneO (X ++ R) = some (t, X.length)) : lexF (X ++ R) a = (lexF R (a + X.length)).map ({ t with at_ := (a : Int) } :: ·) := by
 have hs : spanL spB (X ++ R) = [] := by
  cases X with
  | nil => exact absurd rfl hX
  | cons c r =>
   have : spB (c.toNat : Int) = false := by simp [spB]; exact hb
   simp [spanL, this]
 have := lexF_go (l := X ++ R) (l' := X ++ R) (a := a) (t := t) (k := X.length) (by rw [hs]; rfl) (by simp [hX]) h1 (List.length_pos_iff.2 hX); rw [this, hs]; simp [List.drop_left']
theorem dec_head (u : Nat) : digB (byte (Lib.decDigits u) 0) = true ∧ Lib.decDigits u ≠ [] ∧ byte (Lib.decDigits u) 0 ≠ 32 := by
 obtain ⟨h1, h2, _⟩ := dec_facts u u (Nat.le_refl _); obtain ⟨c, hm, e⟩ := byte_mem (List.length_pos_iff.2 h2); exact ⟨by rw [e]; exact h1 c hm, h2, dig_ne32 h2 h1⟩
inductive Tr : Bool → Type where
 | leaf (n : NodeD) : Tr false
 | neg (a : Tr false) : Tr false
 | two (k : Int) (a b : Tr false) : Tr false
 | call (x : List UInt8) (ks : Tr true) : Tr false
 | nil : Tr true
 | snoc (ks : Tr true) (a : Tr false) : Tr true
def Tr.cnt : {b : Bool} → Tr b → Nat
 | _, .leaf _ => 1
 | _, .neg a => a.cnt + 1
 | _, .two _ a b => a.cnt + b.cnt + 1
 | _, .call _ ks => ks.cnt + 1
 | _, .nil => 0
 | _, .snoc ks a => ks.cnt + a.cnt
def Tr.kids (o : Nat) : {b : Bool} → Tr b → List Int
 | _, .snoc ks a => ks.kids o ++ [((o + ks.cnt + a.cnt - 1 : Nat) : Int)]
 | _, _ => []
def Tr.flat : (o : Nat) → {b : Bool} → Tr b → List NodeD
 | _, _, .leaf n => [n]
 | o, _, .neg a => a.flat o ++ [{ kind := 8, kids := [((o + a.cnt - 1 : Nat) : Int)] }]
 | o, _, .two k a b => a.flat o ++ b.flat (o + a.cnt) ++ [{ kind := k, kids := [((o + a.cnt - 1 : Nat) : Int), ((o + a.cnt + b.cnt - 1 : Nat) : Int)] }]
 | o, _, .call x ks => ks.flat o ++ [{ kind := 7, text := x, kids := ks.kids o }]
 | _, _, .nil => []
 | o, _, .snoc ks a => ks.flat o ++ a.flat (o + ks.cnt)
def Tr.Fit : {b : Bool} → Tr b → Prop
 | _, .leaf n => 1 ≤ n.kind ∧ n.kind ≤ 6 ∧ n.kids = [] ∧ plainB n = true
 | _, .neg a => a.Fit
 | _, .two k a b => 9 ≤ k ∧ k ≤ 19 ∧ a.Fit ∧ b.Fit
 | _, .call x ks => nameF x = true ∧ ks.Fit
 | _, .nil => True
 | _, .snoc ks a => ks.Fit ∧ a.Fit
theorem Tr.flat_len : ∀ {b : Bool} (t : Tr b) (o : Nat), (t.flat o).length = t.cnt
 | _, .leaf n, o => rfl
 | _, .neg a, o => by simp [Tr.flat, Tr.cnt, flat_len a]
 | _, .two k a b, o => by simp [Tr.flat, Tr.cnt, flat_len a, flat_len b]; omega
 | _, .call x ks, o => by simp [Tr.flat, Tr.cnt, flat_len ks]
 | _, .nil, o => rfl
 | _, .snoc ks a, o => by simp [Tr.flat, Tr.cnt, flat_len ks, flat_len a]
theorem Tr.snoc_form (ts : Tr true) : ts = .nil ∨ ∃ ks a, ts = .snoc ks a := by
 cases ts with
 | nil => exact .inl rfl
 | snoc ks a => exact .inr ⟨ks, a, rfl⟩
theorem Tr.split (k : Nat) : ∀ (ts : Tr true), ts.Fit → k ≤ (ts.kids 0).length → ∃ ts1 ks : Tr true, ts.flat 0 = ts1.flat 0 ++ ks.flat ts1.cnt ∧ ts.kids 0 = ts1.kids 0 ++ ks.kids ts1.cnt ∧ (ks.kids ts1.cnt).length = k ∧ ts.cnt = ts1.cnt + ks.cnt ∧ ts1.Fit ∧ ks.Fit := by
 induction k with
 | zero => exact fun ts hf _ => ⟨ts, .nil, by simp [Tr.flat], by simp [Tr.kids], rfl, rfl, hf, trivial⟩
 | succ k ih =>
  intro ts hf hk; rcases Tr.snoc_form ts with rfl | ⟨rs, a, rfl⟩
  ·simp [Tr.kids] at hk
  ·simp only [Tr.kids, List.length_append, List.length_singleton] at hk; obtain ⟨ts1, ks, h1, h2, h3, h4, h5, h6⟩ := ih rs hf.1 (by omega); refine ⟨ts1, .snoc ks a, ?_, ?_, ?_, ?_, h5, h6, hf.2⟩
   ·simp only [Tr.flat, h1, h4, List.append_assoc, Nat.zero_add]
   ·simp only [Tr.kids, h2, h4, List.append_assoc, Nat.zero_add]
   ·simp only [Tr.kids, List.length_append, h3, List.length_singleton]
   ·simp only [Tr.cnt, h4, Nat.add_assoc]
theorem kid_kinds {n : NodeD} (h : kidN n = n.kids.length) : (1 ≤ n.kind ∧ n.kind ≤ 6 ∧ n.kids = []) ∨ n.kind = 7 ∨ (n.kind = 8 ∧ n.kids.length = 1) ∨ (9 ≤ n.kind ∧ n.kind ≤ 19 ∧ n.kids.length = 2) := by
 unfold kidN countI at h; by_cases h1 : n.kind < 1 ∨ 19 < n.kind
 ·rw [if_pos h1, if_neg (by decide)] at h; omega
 rw [if_neg h1] at h; by_cases h2 : n.kind = 7
 ·exact .inr (.inl h2)
 rw [if_neg h2] at h; by_cases h3 : n.kind = 8
 ·rw [if_pos h3, if_neg (by decide)] at h; exact .inr (.inr (.inl ⟨h3, by omega⟩))
 rw [if_neg h3] at h; by_cases h4 : 8 < n.kind
 ·rw [if_pos h4, if_neg (by decide)] at h; exact .inr (.inr (.inr ⟨by omega, by omega, by omega⟩))
 ·rw [if_neg h4, if_neg (by decide)] at h; exact .inl ⟨by omega, by omega, List.eq_nil_of_length_eq_zero (by omega)⟩
theorem bare_node {n : NodeD} (hp : plainB n = true) (hk : 8 ≤ n.kind) : n = { kind := n.kind, kids := n.kids } := by
 simp only [plainB, Bool.and_eq_true, decide_eq_true_eq] at hp; have hb : bareN n = n := by
  unfold bareN; rw [if_neg (by omega), if_neg (by omega), if_neg (by omega), if_neg (by omega), if_neg (by omega), if_neg (by omega)]
 rw [hb] at hp; obtain ⟨_, h1, h2, h3, h4⟩ := hp; cases n; simp_all
theorem call_form {n : NodeD} (hp : plainB n = true) (hk : n.kind = 7) : n = { kind := 7, text := n.text, kids := n.kids } ∧ nameF n.text = true := by
 simp only [plainB, Bool.and_eq_true, decide_eq_true_eq] at hp; have hb : bareN n = { n with text := [] } := by
  unfold bareN; rw [if_neg (by omega), if_neg (by omega), if_neg (by omega), if_pos hk]
 have ho : okK n = nameF n.text := by
  unfold okK; rw [if_neg (by omega), if_neg (by omega), if_neg (by omega), if_pos hk]
 rw [hb, ho] at hp; obtain ⟨h0, h1, h2, h3, h4⟩ := hp; refine ⟨?_, h0⟩; cases n; simp_all
theorem rev_ind {α : Type} {p : List α → Prop} (h0 : p []) (h1 : ∀ l a, p l → p (l ++ [a])) : ∀ l, p l := by
 intro l; have : ∀ (n : Nat) (l : List α), l.length = n → p l := by
  intro n
  induction n with
  | zero => intro l hl; rw [List.eq_nil_of_length_eq_zero hl]; exact h0
  | succ n ih =>
   intro l hl; have hne : l ≠ [] := by intro e; subst e; simp at hl
   rw [← List.dropLast_concat_getLast hne]; exact h1 _ _ (ih _ (by simp [hl]))
 exact this _ l rfl
theorem forest_of : ∀ (l : List NodeD) (st : List Int), treeGo 0 [] l = some st → ∃ ts : Tr true, ts.flat 0 = l ∧ ts.kids 0 = st ∧ ts.Fit := by
 refine rev_ind ?_ ?_
 ·intro st h; simp only [treeGo, Option.some.injEq] at h; exact ⟨.nil, rfl, h, trivial⟩
 ·intro l n ih st h; rw [treeGo_app] at h
  cases e : treeGo 0 [] l with
  | none => rw [e] at h; cases h
  | some s0 =>
   rw [e] at h; simp only [Option.bind_some, treeGo, Nat.zero_add] at h; obtain ⟨ts, hf, hk, hfit⟩ := ih s0 e
   cases e2 : treeStep l.length s0 n with
   | none => rw [e2] at h; cases h
   | some s1 =>
    rw [e2] at h; simp only [Option.some.injEq] at h; subst h; unfold treeStep at e2
    split at e2
    ·rename_i hc; simp only [Option.some.injEq] at e2; obtain ⟨c1, c2, c3, c4⟩ := hc; obtain ⟨ts1, ks, a1, a2, a3, a4, a5, a6⟩ := ts.split n.kids.length hfit (by rw [hk]; exact c2); have hkids : ks.kids ts1.cnt = n.kids := by
      rw [← c3, ← hk, a2]; have : (ts1.kids 0 ++ ks.kids ts1.cnt).length - n.kids.length = (ts1.kids 0).length := by rw [List.length_append, a3]; omega
      rw [this, List.drop_left']; rfl
     have htake : s0.take (s0.length - n.kids.length) = ts1.kids 0 := by
      rw [← hk, a2]; have : (ts1.kids 0 ++ ks.kids ts1.cnt).length - n.kids.length = (ts1.kids 0).length := by rw [List.length_append, a3]; omega
      rw [this, List.take_left']; rfl
     have hlen : l.length = ts1.cnt + ks.cnt := by rw [← hf, Tr.flat_len, a4]
     have key : ∀ a : Tr false, a.Fit → a.cnt = ks.cnt + 1 → a.flat ts1.cnt = ks.flat ts1.cnt ++ [n] → ∃ ts : Tr true, ts.flat 0 = l ++ [n] ∧ ts.kids 0 = s1 ∧ ts.Fit := by
      intro a h1 h2 h3; refine ⟨.snoc ts1 a, ?_, ?_, a5, h1⟩
      ·simp only [Tr.flat, Nat.zero_add, h3]; rw [← List.append_assoc, ← a1, hf]
      ·simp only [Tr.kids, Nat.zero_add]; rw [← e2, htake, hlen, h2]; rfl
     rcases kid_kinds c1 with ⟨b1, b2, b3⟩ | b1 | ⟨b1, b2⟩ | ⟨b1, b2, b3⟩
     ·have has : ks.kids ts1.cnt = [] := by rw [hkids, b3]
      rcases ks.snoc_form with rfl | ⟨rs, a, rfl⟩
      ·exact key (.leaf n) ⟨b1, b2, b3, c4⟩ rfl rfl
      ·simp [Tr.kids] at has
     ·obtain ⟨d1, d2⟩ := call_form c4 b1; refine key (.call n.text ks) ⟨d2, a6⟩ rfl ?_; simp only [Tr.flat, hkids]; rw [← d1]
     ·rcases ks.snoc_form with rfl | ⟨rs, a, rfl⟩
      ·simp [Tr.kids] at a3; omega
      ·rcases rs.snoc_form with rfl | ⟨rs', a', rfl⟩
       ·refine key (.neg a) a6.2 (by simp [Tr.cnt]) ?_; have hn := bare_node c4 (by omega); rw [← hkids, b1] at hn; simp only [Tr.flat, Tr.kids, Tr.cnt, List.nil_append, Nat.add_zero] at hn ⊢; rw [hn]
       ·simp [Tr.kids] at a3; omega
     ·rcases ks.snoc_form with rfl | ⟨rs, b, rfl⟩
      ·simp [Tr.kids] at a3; omega
      ·rcases rs.snoc_form with rfl | ⟨rs', a, rfl⟩
       ·simp [Tr.kids] at a3; omega
       ·rcases rs'.snoc_form with rfl | ⟨rs'', a', rfl⟩
        ·refine key (.two n.kind a b) ⟨b1, b2, a6.1.2, a6.2⟩ (by simp [Tr.cnt]) ?_; have hn := bare_node c4 (by omega); rw [← hkids] at hn; simp only [Tr.flat, Tr.kids, Tr.cnt, List.nil_append, Nat.zero_add, Nat.add_zero, List.cons_append] at hn ⊢; rw [← hn]
        ·simp [Tr.kids] at a3; omega
    ·cases e2
theorem tree_of {l : List NodeD} (h : treeB l = true) : ∃ t : Tr false, t.flat 0 = l ∧ t.Fit := by
 unfold treeB at h
 split at h
 ·rename_i st e; obtain ⟨ts, h1, h2, h3⟩ := forest_of l st e; have h := of_decide_eq_true h; rcases ts.snoc_form with rfl | ⟨rs, a, rfl⟩
  ·rw [← h2] at h; simp [Tr.kids] at h
  ·rcases rs.snoc_form with rfl | ⟨rs', a', rfl⟩
   ·exact ⟨a, by simpa [Tr.flat, Tr.cnt] using h1, h3.2⟩
   ·rw [← h2] at h; simp [Tr.kids] at h
 ·cases h
def quoteT (s : List UInt8) : List UInt8 := 34 :: (s.flatMap (fun c => if c = 34 then [34, 34] else [c]) ++ [34])
def tokT (t : TokD) : List UInt8 := if t.kind = 1 then Lib.itoa t.num else if t.kind = 2 then quoteT t.text else if t.kind = 4 then textB t.ref else if t.kind = 6 then deadT else t.text
def nA (t : TokD) : TokD := { t with at_ := 0 }
def endK : TokD := ⟨0, [], 0, refN, 0⟩
def sg (s : List UInt8) : TokD := ⟨5, s, 0, refN, 0⟩
theorem tokT_sg (s : List UInt8) : tokT (sg s) = s := rfl
theorem tokT_nA (t : TokD) : tokT (nA t) = tokT t := rfl
inductive TokC : TokD → Prop
 | num {z : Int} : 0 ≤ z → z ≤ 9223372036854775807 → TokC ⟨1, [], z, refN, 0⟩
 | text {s : List UInt8} : prB s = true → TokC ⟨2, s, 0, refN, 0⟩
 | word {s : List UInt8} : fnB s = true → okRead s = false → TokC ⟨3, s, 0, refN, 0⟩
 | ref {r : RefD} : mayB r = true → TokC ⟨4, [], 0, r, 0⟩
 | sign {s : List UInt8} : s ∈ signsT → TokC (sg s)
 | dead : TokC ⟨6, [], 0, refN, 0⟩
def okNext (t : TokD) (R : List UInt8) : Prop :=
 (t.kind = 1 → digB (byte R 0) = false) ∧ (t.kind = 2 → byte R 0 ≠ 34) ∧ (t.kind = 3 ∨ t.kind = 4 → wiB (byte R 0) = false) ∧ (t.kind = 5 → t.text = [60] ∨ t.text = [62] → byte R 0 ≠ 61 ∧ byte R 0 ≠ 62)
theorem head_34 {R : List UInt8} (h : byte R 0 ≠ 34) : R.head? ≠ some 34 := by
 cases R with
 | nil => simp
 | cons c r =>
  simp only [List.head?_cons, ne_eq, Option.some.injEq]; rintro rfl; exact h rfl
theorem span_stop {p : Int → Bool} {R : List UInt8} (h : p (byte R 0) = false) : spanL p R = [] := by
 cases R with
 | nil => rfl
 | cons c r =>
  have : p (c.toNat : Int) = false := h; simp [spanL, this]
theorem scan_esc : ∀ (s R : List UInt8), prB s = true → R.head? ≠ some 34 → scanT (s.flatMap (fun c => if c = 34 then [34, 34] else [c]) ++ 34 :: R) = some (s, (s.flatMap (fun c => if c = 34 then [34, 34] else [c])).length + 1)
 | [], R, _, h => scan_q h
 | c :: s, R, hp, h => by
  have hp' : prB s = true := by
   simp only [prB, decide_eq_true_eq] at hp ⊢; intro j hj; exact hp (j + 1) (by simpa using hj)
  have hc : ¬ c < 32 := by
   simp only [prB, decide_eq_true_eq] at hp; have h0 : 32 ≤ (c.toNat : Int) := hp 0 (by simp); intro hh; have := UInt8.lt_iff_toNat_lt.1 hh; simp at this; omega
  have ih := scan_esc s R hp' h; by_cases h34 : c = 34
  ·subst h34; simp only [List.flatMap_cons, if_true, List.cons_append, List.nil_append]; rw [scan_qq, ih]; simp
  ·simp only [List.flatMap_cons, if_neg h34, List.cons_append, List.nil_append]; rw [scan_c h34 hc, ih]; simp
theorem one_quote {s R : List UInt8} (hp : prB s = true) (h : byte R 0 ≠ 34) : oneO (quoteT s ++ R) = some (⟨2, s, 0, refN, 0⟩, (quoteT s).length) := by
 have hb : byte (quoteT s ++ R) 0 = 34 := rfl; rw [oneO, hb, show digB 34 = false from rfl, if_neg (by simp), if_pos rfl, textO]; have e : (quoteT s ++ R).drop 1 = s.flatMap (fun c => if c = 34 then [34, 34] else [c]) ++ 34 :: R := by simp [quoteT]
 rw [e, scan_esc s R hp (head_34 h)]; simp [quoteT]
theorem ref_head {r : RefD} (h : mayB r = true) : (∀ c ∈ textB r, wiB (c.toNat : Int) = true) ∧ begB (byte (textB r) 0) = true := by
 obtain ⟨hs, c0, c1, r0, r1⟩ := may_parts h; obtain ⟨hc, hcl, _⟩ := col_ok c0 c1; obtain ⟨hd, hdl, _, _⟩ := itoa_ok (z := r.row + 1) (by omega) (by omega); have hmark : ∀ b c, c ∈ markT b → c = 36 := fun b c hm => by cases b <;> simp [markT] at hm; exact hm
 have wcap : ∀ z, capB z = true → begB z = true := fun z hz => by simp [begB, hz]
 have wld : ∀ z, ldB z = true → wiB z = true := fun z hz => by
  simp only [ldB, letB, Bool.or_eq_true] at hz; simp only [wiB, begB, Bool.or_eq_true]; rcases hz with (hz | hz) | hz
  ·exact .inl (.inl (.inl (.inl hz)))
  ·exact .inl (.inl (.inl (.inr hz)))
  ·exact .inl (.inr hz)
 refine ⟨?_, ?_⟩
 ·intro c hm; simp only [textB, List.mem_append] at hm; rcases hm with hm | ((hm | hm) | hm) | hm
  ·by_cases hsh : r.sheet = []
   ·simp [hsh] at hm
   ·simp only [hsh, if_false, List.mem_append, List.mem_singleton] at hm; rcases hm with hm | hm
    ·obtain ⟨_, _, hld⟩ := name_parts (hs.resolve_left hsh); obtain ⟨j, hj, rfl⟩ := List.mem_iff_getElem.1 hm; have := hld j hj; rw [byte_eq hj] at this; exact wld _ this
    ·subst hm; rfl
  ·rw [hmark _ c hm]; rfl
  ·have := wcap _ (hc c hm); simp [wiB, this]
  ·rw [hmark _ c hm]; rfl
  ·have := hd c hm; simp [wiB, this]
 ·have htail : ∀ x, begB (byte (markT r.ac ++ colT r.col ++ x) 0) = true := fun x => by
   cases ha : r.ac with
   | true => rfl
   | false =>
    have : markT false ++ colT r.col ++ x = colT r.col ++ x := rfl; rw [this, byte_append_left hcl]; obtain ⟨c, hm, e⟩ := byte_mem hcl; rw [e]; exact wcap _ (hc c hm)
  by_cases hsh : r.sheet = []
  ·have := htail (markT r.ar ++ Lib.itoa (r.row + 1))
   simpa [textB, hsh] using this
  ·have hn := hs.resolve_left hsh; have hl : letB (byte r.sheet 0) = true := by
    simp only [nameB, Bool.and_eq_true, decide_eq_true_eq] at hn; exact hn.1.2
   have : byte (textB r) 0 = byte r.sheet 0 := by
    simp only [textB, hsh, if_false, List.append_assoc]; exact byte_append_left (List.length_pos_iff.2 hsh)
   rw [this, beg_eq, hl]; rfl
theorem beg_no {z : Int} (h : begB z = true) : digB z = false ∧ z ≠ 34 ∧ z ≠ 32 ∧ z ≠ 35 ∧ z ≠ 61 ∧ z ≠ 62 := by
 simp only [begB, capB, Bool.or_eq_true, Bool.and_eq_true, decide_eq_true_eq] at h; refine ⟨?_, by omega, by omega, by omega, by omega, by omega⟩; simp [digB]; omega
theorem fn_parts {s : List UInt8} (h : fnB s = true) : s ≠ [] ∧ s.length ≤ 12 ∧ capB (byte s 0) = true ∧ ∀ c ∈ s, wiB (c.toNat : Int) = true := by
 simp only [fnB, Bool.and_eq_true, decide_eq_true_eq] at h; obtain ⟨⟨⟨h0, h1⟩, h2⟩, h3⟩ := h; refine ⟨h0, h1, h2, fun c hc => ?_⟩; obtain ⟨j, hj, rfl⟩ := List.mem_iff_getElem.1 hc; have := h3 j hj; rw [byte_eq hj] at this; simp only [cdB, Bool.or_eq_true] at this; simp only [wiB, begB, Bool.or_eq_true]; rcases this with h | h
 ·exact .inl (.inl (.inl (.inl h)))
 ·exact .inl (.inr h)
theorem cap_beg {z : Int} (h : capB z = true) : begB z = true := by simp [begB, h]
theorem sign_all : ∀ s ∈ signsT, s ≠ [] ∧ digB (byte s 0) = false ∧ byte s 0 ≠ 34 ∧ begB (byte s 0) = false ∧ byte s 0 ≠ 35 ∧ byte s 0 ≠ 32 ∧ wiB (byte s 0) = false := by decide
theorem one_sg {s R : List UInt8} (hs : s ∈ signsT) (h : s = [60] ∨ s = [62] → byte R 0 ≠ 61 ∧ byte R 0 ≠ 62) : oneO (s ++ R) = some (sg s, s.length) := by
 obtain ⟨a0, a1, a2, a3, a4, _, _⟩ := sign_all s hs; have hb : byte (s ++ R) 0 = byte s 0 := byte_head a0 _; have hf : signsT.find? (fun x => Lib.hasPrefix (s ++ R) x) = some s := by
  rcases sign_len hs with hl | hp
  ·match s, hl with
   | [c], _ =>
    have hn : ([c] ++ R).take 2 ∉ pairsT := by
     cases R with
     | nil => simp [pairsT]
     | cons d r =>
      simp only [List.cons_append, List.nil_append, List.take, pairsT, List.mem_cons, List.cons.injEq, and_true, List.not_mem_nil, or_false]; rintro (⟨rfl, rfl⟩ | ⟨rfl, rfl⟩ | ⟨rfl, rfl⟩)
      ·exact (h (.inl rfl)).2 rfl
      ·exact (h (.inl rfl)).1 rfl
      ·exact (h (.inr rfl)).1 rfl
    rw [sign_single (by simp) hn, hb]; have : ∀ s ∈ signsT, s.length = 1 → sgB (byte s 0) = true := by decide
    rw [this [c] hs rfl]; rfl
  ·have h2 : s.length = 2 := by
    have : ∀ p ∈ pairsT, p.length = 2 := by decide
    exact this _ hp
   have ht : (s ++ R).take 2 = s := by rw [← h2, List.take_left]
   rw [sign_pair (by rw [ht]; exact hp), ht]
 rw [oneO, hb, a1, if_neg (by simp), if_neg a2, a3, if_neg (by simp), signO, dead_first (by rw [hb]; exact a4), if_neg (by simp), hf]; rfl
theorem one_of {t : TokD} (h : TokC t) {R : List UInt8} (hn : okNext t R) : oneO (tokT t ++ R) = some (t, (tokT t).length) := by
 cases h with
 | @num z h0 h1 =>
  show oneO (Lib.itoa z ++ R) = some (_, (Lib.itoa z).length); have e : ((z.toNat : Nat) : Int) = z := by omega
  rw [itoa_nat h0, one_dig (u := z.toNat) (by omega) (.inr (hn.1 rfl)), e]
 | text hp => exact one_quote hp (hn.2.1 rfl)
 | @word s hf ho =>
  obtain ⟨f0, f1, f2, f3⟩ := fn_parts hf; obtain ⟨b0, b1, _⟩ := beg_no (cap_beg f2); have hs : spanL wiB (s ++ R) = s := by rw [span_append wiB s R f3, span_stop (hn.2.2.1 (.inl rfl)), List.append_nil]
  show oneO (s ++ R) = some (_, s.length)
  rw [oneO, byte_head f0, b0, if_neg (by simp), if_neg b1, cap_beg f2, if_pos rfl, wordO, hs, ho, if_neg (by simp), hf, if_pos rfl]
 | @ref r hm =>
  obtain ⟨g0, g1⟩ := ref_head hm; obtain ⟨hread, hcand⟩ := read_text hm; obtain ⟨b0, b1, _⟩ := beg_no g1; have hs : spanL wiB (textB r ++ R) = textB r := by rw [span_append wiB _ R g0, span_stop (hn.2.2.1 (.inr rfl)), List.append_nil]
  show oneO (textB r ++ R) = some (_, (textB r).length)
  rw [oneO, byte_head (textB_ne hm), b0, if_neg (by simp), if_neg b1, g1, if_pos rfl, wordO, hs, hread, if_pos rfl, hcand]
 | sign hs => exact one_sg hs (hn.2.2.2 rfl)
 | dead => rfl
theorem tokT_head {t : TokD} (h : TokC t) : tokT t ≠ [] ∧ byte (tokT t) 0 ≠ 32 := by
 cases h with
 | @num z h0 h1 =>
  show Lib.itoa z ≠ [] ∧ byte (Lib.itoa z) 0 ≠ 32; rw [itoa_nat h0]
  exact ⟨(dec_head _).2.1, (dec_head _).2.2⟩
 | text hp => exact ⟨by simp [tokT, quoteT], by show (34 : Int) ≠ 32; decide⟩
 | word hf ho =>
  obtain ⟨f0, f1, f2, f3⟩ := fn_parts hf
  exact ⟨f0, (beg_no (cap_beg f2)).2.2.1⟩
 | ref hm => exact ⟨textB_ne hm, (beg_no (ref_head hm).2).2.2.1⟩
 | sign hs =>
  obtain ⟨a0, a1, a2, a3, a4, a5, _⟩ := sign_all _ hs
  exact ⟨a0, a5⟩
 | dead => exact ⟨by simp [tokT, deadT], by decide⟩
def Link : List TokD → Prop
 | [] => True
 | t :: r => okNext t (r.flatMap tokT) ∧ Link r
theorem lex_toks : ∀ (ts : List TokD) (a : Nat), (∀ t ∈ ts, TokC t) → Link ts → ∃ T, lexF (ts.flatMap tokT) a = some T ∧ T.map nA = ts ++ [endK]
 | [], a, _, _ => ⟨_, lexF_end rfl, rfl⟩
 | t :: r, a, hc, hl => by
  have ht := hc t (by simp); obtain ⟨T, h1, h2⟩ := lex_toks r (a + (tokT t).length) (fun x hx => hc x (by simp [hx])) hl.2; obtain ⟨n0, n1⟩ := tokT_head ht; rw [List.flatMap_cons, lexF_step n0 n1 (one_of ht hl.1), h1]; refine ⟨_, rfl, ?_⟩; simp only [List.map_cons, h2, List.cons_append, List.cons.injEq, and_true]; cases ht <;> rfl
theorem dec_of : ∀ (n : Nat) (l : List UInt8), l.length ≤ n → (∀ c ∈ l, digB (c.toNat : Int) = true) → l ≠ [] → (byte l 0 ≠ 48 ∨ l.length = 1) → (Lib.itoa (numT 0 l)).length ≤ l.length
 | n, l, hn, hd, hne, h0 => by
  have hb := num_bound l (fun j hj => by
   have := hd _ (List.getElem_mem hj)
   simpa [byte_eq hj] using this)
  rw [itoa_nat hb.1]; obtain ⟨r, c, rfl⟩ : ∃ r c, l = r ++ [c] := ⟨l.dropLast, l.getLast hne, (List.dropLast_concat_getLast hne).symm⟩; have hc := hd c (by simp); simp only [digB, Bool.and_eq_true, decide_eq_true_eq] at hc
  cases r with
  | nil =>
   have e : numT 0 ([] ++ [c]) = (c.toNat : Int) - 48 := by
    rw [numT_snoc]; have : numT 0 [] = 0 := rfl; omega
   rw [e, decDigits_small' (by omega)]
   simp
  | cons d r =>
   have hd' : ∀ x ∈ d :: r, digB (x.toNat : Int) = true := fun x hx => hd x (List.mem_append_left _ hx); have h1 : byte (d :: r) 0 ≠ 48 := by
    rcases h0 with h0 | h0
    ·exact h0
    ·simp at h0
   match n with
   | 0 => simp at hn
   | n + 1 =>
    have ih := dec_of n (d :: r) (by simp at hn ⊢; omega) hd' (by simp) (.inl h1); have hb' := num_bound (d :: r) (fun j hj => by
     have := hd' _ (List.getElem_mem hj)
     simpa [byte_eq hj] using this)
    rw [itoa_nat hb'.1] at ih; have h48 : ∀ x ∈ d :: r, 48 ≤ x.toNat := fun x hx => by
     have := hd' x hx; simp only [digB, Bool.and_eq_true, decide_eq_true_eq] at this; omega
    have hpos : numT 0 (d :: r) ≠ 0 := fun hz => by
     obtain ⟨_, h2⟩ := numT_zero_bytes (d :: r) 0 (by omega) h48 hz; have := h2 d (by simp); exact h1 (by show (d.toNat : Int) = 48; omega)
    have hx := numT_snoc 0 (d :: r) c; have e1 : 10 ≤ (numT 0 (d :: r ++ [c])).toNat := by omega
    have e2 : (numT 0 (d :: r ++ [c])).toNat / 10 = (numT 0 (d :: r)).toNat := by omega
    rw [decDigits_big' e1, e2]; simp only [List.length_append, List.length_singleton]; omega
theorem esc_len : ∀ (n : Nat) (l : List UInt8) (x : List UInt8 × Nat), l.length ≤ n → scanT l = some x → (x.1.flatMap (fun c => if c = (34 : UInt8) then [34, 34] else [c])).length + 1 ≤ x.2
 | n, [], x, hn, h => by simp [scanT] at h
 | 0, c :: l, x, hn, h => by simp at hn
 | n + 1, c :: l, x, hn, h => by
  simp only [List.length_cons] at hn; by_cases h1 : c = 34
  ·subst h1; by_cases hq : l.head? = some 34
   ·cases l with
    | nil => cases hq
    | cons d r =>
     simp only [List.head?_cons, Option.some.injEq] at hq; subst hq; rw [scan_qq] at h
     cases e : scanT r with
     | none => rw [e] at h; cases h
     | some y =>
      rw [e] at h; simp only [Option.map_some, Option.some.injEq] at h; have := esc_len n r y (by simp at hn; omega) e; subst h; simp only [List.flatMap_cons, if_true, List.length_append, List.length_cons, List.length_nil]; omega
   ·rw [scan_q hq] at h; simp only [Option.some.injEq] at h; subst h; simp
  ·by_cases h2 : c < 32
   ·rw [scan_low' h1 h2] at h; cases h
   ·rw [scan_c h1 h2] at h
    cases e : scanT l with
    | none => rw [e] at h; cases h
    | some y =>
     rw [e] at h; simp only [Option.map_some, Option.some.injEq] at h; have := esc_len n l y (by omega) e; subst h; simp only [List.flatMap_cons, if_neg h1, List.length_append, List.length_cons, List.length_nil]; omega
theorem oneO_can {l : List UInt8} {t : TokD} {k : Nat} (h : oneO l = some (t, k)) : TokC t ∧ (tokT t).length ≤ k := by
 unfold oneO at h
 split at h
 ·rename_i h0; have hne : spanL digB l ≠ [] := by
   have := (span_pos (p := digB) (l := l) (by
    cases l with
    | nil => cases h0
    | cons a b => simp) h0).1
   exact List.length_pos_iff.1 this
  rw [numO_is hne] at h
  split at h
  ·rename_i hc; simp only [Option.some.injEq, Prod.mk.injEq] at h; obtain ⟨rfl, rfl⟩ := h; have hb := num_bound (spanL digB l) (fun j hj => by
    have hh := span_all digB l _ (List.getElem_mem hj)
    simpa [byte_eq hj] using hh)
   refine ⟨.num hb.1 hc.1, ?_⟩; exact dec_of _ _ (Nat.le_refl _) (span_all digB l) hne hc.2
  ·cases h
 ·split at h
  ·unfold textO at h
   cases e : scanT (l.drop 1) with
   | none => rw [e] at h; cases h
   | some x =>
    rw [e] at h; simp only [Option.map_some, Option.some.injEq, Prod.mk.injEq] at h; obtain ⟨rfl, rfl⟩ := h; have h1 := scan_pr _ e; have h2 := esc_len _ _ x (Nat.le_refl _) e; refine ⟨.text h1.1, ?_⟩; show (quoteT x.1).length ≤ _; simp only [quoteT, List.length_cons, List.length_append, List.length_nil]; omega
  ·split at h
   ·unfold wordO at h; simp only at h
    split at h
    ·rename_i hr; simp only [Option.some.injEq, Prod.mk.injEq] at h; obtain ⟨rfl, rfl⟩ := h; obtain ⟨h1, h2⟩ := read_is hr; refine ⟨.ref h1, ?_⟩; show (textB _).length ≤ _; rw [h2]; exact Nat.le_refl _
    ·rename_i hr
     split at h
     ·rename_i hf; simp only [Option.some.injEq, Prod.mk.injEq] at h; obtain ⟨rfl, rfl⟩ := h; exact ⟨.word hf (by simpa using hr), Nat.le_refl _⟩
     ·cases h
   ·unfold signO at h
    split at h
    ·simp only [Option.some.injEq, Prod.mk.injEq] at h; obtain ⟨rfl, rfl⟩ := h; exact ⟨.dead, Nat.le_refl _⟩
    ·cases e : signsT.find? fun s => Lib.hasPrefix l s with
     | none => rw [e] at h; cases h
     | some x =>
      rw [e] at h; simp only [Option.map_some, Option.some.injEq, Prod.mk.injEq] at h; obtain ⟨rfl, rfl⟩ := h; exact ⟨.sign (List.mem_of_find?_eq_some e), Nat.le_refl _⟩
theorem lexF_can : ∀ (n : Nat) (l : List UInt8) (a : Nat) {out : List TokD}, l.length ≤ n → lexF l a = some out → (∀ t ∈ out, nA t = endK ∨ TokC (nA t)) ∧ (out.flatMap tokT).length ≤ l.length
 | n, l, a, out, hn, h => by
  cases e : l.drop (spanL spB l).length with
  | nil =>
   rw [lexF_end e] at h; simp only [Option.some.injEq] at h; subst h; refine ⟨fun t ht => ?_, by simp [tokT]⟩; rw [List.mem_singleton.1 ht]
   exact .inl rfl
  | cons c r =>
   have hl' := congrArg List.length e; simp at hl'
   cases ho : oneO (c :: r) with
   | none => rw [lexF_bad e (by simp) ho] at h; cases h
   | some x =>
    obtain ⟨t, k⟩ := x; have hk := oneO_pos (by simp) ho; have hk2 := oneO_le ho; have hok := oneO_can ho; rw [lexF_go e (by simp) ho hk] at h
    cases hr : lexF ((c :: r).drop k) (a + (spanL spB l).length + k) with
    | none => rw [hr] at h; cases h
    | some y =>
     rw [hr] at h; simp only [Option.map_some, Option.some.injEq] at h; subst h
     match n with
     | 0 => omega
     | n + 1 =>
      have hd : ((c :: r).drop k).length = r.length + 1 - k := by simp
      have ih := lexF_can n ((c :: r).drop k) _ (by rw [hd]; omega) hr; rw [hd] at ih; have hk3 : k ≤ r.length + 1 := hk2; refine ⟨fun t' ht => ?_, ?_⟩
      ·rcases List.mem_cons.1 ht with rfl | ht
       ·refine .inr ?_; have : nA { t with at_ := ((a + (spanL spB l).length : Nat) : Int) } = t := by
         cases hok.1 <;> rfl
        rw [this]; exact hok.1
       ·exact ih.1 t' ht
      ·rw [List.flatMap_cons, List.length_append]; have : tokT { t with at_ := ((a + (spanL spB l).length : Nat) : Int) } = tokT t := rfl; rw [this]; have := hok.2; have := ih.2; omega
def rankK (k : Int) : Nat := if k = 8 then 5 else if 9 ≤ k ∧ k ≤ 14 then 1 else if k = 15 then 2 else if k = 16 ∨ k = 17 then 3 else if k = 18 ∨ k = 19 then 4 else 6
def Tr.rank : {b : Bool} → Tr b → Nat
 | _, .neg _ => 5
 | _, .two k _ _ => rankK k
 | _, _ => 6
def signK (k : Int) : List UInt8 := opSigns.getD (k - 9).toNat []
def leafK (n : NodeD) : List TokD :=
 if n.kind = 1 then [⟨1, [], n.num, refN, 0⟩]
 else if n.kind = 2 then [⟨2, n.text, 0, refN, 0⟩]
 else if n.kind = 3 then [⟨3, if n.num = 1 then trueT else falseT, 0, refN, 0⟩]
 else if n.kind = 4 then [⟨6, [], 0, refN, 0⟩]
 else if n.kind = 5 then [⟨4, [], 0, n.ref, 0⟩]
 else [⟨4, [], 0, n.ref, 0⟩, sg [58], ⟨4, [], 0, n.to, 0⟩]
def brk (b : Bool) (l : List TokD) : List TokD := if b then sg [40] :: (l ++ [sg [41]]) else l
def Tr.toks : {b : Bool} → Tr b → List TokD
 | _, .leaf n => leafK n
 | _, .neg a => sg [45] :: brk (decide (a.rank < 5)) a.toks
 | _, .two k a b => brk (decide (a.rank < rankK k)) a.toks ++ sg (signK k) :: brk (decide (b.rank < rankK k + 1)) b.toks
 | _, .call x .nil => [⟨3, x, 0, refN, 0⟩, sg [40], sg [41]]
 | _, .call x (.snoc rs a) => ⟨3, x, 0, refN, 0⟩ :: sg [40] :: (rs.toks ++ (a.toks ++ [sg [41]]))
 | _, .nil => []
 | _, .snoc ks a => ks.toks ++ (a.toks ++ [sg [44]])
def Tr.text {b : Bool} (t : Tr b) : List UInt8 := t.toks.flatMap tokT
def Tr.opt (n : Nat) (t : Tr false) : List TokD := brk (decide (t.rank < n)) t.toks
def Tr.Num {b : Bool} (t : Tr b) : Prop := ∀ k ∈ t.toks, k.num ≤ 9223372036854775807
theorem signK_all : ∀ o, o < 11 → opSigns.getD o [] ∈ signsT := by decide
theorem signK_mem {k : Int} (h0 : 9 ≤ k) (h1 : k ≤ 19) : signK k ∈ signsT := signK_all _ (by omega)
theorem brk_mem {b : Bool} {l : List TokD} {t : TokD} (h : t ∈ brk b l) : t ∈ l ∨ t = sg [40] ∨ t = sg [41] := by
 unfold brk at h
 split at h
 ·simp only [List.mem_cons, List.mem_append, List.not_mem_nil, or_false] at h; rcases h with h | h | h
  ·exact .inr (.inl h)
  ·exact .inl h
  ·exact .inr (.inr h)
 ·exact .inl h
theorem sub_brk {b : Bool} {l : List TokD} {t : TokD} (h : t ∈ l) : t ∈ brk b l := by
 unfold brk
 split
 ·simp [h]
 ·exact h
theorem plain_parts {n : NodeD} (h : plainB n = true) : okK n = true := by
 simp only [plainB, Bool.and_eq_true] at h; exact h.1
theorem leaf_can {n : NodeD} (h0 : 1 ≤ n.kind) (h1 : n.kind ≤ 6) (hp : plainB n = true) (hn : ∀ k ∈ leafK n, k.num ≤ 9223372036854775807) : ∀ t ∈ leafK n, TokC t := by
 have ho := plain_parts hp; intro t ht; have h58 : TokC (sg [58]) := .sign (by decide); have : n.kind = 1 ∨ n.kind = 2 ∨ n.kind = 3 ∨ n.kind = 4 ∨ n.kind = 5 ∨ n.kind = 6 := by omega
 rcases this with h | h | h | h | h | h <;> simp only [leafK, okK, h, if_true, if_false, Int.reduceEq, List.mem_cons, List.not_mem_nil, or_false, Bool.and_eq_true, decide_eq_true_eq] at ht ho hn
 ·subst ht; exact .num ho (hn _ rfl)
 ·subst ht; exact .text ho
 ·subst ht
  split
  ·exact .word (by decide) (by decide +kernel)
  ·exact .word (by decide) (by decide +kernel)
 ·subst ht; exact .dead
 ·subst ht; exact .ref ho
 ·rcases ht with rfl | rfl | rfl
  ·exact .ref ho.1
  ·exact h58
  ·exact .ref ho.2.1
theorem name_can {x : List UInt8} (h : nameF x = true) : TokC ⟨3, x, 0, refN, 0⟩ := by
 simp only [nameF, Bool.and_eq_true, Bool.not_eq_true'] at h; exact .word h.1.1.1 h.1.1.2
theorem Tr.can : ∀ {b : Bool} (t : Tr b), t.Fit → t.Num → ∀ k ∈ t.toks, TokC k
 | _, .leaf n, hf, hn, k, hk => leaf_can hf.1 hf.2.1 hf.2.2.2 hn k hk
 | _, .neg a, hf, hn, k, hk => by
  have ha := can a hf (fun u hu => hn u (by simp only [Tr.toks]; exact List.mem_cons_of_mem _ (sub_brk hu))); simp only [Tr.toks, List.mem_cons] at hk; rcases hk with rfl | hk
  ·exact .sign (by decide)
  ·rcases brk_mem hk with hk | rfl | rfl
   ·exact ha k hk
   ·exact .sign (by decide)
   ·exact .sign (by decide)
 | _, .two o a b, hf, hn, k, hk => by
  have ha := can a hf.2.2.1 (fun u hu => hn u (by simp only [Tr.toks]; exact List.mem_append_left _ (sub_brk hu))); have hb := can b hf.2.2.2 (fun u hu => hn u (by simp only [Tr.toks]; exact List.mem_append_right _ (List.mem_cons_of_mem _ (sub_brk hu)))); simp only [Tr.toks, List.mem_append, List.mem_cons] at hk; rcases hk with hk | rfl | hk
  ·rcases brk_mem hk with hk | rfl | rfl
   ·exact ha k hk
   ·exact .sign (by decide)
   ·exact .sign (by decide)
  ·exact .sign (signK_mem hf.1 hf.2.1)
  ·rcases brk_mem hk with hk | rfl | rfl
   ·exact hb k hk
   ·exact .sign (by decide)
   ·exact .sign (by decide)
 | _, .call x .nil, hf, hn, k, hk => by
  simp only [Tr.toks, List.mem_cons, List.not_mem_nil, or_false] at hk; rcases hk with rfl | rfl | rfl
  ·exact name_can hf.1
  ·exact .sign (by decide)
  ·exact .sign (by decide)
 | _, .call x (.snoc rs a), hf, hn, k, hk => by
  have hr := can rs hf.2.1 (fun u hu => hn u (by simp only [Tr.toks]; simp [hu])); have ha := can a hf.2.2 (fun u hu => hn u (by simp only [Tr.toks]; simp [hu])); simp only [Tr.toks, List.mem_cons, List.mem_append, List.not_mem_nil, or_false] at hk; rcases hk with rfl | rfl | hk | hk | rfl
  ·exact name_can hf.1
  ·exact .sign (by decide)
  ·exact hr k hk
  ·exact ha k hk
  ·exact .sign (by decide)
 | _, .nil, _, _, k, hk => by cases hk
 | _, .snoc rs a, hf, hn, k, hk => by
  have hr := can rs hf.1 (fun u hu => hn u (by simp only [Tr.toks]; simp [hu])); have ha := can a hf.2 (fun u hu => hn u (by simp only [Tr.toks]; simp [hu])); simp only [Tr.toks, List.mem_append, List.mem_cons, List.not_mem_nil, or_false] at hk; rcases hk with hk | hk | rfl
  ·exact hr k hk
  ·exact ha k hk
  ·exact .sign (by decide)
def HeadOk (l : List TokD) : Prop := l.flatMap tokT ≠ [] ∧ byte (l.flatMap tokT) 0 ≠ 61 ∧ byte (l.flatMap tokT) 0 ≠ 62
theorem HeadOk.app {l : List TokD} (h : HeadOk l) (m : List TokD) : HeadOk (l ++ m) := by
 unfold HeadOk at h ⊢; rw [List.flatMap_append, byte_head h.1]; exact ⟨by simp [h.1], h.2⟩
theorem HeadOk.cons {t : TokD} (h : tokT t ≠ []) (h1 : byte (tokT t) 0 ≠ 61) (h2 : byte (tokT t) 0 ≠ 62) (m : List TokD) : HeadOk (t :: m) := by
 unfold HeadOk; rw [List.flatMap_cons, byte_head h]; exact ⟨by simp [h], h1, h2⟩
theorem HeadOk.brk {l : List TokD} (h : HeadOk l) (b : Bool) : HeadOk (Go.Proofs.YtgdohpcnpgjpaaaGreatDoor.brk b l) := by
 unfold Go.Proofs.YtgdohpcnpgjpaaaGreatDoor.brk
 split
 ·exact HeadOk.cons (by simp [tokT_sg]) (by rw [tokT_sg]; decide) (by rw [tokT_sg]; decide) _
 ·exact h
theorem can_head {t : TokD} (h : TokC t) (hk : t.kind ≠ 5) (m : List TokD) : HeadOk (t :: m) := by
 have h0 := (tokT_head h).1
 cases h with
 | @num z h0' h1 =>
  refine HeadOk.cons h0 ?_ ?_ m <;>
  ·show byte (Lib.itoa z) 0 ≠ _; rw [itoa_nat h0']; have := (dec_head z.toNat).1; simp only [digB, Bool.and_eq_true, decide_eq_true_eq] at this
   omega
 | text hp => exact HeadOk.cons h0 (by show (34 : Int) ≠ 61; decide) (by show (34 : Int) ≠ 62; decide) m
 | word hf ho =>
  have := beg_no (cap_beg (fn_parts hf).2.2.1)
  exact HeadOk.cons h0 this.2.2.2.2.1 this.2.2.2.2.2 m
 | ref hm =>
  have := beg_no (ref_head hm).2
  exact HeadOk.cons h0 this.2.2.2.2.1 this.2.2.2.2.2 m
 | sign hs => exact absurd rfl hk
 | dead => exact HeadOk.cons h0 (by decide) (by decide) m
theorem leaf_form {n : NodeD} (h0 : 1 ≤ n.kind) (h1 : n.kind ≤ 6) : ∃ t m, leafK n = t :: m ∧ t.kind ≠ 5 ∧ (m = [] ∨ ∃ u, m = [sg [58], u] ∧ u.kind = 4 ∧ t.kind = 4) := by
 have : n.kind = 1 ∨ n.kind = 2 ∨ n.kind = 3 ∨ n.kind = 4 ∨ n.kind = 5 ∨ n.kind = 6 := by omega
 rcases this with h | h | h | h | h | h <;> simp only [leafK, h, if_true, if_false, Int.reduceEq]
 ·exact ⟨_, _, rfl, by simp, .inl rfl⟩
 ·exact ⟨_, _, rfl, by simp, .inl rfl⟩
 ·exact ⟨_, _, rfl, by simp, .inl rfl⟩
 ·exact ⟨_, _, rfl, by simp, .inl rfl⟩
 ·exact ⟨_, _, rfl, by simp, .inl rfl⟩
 ·exact ⟨_, _, rfl, by simp, .inr ⟨_, rfl, rfl, rfl⟩⟩
theorem Tr.head : ∀ (t : Tr false), t.Fit → t.Num → HeadOk t.toks
 | .leaf n, hf, hn => by
  obtain ⟨t, m, e, hk, _⟩ := leaf_form hf.1 hf.2.1; have hc := (Tr.leaf n).can hf hn t (by show t ∈ leafK n; rw [e]; simp); show HeadOk (leafK n); rw [e]
  exact can_head hc hk m
 | .neg a, _, _ => HeadOk.cons (by simp [tokT_sg]) (by rw [tokT_sg]; decide) (by rw [tokT_sg]; decide) _
 | .two o a b, hf, hn => by
  have ha := head a hf.2.2.1 (fun u hu => hn u (by simp only [Tr.toks]; exact List.mem_append_left _ (sub_brk hu)))
  exact (ha.brk _).app _
 | .call x .nil, hf, _ => can_head (name_can hf.1) (by simp) _
 | .call x (.snoc rs a), hf, _ => can_head (name_can hf.1) (by simp) _
def Shut (R : List UInt8) : Prop := digB (byte R 0) = false ∧ byte R 0 ≠ 34 ∧ wiB (byte R 0) = false
theorem shut_sg {s : List UInt8} (h : s ∈ signsT) (B : List TokD) : Shut ((sg s :: B).flatMap tokT) := by
 obtain ⟨a0, a1, a2, a3, a4, a5, a6⟩ := sign_all s h; rw [List.flatMap_cons, tokT_sg]; unfold Shut; rw [byte_head a0]; exact ⟨a1, a2, a6⟩
theorem shut_next {t : TokD} (hk : t.kind ≠ 5) {R : List UInt8} (h : Shut R) : okNext t R := ⟨fun _ => h.1, fun _ => h.2.1, fun _ => h.2.2, fun e => absurd e hk⟩
theorem sg_next {s R : List UInt8} (h1 : s ≠ [60]) (h2 : s ≠ [62]) : okNext (sg s) R := ⟨by simp [sg], by simp [sg], by simp [sg], fun _ e => by rcases e with e | e <;> contradiction⟩
theorem head_next {s : List UInt8} {B : List TokD} (h : HeadOk B) : okNext (sg s) (B.flatMap tokT) := ⟨by simp [sg], by simp [sg], by simp [sg], fun _ _ => h.2⟩
theorem link_brk {l : List TokD} (hl : ∀ B : List TokD, Shut (B.flatMap tokT) → Link B → Link (l ++ B)) (b : Bool) : ∀ B : List TokD, Shut (B.flatMap tokT) → Link B → Link (brk b l ++ B) := by
 intro B hs hB; unfold brk
 split
 ·simp only [List.cons_append, List.append_assoc, List.nil_append]; exact ⟨sg_next (by decide) (by decide), hl _ (shut_sg (by decide) B) ⟨sg_next (by decide) (by decide), hB⟩⟩
 ·exact hl B hs hB
theorem Tr.link : ∀ {b : Bool} (t : Tr b), t.Fit → t.Num → ∀ B : List TokD, (b = true ∨ Shut (B.flatMap tokT)) → Link B → Link (t.toks ++ B)
 | _, .leaf n, hf, hn, B, hs, hB => by
  have hs := hs.resolve_left (by simp); obtain ⟨t, m, e, hk, hm⟩ := leaf_form hf.1 hf.2.1; show Link (leafK n ++ B); rw [e]; rcases hm with rfl | ⟨u, rfl, hu, _⟩
  ·exact ⟨shut_next hk hs, hB⟩
  ·exact ⟨shut_next hk (shut_sg (by decide) _), sg_next (by decide) (by decide), shut_next (by omega) hs, hB⟩
 | _, .neg a, hf, hn, B, hs, hB => by
  have hs := hs.resolve_left (by simp); have ha := link a hf (fun u hu => hn u (by simp only [Tr.toks]; exact List.mem_cons_of_mem _ (sub_brk hu)))
  exact ⟨sg_next (by decide) (by decide), link_brk (fun B h1 h2 => ha B (.inr h1) h2) _ B hs hB⟩
 | _, .two o a b, hf, hn, B, hs, hB => by
  have hs := hs.resolve_left (by simp); have hna : a.Num := fun u hu => hn u (by simp only [Tr.toks]; exact List.mem_append_left _ (sub_brk hu)); have hnb : b.Num := fun u hu => hn u (by simp only [Tr.toks]; exact List.mem_append_right _ (List.mem_cons_of_mem _ (sub_brk hu))); have ha := link a hf.2.2.1 hna; have hb := link b hf.2.2.2 hnb; have hm := signK_mem hf.1 hf.2.1; simp only [Tr.toks, List.append_assoc, List.cons_append]
  exact link_brk (fun B h1 h2 => ha B (.inr h1) h2) _ _ (shut_sg hm _) ⟨head_next (((b.head hf.2.2.2 hnb).brk _).app _), link_brk (fun B h1 h2 => hb B (.inr h1) h2) _ B hs hB⟩
 | _, .call x .nil, hf, hn, B, hs, hB => ⟨shut_next (by simp) (shut_sg (by decide) _), sg_next (by decide) (by decide), sg_next (by decide) (by decide), hB⟩
 | _, .call x (.snoc rs a), hf, hn, B, hs, hB => by
  have hr := link rs hf.2.1 (fun u hu => hn u (by simp only [Tr.toks]; simp [hu])); have ha := link a hf.2.2 (fun u hu => hn u (by simp only [Tr.toks]; simp [hu])); simp only [Tr.toks, List.append_assoc, List.cons_append, List.nil_append]
  exact ⟨shut_next (by simp) (shut_sg (by decide) _), sg_next (by decide) (by decide), hr _ (.inl rfl) (ha _ (.inr (shut_sg (by decide) _)) ⟨sg_next (by decide) (by decide), hB⟩)⟩
 | _, .nil, _, _, B, _, hB => hB
 | _, .snoc rs a, hf, hn, B, _, hB => by
  have hr := link rs hf.1 (fun u hu => hn u (by simp only [Tr.toks]; simp [hu])); have ha := link a hf.2 (fun u hu => hn u (by simp only [Tr.toks]; simp [hu])); simp only [Tr.toks, List.append_assoc, List.cons_append, List.nil_append]; exact hr _ (.inl rfl) (ha _ (.inr (shut_sg (by decide) _)) ⟨sg_next (by decide) (by decide), hB⟩)
theorem Tr.lex (t : Tr false) (hf : t.Fit) (hn : t.Num) : ∃ T, lexT t.text = some T ∧ T.map nA = t.toks ++ [endK] := by
 have := t.link hf hn [] (.inr ⟨rfl, by decide, rfl⟩) trivial; rw [List.append_nil] at this; exact lex_toks _ 0 (t.can hf hn) this
def opd (least r need : Nat) : Nat := if r < least then need + 1 else need
def Tr.need : {b : Bool} → Tr b → Nat
 | _, .leaf _ => 0
 | _, .neg a => opd 5 a.rank a.need + 1
 | _, .two k a b => max (opd (rankK k) a.rank a.need) (opd (rankK k + 1) b.rank b.need)
 | _, .call _ ks => ks.need + 1
 | _, .nil => 0
 | _, .snoc ks a => max ks.need a.need
def modeM (n : Nat) : PMode := if n < 4 then .lev n else if n = 4 then .unary else .prim
theorem below_M {n : Nat} (h : n < 4) : below n = modeM (n + 1) := by
 unfold below modeM; by_cases h3 : n < 3
 ·rw [if_pos h3, if_pos (by omega)]
 ·rw [if_neg h3, if_neg (by omega), if_pos (by omega)]
def Left (T : List TokD) (s : PSt) : List TokD := (T.drop s.at_).map nA
theorem left_at {T : List TokD} {s : PSt} {u : TokD} {R : List TokD} (h : Left T s = u :: R) : (tokAt T s).kind = u.kind ∧ (tokAt T s).text = u.text ∧ (tokAt T s).num = u.num ∧ (tokAt T s).ref = u.ref := by
 unfold Left at h; have : ((T.drop s.at_).map nA)[0]? = some u := by rw [h]; rfl
 rw [List.getElem?_map, List.getElem?_drop, Nat.add_zero] at this
 cases e : T[s.at_]? with
 | none => rw [e] at this; cases this
 | some t =>
  rw [e] at this; simp only [Option.map_some, Option.some.injEq] at this; have et : tokAt T s = t := by simp [tokAt, List.getD_eq_getElem?_getD, e]
  rw [et, ← this]; exact ⟨rfl, rfl, rfl, rfl⟩
theorem left_drop {T : List TokD} {s s' : PSt} {w R : List TokD} (h : Left T s = w ++ R) (hs : s'.at_ = s.at_ + w.length) : Left T s' = R := by
 unfold Left at h ⊢; rw [hs, ← List.drop_drop, List.map_drop, h, List.drop_left]
theorem left_isS {T : List TokD} {s : PSt} {u : TokD} {R : List TokD} (h : Left T s = u :: R) (x : List UInt8) : isS T s x = (decide (u.kind = 5) && decide (u.text = x)) := by
 obtain ⟨h1, h2, _⟩ := left_at h; rw [isS, h1, h2]
def stopL (n : Nat) (u : TokD) : Prop := u.kind = 5 → u.text ≠ [58] ∧ ∀ m, n ≤ m → m < 4 → (signsN m).findIdx? (fun x => decide (x = u.text)) = none
def Fol (n : Nat) (R : List TokD) : Prop := ∃ u B, R = u :: B ∧ stopL n u
theorem Fol.mono {n m : Nat} {R : List TokD} (h : Fol n R) (hm : n ≤ m) : Fol m R := by
 obtain ⟨u, B, e, hs⟩ := h; exact ⟨u, B, e, fun h5 => ⟨(hs h5).1, fun k hk => (hs h5).2 k (by omega)⟩⟩
theorem fol_end (n : Nat) : Fol n [endK] := ⟨_, _, rfl, fun h => by cases h⟩
theorem fol_41 (n : Nat) (B : List TokD) : Fol n (sg [41] :: B) := ⟨_, _, rfl, fun _ => ⟨by decide, fun m _ h4 => by
 have : ∀ m, m < 4 → (signsN m).findIdx? (fun x => decide (x = [41])) = none := by decide
 exact this m h4⟩⟩
theorem fol_44 (n : Nat) (B : List TokD) : Fol n (sg [44] :: B) := ⟨_, _, rfl, fun _ => ⟨by decide, fun m _ h4 => by
 have : ∀ m, m < 4 → (signsN m).findIdx? (fun x => decide (x = [44])) = none := by decide
 exact this m h4⟩⟩
theorem op_none {T : List TokD} {s : PSt} {R : List TokD} {n m : Nat} (h : Left T s = R) (hf : Fol n R) (hn : n ≤ m) (h4 : m < 4) : opIx T s m = none := by
 obtain ⟨u, B, rfl, hs⟩ := hf; obtain ⟨h1, h2, _⟩ := left_at h; unfold opIx
 split
 ·rename_i h5; rw [h2]; exact (hs (by rw [← h1]; exact h5)).2 m hn h4
 ·rfl
theorem op_all : ∀ o, o < 11 → opSigns.getD o [] ≠ [58] ∧ ∃ n, n < 4 ∧ rankK (9 + (o : Int)) = n + 1 ∧ (∃ i, (signsN n).findIdx? (fun x => decide (x = opSigns.getD o [])) = some i ∧ (kindsN n).getD i 0 = 9 + (o : Int)) ∧ ∀ m, m < 4 → n + 1 ≤ m → (signsN m).findIdx? (fun x => decide (x = opSigns.getD o [])) = none := by
 intro o ho; have : o = 0 ∨ o = 1 ∨ o = 2 ∨ o = 3 ∨ o = 4 ∨ o = 5 ∨ o = 6 ∨ o = 7 ∨ o = 8 ∨ o = 9 ∨ o = 10 := by omega
 rcases this with rfl | rfl | rfl | rfl | rfl | rfl | rfl | rfl | rfl | rfl | rfl
 ·exact ⟨by decide, 0, by decide, rfl, ⟨0, rfl, rfl⟩, by decide⟩
 ·exact ⟨by decide, 0, by decide, rfl, ⟨1, rfl, rfl⟩, by decide⟩
 ·exact ⟨by decide, 0, by decide, rfl, ⟨2, rfl, rfl⟩, by decide⟩
 ·exact ⟨by decide, 0, by decide, rfl, ⟨3, rfl, rfl⟩, by decide⟩
 ·exact ⟨by decide, 0, by decide, rfl, ⟨4, rfl, rfl⟩, by decide⟩
 ·exact ⟨by decide, 0, by decide, rfl, ⟨5, rfl, rfl⟩, by decide⟩
 ·exact ⟨by decide, 1, by decide, rfl, ⟨0, rfl, rfl⟩, by decide⟩
 ·exact ⟨by decide, 2, by decide, rfl, ⟨0, rfl, rfl⟩, by decide⟩
 ·exact ⟨by decide, 2, by decide, rfl, ⟨1, rfl, rfl⟩, by decide⟩
 ·exact ⟨by decide, 3, by decide, rfl, ⟨0, rfl, rfl⟩, by decide⟩
 ·exact ⟨by decide, 3, by decide, rfl, ⟨1, rfl, rfl⟩, by decide⟩
theorem op_kind {k : Int} (h0 : 9 ≤ k) (h1 : k ≤ 19) : signK k ≠ [58] ∧ ∃ n, n < 4 ∧ rankK k = n + 1 ∧ (∃ i, (signsN n).findIdx? (fun x => decide (x = signK k)) = some i ∧ (kindsN n).getD i 0 = k) ∧ ∀ m, m < 4 → n + 1 ≤ m → (signsN m).findIdx? (fun x => decide (x = signK k)) = none := by
 have := op_all (k - 9).toNat (by omega); rw [show 9 + (((k - 9).toNat : Nat) : Int) = k by omega] at this; exact this
def aft {b : Bool} (t : Tr b) (w : List TokD) (s : PSt) : PSt := ⟨s.at_ + w.length, s.out ++ t.flat s.out.length, s.deep⟩
def plc (t : Tr false) (s : PSt) : Nat := s.out.length + t.cnt - 1
def resP (d : Nat) (t : Tr false) (w : List TokD) (s : PSt) : PRes := if s.deep + d ≤ 12 then .ok (aft t w s) (plc t s) else .err 6
def GoK (t : Tr false) (d : Nat) (w : List TokD) (n : Nat) : Prop := ∀ (T : List TokD) (s : PSt) (R : List TokD) (r : PRes), s.deep ≤ 12 → Left T s = w ++ R → Fol (n + 1) R →
 (if s.deep + d ≤ 12 then PE T (.loop n (plc t s)) (aft t w s) r else r = .err 6) → PE T (.lev n) s r
def GoM (t : Tr false) (d : Nat) (w : List TokD) (n : Nat) : Prop := ∀ (T : List TokD) (s : PSt) (R : List TokD), s.deep ≤ 12 → Left T s = w ++ R → Fol n R → PE T (modeM n) s (resP d t w s)
theorem GoK.m {t : Tr false} {d : Nat} {w : List TokD} {n : Nat} (h : GoK t d w n) (hn : n < 4) : GoM t d w n := by
 intro T s R hs hl hf; have e : modeM n = .lev n := by rw [modeM, if_pos hn]
 rw [e]; refine h T s R _ hs hl (hf.mono (by omega)) ?_; unfold resP
 split
 ·exact .loop_end (op_none (left_drop hl rfl) hf (Nat.le_refl n) hn)
 ·rfl
theorem GoM.k {t : Tr false} {d : Nat} {w : List TokD} {n : Nat} (h : GoM t d w (n + 1)) (hn : n < 4) : GoK t d w n := by
 intro T s R r hs hl hf hr; have hp := h T s R hs hl hf; rw [← below_M hn] at hp; unfold resP at hp
 split at hp
 ·rename_i hd; rw [if_pos hd] at hr; exact .lev_ok hp hr
 ·rename_i hd; rw [if_neg hd] at hr; subst hr; exact .lev_err hp
theorem GoM.down {t : Tr false} {d : Nat} {w : List TokD} (h : GoM t d w 5) (hw : ∃ u v, w = u :: v ∧ ¬ (u.kind = 5 ∧ u.text = [45])) : ∀ k n, n + k = 5 → GoM t d w n := by
 have hu : GoM t d w 4 := by
  intro T s R hs hl hf; obtain ⟨u, v, rfl, hv⟩ := hw; have hp := h T s R hs hl (hf.mono (by omega)); refine .un_prim ?_ hp; rw [left_isS hl]; by_cases h5 : u.kind = 5
  ·have : ¬ u.text = [45] := fun e => hv ⟨h5, e⟩; simp [this]
  ·simp [h5]
 intro k
 induction k with
 | zero => intro n hn; rw [show n = 5 by omega]; exact h
 | succ k ih =>
  intro n hn; by_cases h4 : n = 4
  ·rw [h4]; exact hu
  ·exact (GoM.k (ih (n + 1) (by omega)) (by omega)).m (by omega)
theorem bracket {t : Tr false} (h : GoM t t.need t.toks 0) : GoM t (t.need + 1) (sg [40] :: (t.toks ++ [sg [41]])) 5 := by
 intro T s R hs hl hf; have hl : Left T s = sg [40] :: (t.toks ++ (sg [41] :: R)) := by rw [hl]; simp
 have hi : isS T s [40] = true := by rw [left_isS hl]; rfl
 show PE T .prim s _; by_cases hd : s.deep < 12
 ·have hl1 : Left T (deeper (adv s)) = t.toks ++ (sg [41] :: R) := left_drop (w := [sg [40]]) hl rfl; have hp := h T (deeper (adv s)) (sg [41] :: R) (by show s.deep + 1 ≤ 12; omega) hl1 (fol_41 0 R); unfold resP at hp ⊢; have hdd : (deeper (adv s)).deep = s.deep + 1 := rfl; rw [hdd] at hp; by_cases hh : s.deep + 1 + t.need ≤ 12
  ·rw [if_pos hh] at hp; rw [if_pos (by omega)]; have hl2 : Left T (aft t t.toks (deeper (adv s))) = sg [41] :: R := left_drop hl1 rfl; have h41 : isS T (aft t t.toks (deeper (adv s))) [41] = true := by rw [left_isS hl2]; rfl
   have := PE.pr_ok hi hd hp h41; have e : upper (adv (aft t t.toks (deeper (adv s)))) = aft t (sg [40] :: (t.toks ++ [sg [41]])) s := by
    simp only [upper, adv, aft, deeper, PSt.mk.injEq, List.length_cons, List.length_append, List.length_nil]; exact ⟨by omega, trivial, by omega⟩
   rw [e] at this; exact this
  ·rw [if_neg hh] at hp; rw [if_neg (by omega)]; exact .pr_err hi hd hp
 ·unfold resP; rw [if_neg (by omega)]; exact .pr_deep hi (by omega)
theorem operand {t : Tr false} (h0 : GoM t t.need t.toks 0) (hm : ∀ n, n + 1 ≤ t.rank → GoM t t.need t.toks n) {n : Nat} (hn : n ≤ 5) : GoM t (opd (n + 1) t.rank t.need) (brk (decide (t.rank < n + 1)) t.toks) n := by
 unfold opd brk; by_cases hr : t.rank < n + 1
 ·rw [if_pos hr, if_pos (by simpa using hr)]; exact (bracket h0).down ⟨_, _, rfl, by rintro ⟨_, e⟩; cases e⟩ (5 - n) n (by omega)
 ·rw [if_neg hr, if_neg (by simpa using hr)]; exact hm n (by omega)
theorem operandK {t : Tr false} (h0 : GoM t t.need t.toks 0) (hk : ∀ n, n < 4 → n + 1 ≤ t.rank → GoK t t.need t.toks n) {n : Nat} (hn : n < 4) : GoK t (opd (n + 1) t.rank t.need) (brk (decide (t.rank < n + 1)) t.toks) n := by
 unfold opd brk; by_cases hr : t.rank < n + 1
 ·rw [if_pos hr, if_pos (by simpa using hr)]; exact ((bracket h0).down ⟨_, _, rfl, by rintro ⟨_, e⟩; cases e⟩ (5 - (n + 1)) (n + 1) (by omega)).k hn
 ·rw [if_neg hr, if_neg (by simpa using hr)]; exact hk n hn (by omega)
theorem rank_pos {k : Int} (h0 : 9 ≤ k) (h1 : k ≤ 19) : 1 ≤ rankK k ∧ rankK k ≤ 4 := by
 obtain ⟨_, n, hn, e, _⟩ := op_kind h0 h1; omega
theorem Tr.rank_le : ∀ (t : Tr false), t.Fit → 1 ≤ t.rank ∧ t.rank ≤ 6
 | .leaf _, _ => by simp [Tr.rank]
 | .neg _, _ => by simp [Tr.rank]
 | .two k _ _, h => by have := rank_pos h.1 h.2.1; simp only [Tr.rank]; omega
 | .call _ _, _ => by simp [Tr.rank]
theorem leaf_go {n : NodeD} (h0 : 1 ≤ n.kind) (h1 : n.kind ≤ 6) (hk : n.kids = []) (hp : plainB n = true) : GoM (.leaf n) 0 (leafK n) 5 := by
 intro T s R hs hl hf; show PE T .prim s _; unfold resP; rw [if_pos (by omega)]; have ho := plain_parts hp; have hpl : plc (.leaf n) s = s.out.length := by simp [plc, Tr.cnt]
 rw [hpl]; have hb := hp; simp only [plainB, Bool.and_eq_true, decide_eq_true_eq] at hb; have hform : ∀ w : List TokD, aft (.leaf n) w s = putS ⟨s.at_ + w.length, s.out, s.deep⟩ n := fun w => by simp [aft, putS, Tr.flat]
 rw [hform]; have : n.kind = 1 ∨ n.kind = 2 ∨ n.kind = 3 ∨ n.kind = 4 ∨ n.kind = 5 ∨ n.kind = 6 := by omega
 rcases this with h | h | h | h | h | h <;> simp only [leafK, okK, bareN, h, if_true, if_false, Int.reduceEq, Bool.and_eq_true, decide_eq_true_eq, Bool.or_eq_true, true_and, and_true, List.cons_append, List.nil_append] at hl ho hb ⊢
 ·obtain ⟨t1, t2, t3, t4⟩ := left_at hl; have e : n = { kind := 1, num := (tokAt T s).num } := by cases n; simp_all
  rw [e]; exact .pr_num t1
 ·obtain ⟨t1, t2, t3, t4⟩ := left_at hl; have e : n = { kind := 2, text := (tokAt T s).text } := by cases n; simp_all
  rw [e]; exact .pr_text t1
 ·obtain ⟨t1, t2, t3, t4⟩ := left_at hl; rcases ho with ho | ho
  ·rw [if_neg (by omega)] at t2; have e : n = { kind := 3 } := by cases n; simp_all
   rw [e]; exact .pr_false t1 t2
  ·rw [if_pos ho] at t2; have e : n = { kind := 3, num := 1 } := by cases n; simp_all
   rw [e]; exact .pr_true t1 t2
 ·obtain ⟨t1, t2, t3, t4⟩ := left_at hl; have e : n = { kind := 4 } := by cases n; simp_all
  rw [e]; exact .pr_dead t1
 ·obtain ⟨t1, t2, t3, t4⟩ := left_at hl; have e : n = { kind := 5, ref := (tokAt T s).ref } := by cases n; simp_all
  rw [e]; refine .pr_ref t1 ?_; obtain ⟨u, B, rfl, hu⟩ := hf; have hl2 : Left T (adv s) = u :: B := left_drop (w := [_]) hl rfl; rw [left_isS hl2]; by_cases h5 : u.kind = 5
  ·simp [(hu h5).1]
  ·simp [h5]
 ·obtain ⟨t1, t2, t3, t4⟩ := left_at hl; have hl2 : Left T (adv s) = sg [58] :: ⟨4, [], 0, n.to, 0⟩ :: R := left_drop (w := [_]) hl rfl; have hl3 : Left T (adv (adv s)) = ⟨4, [], 0, n.to, 0⟩ :: R := left_drop (w := [_]) hl2 rfl; obtain ⟨q1, q2, q3, q4⟩ := left_at hl3; have e : n = { kind := 6, ref := (tokAt T s).ref, to := (tokAt T (adv (adv s))).ref } := by cases n; simp_all
  have hr : rangesB (tokAt T s).ref (tokAt T (adv (adv s))).ref = true := by rw [t4, q4]; exact ho.2.2
  have hi : isS T (adv s) [58] = true := by rw [left_isS hl2]; rfl
  rw [e]; exact .pr_range t1 hi q1 hr
def GoR (ks : Tr true) : Prop := ∀ (T : List TokD) (s : PSt) (R : List TokD) (x : List UInt8) (k0 : List Int) (r : PRes), s.deep ≤ 12 → Left T s = ks.toks ++ R →
 (if s.deep + ks.need ≤ 12 then PE T (.args x (k0 ++ ks.kids s.out.length)) (aft ks ks.toks s) r else r = .err 6) → PE T (.args x k0) s r
def GoT : {b : Bool} → Tr b → Prop
 | false, t => (∀ n, n + 1 ≤ t.rank → GoM t t.need t.toks n) ∧ ∀ n, n < 4 → n + 1 ≤ t.rank → GoK t t.need t.toks n
 | true, ks => GoR ks
theorem name_parts' {x : List UInt8} (h : nameF x = true) : x ≠ trueT ∧ x ≠ falseT := by
 simp only [nameF, Bool.and_eq_true, Bool.not_eq_true', decide_eq_false_iff_not] at h; exact ⟨h.1.2, h.2⟩
theorem go_top {t : Tr false} (h5 : GoM t t.need t.toks 5) (hw : ∃ u v, t.toks = u :: v ∧ ¬ (u.kind = 5 ∧ u.text = [45])) (hr : t.rank = 6) : GoT t := by
 have hd := h5.down hw; refine ⟨fun n hn => hd (5 - n) n (by omega), fun n hn _ => (hd (5 - (n + 1)) (n + 1) (by omega)).k hn⟩
theorem go_from {t : Tr false} {m : Nat} (hr : t.rank = m + 1) (hm4 : m ≤ 4) (h : GoM t t.need t.toks m) (hk : m < 4 → GoK t t.need t.toks m) : GoT t := by
 have key : ∀ k n, n + k = m → GoM t t.need t.toks n := by
  intro k
  induction k with
  | zero => intro n hn; rw [show n = m by omega]; exact h
  | succ k ih => intro n hn; exact (GoM.k (ih (n + 1) (by omega)) (by omega)).m (by omega)
 refine ⟨fun n hn => key (m - n) n (by omega), fun n hn h1 => ?_⟩; by_cases e : n = m
 ·subst e; exact hk hn
 ·exact (key (m - (n + 1)) (n + 1) (by omega)).k hn
def First (l : List TokD) : Prop := ∃ u v, l = u :: v ∧ ¬ (u.kind = 5 ∧ u.text = [41])
theorem First.app {l : List TokD} (h : First l) (m : List TokD) : First (l ++ m) := by
 obtain ⟨u, v, rfl, hu⟩ := h; exact ⟨u, v ++ m, rfl, hu⟩
theorem First.brk {l : List TokD} (h : First l) (b : Bool) : First (Go.Proofs.YtgdohpcnpgjpaaaGreatDoor.brk b l) := by
 unfold Go.Proofs.YtgdohpcnpgjpaaaGreatDoor.brk
 split
 ·exact ⟨_, _, rfl, by rintro ⟨_, e⟩; cases e⟩
 ·exact h
theorem Tr.first : ∀ {b : Bool} (t : Tr b), t.Fit → (b = true ∧ t.toks = []) ∨ First t.toks
 | _, .leaf n, hf => by
  obtain ⟨u, m, e, hk, _⟩ := leaf_form hf.1 hf.2.1
  exact .inr ⟨u, m, e, fun h => hk h.1⟩
 | _, .neg a, _ => .inr ⟨_, _, rfl, by rintro ⟨_, e⟩; cases e⟩
 | _, .two k a b, hf => by
  rcases first a hf.2.2.1 with h | h
  ·cases h.1
  ·exact .inr ((h.brk _).app _)
 | _, .call x .nil, _ => .inr ⟨_, _, rfl, by rintro ⟨e, _⟩; cases e⟩
 | _, .call x (.snoc rs a), _ => .inr ⟨_, _, rfl, by rintro ⟨e, _⟩; cases e⟩
 | _, .nil, _ => .inl ⟨rfl, rfl⟩
 | _, .snoc rs a, hf => by
  rcases first a hf.2 with h | h
  ·cases h.1
  ·rcases first rs hf.1 with h2 | h2
   ·refine .inr ?_; simp only [Tr.toks, h2.2, List.nil_append]; exact h.app _
   ·exact .inr (h2.app _)
theorem first_isS {T : List TokD} {s : PSt} {l : List TokD} (h : First l) (hl : Left T s = l) : isS T s [41] = false := by
 obtain ⟨u, v, rfl, hu⟩ := h; rw [left_isS hl]; by_cases h5 : u.kind = 5
 ·have : ¬ u.text = [41] := fun e => hu ⟨h5, e⟩; simp [this]
 ·simp [h5]
theorem Tr.go : ∀ {b : Bool} (t : Tr b), t.Fit → GoT t
 | _, .leaf n, hf => by
  obtain ⟨u, m, e, hk, _⟩ := leaf_form hf.1 hf.2.1
  exact go_top (leaf_go hf.1 hf.2.1 hf.2.2.1 hf.2.2.2) ⟨u, m, e, fun h => hk h.1⟩ rfl
 | _, .neg a, hf => by
  have ga : GoT a := go a hf; have hr := Tr.rank_le a hf; have hop : GoM a (opd 5 a.rank a.need) (brk (decide (a.rank < 5)) a.toks) 4 := operand (ga.1 0 (by omega)) ga.1 (n := 4) (by omega); refine go_from (m := 4) rfl (Nat.le_refl _) ?_ (fun h => absurd h (by omega)); intro T s R hs hl hfol; have hl : Left T s = sg [45] :: (brk (decide (a.rank < 5)) a.toks ++ R) := hl; have hi : isS T s [45] = true := by rw [left_isS hl]; rfl
  show PE T .unary s _; have hneed : (Tr.neg a).need = opd 5 a.rank a.need + 1 := rfl; by_cases hd : s.deep < 12
  ·have hl1 : Left T (deeper (adv s)) = brk (decide (a.rank < 5)) a.toks ++ R := left_drop (w := [_]) hl rfl; have hp := hop T (deeper (adv s)) R (by show s.deep + 1 ≤ 12; omega) hl1 hfol; unfold resP at hp ⊢; have hdd : (deeper (adv s)).deep = s.deep + 1 := rfl; rw [hdd] at hp; rw [hneed]; by_cases hh : s.deep + 1 + opd 5 a.rank a.need ≤ 12
   ·rw [if_pos hh] at hp; rw [if_pos (by omega)]; have := PE.un_ok hi hd hp; have e : putS (upper (aft a (brk (decide (a.rank < 5)) a.toks) (deeper (adv s)))) { kind := 8, kids := [((plc a (deeper (adv s)) : Nat) : Int)] } = aft (.neg a) (Tr.neg a).toks s := by
     simp only [putS, upper, aft, deeper, adv, Tr.flat, Tr.toks, PSt.mk.injEq, List.length_cons, List.append_assoc, plc]; exact ⟨by omega, trivial, by omega⟩
    have e2 : (aft a (brk (decide (a.rank < 5)) a.toks) (deeper (adv s))).out.length = plc (.neg a) s := by
     simp only [aft, deeper, adv, plc, Tr.cnt, List.length_append, Tr.flat_len]; omega
    rw [e, e2] at this; exact this
   ·rw [if_neg hh] at hp; rw [if_neg (by omega)]; exact .un_err hi hd hp
  ·unfold resP; rw [if_neg (by omega)]
   exact .un_deep hi (by omega)
 | _, .two k a b, hf => by
  have ga : GoT a := go a hf.2.2.1; have gb : GoT b := go b hf.2.2.2; have ra := Tr.rank_le a hf.2.2.1; have rb := Tr.rank_le b hf.2.2.2; obtain ⟨h58, n, hn, hrk, ⟨i, hi, hki⟩, hno⟩ := op_kind hf.1 hf.2.1; have hA := operandK (ga.1 0 (by omega)) ga.2 hn; have hB := operand (gb.1 0 (by omega)) gb.1 (n := n + 1) (by omega); have hneed : (Tr.two k a b).need = max (opd (n + 1) a.rank a.need) (opd (n + 1 + 1) b.rank b.need) := by simp only [Tr.need, hrk]
  have htoks : (Tr.two k a b).toks = brk (decide (a.rank < n + 1)) a.toks ++ sg (signK k) :: brk (decide (b.rank < n + 1 + 1)) b.toks := by simp only [Tr.toks, hrk]
  have hK : GoK (.two k a b) (Tr.two k a b).need (Tr.two k a b).toks n := by
   intro T s R r hs hl hfol hr; rw [htoks, List.append_assoc, List.cons_append] at hl; have hsg : Fol (n + 1) (sg (signK k) :: (brk (decide (b.rank < n + 1 + 1)) b.toks ++ R)) := ⟨_, _, rfl, fun _ => ⟨h58, fun m h1 h2 => hno m h2 h1⟩⟩; refine hA T s _ r hs hl hsg ?_
   split
   ·rename_i hda; have hl1 : Left T (aft a (brk (decide (a.rank < n + 1)) a.toks) s) = sg (signK k) :: (brk (decide (b.rank < n + 1 + 1)) b.toks ++ R) := left_drop hl rfl; obtain ⟨t1, t2, _⟩ := left_at hl1; have hop : opIx T (aft a (brk (decide (a.rank < n + 1)) a.toks) s) n = some i := by
     unfold opIx; rw [if_pos (show _ = (5 : Int) from t1), t2]; exact hi
    have hl2 : Left T (adv (aft a (brk (decide (a.rank < n + 1)) a.toks) s)) = brk (decide (b.rank < n + 1 + 1)) b.toks ++ R := left_drop (w := [_]) hl1 rfl; have hp := hB T (adv (aft a (brk (decide (a.rank < n + 1)) a.toks) s)) R hs hl2 hfol; rw [← below_M hn] at hp; unfold resP at hp; have hdd : (adv (aft a (brk (decide (a.rank < n + 1)) a.toks) s)).deep = s.deep := rfl; rw [hdd] at hp; by_cases hdb : s.deep + opd (n + 1 + 1) b.rank b.need ≤ 12
    ·rw [if_pos hdb] at hp; rw [if_pos (by rw [hneed]; omega)] at hr; refine .loop_go hop hp ?_; rw [hki]; have e : putS (aft b (brk (decide (b.rank < n + 1 + 1)) b.toks) (adv (aft a (brk (decide (a.rank < n + 1)) a.toks) s))) { kind := k, kids := [((plc a s : Nat) : Int), ((plc b (adv (aft a (brk (decide (a.rank < n + 1)) a.toks) s)) : Nat) : Int)] } = aft (.two k a b) (Tr.two k a b).toks s := by
      rw [htoks]; simp only [putS, aft, adv, Tr.flat, PSt.mk.injEq, List.length_append, List.length_cons, List.append_assoc, plc, Tr.flat_len]; exact ⟨by omega, trivial, trivial⟩
     have e2 : (aft b (brk (decide (b.rank < n + 1 + 1)) b.toks) (adv (aft a (brk (decide (a.rank < n + 1)) a.toks) s))).out.length = plc (.two k a b) s := by
      simp only [aft, adv, plc, Tr.cnt, List.length_append, Tr.flat_len]; omega
     rw [e, e2]; exact hr
    ·rw [if_neg hdb] at hp; rw [if_neg (by rw [hneed]; omega)] at hr; subst hr; exact .loop_err hop hp
   ·rename_i hda; rw [if_neg (by rw [hneed]; omega)] at hr; exact hr
  exact go_from (m := n) (by simp only [Tr.rank, hrk]) (by omega) (hK.m hn) (fun _ => hK)
 | _, .call x .nil, hf => by
  obtain ⟨hx1, hx2⟩ := name_parts' hf.1; refine go_top ?_ ⟨_, _, rfl, by rintro ⟨e, _⟩; cases e⟩ rfl; intro T s R hs hl hfol; have hl : Left T s = ⟨3, x, 0, refN, 0⟩ :: sg [40] :: sg [41] :: R := hl; obtain ⟨t1, t2, _⟩ := left_at hl; have hl1 : Left T (adv s) = sg [40] :: sg [41] :: R := left_drop (w := [_]) hl rfl; have hl2 : Left T (deeper (adv (adv s))) = sg [41] :: R := left_drop (w := [_]) hl1 rfl; have h40 : isS T (adv s) [40] = true := by rw [left_isS hl1]; rfl
  have h41 : isS T (deeper (adv (adv s))) [41] = true := by rw [left_isS hl2]; rfl
  show PE T .prim s _; unfold resP; by_cases hd : s.deep < 12
  ·rw [if_pos (by show s.deep + 1 ≤ 12; omega)]; have := PE.pr_call0 t1 (by rw [t2]; exact hx1) (by rw [t2]; exact hx2) h40 hd h41; rw [t2] at this; exact this
  ·rw [if_neg (by show ¬ s.deep + 1 ≤ 12; omega)]
   exact .pr_calldeep t1 (by rw [t2]; exact hx1) (by rw [t2]; exact hx2) h40 (by omega)
 | _, .call x (.snoc rs a), hf => by
  obtain ⟨hx1, hx2⟩ := name_parts' hf.1; have gr : GoR rs := go rs hf.2.1; have ga : GoT a := go a hf.2.2; have ra := Tr.rank_le a hf.2.2; have hfirst : First (rs.toks ++ (a.toks ++ [sg [41]])) := by
   rcases Tr.first a hf.2.2 with h | h
   ·cases h.1
   ·rcases Tr.first rs hf.2.1 with h2 | h2
    ·rw [h2.2, List.nil_append]; exact h.app _
    ·exact h2.app _
  refine go_top ?_ ⟨_, _, rfl, by rintro ⟨e, _⟩; cases e⟩ rfl; intro T s R hs hl hfol; have hl : Left T s = ⟨3, x, 0, refN, 0⟩ :: sg [40] :: (rs.toks ++ (a.toks ++ (sg [41] :: R))) := by rw [hl]; simp [Tr.toks]
  obtain ⟨t1, t2, _⟩ := left_at hl; have hl1 : Left T (adv s) = sg [40] :: (rs.toks ++ (a.toks ++ (sg [41] :: R))) := left_drop (w := [_]) hl rfl; have hl2 : Left T (deeper (adv (adv s))) = rs.toks ++ (a.toks ++ (sg [41] :: R)) := left_drop (w := [_]) hl1 rfl; have h40 : isS T (adv s) [40] = true := by rw [left_isS hl1]; rfl
  have h41 : isS T (deeper (adv (adv s))) [41] = false := by
   refine first_isS (hfirst.app R) ?_; rw [hl2]; simp
  have hneed : (Tr.call x (.snoc rs a)).need = max rs.need a.need + 1 := rfl; show PE T .prim s _; unfold resP; by_cases hd : s.deep < 12
  ·refine .pr_call t1 (by rw [t2]; exact hx1) (by rw [t2]; exact hx2) h40 hd h41 ?_; rw [t2]; refine gr T (deeper (adv (adv s))) _ x [] _ (by show s.deep + 1 ≤ 12; omega) hl2 ?_; have hdd : (deeper (adv (adv s))).deep = s.deep + 1 := rfl; rw [hdd, hneed]
   split
   ·rename_i hdr; have hl3 : Left T (aft rs rs.toks (deeper (adv (adv s)))) = a.toks ++ (sg [41] :: R) := left_drop hl2 rfl; have hp := ga.1 0 (by omega) T (aft rs rs.toks (deeper (adv (adv s)))) _ (by show s.deep + 1 ≤ 12; omega) hl3 (fol_41 0 R); unfold resP at hp; have hd3 : (aft rs rs.toks (deeper (adv (adv s)))).deep = s.deep + 1 := rfl; rw [hd3] at hp; by_cases hda : s.deep + 1 + a.need ≤ 12
    ·rw [if_pos hda] at hp; rw [if_pos (by omega)]; have hl4 : Left T (aft a a.toks (aft rs rs.toks (deeper (adv (adv s))))) = sg [41] :: R := left_drop hl3 rfl; have h44 : isS T (aft a a.toks (aft rs rs.toks (deeper (adv (adv s))))) [44] = false := by rw [left_isS hl4]; rfl
     have h41' : isS T (aft a a.toks (aft rs rs.toks (deeper (adv (adv s))))) [41] = true := by rw [left_isS hl4]; rfl
     have := PE.ar_end (x := x) (ks := [] ++ rs.kids (deeper (adv (adv s))).out.length) hp h44 h41'; have e : putS (upper (adv (aft a a.toks (aft rs rs.toks (deeper (adv (adv s))))))) { kind := 7, text := x, kids := [] ++ rs.kids (deeper (adv (adv s))).out.length ++ [((plc a (aft rs rs.toks (deeper (adv (adv s)))) : Nat) : Int)] } = aft (.call x (.snoc rs a)) (Tr.call x (.snoc rs a)).toks s := by
      simp only [putS, upper, aft, deeper, adv, Tr.flat, Tr.toks, Tr.kids, PSt.mk.injEq, List.length_cons, List.length_append, List.length_nil, List.append_assoc, plc, Tr.flat_len, List.nil_append]; exact ⟨by omega, trivial, by omega⟩
     have e2 : (aft a a.toks (aft rs rs.toks (deeper (adv (adv s))))).out.length = plc (.call x (.snoc rs a)) s := by
      simp only [aft, deeper, adv, plc, Tr.cnt, List.length_append, Tr.flat_len]; omega
     rw [e, e2] at this; exact this
    ·rw [if_neg hda] at hp; rw [if_neg (by omega)]; exact .ar_err hp
   ·rename_i hdr; rw [if_neg (by omega)]
  ·rw [if_neg (by omega)]
   exact .pr_calldeep t1 (by rw [t2]; exact hx1) (by rw [t2]; exact hx2) h40 (by omega)
 | _, .nil, _ => by
  intro T s R x k0 r hs hl hr; have e : aft Tr.nil Tr.nil.toks s = s := by simp [aft, Tr.toks, Tr.flat]
  rw [e, if_pos (by show s.deep + 0 ≤ 12; omega)] at hr
  simpa [Tr.kids] using hr
 | _, .snoc rs a, hf => by
  have gr : GoR rs := go rs hf.1; have ga : GoT a := go a hf.2; have ra := Tr.rank_le a hf.2; intro T s R x k0 r hs hl hr; have hl : Left T s = rs.toks ++ (a.toks ++ (sg [44] :: R)) := by rw [hl]; simp [Tr.toks]
  have hneed : (Tr.snoc rs a).need = max rs.need a.need := rfl; rw [hneed] at hr; refine gr T s _ x k0 r hs hl ?_
  split
  ·rename_i hdr; have hl3 : Left T (aft rs rs.toks s) = a.toks ++ (sg [44] :: R) := left_drop hl rfl; have hp := ga.1 0 (by omega) T (aft rs rs.toks s) _ hs hl3 (fol_44 0 R); unfold resP at hp; have hd3 : (aft rs rs.toks s).deep = s.deep := rfl; rw [hd3] at hp; by_cases hda : s.deep + a.need ≤ 12
   ·rw [if_pos hda] at hp; rw [if_pos (by omega)] at hr; have hl4 : Left T (aft a a.toks (aft rs rs.toks s)) = sg [44] :: R := left_drop hl3 rfl; have h44 : isS T (aft a a.toks (aft rs rs.toks s)) [44] = true := by rw [left_isS hl4]; rfl
    refine .ar_go hp h44 ?_; have e : adv (aft a a.toks (aft rs rs.toks s)) = aft (.snoc rs a) (Tr.snoc rs a).toks s := by
     simp only [aft, adv, Tr.flat, Tr.toks, PSt.mk.injEq, List.length_cons, List.length_append, List.length_nil, List.append_assoc, Tr.flat_len]; exact ⟨by omega, trivial, trivial⟩
    have e2 : k0 ++ rs.kids s.out.length ++ [((plc a (aft rs rs.toks s) : Nat) : Int)] = k0 ++ (Tr.snoc rs a).kids s.out.length := by
     simp only [aft, plc, Tr.kids, List.length_append, Tr.flat_len, List.append_assoc]
    rw [e, e2]; exact hr
   ·rw [if_neg hda] at hp; rw [if_neg (by omega)] at hr; subst hr; exact .ar_err hp
  ·rename_i hdr; rw [if_neg (by omega)] at hr; exact hr
theorem Tr.again (t : Tr false) (hf : t.Fit) {T : List TokD} (hT : T.map nA = t.toks ++ [endK]) : Parsed T (if t.need ≤ 12 then .ok (t.flat 0) else .error 6) := by
 have hg := (t.go hf).1 0 (by have := Tr.rank_le t hf; omega) T ⟨0, [], 0⟩ [endK] (by simp) hT (fol_end 0); have hg : PE T (.lev 0) ⟨0, [], 0⟩ (resP t.need t t.toks ⟨0, [], 0⟩) := hg; unfold resP at hg; simp only [Nat.zero_add] at hg; by_cases h : t.need ≤ 12
 ·rw [if_pos h] at hg ⊢; refine ⟨_, _, hg, ?_, by simp [aft]⟩; have : Left T (aft t t.toks ⟨0, [], 0⟩) = [endK] := left_drop (s := ⟨0, [], 0⟩) (w := t.toks) hT rfl; exact (left_at this).1
 ·rw [if_neg h] at hg ⊢; exact .inl hg
def W (l : List TokD) : Nat := (l.flatMap tokT).length
theorem W_nil : W [] = 0 := rfl
theorem W_cons (t : TokD) (l : List TokD) : W (t :: l) = (tokT t).length + W l := by simp [W]
theorem W_app (l m : List TokD) : W (l ++ m) = W l + W m := by simp [W]
theorem W_sg (s : List UInt8) : (tokT (sg s)).length = s.length := rfl
theorem W_brk (b : Bool) (l : List TokD) : W (brk b l) = W l + if b then 2 else 0 := by
 cases b
 ·simp [brk]
 ·simp only [brk, if_true, W_cons, W_app, W_nil, W_sg, List.length_cons, List.length_nil]; omega
def pw (T : List TokD) (i : Nat) : Nat := W (T.take i)
theorem pw_step (T : List TokD) (i : Nat) : pw T (i + 1) = pw T i + (tokT (T.getD i tokZ)).length := by
 unfold pw; rcases Nat.lt_or_ge i T.length with h | h
 ·rw [List.take_add_one, List.getElem?_eq_getElem h, W_app, List.getD_eq_getElem?_getD, List.getElem?_eq_getElem h]; simp [W]
 ·rw [List.take_of_length_le h, List.take_of_length_le (by omega), List.getD_eq_getElem?_getD, List.getElem?_eq_none h]; rfl
theorem pw_adv (T : List TokD) (s : PSt) : pw T (s.at_ + 1) = pw T s.at_ + (tokT (tokAt T s)).length := pw_step T s.at_
theorem pw_le (T : List TokD) (i : Nat) : pw T i ≤ W T := by
 have := W_app (T.take i) (T.drop i); rw [List.take_append_drop] at this; unfold pw; omega
theorem opt_W (t : Tr false) (L : Nat) : W (t.opt L) = W t.toks + if t.rank < L then 2 else 0 := by
 rw [Tr.opt, W_brk]; by_cases h : t.rank < L <;> simp [h]
theorem tok1 {t : TokD} (h : TokC t) (k : t.kind = 1) : t = ⟨1, [], t.num, refN, 0⟩ ∧ 0 ≤ t.num ∧ t.num ≤ 9223372036854775807 := by
 cases h <;> simp_all [sg]
theorem tok2 {t : TokD} (h : TokC t) (k : t.kind = 2) : t = ⟨2, t.text, 0, refN, 0⟩ ∧ prB t.text = true := by
 cases h <;> simp_all [sg]
theorem tok3 {t : TokD} (h : TokC t) (k : t.kind = 3) : t = ⟨3, t.text, 0, refN, 0⟩ ∧ fnB t.text = true ∧ okRead t.text = false := by
 cases h <;> simp_all [sg]
theorem tok4 {t : TokD} (h : TokC t) (k : t.kind = 4) : t = ⟨4, [], 0, t.ref, 0⟩ ∧ mayB t.ref = true := by
 cases h <;> simp_all [sg]
theorem tok6 {t : TokD} (h : TokC t) (k : t.kind = 6) : t = ⟨6, [], 0, refN, 0⟩ := by
 cases h <;> simp_all [sg]
def CanT (T : List TokD) : Prop := ∀ t ∈ T, nA t = endK ∨ TokC (nA t)
theorem tok_can {T : List TokD} (h : CanT T) {s : PSt} (hk : (tokAt T s).kind ≠ 0) : TokC (nA (tokAt T s)) := by
 rcases Nat.lt_or_ge s.at_ T.length with hl | hl
 ·have e : tokAt T s = T[s.at_] := by simp [tokAt, List.getD_eq_getElem?_getD, List.getElem?_eq_getElem hl]
  rw [e] at hk ⊢; rcases h _ (List.getElem_mem hl) with h | h
  ·have : (nA T[s.at_]).kind = 0 := by rw [h]; rfl
   exact absurd this hk
  ·exact h
 ·have e : tokAt T s = tokZ := by simp [tokAt, List.getD_eq_getElem?_getD, List.getElem?_eq_none hl]
  rw [e] at hk; exact absurd rfl hk
theorem isS_len {T : List TokD} {s : PSt} {x : List UInt8} (h : isS T s x = true) : (tokT (tokAt T s)).length = x.length := by
 obtain ⟨h1, h2⟩ := isS_kind h; simp [tokT, h1, h2]
theorem op_sign_all : ∀ n, n < 4 → ∀ i, i < (signsN n).length → 9 ≤ (kindsN n).getD i 0 ∧ (kindsN n).getD i 0 ≤ 19 ∧ rankK ((kindsN n).getD i 0) = n + 1 ∧ signK ((kindsN n).getD i 0) = (signsN n).getD i [] := by decide
theorem op_sign {T : List TokD} {s : PSt} {n i : Nat} (hn : n < 4) (h : opIx T s n = some i) : 9 ≤ (kindsN n).getD i 0 ∧ (kindsN n).getD i 0 ≤ 19 ∧ rankK ((kindsN n).getD i 0) = n + 1 ∧ (tokT (tokAt T s)).length = (signK ((kindsN n).getD i 0)).length := by
 unfold opIx at h
 split at h
 ·rename_i h5; obtain ⟨hi, hp, _⟩ := List.findIdx?_eq_some_iff_getElem.1 h; obtain ⟨a1, a2, a3, a4⟩ := op_sign_all n hn i hi; refine ⟨a1, a2, a3, ?_⟩; have ht : (signsN n)[i] = (tokAt T s).text := by simpa using hp
  rw [a4, List.getD_eq_getElem?_getD, List.getElem?_eq_getElem hi]; simp [tokT, h5, ht]
 ·cases h
structure Rt (T : List TokD) (L : Nat) (s s1 : PSt) (b : Nat) (t : Tr false) : Prop where
 fit : t.Fit
 num : t.Num
 out : s1.out = s.out ++ t.flat s.out.length
 plc : b = s.out.length + t.cnt - 1
 deep : s1.deep = s.deep
 need : s.deep + opd L t.rank t.need ≤ 12
 wid : W (t.opt L) + pw T s.at_ ≤ pw T s1.at_
structure Lt (T : List TokD) (n : Nat) (s s1 : PSt) (b : Nat) (o : List NodeD) (ta t : Tr false) : Prop where
 fit : t.Fit
 num : t.Num
 out : s1.out = o ++ t.flat o.length
 plc : b = o.length + t.cnt - 1
 deep : s1.deep = s.deep
 need : s.deep + opd (n + 1) t.rank t.need ≤ 12
 wid : W (t.opt (n + 1)) + pw T s.at_ ≤ W (ta.opt (n + 1)) + pw T s1.at_
structure At (T : List TokD) (s s1 : PSt) (b : Nat) (o : List NodeD) (x : List UInt8) (rs : Tr true) (r1 : Tr true) (a1 : Tr false) : Prop where
 fit : (Tr.call x (.snoc r1 a1)).Fit
 num : r1.Num ∧ a1.Num
 out : s1.out = o ++ (Tr.call x (.snoc r1 a1)).flat o.length
 plc : b = o.length + (Tr.call x (.snoc r1 a1)).cnt - 1
 deep : s1.deep = s.deep - 1
 need : s.deep + (Tr.snoc r1 a1).need ≤ 12
 wid : W r1.toks + W a1.toks + 1 + pw T s.at_ ≤ W rs.toks + pw T s1.at_
def PutT (T : List TokD) (m : PMode) (s : PSt) : PRes → Prop
 | .err _ => True
 | .ok s1 b => s.deep ≤ 12 → match m with
  | .lev n => n < 4 → ∃ t, Rt T (n + 1) s s1 b t
  | .unary => ∃ t, Rt T 5 s s1 b t
  | .prim => ∃ t, Rt T 6 s s1 b t
  | .loop n a => n < 4 → ∀ o (ta : Tr false), ta.Fit → ta.Num → s.out = o ++ ta.flat o.length → a = o.length + ta.cnt - 1 → s.deep + opd (n + 1) ta.rank ta.need ≤ 12 → ∃ t, Lt T n s s1 b o ta t
  | .args x ks => ∀ o (rs : Tr true), nameF x = true → rs.Fit → rs.Num → s.out = o ++ rs.flat o.length → ks = rs.kids o.length → s.deep + rs.need ≤ 12 → 1 ≤ s.deep → ∃ r1 a1, At T s s1 b o x rs r1 a1
theorem opd_mono {L L' r d : Nat} (h : L ≤ L') : opd L r d ≤ opd L' r d := by
 unfold opd
 split <;> split <;> omega
theorem opd_le (L r d : Nat) : opd L r d ≤ d + 1 := by
 unfold opd
 split <;> omega
theorem opd_ge (L r d : Nat) : d ≤ opd L r d := by
 unfold opd
 split <;> omega
theorem optW_mono (t : Tr false) {L L' : Nat} (h : L ≤ L') : W (t.opt L) ≤ W (t.opt L') := by
 rw [opt_W, opt_W]
 split <;> split <;> omega
theorem Rt.low {T : List TokD} {L L' : Nat} {s s1 : PSt} {b : Nat} {t : Tr false} (h : Rt T L s s1 b t) (hl : L' ≤ L) : Rt T L' s s1 b t :=
 ⟨h.fit, h.num, h.out, h.plc, h.deep, by have := opd_mono (r := t.rank) (d := t.need) hl; have := h.need; omega, by have := optW_mono t hl; have := h.wid; omega⟩
theorem putT_below {T : List TokD} {n : Nat} (hn : n < 4) {s s1 : PSt} {a : Nat} (h : PutT T (below n) s (.ok s1 a)) (hd : s.deep ≤ 12) : ∃ t, Rt T (n + 2) s s1 a t := by
 unfold below at h
 split at h
 ·exact h hd (by omega)
 ·have e : n = 3 := by omega
  subst e; exact h hd
theorem Rt.leaf {T : List TokD} {s s1 : PSt} {n : NodeD} (k : Int) (hkk : n.kind = k) (h0 : 1 ≤ k) (h1 : k ≤ 6) (hk : n.kids = []) (hp : plainB n = true) (hn : ∀ k ∈ leafK n, k.num ≤ 9223372036854775807) (hd : s.deep ≤ 12) (ho : s1.out = s.out ++ [n]) (hdd : s1.deep = s.deep) (hw : W (leafK n) + pw T s.at_ ≤ pw T s1.at_) : ∃ t, Rt T 6 s s1 s.out.length t := by
 refine ⟨.leaf n, ⟨by omega, by omega, hk, hp⟩, hn, ho, by simp [Tr.cnt], hdd, hd, ?_⟩; rw [opt_W]
 simpa [Tr.rank, Tr.toks] using hw
theorem num_neg {a : Tr false} (h : a.Num) : (Tr.neg a).Num := fun k hk => by
 simp only [Tr.toks, List.mem_cons] at hk; rcases hk with rfl | hk
 ·decide
 ·rcases brk_mem hk with hk | rfl | rfl
  ·exact h k hk
  ·decide
  ·decide
theorem num_two {o : Int} {a b : Tr false} (h : a.Num) (h' : b.Num) : (Tr.two o a b).Num := fun k hk => by
 simp only [Tr.toks, List.mem_append, List.mem_cons] at hk; rcases hk with hk | rfl | hk
 ·rcases brk_mem hk with hk | rfl | rfl
  ·exact h k hk
  ·decide
  ·decide
 ·show (0 : Int) ≤ _; decide
 ·rcases brk_mem hk with hk | rfl | rfl
  ·exact h' k hk
  ·decide
  ·decide
theorem num_snoc {rs : Tr true} {a : Tr false} (h : rs.Num) (h' : a.Num) : (Tr.snoc rs a).Num := fun k hk => by
 simp only [Tr.toks, List.mem_append, List.mem_cons, List.not_mem_nil, or_false] at hk; rcases hk with hk | hk | rfl
 ·exact h k hk
 ·exact h' k hk
 ·decide
theorem num_call {x : List UInt8} {rs : Tr true} {a : Tr false} (h : rs.Num) (h' : a.Num) : (Tr.call x (.snoc rs a)).Num := fun k hk => by
 simp only [Tr.toks, List.mem_cons, List.mem_append, List.not_mem_nil, or_false] at hk; rcases hk with rfl | rfl | hk | hk | rfl
 ·show (0 : Int) ≤ _; decide
 ·decide
 ·exact h k hk
 ·exact h' k hk
 ·decide
theorem PE.trees {T : List TokD} (hT : CanT T) {m : PMode} {s : PSt} {r : PRes} (h : PE T m s r) : PutT T m s r := by
 induction h with
 | lev_err _ _ => trivial
 | @lev_ok n s s1 a r _ _ ih1 ih2 =>
  cases r with
  | err e => trivial
  | ok s2 b =>
   intro hd hn; obtain ⟨t, h1⟩ := putT_below hn ih1 hd; have h1 := h1.low (show n + 1 ≤ n + 2 by omega); obtain ⟨u, h2⟩ := ih2 (by rw [h1.deep]; exact hd) hn s.out t h1.fit h1.num h1.out h1.plc (by rw [h1.deep]; exact h1.need)
   exact ⟨u, h2.fit, h2.num, h2.out, h2.plc, h2.deep.trans h1.deep, by rw [← h1.deep]; exact h2.need, by have := h1.wid; have := h2.wid; omega⟩
 | @loop_end n s a _ => exact fun hd hn o ta h1 h2 h3 h4 h5 => ⟨ta, h1, h2, h3, h4, rfl, h5, Nat.le_refl _⟩
 | loop_err _ _ _ => trivial
 | @loop_go n s a i s1 b r hi _ _ ih1 ih2 =>
  cases r with
  | err e => trivial
  | ok s2 c =>
   intro hd hn o ta h1 h2 h3 h4 h5; obtain ⟨k0, k1, k2, k3⟩ := op_sign hn hi; obtain ⟨tb, hb⟩ := putT_below hn ih1 hd; have hbo : s1.out = s.out ++ tb.flat s.out.length := hb.out; have hbd : s1.deep = s.deep := hb.deep; have hbn : s.deep + opd (n + 2) tb.rank tb.need ≤ 12 := hb.need; have hbp : b = s.out.length + tb.cnt - 1 := hb.plc; have hbw : W (tb.opt (n + 2)) + pw T (s.at_ + 1) ≤ pw T s1.at_ := hb.wid; have hsl : s.out.length = o.length + ta.cnt := by rw [h3, List.length_append, Tr.flat_len]
   have hneed : (Tr.two ((kindsN n).getD i 0) ta tb).need = max (opd (n + 1) ta.rank ta.need) (opd (n + 2) tb.rank tb.need) := by simp only [Tr.need, k2]
   have hrank : (Tr.two ((kindsN n).getD i 0) ta tb).rank = n + 1 := k2; have hopd : opd (n + 1) (Tr.two ((kindsN n).getD i 0) ta tb).rank (Tr.two ((kindsN n).getD i 0) ta tb).need = max (opd (n + 1) ta.rank ta.need) (opd (n + 2) tb.rank tb.need) := by
    unfold opd; rw [hrank, if_neg (by omega), hneed]; rfl
   have hW : W ((Tr.two ((kindsN n).getD i 0) ta tb).opt (n + 1)) = W (ta.opt (n + 1)) + (signK ((kindsN n).getD i 0)).length + W (tb.opt (n + 2)) := by
    have e2 : tb.opt (n + 2) = brk (decide (tb.rank < n + 1 + 1)) tb.toks := rfl; have e1 : ta.opt (n + 1) = brk (decide (ta.rank < n + 1)) ta.toks := rfl; rw [opt_W, hrank, if_neg (by omega), e1, e2]; simp only [Tr.toks, W_app, W_cons, W_sg, k2]; omega
   have hpw := pw_adv T s; obtain ⟨t, h⟩ := ih2 (by show s1.deep ≤ 12; omega) hn o (.two ((kindsN n).getD i 0) ta tb) ⟨k0, k1, h1, hb.fit⟩ (num_two h2 hb.num) (by
    show s1.out ++ [_] = _; rw [hbo, hbp, h3, h4]; simp only [Tr.flat, List.append_assoc, List.length_append, Tr.flat_len]) (by
    show s1.out.length = _; rw [hbo, List.length_append, Tr.flat_len, hsl]; simp only [Tr.cnt]; omega) (by
    show s1.deep + _ ≤ 12; rw [hopd, hbd]; omega)
   have e1 : (putS s1 { kind := (kindsN n).getD i 0, kids := [(a : Int), (b : Int)] }).deep = s1.deep := rfl; have e2 : (putS s1 { kind := (kindsN n).getD i 0, kids := [(a : Int), (b : Int)] }).at_ = s1.at_ := rfl; refine ⟨t, h.fit, h.num, h.out, h.plc, by rw [h.deep, e1, hbd], by have := h.need; rw [e1, hbd] at this; exact this, ?_⟩; have := h.wid; rw [e2, hW] at this
   omega
 | @un_prim s r _ _ ih =>
  cases r with
  | err e => trivial
  | ok s2 b =>
   intro hd; obtain ⟨t, h⟩ := ih hd
   exact ⟨t, h.low (by omega)⟩
 | un_deep _ _ => trivial
 | un_err _ _ _ _ => trivial
 | @un_ok s s1 a hi hd _ ih =>
  intro _; obtain ⟨t, h⟩ := ih (by show s.deep + 1 ≤ 12; omega); have ho : s1.out = s.out ++ t.flat s.out.length := h.out; have hdp : s1.deep = s.deep + 1 := h.deep; have hne : s.deep + 1 + opd 5 t.rank t.need ≤ 12 := h.need; have hp : a = s.out.length + t.cnt - 1 := h.plc; have hw : W (t.opt 5) + pw T (s.at_ + 1) ≤ pw T s1.at_ := h.wid; have hpw := pw_adv T s; have hc := isS_len hi; simp only [List.length_cons, List.length_nil] at hc; refine ⟨.neg t, h.fit, num_neg h.num, ?_, ?_, ?_, ?_, ?_⟩
  ·show s1.out ++ [_] = _; rw [ho, hp]; simp only [Tr.flat, List.append_assoc]
  ·rw [ho, List.length_append, Tr.flat_len]; simp only [Tr.cnt]; omega
  ·show s1.deep - 1 = s.deep; omega
  ·have : opd 5 (Tr.neg t).rank (Tr.neg t).need = opd 5 t.rank t.need + 1 := rfl; rw [this]; omega
  ·have : W ((Tr.neg t).opt 5) = 1 + W (t.opt 5) := by
    rw [opt_W (.neg t)]; simp only [Tr.rank, Tr.toks, W_cons, W_sg, Tr.opt, List.length_cons, List.length_nil]; rfl
   rw [this]; show _ ≤ pw T s1.at_
   omega
 | pr_sign _ _ => trivial
 | pr_deep _ _ => trivial
 | pr_err _ _ _ _ => trivial
 | pr_open _ _ _ _ _ => trivial
 | @pr_ok s s1 a hi hd _ h41 ih =>
  intro _; obtain ⟨t, h⟩ := ih (by show s.deep + 1 ≤ 12; omega) (by omega); have hdp : s1.deep = s.deep + 1 := h.deep; have hne : s.deep + 1 + opd 1 t.rank t.need ≤ 12 := h.need; have hw : W (t.opt 1) + pw T (s.at_ + 1) ≤ pw T s1.at_ := h.wid; have hpw := pw_adv T s; have hpw1 := pw_adv T s1; have hc := isS_len hi; have hc1 := isS_len h41; simp only [List.length_cons, List.length_nil] at hc hc1; refine ⟨t, h.fit, h.num, h.out, h.plc, ?_, ?_, ?_⟩
  ·show s1.deep - 1 = s.deep; omega
  ·have := opd_le 6 t.rank t.need; have := opd_ge 1 t.rank t.need; omega
  ·show _ ≤ pw T (s1.at_ + 1); rw [opt_W] at hw ⊢
   split <;> omega
 | pr_end _ => trivial
 | @pr_num s h =>
  intro hd; obtain ⟨e, h0, h1⟩ := tok1 (tok_can hT (s := s) (by omega)) h; have hpw := pw_adv T s; have ek : leafK { kind := 1, num := (tokAt T s).num } = [nA (tokAt T s)] := by rw [e]; rfl
  refine Rt.leaf 1 rfl (by decide) (by decide) rfl (plain_leaf (by show decide (0 ≤ (tokAt T s).num) = true; exact decide_eq_true h0) ⟨rfl, rfl, rfl, rfl⟩) (by rw [ek]; intro k hk; rw [List.mem_singleton.1 hk]; exact h1) hd rfl rfl ?_; rw [ek, W_cons, W_nil, tokT_nA]; show _ ≤ pw T (s.at_ + 1)
  omega
 | @pr_text s h =>
  intro hd; obtain ⟨e, h0⟩ := tok2 (tok_can hT (s := s) (by omega)) h; have hpw := pw_adv T s; have ek : leafK { kind := 2, text := (tokAt T s).text } = [nA (tokAt T s)] := by rw [e]; rfl
  refine Rt.leaf 2 rfl (by decide) (by decide) rfl (plain_leaf (by show prB (tokAt T s).text = true; exact h0) ⟨rfl, rfl, rfl, rfl⟩) (by rw [ek]; intro k hk; rw [List.mem_singleton.1 hk, e]; show (0 : Int) ≤ 9223372036854775807; decide) hd rfl rfl ?_; rw [ek, W_cons, W_nil, tokT_nA]; show _ ≤ pw T (s.at_ + 1)
  omega
 | @pr_dead s h =>
  intro hd; have e := tok6 (tok_can hT (s := s) (by omega)) h; have hpw := pw_adv T s; have ek : leafK { kind := 4 } = [nA (tokAt T s)] := by rw [e]; rfl
  refine Rt.leaf 4 rfl (by decide) (by decide) rfl rfl (by rw [ek]; intro k hk; rw [List.mem_singleton.1 hk, e]; show (0 : Int) ≤ 9223372036854775807; decide) hd rfl rfl ?_; rw [ek, W_cons, W_nil, tokT_nA]; show _ ≤ pw T (s.at_ + 1)
  omega
 | @pr_ref s h _ =>
  intro hd; obtain ⟨e, h0⟩ := tok4 (tok_can hT (s := s) (by omega)) h; have hpw := pw_adv T s; have ek : leafK { kind := 5, ref := (tokAt T s).ref } = [nA (tokAt T s)] := by rw [e]; rfl
  refine Rt.leaf 5 rfl (by decide) (by decide) rfl (plain_leaf (by show mayB (tokAt T s).ref = true; exact h0) ⟨rfl, rfl, rfl, rfl⟩) (by rw [ek]; intro k hk; rw [List.mem_singleton.1 hk, e]; show (0 : Int) ≤ 9223372036854775807; decide) hd rfl rfl ?_; rw [ek, W_cons, W_nil, tokT_nA]; show _ ≤ pw T (s.at_ + 1)
  omega
 | @pr_range s h hi h' hr =>
  intro hd; obtain ⟨e, h0⟩ := tok4 (tok_can hT (s := s) (by omega)) h; obtain ⟨e', h0'⟩ := tok4 (tok_can hT (s := adv (adv s)) (by omega)) h'; have hpw := pw_adv T s; have hpw1 : pw T (s.at_ + 1 + 1) = pw T (s.at_ + 1) + (tokT (tokAt T (adv s))).length := pw_adv T (adv s); have hpw2 : pw T (s.at_ + 1 + 1 + 1) = pw T (s.at_ + 1 + 1) + (tokT (tokAt T (adv (adv s)))).length := pw_adv T (adv (adv s)); have hc := isS_len hi; simp only [List.length_cons, List.length_nil] at hc; have ek : leafK { kind := 6, ref := (tokAt T s).ref, to := (tokAt T (adv (adv s))).ref } = [nA (tokAt T s), sg [58], nA (tokAt T (adv (adv s)))] := by rw [e, e']; rfl
  refine Rt.leaf 6 rfl (by decide) (by decide) rfl (plain_leaf (by show (mayB (tokAt T s).ref && (mayB (tokAt T (adv (adv s))).ref && rangesB (tokAt T s).ref (tokAt T (adv (adv s))).ref)) = true; have h0 : mayB (tokAt T s).ref = true := h0; have h0' : mayB (tokAt T (adv (adv s))).ref = true := h0'; rw [h0, h0', hr]; rfl) ⟨rfl, rfl, rfl, rfl⟩) (by
   rw [ek]; intro k hk; simp only [List.mem_cons, List.not_mem_nil, or_false] at hk; rcases hk with rfl | rfl | rfl
   ·rw [e]; show (0 : Int) ≤ 9223372036854775807; decide
   ·decide
   ·rw [e']; show (0 : Int) ≤ 9223372036854775807; decide) hd rfl rfl ?_
  rw [ek, W_cons, W_cons, W_cons, W_nil, tokT_nA, tokT_nA, W_sg]; show _ ≤ pw T (s.at_ + 1 + 1 + 1); simp only [List.length_cons, List.length_nil]
  omega
 | pr_norange _ _ _ => trivial
 | @pr_true s h h1 =>
  intro hd; have hpw := pw_adv T s; have hl : (tokT (tokAt T s)).length = 4 := by simp [tokT, h, h1, trueT]
  refine Rt.leaf 3 rfl (by decide) (by decide) rfl rfl (by decide) hd rfl rfl ?_; have : W (leafK { kind := 3, num := 1 }) = 4 := rfl; rw [this]; show _ ≤ pw T (s.at_ + 1)
  omega
 | @pr_false s h h1 =>
  intro hd; have hpw := pw_adv T s; have hl : (tokT (tokAt T s)).length = 5 := by simp [tokT, h, h1, falseT]
  refine Rt.leaf 3 rfl (by decide) (by decide) rfl rfl (by decide) hd rfl rfl ?_; have : W (leafK { kind := 3 }) = 5 := rfl; rw [this]; show _ ≤ pw T (s.at_ + 1)
  omega
 | pr_nocall _ _ _ _ => trivial
 | pr_calldeep _ _ _ _ _ => trivial
 | @pr_call0 s h h1 h2 h40 hd h41 =>
  intro _; obtain ⟨e, f0, f1⟩ := tok3 (tok_can hT (s := s) (by omega)) h; have hn : nameF (tokAt T s).text = true := by
   have f0 : fnB (tokAt T s).text = true := f0; have f1 : okRead (tokAt T s).text = false := f1; simp [nameF, f0, f1, h1, h2]
  have hpw := pw_adv T s; have hpw1 : pw T (s.at_ + 1 + 1) = pw T (s.at_ + 1) + (tokT (tokAt T (adv s))).length := pw_adv T (adv s); have hpw2 : pw T (s.at_ + 1 + 1 + 1) = pw T (s.at_ + 1 + 1) + (tokT (tokAt T (deeper (adv (adv s))))).length := pw_adv T (deeper (adv (adv s))); have hc := isS_len h40; have hc1 := isS_len h41; have hx : (tokT (tokAt T s)).length = (tokAt T s).text.length := by simp [tokT, h]
  simp only [List.length_cons, List.length_nil] at hc hc1; refine ⟨.call (tokAt T s).text .nil, ⟨hn, trivial⟩, ?_, rfl, by simp [Tr.cnt], rfl, ?_, ?_⟩
  ·intro k hk; simp only [Tr.toks, List.mem_cons, List.not_mem_nil, or_false] at hk; rcases hk with rfl | rfl | rfl
   ·show (0 : Int) ≤ _; decide
   ·decide
   ·decide
  ·show s.deep + 1 ≤ 12; omega
  ·rw [opt_W]; simp only [Tr.rank, Tr.toks, W_cons, W_nil, W_sg, List.length_cons, List.length_nil]; show (tokAt T s).text.length + _ + _ + _ ≤ pw T (s.at_ + 1 + 1 + 1); simp
   omega
 | @pr_call s r h h1 h2 h40 hd h41 _ ih =>
  cases r with
  | err e => trivial
  | ok s2 b =>
   intro _; obtain ⟨e, f0, f1⟩ := tok3 (tok_can hT (s := s) (by omega)) h; have hn : nameF (tokAt T s).text = true := by
    have f0 : fnB (tokAt T s).text = true := f0; have f1 : okRead (tokAt T s).text = false := f1; simp [nameF, f0, f1, h1, h2]
   obtain ⟨r1, a1, hh⟩ := ih (by show s.deep + 1 ≤ 12; omega) s.out .nil hn trivial (fun k hk => by cases hk) (by simp [Tr.flat, deeper, adv]) rfl (by show s.deep + 1 + 0 ≤ 12; omega) (by show 1 ≤ s.deep + 1; omega); have hpw := pw_adv T s; have hpw1 : pw T (s.at_ + 1 + 1) = pw T (s.at_ + 1) + (tokT (tokAt T (adv s))).length := pw_adv T (adv s); have hc := isS_len h40; have hx : (tokT (tokAt T s)).length = (tokAt T s).text.length := by simp [tokT, h]
   simp only [List.length_cons, List.length_nil] at hc; have hne : s.deep + 1 + (Tr.snoc r1 a1).need ≤ 12 := hh.need; have hw : W r1.toks + W a1.toks + 1 + pw T (s.at_ + 1 + 1) ≤ 0 + pw T s2.at_ := hh.wid; have hdp : s2.deep = s.deep + 1 - 1 := hh.deep; refine ⟨.call (tokAt T s).text (.snoc r1 a1), hh.fit, num_call hh.num.1 hh.num.2, hh.out, hh.plc, by omega, ?_, ?_⟩
   ·show s.deep + ((Tr.snoc r1 a1).need + 1) ≤ 12; omega
   ·rw [opt_W]; simp only [Tr.rank, Tr.toks, W_cons, W_app, W_nil, W_sg, List.length_cons, List.length_nil]; show (tokAt T s).text.length + _ + _ + _ ≤ _; simp
    omega
 | ar_err _ _ => trivial
 | @ar_go x ks s s1 a r _ h44 _ ih1 ih2 =>
  cases r with
  | err e => trivial
  | ok s2 b =>
   intro hd o rs hx h1 h2 h3 h4 h5 h6; obtain ⟨t, h⟩ : ∃ t, Rt T 1 s s1 a t := ih1 hd (by omega); have hop := opd_ge 1 t.rank t.need; have hne := h.need; have hdp := h.deep; have hsl : s.out.length = o.length + rs.cnt := by rw [h3, List.length_append, Tr.flat_len]
   obtain ⟨r1, a1, hh⟩ := ih2 (by show s1.deep ≤ 12; omega) o (.snoc rs t) hx ⟨h1, h.fit⟩ (num_snoc h2 h.num) (by
    show s1.out = _; rw [h.out, h3]; simp only [Tr.flat, List.append_assoc, List.length_append, Tr.flat_len]) (by
    rw [h4, h.plc, hsl]; simp only [Tr.kids]) (by
    show s1.deep + max rs.need t.need ≤ 12; omega) (by show 1 ≤ s1.deep; omega)
   have hw1 : W (t.opt 1) + pw T s.at_ ≤ pw T s1.at_ := h.wid; have hw2 : W r1.toks + W a1.toks + 1 + pw T (s1.at_ + 1) ≤ W (Tr.snoc rs t).toks + pw T s2.at_ := hh.wid; have hpw := pw_adv T s1; have hc := isS_len h44; simp only [List.length_cons, List.length_nil] at hc; have hd2 : s2.deep = s1.deep - 1 := hh.deep; have hn2 : s1.deep + (Tr.snoc r1 a1).need ≤ 12 := hh.need; refine ⟨r1, a1, hh.fit, hh.num, hh.out, hh.plc, by omega, by omega, ?_⟩; rw [opt_W] at hw1; simp only [Tr.toks, W_app, W_cons, W_nil, W_sg, List.length_cons, List.length_nil] at hw2
   omega
 | ar_open _ _ _ _ => trivial
 | @ar_end x ks s s1 a _ h44 h41 ih =>
  intro hd o rs hx h1 h2 h3 h4 h5 h6; obtain ⟨t, h⟩ : ∃ t, Rt T 1 s s1 a t := ih hd (by omega); have hop := opd_ge 1 t.rank t.need; have hne := h.need; have hdp := h.deep; have hsl : s.out.length = o.length + rs.cnt := by rw [h3, List.length_append, Tr.flat_len]
  have hw1 : W (t.opt 1) + pw T s.at_ ≤ pw T s1.at_ := h.wid; have hpw := pw_adv T s1; have hc := isS_len h41; simp only [List.length_cons, List.length_nil] at hc; refine ⟨rs, t, ⟨hx, h1, h.fit⟩, ⟨h2, h.num⟩, ?_, ?_, by show s1.deep - 1 = s.deep - 1; omega, ?_, ?_⟩
  ·show s1.out ++ [_] = _; rw [h.out, h3, h4, h.plc, hsl]; simp only [Tr.flat, Tr.kids, List.append_assoc, List.length_append, Tr.flat_len]
  ·rw [h.out, h3]; simp only [List.length_append, Tr.flat_len, Tr.cnt]; omega
  ·show s.deep + max rs.need t.need ≤ 12; omega
  ·show _ ≤ _ + pw T (s1.at_ + 1); rw [opt_W] at hw1; omega
theorem read_tree {s : List UInt8} {T : List TokD} {l : List NodeD} (h : lexT s = some T) (hp : Parsed T (.ok l)) : ∃ t : Tr false, t.Fit ∧ t.Num ∧ t.flat 0 = l ∧ t.need ≤ 12 ∧ t.text.length ≤ s.length := by
 obtain ⟨hC, hw⟩ := lexF_can _ s 0 (Nat.le_refl _) h; obtain ⟨s1, a, hpe, _, ho⟩ := hp; obtain ⟨t, ht⟩ := (hpe.trees hC) (by simp) (by omega); have h1 := ht.out; have h2 := ht.need; have h3 := ht.wid; have h4 := opd_ge 1 t.rank t.need; have h5 := pw_le T s1.at_; rw [opt_W] at h3; have h6 : W T ≤ s.length := hw; refine ⟨t, ht.fit, ht.num, by rw [← ho, h1]; rfl, by simp only [Nat.zero_add] at h2; omega, ?_⟩; show W t.toks ≤ _; omega
noncomputable def parseT (s : List UInt8) : Except Int (List NodeD) := open Classical in
 if 300 < s.length then .error 4 else match lexT s with
 | none => .error 5
 | some T => if h : ∃ o, Parsed T o then h.choose else .error 0
theorem parseT_of {s : List UInt8} {T : List TokD} {o : Except Int (List NodeD)} (h300 : s.length ≤ 300) (hl : lexT s = some T) (hp : Parsed T o) : parseT s = o := by
 unfold parseT; rw [if_neg (by omega), hl]; have hx : ∃ o, Parsed T o := ⟨o, hp⟩; simp only; rw [dif_pos hx]; exact hx.choose_spec.det hp
theorem ParseV.res {s : List UInt8} {v : Value} {w : World} {lo : Nat} (h : ParseV s v w lo) : ResV w lo v (parseT s) := by
 unfold ParseV at h; by_cases h1 : 300 < s.length
 ·rw [if_pos h1] at h; have : parseT s = .error 4 := by unfold parseT; rw [if_pos h1]
  rw [this]; exact h
 ·rw [if_neg h1] at h
  cases e : lexT s with
  | none =>
   rw [e] at h; have : parseT s = .error 5 := by unfold parseT; rw [if_neg h1, e]
   rw [this]; exact h
  | some T =>
   rw [e] at h; obtain ⟨o, hp, hr⟩ := h; rw [parseT_of (by omega) e hp]; exact hr
theorem parseT_ok {s : List UInt8} {l : List NodeD} (h : parseT s = .ok l) : s.length ≤ 300 ∧ ∃ t : Tr false, t.Fit ∧ t.Num ∧ t.flat 0 = l ∧ t.need ≤ 12 ∧ t.text.length ≤ s.length := by
 unfold parseT at h
 split at h
 ·cases h
 ·rename_i h1
  split at h
  ·cases h
  ·rename_i T e
   split at h
   ·rename_i hx; have := hx.choose_spec; rw [h] at this; exact ⟨by omega, read_tree e this⟩
   ·cases h
theorem parseT_text (t : Tr false) (hf : t.Fit) (hn : t.Num) : parseT t.text = if 300 < t.text.length then .error 4 else if t.need ≤ 12 then .ok (t.flat 0) else .error 6 := by
 obtain ⟨T, h1, h2⟩ := t.lex hf hn; by_cases h3 : 300 < t.text.length
 ·rw [if_pos h3]; unfold parseT; rw [if_pos h3]
 ·rw [if_neg h3]; exact parseT_of (by omega) h1 (t.again hf h2)
def rootN (o : Nat) : Tr false → NodeD
 | .leaf n => n
 | .neg a => { kind := 8, kids := [((o + a.cnt - 1 : Nat) : Int)] }
 | .two k a b => { kind := k, kids := [((o + a.cnt - 1 : Nat) : Int), ((o + a.cnt + b.cnt - 1 : Nat) : Int)] }
 | .call x ks => { kind := 7, text := x, kids := ks.kids o }
def bodyN (o : Nat) : Tr false → List NodeD
 | .leaf _ => []
 | .neg a => a.flat o
 | .two _ a b => a.flat o ++ b.flat (o + a.cnt)
 | .call _ ks => ks.flat o
theorem flat_root (o : Nat) (t : Tr false) : t.flat o = bodyN o t ++ [rootN o t] := by
 cases t with
 | leaf n => rfl
 | neg a => rfl
 | two k a b => rfl
 | call x ks => rfl
theorem body_len (o : Nat) (t : Tr false) : (bodyN o t).length + 1 = t.cnt := by
 have := congrArg List.length (flat_root o t)
 simpa [Tr.flat_len] using this.symm
theorem snoc_inj {α : Type} {a b : List α} {x y : α} (h : a ++ [x] = b ++ [y]) : a = b ∧ x = y := by
 have := List.append_inj' h rfl; exact ⟨this.1, by simpa using this.2⟩
theorem kids_len : ∀ (ks : Tr true) (o o' : Nat), (ks.kids o).length = (ks.kids o').length
 | .nil, _, _ => rfl
 | .snoc rs a, o, o' => by simp [Tr.kids, kids_len rs o o']
theorem Tr.inj : ∀ {b : Bool} (t u : Tr b), t.Fit → u.Fit → ∀ l m : List NodeD, l ++ t.flat l.length = m ++ u.flat m.length → (b = false ∨ (t.kids 0).length = (u.kids 0).length) → t = u ∧ l = m
 | _, .leaf n, u, hf, hu, l, m, h, _ => by
  rw [flat_root _ u, ← List.append_assoc] at h; obtain ⟨h1, h2⟩ := snoc_inj (a := l) h
  cases u with
  | leaf n' => exact ⟨by rw [show n = n' from h2], by simpa [bodyN] using h1⟩
  | neg a => have := hf.2.1; rw [h2] at this; simp [rootN] at this
  | two k a b => have := hf.2.1; have := hu.1; rw [h2] at *; simp [rootN] at *; omega
  | call x ks => have := hf.2.1; rw [h2] at this; simp [rootN] at this
 | _, .neg a, u, hf, hu, l, m, h, _ => by
  rw [flat_root _ u, flat_root _ (.neg a), ← List.append_assoc, ← List.append_assoc] at h; obtain ⟨h1, h2⟩ := snoc_inj h
  cases u with
  | leaf n' => have := hu.2.1; rw [← show rootN l.length (.neg a) = n' from h2] at this; simp [rootN] at this
  | neg a' =>
   obtain ⟨e1, e2⟩ := inj a a' hf hu l m h1 (.inl rfl)
   exact ⟨by rw [e1], e2⟩
  | two k a b => have := hu.1; have h3 := congrArg NodeD.kind h2; simp [rootN] at h3; omega
  | call x ks => have h3 := congrArg NodeD.kind h2; simp [rootN] at h3
 | _, .two k a b, u, hf, hu, l, m, h, _ => by
  rw [flat_root _ u, flat_root _ (.two k a b), ← List.append_assoc, ← List.append_assoc] at h; obtain ⟨h1, h2⟩ := snoc_inj h; have h3 := congrArg NodeD.kind h2; have hk := hf.1
  cases u with
  | leaf n' => have := hu.2.1; simp [rootN] at h3; omega
  | neg a' => simp [rootN] at h3; omega
  | two k' a' b' =>
   simp only [bodyN] at h1; rw [← List.append_assoc, ← List.append_assoc] at h1; have e : l.length + a.cnt = (l ++ a.flat l.length).length := by simp [Tr.flat_len]
   have e' : m.length + a'.cnt = (m ++ a'.flat m.length).length := by simp [Tr.flat_len]
   rw [e, e'] at h1; obtain ⟨q1, q2⟩ := inj b b' hf.2.2.2 hu.2.2.2 _ _ h1 (.inl rfl); obtain ⟨q3, q4⟩ := inj a a' hf.2.2.1 hu.2.2.1 l m q2 (.inl rfl); refine ⟨?_, q4⟩
   rw [q1, q3, show k = k' from h3]
  | call x ks => simp [rootN] at h3; omega
 | _, .call x ks, u, hf, hu, l, m, h, _ => by
  rw [flat_root _ u, flat_root _ (.call x ks), ← List.append_assoc, ← List.append_assoc] at h; obtain ⟨h1, h2⟩ := snoc_inj h; have h3 := congrArg NodeD.kind h2
  cases u with
  | leaf n' => have := hu.2.1; simp [rootN] at h3; omega
  | neg a' => simp [rootN] at h3
  | two k a b => have := hu.1; simp [rootN] at h3; omega
  | call x' ks' =>
   have h4 := congrArg (fun n => n.kids.length) h2; simp only [rootN] at h4; obtain ⟨q1, q2⟩ := inj ks ks' hf.2 hu.2 l m h1 (.inr (by rw [kids_len ks 0 l.length, kids_len ks' 0 m.length]; exact h4)); have h5 := congrArg NodeD.text h2; refine ⟨?_, q2⟩
   rw [q1, show x = x' from h5]
 | _, .nil, u, _, _, l, m, h, hk => by
  rcases u.snoc_form with rfl | ⟨rs, a, rfl⟩
  ·exact ⟨rfl, by simpa [Tr.flat] using h⟩
  ·simp [Tr.kids] at hk
 | _, .snoc rs a, u, hf, hu, l, m, h, hk => by
  rcases u.snoc_form with rfl | ⟨rs', a', rfl⟩
  ·simp [Tr.kids] at hk
  ·simp only [Tr.flat] at h; rw [← List.append_assoc, ← List.append_assoc] at h; have e : l.length + rs.cnt = (l ++ rs.flat l.length).length := by simp [Tr.flat_len]
   have e' : m.length + rs'.cnt = (m ++ rs'.flat m.length).length := by simp [Tr.flat_len]
   rw [e, e'] at h; obtain ⟨q1, q2⟩ := inj a a' hf.2 hu.2 _ _ h (.inl rfl); obtain ⟨q3, q4⟩ := inj rs rs' hf.1 hu.1 l m q2 (.inr (by simpa [Tr.kids] using hk)); exact ⟨by rw [q1, q3], q4⟩
theorem Tr.goes : ∀ {b : Bool} (t : Tr b), t.Fit → ∀ (o : Nat) (st : List Int), treeGo o st (t.flat o) = some (st ++ (if b then t.kids o else [((o + t.cnt - 1 : Nat) : Int)]))
 | _, .leaf n, hf, o, st => by
  have hc : kidN n = n.kids.length := by
   have h1 := hf.1; have h2 := hf.2.1; have hcI : countI n.kind = 0 := by
    unfold countI; rw [if_neg (by omega), if_neg (by omega), if_neg (by omega), if_neg (by omega)]
   rw [hf.2.2.1, kidN, hcI]; rfl
  have := tree_put (l := []) (i := o) (st := st) (st' := st) (ks := []) (by simp [treeGo]) hf.2.2.1 hc hf.2.2.2
  simpa [Tr.cnt, Tr.flat] using this
 | _, .neg a, hf, o, st => by
  have h := goes a hf o st; have := tree_put (ks := [((o + a.cnt - 1 : Nat) : Int)]) (n := { kind := 8, kids := [((o + a.cnt - 1 : Nat) : Int)] }) h rfl rfl rfl; rw [Tr.flat_len] at this
  simpa [Tr.cnt, Tr.flat] using this
 | _, .two k a b, hf, o, st => by
  have h1 := goes a hf.2.2.1 o st; have h2 := goes b hf.2.2.2 (o + a.cnt) (st ++ [((o + a.cnt - 1 : Nat) : Int)]); have hn := two_node hf.1 hf.2.1 ((o + a.cnt - 1 : Nat) : Int) ((o + a.cnt + b.cnt - 1 : Nat) : Int); have h3 : treeGo o st (a.flat o ++ b.flat (o + a.cnt)) = some (st ++ [((o + a.cnt - 1 : Nat) : Int), ((o + a.cnt + b.cnt - 1 : Nat) : Int)]) := by
   rw [treeGo_app, h1]; simp only [Bool.false_eq_true, if_false, Option.bind_some, Tr.flat_len]; simp only [Bool.false_eq_true, if_false] at h2; rw [h2]; simp
  have := tree_put (n := { kind := k, kids := [((o + a.cnt - 1 : Nat) : Int), ((o + a.cnt + b.cnt - 1 : Nat) : Int)] }) h3 rfl hn.1 hn.2; simp only [List.length_append, Tr.flat_len] at this; simp only [Tr.flat, this, Tr.cnt]
  simp
 | _, .call x ks, hf, o, st => by
  have h := goes ks hf.2 o st; simp only [if_true] at h; have hn := call_node hf.1 (ks.kids o); have := tree_put (n := { kind := 7, text := x, kids := ks.kids o }) h rfl hn.1 hn.2; rw [Tr.flat_len] at this
  simpa [Tr.cnt, Tr.flat] using this
 | _, .nil, _, o, st => by simp [treeGo, Tr.flat, Tr.kids]
 | _, .snoc rs a, hf, o, st => by
  have h1 := goes rs hf.1 o st; have h2 := goes a hf.2 (o + rs.cnt) (st ++ rs.kids o); simp only [if_true] at h1; simp only [Bool.false_eq_true, if_false] at h2; simp only [Tr.flat, Tr.kids, treeGo_app, h1, Option.bind_some, Tr.flat_len, h2, if_true]; simp
theorem Tr.tree (t : Tr false) (hf : t.Fit) : treeB (t.flat 0) = true := by
 have := t.goes hf 0 []; simp only [List.nil_append, Bool.false_eq_true, if_false] at this; rw [treeB, this]; rfl
noncomputable def printT (l : List NodeD) : List UInt8 := open Classical in if h : ∃ t : Tr false, t.Fit ∧ t.flat 0 = l then h.choose.text else []
theorem printT_of {t : Tr false} (hf : t.Fit) : printT (t.flat 0) = t.text := by
 unfold printT; have hx : ∃ u : Tr false, u.Fit ∧ u.flat 0 = t.flat 0 := ⟨t, hf, rfl⟩; rw [dif_pos hx]; obtain ⟨h1, h2⟩ := hx.choose_spec; rw [(Tr.inj _ t h1 hf [] [] (by simpa using h2) (.inl rfl)).1]
theorem printT_no {l : List NodeD} (h : treeB l = false) : printT l = [] := by
 unfold printT; rw [dif_neg]; rintro ⟨t, hf, rfl⟩; rw [t.tree hf] at h; cases h
theorem print_parse {s : List UInt8} {l : List NodeD} (h : parseT s = .ok l) : parseT (printT l) = .ok l ∧ (printT l).length ≤ s.length ∧ treeB l = true ∧ ∃ t : Tr false, t.Fit ∧ t.Num ∧ t.flat 0 = l ∧ printT l = t.text := by
 obtain ⟨h3, t, hf, hn, rfl, hd, hl⟩ := parseT_ok h; rw [printT_of hf, parseT_text t hf hn, if_neg (by omega), if_pos hd]; exact ⟨rfl, hl, t.tree hf, t, hf, hn, rfl, rfl⟩
theorem quote_len (s : List UInt8) : (quoteT s).length ≤ 2 * s.length + 2 := by
 have : ∀ s : List UInt8, (s.flatMap (fun c => if c = (34 : UInt8) then [34, 34] else [c])).length ≤ 2 * s.length := by
  intro s
  induction s with
  | nil => simp
  | cons c s ih =>
   simp only [List.flatMap_cons, List.length_append, List.length_cons]; by_cases h : c = 34
   ·rw [if_pos h]; simp only [List.length_cons, List.length_nil]; omega
   ·rw [if_neg h]; simp only [List.length_cons, List.length_nil]; omega
 have := this s; simp only [quoteT, List.length_cons, List.length_append, List.length_nil]; omega
theorem textB_len {r : RefD} (h : mayB r = true) : (textB r).length ≤ r.sheet.length + 10 := by
 obtain ⟨_, _, _, r0, r1⟩ := may_parts h; have h1 := (itoa_ok (z := r.row + 1) (by omega) (by omega)).2.2.1; have h2 := colT_length r.col; have h3 := markT_length r.ac; have h4 := markT_length r.ar; unfold textB
 split <;> simp only [List.length_append, List.length_cons, List.length_nil] <;> omega
theorem Nodes.get {w : World} {lo : Nat} {sv : Value} {l : List NodeD} (h : Nodes w lo sv l) (hn : 0 < l.length) :
  ∃ (g cap : Nat) (nvs : List NV) (sp : List Value), sv = .slice (some ⟨g, 0, none⟩) l.length cap ∧ Blk w g (nvs.flatMap nvL ++ sp) 133 ∧ nvs.map NV.node = l ∧ ∀ x ∈ nvs, KidsOk w x.kv x.node.kids := by
 obtain ⟨nvs, ho, hm, hk⟩ := h; have hl : nvs.length = l.length := by rw [← hm]; simp
 obtain ⟨g, cap, sp, rfl, hB, _⟩ := ho.get (by omega); exact ⟨g, cap, nvs, sp, by rw [hl], hB, hm, hk⟩
theorem nodes_get {nvs : List NV} {l : List NodeD} (hm : nvs.map NV.node = l) {i : Nat} {nd : NodeD} (h : l[i]? = some nd) : ∃ kv, nvs[i]? = some ⟨nd, kv⟩ := by
 rw [← hm, List.getElem?_map] at h
 cases e : nvs[i]? with
 | none => rw [e] at h; cases h
 | some x =>
  rw [e] at h; simp only [Option.map_some, Option.some.injEq] at h; exact ⟨x.kv, by rw [← h]⟩
theorem treeStep_len {i : Nat} {st st' : List Int} {n : NodeD} (h : treeStep i st n = some st') : n.kids.length ≤ st.length ∧ st'.length ≤ st.length + 1 := by
 unfold treeStep at h
 split at h
 ·rename_i hc; simp only [Option.some.injEq] at h; subst h; exact ⟨hc.2.1, by simp⟩
 ·cases h
theorem treeGo_kids : ∀ (l : List NodeD) (i : Nat) (st st' : List Int), treeGo i st l = some st' → ∀ n ∈ l, n.kids.length ≤ st.length + l.length
 | [], _, _, _, _, _, hn => absurd hn (by simp)
 | m :: t, i, st, st', h, n, hn => by
  rw [treeGo] at h
  cases e : treeStep i st m with
  | none => rw [e] at h; cases h
  | some s1 =>
   rw [e] at h; obtain ⟨h1, h2⟩ := treeStep_len e; rcases List.mem_cons.1 hn with rfl | hn
   ·simp; omega
   ·have := treeGo_kids t (i + 1) s1 st' h n hn; simp; omega
theorem treeB_kids {l : List NodeD} (h : treeB l = true) : ∀ n ∈ l, n.kids.length ≤ l.length := by
 unfold treeB at h
 split at h
 ·rename_i st e; intro n hn; have := treeGo_kids l 0 [] st e n hn
  simpa using this
 ·cases h
theorem Nodes.row {w : World} {lo : Nat} {sv : Value} {l : List NodeD} (h : Nodes w lo sv l) (hl : l.length ≤ 100000) (hk : ∀ n ∈ l, n.kids.length ≤ 100000) : NodesR w sv l := by
 refine ⟨hl, ?_⟩; by_cases h0 : l.length = 0
 ·have hnil : l = [] := List.eq_nil_of_length_eq_zero h0; subst hnil; obtain ⟨nvs, ho, hm, _⟩ := h; have hv0 : nvs = [] := by simpa using hm
  subst hv0; obtain ⟨_, ⟨e, _⟩ | ⟨g, cap, sp, e, hB, _⟩⟩ := ho
  ·exact .inl ⟨e, rfl⟩
  ·exact .inr ⟨_, cap, e, fun i nd hi => by simp at hi⟩
 ·obtain ⟨g, cap, nvs, sp, rfl, hB, hm, hkids⟩ := h.get (by omega); refine .inr ⟨_, cap, rfl, fun i nd hi => ?_⟩; obtain ⟨kv, hg⟩ := nodes_get hm hi; refine ⟨kv, ⟨by have := hk nd (List.mem_of_getElem? hi); omega, ?_⟩, fun j u hu => ?_⟩
  ·rcases hkids _ (List.mem_of_getElem? hg) with ⟨e1, e2⟩ | ⟨b', cap', sp', e1, hb'⟩
   ·exact .inl ⟨e1, e2⟩
   ·refine .inr ⟨_, cap', e1, fun j z hz => hb'.getElem _ _ ?_⟩; rw [List.getElem?_append_left (by
     rw [icells_len]; rcases Nat.lt_or_ge j nd.kids.length with h | h
     ·exact h
     ·rw [List.getElem?_eq_none h] at hz; cases hz)]
    exact icells_get hz
  ·have hj : j < 14 := by
    rcases Nat.lt_or_ge j 14 with h | h
    ·exact h
    ·rw [List.getElem?_eq_none (by rw [nv_len]; exact h)] at hu; cases hu
   rw [Addr.add_add]; refine hB.getElem _ _ ?_; rw [flat_get nv_len nvs sp i _ j hg hj]; exact hu
theorem PE.errs {T : List TokD} {m : PMode} {s : PSt} {r : PRes} (h : PE T m s r) : ∀ e, r = .err e → e = 5 ∨ e = 6 := by
 induction h with
 | lev_err _ ih => intro e he; cases he; exact ih _ rfl
 | lev_ok _ _ _ ih => exact ih
 | loop_end _ => intro e he; cases he
 | loop_err _ _ ih => intro e he; cases he; exact ih _ rfl
 | loop_go _ _ _ _ ih => exact ih
 | un_prim _ _ ih => exact ih
 | un_deep _ _ => intro e he; cases he; exact .inr rfl
 | un_err _ _ _ ih => intro e he; cases he; exact ih _ rfl
 | un_ok _ _ _ _ => intro e he; cases he
 | pr_sign _ _ => intro e he; cases he; exact .inl rfl
 | pr_deep _ _ => intro e he; cases he; exact .inr rfl
 | pr_err _ _ _ ih => intro e he; cases he; exact ih _ rfl
 | pr_open _ _ _ _ _ => intro e he; cases he; exact .inl rfl
 | pr_ok _ _ _ _ _ => intro e he; cases he
 | pr_end _ => intro e he; cases he; exact .inl rfl
 | pr_num _ => intro e he; cases he
 | pr_text _ => intro e he; cases he
 | pr_dead _ => intro e he; cases he
 | pr_ref _ _ => intro e he; cases he
 | pr_range _ _ _ _ => intro e he; cases he
 | pr_norange _ _ _ => intro e he; cases he; exact .inl rfl
 | pr_true _ _ => intro e he; cases he
 | pr_false _ _ => intro e he; cases he
 | pr_nocall _ _ _ _ => intro e he; cases he; exact .inl rfl
 | pr_calldeep _ _ _ _ _ => intro e he; cases he; exact .inr rfl
 | pr_call0 _ _ _ _ _ _ => intro e he; cases he
 | pr_call _ _ _ _ _ _ _ ih => exact ih
 | ar_err _ ih => intro e he; cases he; exact ih _ rfl
 | ar_go _ _ _ _ ih => exact ih
 | ar_open _ _ _ _ => intro e he; cases he; exact .inl rfl
 | ar_end _ _ _ _ => intro e he; cases he
theorem Tr.cnt_le : ∀ {b : Bool} (t : Tr b), t.Fit → t.Num → t.cnt ≤ W t.toks
 | _, .leaf n, hf, hn => by
  obtain ⟨u, m, e, hk, _⟩ := leaf_form hf.1 hf.2.1; have hc := (tokT_head ((Tr.leaf n).can hf hn u (by show u ∈ leafK n; rw [e]; simp))).1; show 1 ≤ W (leafK n); rw [e, W_cons]; have := List.length_pos_iff.2 hc
  omega
 | _, .neg a, hf, hn => by
  have ha := cnt_le a hf (fun u hu => hn u (by simp only [Tr.toks]; exact List.mem_cons_of_mem _ (sub_brk hu))); simp only [Tr.cnt, Tr.toks, W_cons, W_brk, W_sg, List.length_cons, List.length_nil]
  omega
 | _, .two o a b, hf, hn => by
  have ha := cnt_le a hf.2.2.1 (fun u hu => hn u (by simp only [Tr.toks]; exact List.mem_append_left _ (sub_brk hu))); have hb := cnt_le b hf.2.2.2 (fun u hu => hn u (by simp only [Tr.toks]; exact List.mem_append_right _ (List.mem_cons_of_mem _ (sub_brk hu)))); have hs := List.length_pos_iff.2 (sign_all _ (signK_mem hf.1 hf.2.1)).1; simp only [Tr.cnt, Tr.toks, W_app, W_cons, W_brk, W_sg]
  omega
 | _, .call x .nil, hf, hn => by
  simp only [Tr.cnt, Tr.toks, W_cons, W_sg, List.length_cons, List.length_nil]
  omega
 | _, .call x (.snoc rs a), hf, hn => by
  have hr := cnt_le rs hf.2.1 (fun u hu => hn u (by simp only [Tr.toks]; simp [hu])); have ha := cnt_le a hf.2.2 (fun u hu => hn u (by simp only [Tr.toks]; simp [hu])); simp only [Tr.cnt, Tr.toks, W_cons, W_app, W_sg, List.length_cons, List.length_nil]
  omega
 | _, .nil, _, _ => Nat.zero_le _
 | _, .snoc rs a, hf, hn => by
  have hr := cnt_le rs hf.1 (fun u hu => hn u (by simp only [Tr.toks]; simp [hu])); have ha := cnt_le a hf.2 (fun u hu => hn u (by simp only [Tr.toks]; simp [hu])); simp only [Tr.cnt, Tr.toks, W_app]; omega
def PIs (s : List UInt8) (l : List NodeD) (e : Int) : Prop := parseT s = .ok l ∧ e = 0 ∨ parseT s = .error e ∧ l = [] ∧ (e = 4 ∨ e = 5 ∨ e = 6)
theorem parseT_short {s : List UInt8} {l : List NodeD} (h : parseT s = .ok l) : Short l := by
 unfold parseT at h
 split at h
 ·cases h
 ·rename_i h1
  split at h
  ·cases h
  ·rename_i T e
   split at h
   ·rename_i hx; have hp := hx.choose_spec; rw [h] at hp; exact (Parsed.tree (lexT_ok (by omega) e) hp).2
   ·cases h
theorem parse_facts {s : List UInt8} {l : List NodeD} (h : parseT s = .ok l) : s.length ≤ 300 ∧ treeB l = true ∧ Short l ∧ l.length ≤ 300 ∧ ∀ n ∈ l, n.kids.length ≤ 300 := by
 obtain ⟨h3, t, hf, hn, rfl, hd, hl⟩ := parseT_ok h; have ht := t.tree hf; have hc := t.cnt_le hf hn; have hlen : (t.flat 0).length ≤ 300 := by
  rw [Tr.flat_len]; have : W t.toks = t.text.length := rfl; omega
 exact ⟨h3, ht, parseT_short h, hlen, fun n hm => Nat.le_trans (treeB_kids ht n hm) hlen⟩
theorem PIs.facts {s : List UInt8} {l : List NodeD} {e : Int} (h : PIs s l e) : Short l ∧ l.length ≤ 300 ∧ (∀ n ∈ l, n.kids.length ≤ 300) ∧ treeB l = decide (e = 0) ∧ 0 ≤ e ∧ e ≤ 6 := by
 rcases h with ⟨h, rfl⟩ | ⟨h, rfl, he⟩
 ·obtain ⟨_, h1, h2, h3, h4⟩ := parse_facts h; exact ⟨h2, h3, h4, by rw [h1]; rfl, by omega, by omega⟩
 ·refine ⟨fun n hn => (List.not_mem_nil hn).elim, by simp, fun n hn => (List.not_mem_nil hn).elim, ?_, by omega, by omega⟩; have : treeB [] = false := rfl; rw [this]; simp; omega
theorem nodesR_nil (w : World) : NodesR w (.slice none 0 0) [] := ⟨by simp, .inl ⟨rfl, rfl⟩⟩
theorem ParseV.both {s : List UInt8} {v : Value} {w : World} {lo : Nat} (h : ParseV s v w lo) : ∃ l e sv, v = .tuple #[sv, .int .i64 e] ∧ NodesR w sv l ∧ PIs s l e := by
 have hr := h.res
 cases hp : parseT s with
 | ok l =>
  rw [hp] at hr; obtain ⟨sv, rfl, hn⟩ := hr; obtain ⟨_, h1, h2, h3, h4⟩ := parse_facts hp
  exact ⟨l, 0, sv, rfl, hn.row (by omega) (fun n hm => by have := h4 n hm; omega), .inl ⟨hp, rfl⟩⟩
 | error e =>
  rw [hp] at hr; refine ⟨[], e, _, hr, nodesR_nil w, .inr ⟨hp, rfl, ?_⟩⟩; unfold ParseV at h; by_cases h1 : 300 < s.length
  ·have : parseT s = .error 4 := by unfold parseT; rw [if_pos h1]
   rw [this] at hp; simp only [Except.error.injEq] at hp; omega
  ·rw [if_neg h1] at h
   cases hl : lexT s with
   | none =>
    have : parseT s = .error 5 := by unfold parseT; rw [if_neg h1, hl]
    rw [this] at hp; simp only [Except.error.injEq] at hp
    omega
   | some T =>
    rw [hl] at h; obtain ⟨o, hpo, _⟩ := h; have := parseT_of (by omega) hl hpo; rw [hp] at this; subst this; rcases hpo with h | ⟨h, _⟩
    ·have := h.errs _ rfl; omega
    ·omega
def Lies (l : List NodeD) (o : Nat) {b : Bool} (t : Tr b) : Prop := ∃ suf, l.drop o = t.flat o ++ suf
theorem drop_more {l : List NodeD} {o n : Nat} {x y : List NodeD} (h : l.drop o = x ++ y) (hn : x.length = n) : l.drop (o + n) = y := by
 rw [← List.drop_drop, h, ← hn, List.drop_left]
theorem Lies.node {l : List NodeD} {o : Nat} {t : Tr false} (h : Lies l o t) : l[o + t.cnt - 1]? = some (rootN o t) := by
 obtain ⟨suf, h⟩ := h; rw [flat_root, List.append_assoc] at h; have hb := body_len o t; have e := drop_more h rfl; have e2 : o + t.cnt - 1 = o + (bodyN o t).length := by omega
 have := congrArg List.head? e; rw [e2, ← List.head?_drop, this]; rfl
theorem Lies.neg {l : List NodeD} {o : Nat} {a : Tr false} (h : Lies l o (.neg a)) : Lies l o a := by
 obtain ⟨suf, h⟩ := h; simp only [Tr.flat, List.append_assoc] at h; exact ⟨_, h⟩
theorem Lies.two {l : List NodeD} {o : Nat} {k : Int} {a b : Tr false} (h : Lies l o (.two k a b)) : Lies l o a ∧ Lies l (o + a.cnt) b := by
 obtain ⟨suf, h⟩ := h; simp only [Tr.flat, List.append_assoc] at h; exact ⟨⟨_, h⟩, _, drop_more h (a.flat_len o)⟩
theorem Lies.call {l : List NodeD} {o : Nat} {x : List UInt8} {ks : Tr true} (h : Lies l o (.call x ks)) : Lies l o ks := by
 obtain ⟨suf, h⟩ := h; simp only [Tr.flat, List.append_assoc] at h; exact ⟨_, h⟩
theorem Lies.snoc {l : List NodeD} {o : Nat} {ks : Tr true} {a : Tr false} (h : Lies l o (.snoc ks a)) : Lies l o ks ∧ Lies l (o + ks.cnt) a := by
 obtain ⟨suf, h⟩ := h; simp only [Tr.flat, List.append_assoc] at h; exact ⟨⟨_, h⟩, _, drop_more h (ks.flat_len o)⟩
theorem Lies.whole (t : Tr false) : Lies (t.flat 0) 0 t := ⟨[], by simp⟩
def Tr.row (o : Nat) : {b : Bool} → Tr b → List (Nat × Tr false)
 | _, .snoc ks a => ks.row o ++ [(o + ks.cnt, a)]
 | _, _ => []
theorem row_kids (o : Nat) : ∀ (ks : Tr true), ks.kids o = (ks.row o).map (fun x => ((x.1 + x.2.cnt - 1 : Nat) : Int))
 | .nil => rfl
 | .snoc rs a => by simp [Tr.kids, Tr.row, row_kids o rs]
theorem Tr.cnt_pos (t : Tr false) : 0 < t.cnt := by cases t <;> simp [Tr.cnt]
theorem snoc_text (rs : Tr true) (a : Tr false) : (Tr.snoc rs a).text = rs.text ++ (a.text ++ [44]) := by
 simp only [Tr.text, Tr.toks, List.flatMap_append, List.flatMap_cons, List.flatMap_nil, tokT_sg, List.append_nil]
theorem tokT_word (x : List UInt8) : tokT ⟨3, x, 0, refN, 0⟩ = x := rfl
theorem call_snoc (x : List UInt8) (rs : Tr true) (a : Tr false) : (Tr.call x (.snoc rs a)).text = x ++ ([40] ++ (rs.text ++ (a.text ++ [41]))) := by
 simp only [Tr.text, Tr.toks, List.flatMap_append, List.flatMap_cons, List.flatMap_nil, tokT_sg, tokT_word, List.append_nil]
theorem row_mem {l : List NodeD} {o : Nat} : ∀ (ks : Tr true), ks.Fit → ks.Num → Lies l o ks → ∀ x ∈ ks.row o, Lies l x.1 x.2 ∧ x.2.Fit ∧ x.2.Num ∧ x.2.cnt ≤ ks.cnt ∧ x.2.text.length ≤ ks.text.length
 | .nil, _, _, _, x, hx => by cases hx
 | .snoc rs a, hf, hn, h, x, hx => by
  have hnr : rs.Num := fun u hu => hn u (by simp only [Tr.toks]; simp [hu]); have hna : a.Num := fun u hu => hn u (by simp only [Tr.toks]; simp [hu]); have htx : (Tr.snoc rs a).text.length = rs.text.length + a.text.length + 1 := by rw [snoc_text]; simp only [List.length_append, List.length_cons, List.length_nil]; omega
  simp only [Tr.row, List.mem_append, List.mem_singleton] at hx; rcases hx with hx | rfl
  ·obtain ⟨h1, h2, h3, h4, h5⟩ := row_mem rs hf.1 hnr h.snoc.1 x hx; exact ⟨h1, h2, h3, by simp only [Tr.cnt]; omega, by omega⟩
  ·exact ⟨h.snoc.2, hf.2, hna, by simp [Tr.cnt], by simp only; omega⟩
def brkT (b : Bool) (s : List UInt8) : List UInt8 := if b then [40] ++ s ++ [41] else s
theorem brk_text (b : Bool) (l : List TokD) : (brk b l).flatMap tokT = brkT b (l.flatMap tokT) := by
 unfold brk brkT
 split <;> simp [tokT_sg]
theorem neg_text (a : Tr false) : (Tr.neg a).text = [45] ++ brkT (decide (a.rank < 5)) a.text := by
 simp [Tr.text, Tr.toks, tokT_sg, brk_text]
theorem two_text (k : Int) (a b : Tr false) : (Tr.two k a b).text = brkT (decide (a.rank < rankK k)) a.text ++ signK k ++ brkT (decide (b.rank < rankK k + 1)) b.text := by
 simp [Tr.text, Tr.toks, tokT_sg, brk_text]
def rowT (r : List (Nat × Tr false)) : List UInt8 := r.flatMap (fun x => x.2.text ++ [44])
theorem row_text (o : Nat) : ∀ (ks : Tr true), ks.text = rowT (ks.row o)
 | .nil => rfl
 | .snoc rs a => by
  have ih := row_text o rs; simp only [Tr.text] at ih; simp [Tr.text, Tr.toks, Tr.row, rowT, ih, tokT_sg]
def rowS (r : List (Nat × Tr false)) : Nat → List UInt8
 | 0 => []
 | i + 1 => rowT (r.take i) ++ (match r[i]? with
  | some x => x.2.text
  | none => [])
theorem rowT_snoc {r : List (Nat × Tr false)} {i : Nat} {x : Nat × Tr false} (h : r[i]? = some x) : rowT (r.take (i + 1)) = rowT (r.take i) ++ x.2.text ++ [44] := by
 rw [List.take_add_one, h]; simp [rowT]
theorem rowS_step {r : List (Nat × Tr false)} {i : Nat} {x : Nat × Tr false} (h : r[i]? = some x) : rowS r (i + 1) = rowS r i ++ (if 0 < i then [44] else []) ++ x.2.text := by
 cases i with
 | zero => simp [rowS, h, rowT]
 | succ j =>
  have hj : j < r.length := by
   rcases Nat.lt_or_ge j r.length with h' | h'
   ·exact h'
   ·rw [List.getElem?_eq_none (by omega)] at h; cases h
  have hy : r[j]? = some r[j] := List.getElem?_eq_getElem hj; simp only [rowS, h, hy, rowT_snoc hy]; simp
theorem call_text (x : List UInt8) (o : Nat) (ks : Tr true) : (Tr.call x ks).text = x ++ [40] ++ rowS (ks.row o) (ks.row o).length ++ [41] := by
 rcases ks.snoc_form with rfl | ⟨rs, a, rfl⟩
 ·simp [Tr.text, Tr.toks, tokT_sg, tokT_word, Tr.row, rowS]
 ·have hr := row_text o rs; have hl : (rs.row o ++ [(o + rs.cnt, a)]).length = (rs.row o).length + 1 := by simp
  simp only [Tr.row, hl, rowS]; rw [call_snoc, hr]; simp
theorem leaf_text {n : NodeD} (hp : plainB n = true) (h0 : 1 ≤ n.kind) (h1 : n.kind ≤ 6) : (Tr.leaf n).text = if n.kind = 1 then Lib.itoa n.num else if n.kind = 2 then quoteT n.text else if n.kind = 3 then (if n.num = 1 then trueT else falseT) else if n.kind = 4 then deadT else if n.kind = 5 then textT n.ref else textT n.ref ++ [58] ++ textT n.to := by
 have ho := plain_parts hp; have : n.kind = 1 ∨ n.kind = 2 ∨ n.kind = 3 ∨ n.kind = 4 ∨ n.kind = 5 ∨ n.kind = 6 := by omega
 rcases this with h | h | h | h | h | h <;> simp only [okK, h, if_true, if_false, Int.reduceEq, Bool.and_eq_true, decide_eq_true_eq] at ho <;> simp [Tr.text, Tr.toks, leafK, h, tokT, sg]
 ·rw [textT, if_pos ho]
 ·rw [textT, textT, if_pos ho.1, if_pos ho.2.1]
theorem root_rank (o : Nat) (t : Tr false) (hf : t.Fit) : rankK (rootN o t).kind = t.rank := by
 cases t with
 | leaf n =>
  have h0 := hf.1; have h1 := hf.2.1; show rankK n.kind = 6; unfold rankK
  rw [if_neg (by omega), if_neg (by omega), if_neg (by omega), if_neg (by omega), if_neg (by omega)]
 | neg a => rfl
 | two k a b => rfl
 | call x ks => rfl
theorem brkT_len (b : Bool) (s : List UInt8) : s.length ≤ (brkT b s).length ∧ (brkT b s).length ≤ s.length + 2 := by
 unfold brkT
 split
 ·simp only [List.length_append, List.length_cons, List.length_nil]; omega
 ·omega
theorem rowS_mono {r : List (Nat × Tr false)} (i : Nat) : ∀ k, i + k ≤ r.length → (rowS r i).length ≤ (rowS r (i + k)).length
 | 0, _ => Nat.le_refl _
 | k + 1, h => by
  have ih := rowS_mono (r := r) i k (by omega); have hlt : i + k < r.length := by omega
  have hx : r[i + k]? = some r[i + k] := List.getElem?_eq_getElem hlt; have e := congrArg List.length (rowS_step hx); simp only [List.length_append] at e; rw [← Nat.add_assoc, e]; omega
theorem call_num {x : List UInt8} {ks : Tr true} (h : (Tr.call x ks).Num) : ks.Num := by
 rcases ks.snoc_form with rfl | ⟨rs, a, rfl⟩
 ·intro u hu; cases hu
 ·intro u hu; simp only [Tr.toks, List.mem_append, List.mem_cons, List.not_mem_nil, or_false] at hu; rcases hu with hu | hu | rfl
  ·exact h u (by simp only [Tr.toks]; simp [hu])
  ·exact h u (by simp only [Tr.toks]; simp [hu])
  ·simp [sg]
theorem Tr.len_le : ∀ {b : Bool} (t : Tr b) (o : Nat), t.Fit → t.Num → (∀ n ∈ t.flat o, n.text.length ≤ 1000) → t.text.length + cond b 0 1 ≤ 4000 * t.cnt
 | _, .leaf n, o, hf, hn, hs => by
  have hx := hs n (by simp [Tr.flat]); have hc := (Tr.leaf n).can hf hn; obtain ⟨h0, h1, hk, hp⟩ := hf; have ho := plain_parts hp; have hq := quote_len n.text; rw [leaf_text hp h0 h1]; have htb : ∀ r : RefD, mayB r = true → (textT r).length ≤ 30 := fun r hm => by
   have h2 := textB_len hm; have h3 := (may_parts hm).1; rw [textT, if_pos hm]; rcases h3 with h3 | h3
   ·rw [h3] at h2; simp at h2; omega
   ·have := (name_parts h3).2.1; omega
  show _ + 1 ≤ _; simp only [Tr.cnt]; have : n.kind = 1 ∨ n.kind = 2 ∨ n.kind = 3 ∨ n.kind = 4 ∨ n.kind = 5 ∨ n.kind = 6 := by omega
  rcases this with h | h | h | h | h | h <;> simp only [okK, h, if_true, if_false, Int.reduceEq, Bool.and_eq_true, decide_eq_true_eq] at ho ⊢
  ·have := Lib.itoa_length_le n.num (by omega) (hn ⟨1, [], n.num, refN, 0⟩ (by simp [Tr.toks, leafK, h])); omega
  ·omega
  ·split <;> simp [trueT, falseT]
  ·simp [deadT]
  ·have := htb _ ho; omega
  ·have := htb _ ho.1; have := htb _ ho.2.1
   simp only [List.length_append, List.length_cons, List.length_nil]; omega
 | _, .neg a, o, hf, hn, hs => by
  have ha : a.text.length + 1 ≤ _ := len_le a o hf (fun u hu => hn u (by simp only [Tr.toks]; exact List.mem_cons_of_mem _ (sub_brk hu))) (fun n hm => hs n (by simp only [Tr.flat]; simp [hm])); show _ + 1 ≤ _; rw [neg_text]; simp only [Tr.cnt, brkT]
  split <;> simp only [List.length_append, List.length_cons, List.length_nil] <;> omega
 | _, .two k a b, o, hf, hn, hs => by
  have ha : a.text.length + 1 ≤ _ := len_le a o hf.2.2.1 (fun u hu => hn u (by simp only [Tr.toks]; exact List.mem_append_left _ (sub_brk hu))) (fun n hm => hs n (by simp only [Tr.flat]; simp [hm])); have hb : b.text.length + 1 ≤ _ := len_le b (o + a.cnt) hf.2.2.2 (fun u hu => hn u (by simp only [Tr.toks]; exact List.mem_append_right _ (List.mem_cons_of_mem _ (sub_brk hu)))) (fun n hm => hs n (by simp only [Tr.flat]; simp [hm])); have hsg : ∀ s ∈ signsT, s.length ≤ 2 := by decide
  have h2 := hsg _ (signK_mem hf.1 hf.2.1); show _ + 1 ≤ _; rw [two_text]; simp only [Tr.cnt, brkT]
  split <;> split <;> simp only [List.length_append, List.length_cons, List.length_nil] <;> omega
 | _, .call x .nil, o, hf, hn, hs => by
  have hx : x.length ≤ 1000 := hs { kind := 7, text := x, kids := Tr.nil.kids o } (by simp [Tr.flat]); show _ + 1 ≤ _; rw [call_text x o]; simp only [Tr.cnt, Tr.row, rowS, List.length_append, List.length_cons, List.length_nil]
  omega
 | _, .call x (.snoc rs a), o, hf, hn, hs => by
  have hx : x.length ≤ 1000 := hs { kind := 7, text := x, kids := (Tr.snoc rs a).kids o } (by simp [Tr.flat]); have hr : rs.text.length + 0 ≤ _ := len_le rs o hf.2.1 (fun u hu => hn u (by simp only [Tr.toks]; simp [hu])) (fun n hm => hs n (by simp only [Tr.flat]; simp [hm])); have ha : a.text.length + 1 ≤ _ := len_le a (o + rs.cnt) hf.2.2 (fun u hu => hn u (by simp only [Tr.toks]; simp [hu])) (fun n hm => hs n (by simp only [Tr.flat]; simp [hm])); have e : (Tr.call x (.snoc rs a)).text.length = x.length + 1 + (rs.text.length + (a.text.length + 1)) := by
   rw [call_snoc]; simp only [List.length_append, List.length_cons, List.length_nil]; omega
  show _ + 1 ≤ _; rw [e]; simp only [Tr.cnt]
  omega
 | _, .nil, o, _, _, _ => by show _ + 0 ≤ _; simp [Tr.text, Tr.toks]
 | _, .snoc rs a, o, hf, hn, hs => by
  have hr : rs.text.length + 0 ≤ _ := len_le rs o hf.1 (fun u hu => hn u (by simp only [Tr.toks]; simp [hu])) (fun n hm => hs n (by simp only [Tr.flat]; simp [hm])); have ha : a.text.length + 1 ≤ _ := len_le a (o + rs.cnt) hf.2 (fun u hu => hn u (by simp only [Tr.toks]; simp [hu])) (fun n hm => hs n (by simp only [Tr.flat]; simp [hm])); have hp := a.cnt_pos; have e : (Tr.snoc rs a).text.length = rs.text.length + a.text.length + 1 := by rw [snoc_text]; simp only [List.length_append, List.length_cons, List.length_nil]; omega
  show _ + 0 ≤ _; rw [e]; simp only [Tr.cnt]; omega
def NumOk (l : List NodeD) : Prop := ∀ t : Tr false, t.Fit → t.flat 0 = l → t.Num
theorem PIs.num {s : List UInt8} {l : List NodeD} {e : Int} (h : PIs s l e) : NumOk l := by
 intro t hf et; rcases h with ⟨h, rfl⟩ | ⟨_, rfl, _⟩
 ·obtain ⟨_, _, _, u, hu, hn, e1, _⟩ := print_parse h; have := Tr.inj t u hf hu [] [] (by simpa using et.trans e1.symm) (.inl rfl); rw [this.1]; exact hn
 ·have := t.flat_len 0; rw [et] at this; have := t.cnt_pos; simp at *; omega
end Go.Proofs.YtgdohpcnpgjpaaaGreatDoor
