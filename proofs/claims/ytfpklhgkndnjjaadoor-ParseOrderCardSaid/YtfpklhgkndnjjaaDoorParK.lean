/-
  Plain: what is read as a formula is a formula's nodes.
-/
import Derived.Test.YtfpklhgkndnjjaaDoorParJ
import Derived.Test.YtfpklhgkndnjjaaDoorParG
import Derived.Test.YtfpklhgkndnjjaaDoorLaw4N
namespace Go.Proofs.YtfpklhgkndnjjaaDoor
open Go Go.E

/-! ### Tokens that may be -/

structure TokOk (t : TokD) : Prop where
  num : t.kind = 1 → 0 ≤ t.num
  text : t.kind = 2 → prB t.text = true
  word : t.kind = 3 → fnB t.text = true ∧ okRead t.text = false
  ref : t.kind = 4 → mayB t.ref = true
  len : t.text.length ≤ 1000

theorem prB_cons {c : UInt8} {l : List UInt8} (hc : ¬ c < 32) (h : prB l = true) : prB (c :: l) = true := by
  simp only [prB, decide_eq_true_eq] at h ⊢
  intro j hj
  cases j with
  | zero =>
    show 32 ≤ (c.toNat : Int)
    have : ¬ c.toNat < 32 := fun hh => hc (UInt8.lt_iff_toNat_lt.2 (by simpa using hh))
    omega
  | succ j => exact h j (by simpa using hj)
theorem scan_pr : ∀ (l : List UInt8) {x : List UInt8 × Nat}, scanT l = some x → prB x.1 = true ∧ x.1.length ≤ l.length
  | [], x, h => by simp [scanT] at h
  | [c], x, h => by
    simp only [scanT] at h
    split at h
    · simp only [Option.some.injEq] at h
      subst h; exact ⟨rfl, by simp⟩
    · cases h
  | c :: d :: r, x, h => by
    simp only [scanT] at h
    split at h
    · split at h
      · cases e : scanT r with
        | none => rw [e] at h; cases h
        | some y =>
          rw [e] at h
          simp only [Option.map_some, Option.some.injEq] at h
          have := scan_pr r e
          subst h
          exact ⟨prB_cons (by decide) this.1, by simp; omega⟩
      · simp only [Option.some.injEq] at h
        subst h; exact ⟨rfl, by simp⟩
    · split at h
      · cases h
      · rename_i hc
        cases e : scanT (d :: r) with
        | none => rw [e] at h; cases h
        | some y =>
          rw [e] at h
          simp only [Option.map_some, Option.some.injEq] at h
          have := scan_pr (d :: r) e
          subst h
          exact ⟨prB_cons hc this.1, by have := this.2; simp at this ⊢; omega⟩
theorem okRead_may {s : List UInt8} (h : okRead s = true) : mayB (candV s) = true := by
  simp only [okRead, Bool.and_eq_true, decide_eq_true_eq, Bool.not_eq_true', decide_eq_false_iff_not] at h
  cases hm : mayB (candV s) with
  | true => rfl
  | false =>
    have := h.1.2
    rw [textT, hm] at this
    exact absurd this.symm h.2
theorem oneO_ok {l : List UInt8} {t : TokD} {k : Nat} (hl : l.length ≤ 1000) (h : oneO l = some (t, k)) : TokOk t := by
  unfold oneO at h
  split at h
  · rename_i h0
    have hne : spanL digB l ≠ [] := by
      have := (span_pos (p := digB) (l := l) (by
        cases l with
        | nil => cases h0
        | cons a b => simp) h0).1
      exact List.length_pos_iff.1 this
    rw [numO_is hne] at h
    split at h
    · simp only [Option.some.injEq, Prod.mk.injEq] at h
      rw [← h.1]
      exact ⟨fun _ => (num_bound _ (fun j hj => by
      have hh := span_all digB l _ (List.getElem_mem hj)
      simpa [byte, List.getD_eq_getElem?_getD, List.getElem?_eq_getElem hj] using hh)).1, by simp, by simp, by simp, by simp⟩
    · cases h
  · split at h
    · unfold textO at h
      cases e : scanT (l.drop 1) with
      | none => rw [e] at h; cases h
      | some x =>
        rw [e] at h
        simp only [Option.map_some, Option.some.injEq, Prod.mk.injEq] at h
        have := scan_pr _ e
        rw [← h.1]
        exact ⟨by simp, fun _ => this.1, by simp, by simp, by have := this.2; simp at this ⊢; omega⟩
    · split at h
      · unfold wordO at h
        simp only at h
        have hsp := span_le wiB l
        split at h
        · rename_i hr
          simp only [Option.some.injEq, Prod.mk.injEq] at h
          rw [← h.1]
          exact ⟨by simp, by simp, by simp, fun _ => okRead_may hr, by simp⟩
        · rename_i hr
          split at h
          · rename_i hf
            simp only [Option.some.injEq, Prod.mk.injEq] at h
            rw [← h.1]
            exact ⟨by simp, by simp, fun _ => ⟨hf, by simpa using hr⟩, by simp, by show (spanL wiB l).length ≤ 1000; omega⟩
          · cases h
      · unfold signO at h
        split at h
        · simp only [Option.some.injEq, Prod.mk.injEq] at h
          rw [← h.1]
          exact ⟨by simp, by simp, by simp, by simp, by simp⟩
        · cases e : signsT.find? fun s => Lib.hasPrefix l s with
          | none => rw [e] at h; cases h
          | some x =>
            rw [e] at h
            simp only [Option.map_some, Option.some.injEq, Prod.mk.injEq] at h
            have := pre_le (List.find?_some e)
            rw [← h.1]
            exact ⟨by simp, by simp, by simp, by simp, by show x.length ≤ 1000; omega⟩
theorem tokOk_end (a : Int) : TokOk ⟨0, [], 0, refN, a⟩ := ⟨by simp, by simp, by simp, by simp, by simp⟩
theorem lexF_ok : ∀ (n : Nat) (l : List UInt8) (a : Nat) {out : List TokD}, l.length ≤ n → l.length ≤ 1000 → lexF l a = some out → ∀ t ∈ out, TokOk t
  | n, l, a, out, hn, hl, h => by
    cases e : l.drop (spanL spB l).length with
    | nil =>
      rw [lexF_end e] at h
      simp only [Option.some.injEq] at h
      subst h
      intro t ht
      rw [List.mem_singleton.1 ht]
      exact tokOk_end _
    | cons c r =>
      have hl' := congrArg List.length e
      simp at hl'
      cases ho : oneO (c :: r) with
      | none => rw [lexF_bad e (by simp) ho] at h; cases h
      | some x =>
        obtain ⟨t, k⟩ := x
        have hk := oneO_pos (by simp) ho
        have hok := oneO_ok (by simp; omega) ho
        rw [lexF_go e (by simp) ho hk] at h
        cases hr : lexF ((c :: r).drop k) (a + (spanL spB l).length + k) with
        | none => rw [hr] at h; cases h
        | some y =>
          rw [hr] at h
          simp only [Option.map_some, Option.some.injEq] at h
          subst h
          match n with
          | 0 => omega
          | n + 1 =>
            have hd : ((c :: r).drop k).length = r.length + 1 - k := by simp
            have := lexF_ok n ((c :: r).drop k) _ (by rw [hd]; omega) (by rw [hd]; omega) hr
            intro t' ht
            rcases List.mem_cons.1 ht with rfl | ht
            · exact ⟨hok.num, hok.text, hok.word, hok.ref, hok.len⟩
            · exact this t' ht
theorem lexT_ok {s : List UInt8} {T : List TokD} (hs : s.length ≤ 1000) (h : lexT s = some T) : ∀ t ∈ T, TokOk t := lexF_ok _ s 0 (Nat.le_refl _) hs h
theorem tokAt_ok {T : List TokD} (h : ∀ t ∈ T, TokOk t) (s : PSt) : TokOk (tokAt T s) := by
  unfold tokAt
  rcases Nat.lt_or_ge s.at_ T.length with hl | hl
  · rw [List.getD_eq_getElem?_getD, List.getElem?_eq_getElem hl]
    exact h _ (List.getElem_mem hl)
  · rw [List.getD_eq_getElem?_getD, List.getElem?_eq_none hl]
    exact tokOk_end 0

/-! ### What is put, on a heap of what is open -/

theorem treeGo_app : ∀ (l m : List NodeD) (i : Nat) (st : List Int), treeGo i st (l ++ m) = (treeGo i st l).bind fun st' => treeGo (i + l.length) st' m
  | [], m, i, st => by simp [treeGo]
  | n :: t, m, i, st => by
    rw [List.cons_append, treeGo, treeGo]
    cases treeStep i st n with
    | none => rfl
    | some st' =>
      simp only
      rw [treeGo_app t m (i + 1) st', List.length_cons, show i + 1 + t.length = i + (t.length + 1) by omega]
/-- One node more. -/
theorem tree_put {l : List NodeD} {i : Nat} {st st' ks : List Int} {n : NodeD} (h : treeGo i st l = some (st' ++ ks)) (hk : n.kids = ks) (hc : kidN n = n.kids.length) (hp : plainB n = true) : treeGo i st (l ++ [n]) = some (st' ++ [((i + l.length : Nat) : Int)]) := by
  subst hk
  rw [treeGo_app, h]
  simp only [Option.bind_some, treeGo, treeStep]
  have e : (st' ++ n.kids).length - n.kids.length = st'.length := by simp
  rw [e, if_pos ⟨hc, by simp, by simp, hp⟩]
  simp

theorem plain_leaf {n : NodeD} (h : okK n = true) (hb : (bareN n).num = 0 ∧ (bareN n).text = [] ∧ (bareN n).ref = refN ∧ (bareN n).to = refN) : plainB n = true := by
  simp [plainB, h, hb]

/-- What of a formula's nodes is put from a place on: 'ks' ahead of it, then 'a'. -/
def Put (s s1 : PSt) (ks : List Int) (a : Nat) : Prop :=
  ∃ new, s1.out = s.out ++ new ∧ Short new ∧ ∀ st, treeGo s.out.length (st ++ ks) new = some (st ++ [(a : Int)])
theorem Put.same {s s1 s2 s3 : PSt} {ks : List Int} {a : Nat} (h : Put s s1 ks a) (e1 : s2.out = s.out) (e2 : s3.out = s1.out) : Put s2 s3 ks a := by
  obtain ⟨new, h1, h2, h3⟩ := h
  exact ⟨new, by rw [e2, e1, h1], h2, by rw [e1]; exact h3⟩
theorem short_app {l m : List NodeD} (h : Short l) (k : Short m) : Short (l ++ m) := fun n hn => by
  rcases List.mem_append.1 hn with hn | hn
  · exact h n hn
  · exact k n hn
theorem Put.nil (s s1 : PSt) (a : Nat) (e : s1.out = s.out) : Put s s1 [(a : Int)] a := ⟨[], by simp [e], (fun n hn => by cases hn), fun st => by simp [treeGo]⟩
theorem Put.trans {s s1 s2 : PSt} {ks : List Int} {a b : Nat} (h : Put s s1 ks a) (k : Put s1 s2 [(a : Int)] b) : Put s s2 ks b := by
  obtain ⟨n1, e1, p1, t1⟩ := h
  obtain ⟨n2, e2, p2, t2⟩ := k
  refine ⟨n1 ++ n2, by rw [e2, e1, List.append_assoc], short_app p1 p2, fun st => ?_⟩
  rw [treeGo_app, t1]
  simp only [Option.bind_some]
  have := t2 st
  rw [e1, List.length_append] at this
  exact this
/-- What is put behind what stands. -/
theorem Put.more {s s1 s2 : PSt} {ks ks1 : List Int} {a b : Nat} (h : Put s s1 ks a) (k : Put s1 s2 (ks1 ++ [(a : Int)]) b) : Put s s2 (ks1 ++ ks) b := by
  obtain ⟨n1, e1, p1, t1⟩ := h
  obtain ⟨n2, e2, p2, t2⟩ := k
  refine ⟨n1 ++ n2, by rw [e2, e1, List.append_assoc], short_app p1 p2, fun st => ?_⟩
  rw [treeGo_app, ← List.append_assoc, t1]
  simp only [Option.bind_some]
  have := t2 st
  rw [e1, List.length_append] at this
  rw [List.append_assoc]
  exact this
/-- A node that takes what is open. -/
theorem Put.node {s s2 s3 : PSt} {n : NodeD} {ks : List Int} (hk : n.kids = ks) (hc : kidN n = n.kids.length) (hp : plainB n = true) (hs : n.text.length ≤ 1000 ∧ n.ref.sheet.length ≤ 1000 ∧ n.to.sheet.length ≤ 1000) (e : s3.out = s.out ++ [n]) (e2 : s2.out = s.out) : Put s2 s3 ks s.out.length := by
  refine ⟨[n], by rw [e, e2], fun x hx => by rw [List.mem_singleton.1 hx]; exact hs, fun st => ?_⟩
  have := tree_put (l := []) (i := s2.out.length) (st := st ++ ks) (st' := st) (ks := ks) rfl hk hc hp
  simpa [e2] using this

theorem sheet_short {x : RefD} (h : mayB x = true) : x.sheet.length ≤ 1000 := by
  simp only [mayB, Bool.and_eq_true, Bool.or_eq_true, decide_eq_true_eq] at h
  rcases h.1.1.1.1 with h | h
  · rw [h]; simp
  · simp only [nameB, Bool.and_eq_true, decide_eq_true_eq] at h
    omega
theorem refN_sheet : refN.sheet.length ≤ 1000 := by decide

def PutR (m : PMode) (s : PSt) : PRes → Prop
  | .err _ => True
  | .ok s1 b => match m with
    | .loop _ a => Put s s1 [(a : Int)] b
    | .args x ks => nameF x = true → Put s s1 ks b
    | _ => Put s s1 [] b
theorem putR_below {n : Nat} {s s1 : PSt} {a : Nat} (h : PutR (below n) s (.ok s1 a)) : Put s s1 [] a := by
  unfold below at h
  split at h <;> exact h
theorem kinds_two {T : List TokD} {s : PSt} {n i : Nat} (h : opIx T s n = some i) : 9 ≤ (kindsN n).getD i 0 ∧ (kindsN n).getD i 0 ≤ 19 := by
  unfold opIx at h
  split at h
  · have hi := (List.findIdx?_eq_some_iff_getElem.1 h).1
    have e : (signsN n).length = (kindsN n).length := by
      unfold signsN kindsN
      match n with
      | 0 => rfl
      | 1 => rfl
      | 2 => rfl
      | _ + 3 => rfl
    have hall : ∀ z ∈ kindsN n, 9 ≤ z ∧ z ≤ 19 := by
      unfold kindsN
      match n with
      | 0 => decide
      | 1 => decide
      | 2 => decide
      | _ + 3 =>
        show ∀ z ∈ [18, 19], (9 : Int) ≤ z ∧ z ≤ 19
        decide
    rw [List.getD_eq_getElem?_getD, List.getElem?_eq_getElem (by omega)]
    exact hall _ (List.getElem_mem _)
  · cases h
theorem two_node {k : Int} (h0 : 9 ≤ k) (h1 : k ≤ 19) (a b : Int) : kidN { kind := k, kids := [a, b] } = 2 ∧ plainB { kind := k, kids := [a, b] } = true := by
  have hc : countI k = 2 := by
    unfold countI
    rw [if_neg (by omega), if_neg (by omega), if_neg (by omega), if_pos (by omega)]
  constructor
  · simp [kidN, hc]
  · have hb : bareN { kind := k, kids := [a, b] } = { kind := k, kids := [a, b] } := by
      unfold bareN
      rw [if_neg (show ¬ k = 1 by omega), if_neg (show ¬ k = 3 by omega), if_neg (show ¬ k = 2 by omega), if_neg (show ¬ k = 7 by omega), if_neg (show ¬ k = 5 by omega), if_neg (show ¬ k = 6 by omega)]
    have ho : okK { kind := k, kids := [a, b] } = true := by
      unfold okK
      rw [if_neg (show ¬ k = 1 by omega), if_neg (show ¬ k = 3 by omega), if_neg (show ¬ k = 2 by omega), if_neg (show ¬ k = 7 by omega), if_neg (show ¬ k = 5 by omega), if_neg (show ¬ k = 6 by omega)]
    exact plain_leaf ho (by rw [hb]; exact ⟨rfl, rfl, rfl, rfl⟩)
theorem call_node {x : List UInt8} (h : nameF x = true) (ks : List Int) : kidN { kind := 7, text := x, kids := ks } = ks.length ∧ plainB { kind := 7, text := x, kids := ks } = true := by
  refine ⟨if_pos rfl, plain_leaf h ⟨rfl, rfl, rfl, rfl⟩⟩
theorem name_short {x : List UInt8} (h : nameF x = true) : x.length ≤ 1000 := by
  simp only [nameF, fnB, Bool.and_eq_true, decide_eq_true_eq] at h
  omega
theorem word_name {T : List TokD} (hT : ∀ t ∈ T, TokOk t) {s : PSt} (h : (tokAt T s).kind = 3) (h1 : (tokAt T s).text ≠ trueT) (h2 : (tokAt T s).text ≠ falseT) : nameF (tokAt T s).text = true := by
  have := (tokAt_ok hT s).word h
  simp [nameF, this, h1, h2]

theorem PE.puts {T : List TokD} (hT : ∀ t ∈ T, TokOk t) {m : PMode} {s : PSt} {r : PRes} (h : PE T m s r) : PutR m s r := by
  induction h with
  | lev_err _ _ => trivial
  | @lev_ok n s s1 a r _ _ ih1 ih2 =>
    cases r with
    | err e => trivial
    | ok s2 b => exact (putR_below ih1).trans ih2
  | loop_end _ => exact Put.nil _ _ _ rfl
  | loop_err _ _ _ => trivial
  | @loop_go n s a i s1 b r hi _ _ ih1 ih2 =>
    cases r with
    | err e => trivial
    | ok s2 c =>
      obtain ⟨k0, k1⟩ := kinds_two hi
      have hn := two_node k0 k1 (a : Int) (b : Int)
      have hp : Put s1 (putS s1 { kind := (kindsN n).getD i 0, kids := [(a : Int), (b : Int)] }) ([(a : Int)] ++ [(b : Int)]) s1.out.length := Put.node (s := s1) rfl hn.1 hn.2 ⟨by simp, refN_sheet, refN_sheet⟩ rfl rfl
      have h1 : Put s s1 [] b := (putR_below ih1).same rfl rfl
      have := h1.more hp
      exact this.trans ih2
  | @un_prim s r _ _ ih =>
    cases r with
    | err e => trivial
    | ok s2 b => exact ih
  | un_deep _ _ => trivial
  | un_err _ _ _ _ => trivial
  | @un_ok s s1 a _ _ _ ih =>
    have h1 : Put s s1 [] a := Put.same ih rfl rfl
    have hp : Put s1 (putS (upper s1) { kind := 8, kids := [(a : Int)] }) ([] ++ [(a : Int)]) s1.out.length := Put.node (s := s1) rfl rfl rfl ⟨by simp, refN_sheet, refN_sheet⟩ rfl rfl
    exact h1.more hp
  | pr_sign _ _ => trivial
  | pr_deep _ _ => trivial
  | pr_err _ _ _ _ => trivial
  | pr_open _ _ _ _ _ => trivial
  | pr_ok _ _ _ _ ih => exact Put.same ih rfl rfl
  | pr_end _ => trivial
  | @pr_num s h =>
    have h0 := (tokAt_ok hT s).num h
    exact Put.node (s := s) rfl rfl (plain_leaf (by show decide (0 ≤ (tokAt T s).num) = true; simpa using h0) ⟨rfl, rfl, rfl, rfl⟩) ⟨by simp, refN_sheet, refN_sheet⟩ rfl rfl
  | @pr_text s h =>
    exact Put.node (s := s) rfl rfl (plain_leaf (by show prB (tokAt T s).text = true; exact (tokAt_ok hT s).text h) ⟨rfl, rfl, rfl, rfl⟩) ⟨(tokAt_ok hT s).len, refN_sheet, refN_sheet⟩ rfl rfl
  | @pr_dead s h => exact Put.node (s := s) rfl rfl rfl ⟨by simp, refN_sheet, refN_sheet⟩ rfl rfl
  | @pr_ref s h _ =>
    have h0 := (tokAt_ok hT s).ref h
    exact Put.node (s := s) rfl rfl (plain_leaf (by show mayB (tokAt T s).ref = true; exact h0) ⟨rfl, rfl, rfl, rfl⟩) ⟨by simp, sheet_short h0, refN_sheet⟩ rfl rfl
  | @pr_range s h _ h' hr =>
    have h0 := (tokAt_ok hT s).ref h
    have h1 := (tokAt_ok hT (adv (adv s))).ref h'
    exact Put.node (s := s) rfl rfl (plain_leaf (by show (mayB (tokAt T s).ref && (mayB (tokAt T (adv (adv s))).ref && rangesB (tokAt T s).ref (tokAt T (adv (adv s))).ref)) = true; rw [h0, h1, hr]; rfl) ⟨rfl, rfl, rfl, rfl⟩) ⟨by simp, sheet_short h0, sheet_short h1⟩ rfl rfl
  | pr_norange _ _ _ => trivial
  | @pr_true s _ _ => exact Put.node (s := s) rfl rfl rfl ⟨by simp, refN_sheet, refN_sheet⟩ rfl rfl
  | @pr_false s _ _ => exact Put.node (s := s) rfl rfl rfl ⟨by simp, refN_sheet, refN_sheet⟩ rfl rfl
  | pr_nocall _ _ _ _ => trivial
  | pr_calldeep _ _ _ _ _ => trivial
  | @pr_call0 s h h1 h2 _ _ _ =>
    have hn := word_name hT h h1 h2
    have hc := call_node hn []
    exact Put.node (s := s) rfl hc.1 hc.2 ⟨name_short hn, refN_sheet, refN_sheet⟩ rfl rfl
  | @pr_call s r h h1 h2 _ _ _ _ ih =>
    cases r with
    | err e => trivial
    | ok s2 b => exact Put.same (ih (word_name hT h h1 h2)) rfl rfl
  | ar_err _ _ => trivial
  | @ar_go x ks s s1 a r _ _ _ ih1 ih2 =>
    cases r with
    | err e => trivial
    | ok s2 b =>
      intro hn
      have h2 : Put s1 s2 (ks ++ [(a : Int)]) b := Put.same (ih2 hn) rfl rfl
      have h1 : Put s s1 [] a := ih1
      have := h1.more h2
      rwa [List.append_nil] at this
  | ar_open _ _ _ _ => trivial
  | @ar_end x ks s s1 a _ _ _ ih =>
    intro hn
    have hc := call_node hn (ks ++ [(a : Int)])
    have hp : Put s1 (putS (upper (adv s1)) { kind := 7, text := x, kids := ks ++ [(a : Int)] }) (ks ++ [(a : Int)]) s1.out.length := Put.node (s := s1) rfl hc.1 hc.2 ⟨name_short hn, refN_sheet, refN_sheet⟩ rfl rfl
    have h1 : Put s s1 [] a := ih
    have := h1.more hp
    rwa [List.append_nil] at this

/-- What is read as a formula is a formula's nodes. -/
theorem Parsed.tree {T : List TokD} {l : List NodeD} (hT : ∀ t ∈ T, TokOk t) (h : Parsed T (.ok l)) : treeB l = true ∧ Short l := by
  obtain ⟨s, a, hp, _, he⟩ := h
  obtain ⟨new, h1, h2, h3⟩ : Put ⟨0, [], 0⟩ s [] a := hp.puts hT
  have : l = new := by rw [← he, h1]; rfl
  subst this
  refine ⟨?_, h2⟩
  have h4 : treeGo 0 [] l = some [(a : Int)] := h3 []
  rw [treeB, h4]
  rfl
end Go.Proofs.YtfpklhgkndnjjaaDoor
