/-
  Nodes that a call has told, as a row; a text as a formula, told.
-/
import Derived.Test.YtiloogjageledaaGreatDoorShowT
import Derived.Test.YtiloogjageledaaGreatDoorEngF
namespace Go.Proofs.YtiloogjageledaaGreatDoor
open Go Go.E

theorem parseT_eval {n : Nat} {s : List UInt8} {o : Except Int (List NodeD)} (h : evalT n s = some o) : parseT s = o := by
  unfold evalT at h
  split at h
  · rename_i hb
    simp only [Option.some.injEq] at h
    subst h
    unfold parseT
    rw [if_pos hb]
  · rename_i hb
    cases hl : lexT s with
    | none =>
      rw [hl] at h
      simp only [Option.some.injEq] at h
      subst h
      unfold parseT
      rw [if_neg hb, hl]
    | some T =>
      rw [hl] at h
      refine parseT_of (by omega) hl ?_
      simp only at h
      split at h
      · rename_i e he
        simp only [Option.some.injEq] at h
        subst h
        exact .inl (evalP_PE T _ _ _ _ he)
      · rename_i s1 a he
        split at h
        · rename_i hk
          simp only [Option.some.injEq] at h
          subst h
          exact ⟨s1, a, evalP_PE T _ _ _ _ he, hk, rfl⟩
        · rename_i hk
          simp only [Option.some.injEq] at h
          subst h
          exact .inr ⟨rfl, s1, a, evalP_PE T _ _ _ _ he, hk⟩
      · cases h
theorem ParseV.is {n : Nat} {s : List UInt8} {o : Except Int (List NodeD)} {v : Value} {w : World} {lo : Nat} (h : evalT n s = some o) (hv : ParseV s v w lo) : ResV w lo v o := by
  have := hv.res
  rwa [parseT_eval h] at this

theorem Nodes.get {w : World} {lo : Nat} {sv : Value} {l : List NodeD} (h : Nodes w lo sv l) (hn : 0 < l.length) :
    ∃ (g cap : Nat) (nvs : List NV) (sp : List Value), sv = .slice (some ⟨g, 0, none⟩) l.length cap ∧ Blk w g (nvs.flatMap nvL ++ sp) 38 ∧ nvs.map NV.node = l ∧ ∀ x ∈ nvs, KidsOk w x.kv x.node.kids := by
  obtain ⟨nvs, ho, hm, hk⟩ := h
  have hl : nvs.length = l.length := by rw [← hm]; simp
  obtain ⟨g, cap, sp, rfl, hB, _⟩ := ho.get (by omega)
  exact ⟨g, cap, nvs, sp, by rw [hl], hB, hm, hk⟩
theorem Nodes.slice {w : World} {lo : Nat} {sv : Value} {l : List NodeD} (h : Nodes w lo sv l) : ∃ p c, sv = .slice p l.length c := by
  obtain ⟨nvs, ho, hm, hk⟩ := h
  have hl : nvs.length = l.length := by rw [← hm]; simp
  obtain ⟨p, c, e⟩ := ho.slice
  exact ⟨p, c, by rw [e, hl]⟩

theorem nodes_get {nvs : List NV} {l : List NodeD} (hm : nvs.map NV.node = l) {i : Nat} {nd : NodeD} (h : l[i]? = some nd) : ∃ kv, nvs[i]? = some ⟨nd, kv⟩ := by
  rw [← hm, List.getElem?_map] at h
  cases e : nvs[i]? with
  | none => rw [e] at h; cases h
  | some x =>
    rw [e] at h
    simp only [Option.map_some, Option.some.injEq] at h
    exact ⟨x.kv, by rw [← h]⟩
def isOk (o : Option (Except Int (List NodeD))) (l : List NodeD) : Bool := match o with
  | some (.ok l') => decide (l' = l)
  | _ => false
theorem isOk_eq {o : Option (Except Int (List NodeD))} {l : List NodeD} (h : isOk o l = true) : o = some (.ok l) := by
  unfold isOk at h
  split at h
  · rw [of_decide_eq_true h]
  · cases h
theorem treeStep_len {i : Nat} {st st' : List Int} {n : NodeD} (h : treeStep i st n = some st') : n.kids.length ≤ st.length ∧ st'.length ≤ st.length + 1 := by
  unfold treeStep at h
  split at h
  · rename_i hc
    simp only [Option.some.injEq] at h
    subst h
    exact ⟨hc.2.1, by simp⟩
  · cases h
theorem treeGo_kids : ∀ (l : List NodeD) (i : Nat) (st st' : List Int), treeGo i st l = some st' → ∀ n ∈ l, n.kids.length ≤ st.length + l.length
  | [], _, _, _, _, _, hn => absurd hn (by simp)
  | m :: t, i, st, st', h, n, hn => by
    rw [treeGo] at h
    cases e : treeStep i st m with
    | none => rw [e] at h; cases h
    | some s1 =>
      rw [e] at h
      obtain ⟨h1, h2⟩ := treeStep_len e
      rcases List.mem_cons.1 hn with rfl | hn
      · simp; omega
      · have := treeGo_kids t (i + 1) s1 st' h n hn
        simp; omega
theorem treeB_kids {l : List NodeD} (h : treeB l = true) : ∀ n ∈ l, n.kids.length ≤ l.length := by
  unfold treeB at h
  split at h
  · rename_i st e
    intro n hn
    have := treeGo_kids l 0 [] st e n hn
    simpa using this
  · cases h
theorem Nodes.row {w : World} {lo : Nat} {sv : Value} {l : List NodeD} (h : Nodes w lo sv l) (hl : l.length ≤ 100000) (hk : ∀ n ∈ l, n.kids.length ≤ 100000) : NodesR w sv l := by
  refine ⟨hl, ?_⟩
  by_cases h0 : l.length = 0
  · have hnil : l = [] := List.eq_nil_of_length_eq_zero h0
    subst hnil
    obtain ⟨nvs, ho, hm, _⟩ := h
    have hv0 : nvs = [] := by simpa using hm
    subst hv0
    obtain ⟨_, ⟨e, _⟩ | ⟨g, cap, sp, e, hB, _⟩⟩ := ho
    · exact .inl ⟨e, rfl⟩
    · exact .inr ⟨_, cap, e, fun i nd hi => by simp at hi⟩
  · obtain ⟨g, cap, nvs, sp, rfl, hB, hm, hkids⟩ := h.get (by omega)
    refine .inr ⟨_, cap, rfl, fun i nd hi => ?_⟩
    obtain ⟨kv, hg⟩ := nodes_get hm hi
    refine ⟨kv, ⟨by have := hk nd (List.mem_of_getElem? hi); omega, ?_⟩, fun j u hu => ?_⟩
    · rcases hkids _ (List.mem_of_getElem? hg) with ⟨e1, e2⟩ | ⟨b', cap', sp', e1, hb'⟩
      · exact .inl ⟨e1, e2⟩
      · refine .inr ⟨_, cap', e1, fun j z hz => hb'.getElem _ _ ?_⟩
        rw [List.getElem?_append_left (by
          rw [icells_len]
          rcases Nat.lt_or_ge j nd.kids.length with h | h
          · exact h
          · rw [List.getElem?_eq_none h] at hz; cases hz)]
        exact icells_get hz
    · have hj : j < 14 := by
        rcases Nat.lt_or_ge j 14 with h | h
        · exact h
        · rw [List.getElem?_eq_none (by rw [nv_len]; exact h)] at hu; cases hu
      rw [Addr.add_add]
      refine hB.getElem _ _ ?_
      rw [flat_get nv_len nvs sp i _ j hg hj]
      exact hu


theorem PE.errs {T : List TokD} {m : PMode} {s : PSt} {r : PRes} (h : PE T m s r) : ∀ e, r = .err e → e = 5 ∨ e = 6 := by
  induction h with
  | lev_err _ ih => intro e he; cases he; exact ih _ rfl
  | lev_ok _ _ _ ih => exact ih
  | loop_end _ => intro e he; cases he
  | loop_err _ _ ih => intro e he; cases he; exact ih _ rfl
  | loop_go _ _ _ _ ih => exact ih
  | un_prim _ _ ih => exact ih
  | un_deep _ _ => intro e he; cases he; exact .inr rfl
  | un_err _ _ _ ih => intro e he; cases he; exact ih _ rfl
  | un_ok _ _ _ _ => intro e he; cases he
  | pr_sign _ _ => intro e he; cases he; exact .inl rfl
  | pr_deep _ _ => intro e he; cases he; exact .inr rfl
  | pr_err _ _ _ ih => intro e he; cases he; exact ih _ rfl
  | pr_open _ _ _ _ _ => intro e he; cases he; exact .inl rfl
  | pr_ok _ _ _ _ _ => intro e he; cases he
  | pr_end _ => intro e he; cases he; exact .inl rfl
  | pr_num _ => intro e he; cases he
  | pr_text _ => intro e he; cases he
  | pr_dead _ => intro e he; cases he
  | pr_ref _ _ => intro e he; cases he
  | pr_range _ _ _ _ => intro e he; cases he
  | pr_norange _ _ _ => intro e he; cases he; exact .inl rfl
  | pr_true _ _ => intro e he; cases he
  | pr_false _ _ => intro e he; cases he
  | pr_nocall _ _ _ _ => intro e he; cases he; exact .inl rfl
  | pr_calldeep _ _ _ _ _ => intro e he; cases he; exact .inr rfl
  | pr_call0 _ _ _ _ _ _ => intro e he; cases he
  | pr_call _ _ _ _ _ _ _ ih => exact ih
  | ar_err _ ih => intro e he; cases he; exact ih _ rfl
  | ar_go _ _ _ _ ih => exact ih
  | ar_open _ _ _ _ => intro e he; cases he; exact .inl rfl
  | ar_end _ _ _ _ => intro e he; cases he

/-- No more nodes than signs. -/
theorem Tr.cnt_le : ∀ {b : Bool} (t : Tr b), t.Fit → t.Num → t.cnt ≤ W t.toks
  | _, .leaf n, hf, hn => by
    obtain ⟨u, m, e, hk, _⟩ := leaf_form hf.1 hf.2.1
    have hc := (tokT_head ((Tr.leaf n).can hf hn u (by show u ∈ leafK n; rw [e]; simp))).1
    show 1 ≤ W (leafK n)
    rw [e, W_cons]
    have := List.length_pos_iff.2 hc
    omega
  | _, .neg a, hf, hn => by
    have ha := cnt_le a hf (fun u hu => hn u (by simp only [Tr.toks]; exact List.mem_cons_of_mem _ (sub_brk hu)))
    simp only [Tr.cnt, Tr.toks, W_cons, W_brk, W_sg, List.length_cons, List.length_nil]
    omega
  | _, .two o a b, hf, hn => by
    have ha := cnt_le a hf.2.2.1 (fun u hu => hn u (by simp only [Tr.toks]; exact List.mem_append_left _ (sub_brk hu)))
    have hb := cnt_le b hf.2.2.2 (fun u hu => hn u (by simp only [Tr.toks]; exact List.mem_append_right _ (List.mem_cons_of_mem _ (sub_brk hu))))
    have hs := List.length_pos_iff.2 (sign_all _ (signK_mem hf.1 hf.2.1)).1
    simp only [Tr.cnt, Tr.toks, W_app, W_cons, W_brk, W_sg]
    omega
  | _, .call x .nil, hf, hn => by
    simp only [Tr.cnt, Tr.toks, W_cons, W_sg, List.length_cons, List.length_nil]
    omega
  | _, .call x (.snoc rs a), hf, hn => by
    have hr := cnt_le rs hf.2.1 (fun u hu => hn u (by simp only [Tr.toks]; simp [hu]))
    have ha := cnt_le a hf.2.2 (fun u hu => hn u (by simp only [Tr.toks]; simp [hu]))
    simp only [Tr.cnt, Tr.toks, W_cons, W_app, W_sg, List.length_cons, List.length_nil]
    omega
  | _, .nil, _, _ => Nat.zero_le _
  | _, .snoc rs a, hf, hn => by
    have hr := cnt_le rs hf.1 (fun u hu => hn u (by simp only [Tr.toks]; simp [hu]))
    have ha := cnt_le a hf.2 (fun u hu => hn u (by simp only [Tr.toks]; simp [hu]))
    simp only [Tr.cnt, Tr.toks, W_app]
    omega

/-- What a text is: nodes, and no error; or an error, and none. -/
def PIs (s : List UInt8) (l : List NodeD) (e : Int) : Prop := parseT s = .ok l ∧ e = 0 ∨ parseT s = .error e ∧ l = [] ∧ (e = 4 ∨ e = 5 ∨ e = 6)
theorem parseT_short {s : List UInt8} {l : List NodeD} (h : parseT s = .ok l) : Short l := by
  unfold parseT at h
  split at h
  · cases h
  · rename_i h1
    split at h
    · cases h
    · rename_i T e
      split at h
      · rename_i hx
        have hp := hx.choose_spec
        rw [h] at hp
        exact (Parsed.tree (lexT_ok (by omega) e) hp).2
      · cases h
theorem parse_facts {s : List UInt8} {l : List NodeD} (h : parseT s = .ok l) : s.length ≤ 300 ∧ treeB l = true ∧ Short l ∧ l.length ≤ 300 ∧ ∀ n ∈ l, n.kids.length ≤ 300 := by
  obtain ⟨h3, t, hf, hn, rfl, hd, hl⟩ := parseT_ok h
  have ht := t.tree hf
  have hc := t.cnt_le hf hn
  have hlen : (t.flat 0).length ≤ 300 := by
    rw [Tr.flat_len]
    have : W t.toks = t.text.length := rfl
    omega
  exact ⟨h3, ht, parseT_short h, hlen, fun n hm => Nat.le_trans (treeB_kids ht n hm) hlen⟩
theorem PIs.facts {s : List UInt8} {l : List NodeD} {e : Int} (h : PIs s l e) : Short l ∧ l.length ≤ 300 ∧ (∀ n ∈ l, n.kids.length ≤ 300) ∧ treeB l = decide (e = 0) ∧ 0 ≤ e ∧ e ≤ 6 := by
  rcases h with ⟨h, rfl⟩ | ⟨h, rfl, he⟩
  · obtain ⟨_, h1, h2, h3, h4⟩ := parse_facts h
    exact ⟨h2, h3, h4, by rw [h1]; rfl, by omega, by omega⟩
  · refine ⟨fun n hn => (List.not_mem_nil hn).elim, by simp, fun n hn => (List.not_mem_nil hn).elim, ?_, by omega, by omega⟩
    have : treeB [] = false := rfl
    rw [this]
    simp
    omega
theorem PIs.det {s : List UInt8} {l l' : List NodeD} {e e' : Int} (h : PIs s l e) (h' : PIs s l' e') : l = l' ∧ e = e' := by
  rcases h with ⟨h, rfl⟩ | ⟨h, rfl, he⟩ <;> rcases h' with ⟨h', rfl⟩ | ⟨h', rfl, he'⟩ <;> rw [h] at h'
  · exact ⟨by simpa using h', rfl⟩
  · cases h'
  · cases h'
  · exact ⟨rfl, by simpa using h'⟩
theorem nodesR_nil (w : World) : NodesR w (.slice none 0 0) [] := ⟨by simp, .inl ⟨rfl, rfl⟩⟩
theorem ParseV.both {s : List UInt8} {v : Value} {w : World} {lo : Nat} (h : ParseV s v w lo) : ∃ l e sv, v = .tuple #[sv, .int .i64 e] ∧ NodesR w sv l ∧ PIs s l e := by
  have hr := h.res
  cases hp : parseT s with
  | ok l =>
    rw [hp] at hr
    obtain ⟨sv, rfl, hn⟩ := hr
    obtain ⟨_, h1, h2, h3, h4⟩ := parse_facts hp
    exact ⟨l, 0, sv, rfl, hn.row (by omega) (fun n hm => by have := h4 n hm; omega), .inl ⟨hp, rfl⟩⟩
  | error e =>
    rw [hp] at hr
    refine ⟨[], e, _, hr, nodesR_nil w, .inr ⟨hp, rfl, ?_⟩⟩
    unfold ParseV at h
    by_cases h1 : 300 < s.length
    · have : parseT s = .error 4 := by unfold parseT; rw [if_pos h1]
      rw [this] at hp
      simp only [Except.error.injEq] at hp
      omega
    · rw [if_neg h1] at h
      cases hl : lexT s with
      | none =>
        have : parseT s = .error 5 := by unfold parseT; rw [if_neg h1, hl]
        rw [this] at hp
        simp only [Except.error.injEq] at hp
        omega
      | some T =>
        rw [hl] at h
        obtain ⟨o, hpo, _⟩ := h
        have := parseT_of (by omega) hl hpo
        rw [hp] at this
        subst this
        rcases hpo with h | ⟨h, _⟩
        · have := h.errs _ rfl
          omega
        · omega
end Go.Proofs.YtiloogjageledaaGreatDoor
