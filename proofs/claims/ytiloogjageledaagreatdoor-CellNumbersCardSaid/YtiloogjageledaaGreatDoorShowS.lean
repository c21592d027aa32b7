/-
  Plain: what is read of a text is a tree whose own text is no longer, and is read as it again. No program in sight.
-/
import Derived.Test.YtiloogjageledaaGreatDoorShowR
namespace Go.Proofs.YtiloogjageledaaGreatDoor
open Go Go.E

def W (l : List TokD) : Nat := (l.flatMap tokT).length
theorem W_nil : W [] = 0 := rfl
theorem W_cons (t : TokD) (l : List TokD) : W (t :: l) = (tokT t).length + W l := by simp [W]
theorem W_app (l m : List TokD) : W (l ++ m) = W l + W m := by simp [W]
theorem W_sg (s : List UInt8) : (tokT (sg s)).length = s.length := rfl
theorem W_brk (b : Bool) (l : List TokD) : W (brk b l) = W l + if b then 2 else 0 := by
  cases b
  · simp [brk]
  · simp only [brk, if_true, W_cons, W_app, W_nil, W_sg, List.length_cons, List.length_nil]
    omega
def pw (T : List TokD) (i : Nat) : Nat := W (T.take i)
theorem pw_step (T : List TokD) (i : Nat) : pw T (i + 1) = pw T i + (tokT (T.getD i tokZ)).length := by
  unfold pw
  rcases Nat.lt_or_ge i T.length with h | h
  · rw [List.take_add_one, List.getElem?_eq_getElem h, W_app, List.getD_eq_getElem?_getD, List.getElem?_eq_getElem h]
    simp [W]
  · rw [List.take_of_length_le h, List.take_of_length_le (by omega), List.getD_eq_getElem?_getD, List.getElem?_eq_none h]
    rfl
theorem pw_adv (T : List TokD) (s : PSt) : pw T (s.at_ + 1) = pw T s.at_ + (tokT (tokAt T s)).length := pw_step T s.at_
theorem pw_le (T : List TokD) (i : Nat) : pw T i ≤ W T := by
  have := W_app (T.take i) (T.drop i)
  rw [List.take_append_drop] at this
  unfold pw
  omega
theorem opt_W (t : Tr false) (L : Nat) : W (t.opt L) = W t.toks + if t.rank < L then 2 else 0 := by
  rw [Tr.opt, W_brk]
  by_cases h : t.rank < L <;> simp [h]

theorem tok1 {t : TokD} (h : TokC t) (k : t.kind = 1) : t = ⟨1, [], t.num, refN, 0⟩ ∧ 0 ≤ t.num ∧ t.num ≤ 9223372036854775807 := by
  cases h <;> simp_all [sg]
theorem tok2 {t : TokD} (h : TokC t) (k : t.kind = 2) : t = ⟨2, t.text, 0, refN, 0⟩ ∧ prB t.text = true := by
  cases h <;> simp_all [sg]
theorem tok3 {t : TokD} (h : TokC t) (k : t.kind = 3) : t = ⟨3, t.text, 0, refN, 0⟩ ∧ fnB t.text = true ∧ okRead t.text = false := by
  cases h <;> simp_all [sg]
theorem tok4 {t : TokD} (h : TokC t) (k : t.kind = 4) : t = ⟨4, [], 0, t.ref, 0⟩ ∧ mayB t.ref = true := by
  cases h <;> simp_all [sg]
theorem tok6 {t : TokD} (h : TokC t) (k : t.kind = 6) : t = ⟨6, [], 0, refN, 0⟩ := by
  cases h <;> simp_all [sg]
def CanT (T : List TokD) : Prop := ∀ t ∈ T, nA t = endK ∨ TokC (nA t)
theorem tok_can {T : List TokD} (h : CanT T) {s : PSt} (hk : (tokAt T s).kind ≠ 0) : TokC (nA (tokAt T s)) := by
  rcases Nat.lt_or_ge s.at_ T.length with hl | hl
  · have e : tokAt T s = T[s.at_] := by simp [tokAt, List.getD_eq_getElem?_getD, List.getElem?_eq_getElem hl]
    rw [e] at hk ⊢
    rcases h _ (List.getElem_mem hl) with h | h
    · have : (nA T[s.at_]).kind = 0 := by rw [h]; rfl
      exact absurd this hk
    · exact h
  · have e : tokAt T s = tokZ := by simp [tokAt, List.getD_eq_getElem?_getD, List.getElem?_eq_none hl]
    rw [e] at hk
    exact absurd rfl hk
theorem isS_len {T : List TokD} {s : PSt} {x : List UInt8} (h : isS T s x = true) : (tokT (tokAt T s)).length = x.length := by
  obtain ⟨h1, h2⟩ := isS_kind h
  simp [tokT, h1, h2]
theorem op_sign_all : ∀ n, n < 4 → ∀ i, i < (signsN n).length → 9 ≤ (kindsN n).getD i 0 ∧ (kindsN n).getD i 0 ≤ 19 ∧ rankK ((kindsN n).getD i 0) = n + 1 ∧ signK ((kindsN n).getD i 0) = (signsN n).getD i [] := by decide
theorem op_sign {T : List TokD} {s : PSt} {n i : Nat} (hn : n < 4) (h : opIx T s n = some i) : 9 ≤ (kindsN n).getD i 0 ∧ (kindsN n).getD i 0 ≤ 19 ∧ rankK ((kindsN n).getD i 0) = n + 1 ∧ (tokT (tokAt T s)).length = (signK ((kindsN n).getD i 0)).length := by
  unfold opIx at h
  split at h
  · rename_i h5
    obtain ⟨hi, hp, _⟩ := List.findIdx?_eq_some_iff_getElem.1 h
    obtain ⟨a1, a2, a3, a4⟩ := op_sign_all n hn i hi
    refine ⟨a1, a2, a3, ?_⟩
    have ht : (signsN n)[i] = (tokAt T s).text := by simpa using hp
    rw [a4, List.getD_eq_getElem?_getD, List.getElem?_eq_getElem hi]
    simp [tokT, h5, ht]
  · cases h

/-- A tree that was read. -/
structure Rt (T : List TokD) (L : Nat) (s s1 : PSt) (b : Nat) (t : Tr false) : Prop where
  fit : t.Fit
  num : t.Num
  out : s1.out = s.out ++ t.flat s.out.length
  plc : b = s.out.length + t.cnt - 1
  deep : s1.deep = s.deep
  need : s.deep + opd L t.rank t.need ≤ 12
  wid : W (t.opt L) + pw T s.at_ ≤ pw T s1.at_
structure Lt (T : List TokD) (n : Nat) (s s1 : PSt) (b : Nat) (o : List NodeD) (ta t : Tr false) : Prop where
  fit : t.Fit
  num : t.Num
  out : s1.out = o ++ t.flat o.length
  plc : b = o.length + t.cnt - 1
  deep : s1.deep = s.deep
  need : s.deep + opd (n + 1) t.rank t.need ≤ 12
  wid : W (t.opt (n + 1)) + pw T s.at_ ≤ W (ta.opt (n + 1)) + pw T s1.at_
structure At (T : List TokD) (s s1 : PSt) (b : Nat) (o : List NodeD) (x : List UInt8) (rs : Tr true) (r1 : Tr true) (a1 : Tr false) : Prop where
  fit : (Tr.call x (.snoc r1 a1)).Fit
  num : r1.Num ∧ a1.Num
  out : s1.out = o ++ (Tr.call x (.snoc r1 a1)).flat o.length
  plc : b = o.length + (Tr.call x (.snoc r1 a1)).cnt - 1
  deep : s1.deep = s.deep - 1
  need : s.deep + (Tr.snoc r1 a1).need ≤ 12
  wid : W r1.toks + W a1.toks + 1 + pw T s.at_ ≤ W rs.toks + pw T s1.at_

def PutT (T : List TokD) (m : PMode) (s : PSt) : PRes → Prop
  | .err _ => True
  | .ok s1 b => s.deep ≤ 12 → match m with
    | .lev n => n < 4 → ∃ t, Rt T (n + 1) s s1 b t
    | .unary => ∃ t, Rt T 5 s s1 b t
    | .prim => ∃ t, Rt T 6 s s1 b t
    | .loop n a => n < 4 → ∀ o (ta : Tr false), ta.Fit → ta.Num → s.out = o ++ ta.flat o.length → a = o.length + ta.cnt - 1 → s.deep + opd (n + 1) ta.rank ta.need ≤ 12 → ∃ t, Lt T n s s1 b o ta t
    | .args x ks => ∀ o (rs : Tr true), nameF x = true → rs.Fit → rs.Num → s.out = o ++ rs.flat o.length → ks = rs.kids o.length → s.deep + rs.need ≤ 12 → 1 ≤ s.deep → ∃ r1 a1, At T s s1 b o x rs r1 a1

theorem opd_mono {L L' r d : Nat} (h : L ≤ L') : opd L r d ≤ opd L' r d := by
  unfold opd
  split <;> split <;> omega
theorem opd_le (L r d : Nat) : opd L r d ≤ d + 1 := by
  unfold opd
  split <;> omega
theorem opd_ge (L r d : Nat) : d ≤ opd L r d := by
  unfold opd
  split <;> omega
theorem optW_mono (t : Tr false) {L L' : Nat} (h : L ≤ L') : W (t.opt L) ≤ W (t.opt L') := by
  rw [opt_W, opt_W]
  split <;> split <;> omega
theorem Rt.low {T : List TokD} {L L' : Nat} {s s1 : PSt} {b : Nat} {t : Tr false} (h : Rt T L s s1 b t) (hl : L' ≤ L) : Rt T L' s s1 b t :=
  ⟨h.fit, h.num, h.out, h.plc, h.deep, by have := opd_mono (r := t.rank) (d := t.need) hl; have := h.need; omega, by have := optW_mono t hl; have := h.wid; omega⟩
theorem putT_below {T : List TokD} {n : Nat} (hn : n < 4) {s s1 : PSt} {a : Nat} (h : PutT T (below n) s (.ok s1 a)) (hd : s.deep ≤ 12) : ∃ t, Rt T (n + 2) s s1 a t := by
  unfold below at h
  split at h
  · exact h hd (by omega)
  · have e : n = 3 := by omega
    subst e
    exact h hd
theorem Rt.leaf {T : List TokD} {s s1 : PSt} {n : NodeD} (k : Int) (hkk : n.kind = k) (h0 : 1 ≤ k) (h1 : k ≤ 6) (hk : n.kids = []) (hp : plainB n = true) (hn : ∀ k ∈ leafK n, k.num ≤ 9223372036854775807) (hd : s.deep ≤ 12) (ho : s1.out = s.out ++ [n]) (hdd : s1.deep = s.deep) (hw : W (leafK n) + pw T s.at_ ≤ pw T s1.at_) : ∃ t, Rt T 6 s s1 s.out.length t := by
  refine ⟨.leaf n, ⟨by omega, by omega, hk, hp⟩, hn, ho, by simp [Tr.cnt], hdd, hd, ?_⟩
  rw [opt_W]
  simpa [Tr.rank, Tr.toks] using hw
theorem num_neg {a : Tr false} (h : a.Num) : (Tr.neg a).Num := fun k hk => by
  simp only [Tr.toks, List.mem_cons] at hk
  rcases hk with rfl | hk
  · decide
  · rcases brk_mem hk with hk | rfl | rfl
    · exact h k hk
    · decide
    · decide
theorem num_two {o : Int} {a b : Tr false} (h : a.Num) (h' : b.Num) : (Tr.two o a b).Num := fun k hk => by
  simp only [Tr.toks, List.mem_append, List.mem_cons] at hk
  rcases hk with hk | rfl | hk
  · rcases brk_mem hk with hk | rfl | rfl
    · exact h k hk
    · decide
    · decide
  · show (0 : Int) ≤ _; decide
  · rcases brk_mem hk with hk | rfl | rfl
    · exact h' k hk
    · decide
    · decide
theorem num_snoc {rs : Tr true} {a : Tr false} (h : rs.Num) (h' : a.Num) : (Tr.snoc rs a).Num := fun k hk => by
  simp only [Tr.toks, List.mem_append, List.mem_cons, List.not_mem_nil, or_false] at hk
  rcases hk with hk | hk | rfl
  · exact h k hk
  · exact h' k hk
  · decide
theorem num_call {x : List UInt8} {rs : Tr true} {a : Tr false} (h : rs.Num) (h' : a.Num) : (Tr.call x (.snoc rs a)).Num := fun k hk => by
  simp only [Tr.toks, List.mem_cons, List.mem_append, List.not_mem_nil, or_false] at hk
  rcases hk with rfl | rfl | hk | hk | rfl
  · show (0 : Int) ≤ _; decide
  · decide
  · exact h k hk
  · exact h' k hk
  · decide

theorem PE.trees {T : List TokD} (hT : CanT T) {m : PMode} {s : PSt} {r : PRes} (h : PE T m s r) : PutT T m s r := by
  induction h with
  | lev_err _ _ => trivial
  | @lev_ok n s s1 a r _ _ ih1 ih2 =>
    cases r with
    | err e => trivial
    | ok s2 b =>
      intro hd hn
      obtain ⟨t, h1⟩ := putT_below hn ih1 hd
      have h1 := h1.low (show n + 1 ≤ n + 2 by omega)
      obtain ⟨u, h2⟩ := ih2 (by rw [h1.deep]; exact hd) hn s.out t h1.fit h1.num h1.out h1.plc (by rw [h1.deep]; exact h1.need)
      exact ⟨u, h2.fit, h2.num, h2.out, h2.plc, h2.deep.trans h1.deep, by rw [← h1.deep]; exact h2.need, by have := h1.wid; have := h2.wid; omega⟩
  | @loop_end n s a _ => exact fun hd hn o ta h1 h2 h3 h4 h5 => ⟨ta, h1, h2, h3, h4, rfl, h5, Nat.le_refl _⟩
  | loop_err _ _ _ => trivial
  | @loop_go n s a i s1 b r hi _ _ ih1 ih2 =>
    cases r with
    | err e => trivial
    | ok s2 c =>
      intro hd hn o ta h1 h2 h3 h4 h5
      obtain ⟨k0, k1, k2, k3⟩ := op_sign hn hi
      obtain ⟨tb, hb⟩ := putT_below hn ih1 hd
      have hbo : s1.out = s.out ++ tb.flat s.out.length := hb.out
      have hbd : s1.deep = s.deep := hb.deep
      have hbn : s.deep + opd (n + 2) tb.rank tb.need ≤ 12 := hb.need
      have hbp : b = s.out.length + tb.cnt - 1 := hb.plc
      have hbw : W (tb.opt (n + 2)) + pw T (s.at_ + 1) ≤ pw T s1.at_ := hb.wid
      have hsl : s.out.length = o.length + ta.cnt := by rw [h3, List.length_append, Tr.flat_len]
      have hneed : (Tr.two ((kindsN n).getD i 0) ta tb).need = max (opd (n + 1) ta.rank ta.need) (opd (n + 2) tb.rank tb.need) := by simp only [Tr.need, k2]
      have hrank : (Tr.two ((kindsN n).getD i 0) ta tb).rank = n + 1 := k2
      have hopd : opd (n + 1) (Tr.two ((kindsN n).getD i 0) ta tb).rank (Tr.two ((kindsN n).getD i 0) ta tb).need = max (opd (n + 1) ta.rank ta.need) (opd (n + 2) tb.rank tb.need) := by
        unfold opd
        rw [hrank, if_neg (by omega), hneed]
        rfl
      have hW : W ((Tr.two ((kindsN n).getD i 0) ta tb).opt (n + 1)) = W (ta.opt (n + 1)) + (signK ((kindsN n).getD i 0)).length + W (tb.opt (n + 2)) := by
        have e2 : tb.opt (n + 2) = brk (decide (tb.rank < n + 1 + 1)) tb.toks := rfl
        have e1 : ta.opt (n + 1) = brk (decide (ta.rank < n + 1)) ta.toks := rfl
        rw [opt_W, hrank, if_neg (by omega), e1, e2]
        simp only [Tr.toks, W_app, W_cons, W_sg, k2]
        omega
      have hpw := pw_adv T s
      obtain ⟨t, h⟩ := ih2 (by show s1.deep ≤ 12; omega) hn o (.two ((kindsN n).getD i 0) ta tb) ⟨k0, k1, h1, hb.fit⟩ (num_two h2 hb.num) (by
        show s1.out ++ [_] = _
        rw [hbo, hbp, h3, h4]
        simp only [Tr.flat, List.append_assoc, List.length_append, Tr.flat_len]) (by
        show s1.out.length = _
        rw [hbo, List.length_append, Tr.flat_len, hsl]
        simp only [Tr.cnt]
        omega) (by
        show s1.deep + _ ≤ 12
        rw [hopd, hbd]
        omega)
      have e1 : (putS s1 { kind := (kindsN n).getD i 0, kids := [(a : Int), (b : Int)] }).deep = s1.deep := rfl
      have e2 : (putS s1 { kind := (kindsN n).getD i 0, kids := [(a : Int), (b : Int)] }).at_ = s1.at_ := rfl
      refine ⟨t, h.fit, h.num, h.out, h.plc, by rw [h.deep, e1, hbd], by have := h.need; rw [e1, hbd] at this; exact this, ?_⟩
      have := h.wid
      rw [e2, hW] at this
      omega
  | @un_prim s r _ _ ih =>
    cases r with
    | err e => trivial
    | ok s2 b =>
      intro hd
      obtain ⟨t, h⟩ := ih hd
      exact ⟨t, h.low (by omega)⟩
  | un_deep _ _ => trivial
  | un_err _ _ _ _ => trivial
  | @un_ok s s1 a hi hd _ ih =>
    intro _
    obtain ⟨t, h⟩ := ih (by show s.deep + 1 ≤ 12; omega)
    have ho : s1.out = s.out ++ t.flat s.out.length := h.out
    have hdp : s1.deep = s.deep + 1 := h.deep
    have hne : s.deep + 1 + opd 5 t.rank t.need ≤ 12 := h.need
    have hp : a = s.out.length + t.cnt - 1 := h.plc
    have hw : W (t.opt 5) + pw T (s.at_ + 1) ≤ pw T s1.at_ := h.wid
    have hpw := pw_adv T s
    have hc := isS_len hi
    simp only [List.length_cons, List.length_nil] at hc
    refine ⟨.neg t, h.fit, num_neg h.num, ?_, ?_, ?_, ?_, ?_⟩
    · show s1.out ++ [_] = _
      rw [ho, hp]
      simp only [Tr.flat, List.append_assoc]
    · rw [ho, List.length_append, Tr.flat_len]
      simp only [Tr.cnt]
      omega
    · show s1.deep - 1 = s.deep
      omega
    · have : opd 5 (Tr.neg t).rank (Tr.neg t).need = opd 5 t.rank t.need + 1 := rfl
      rw [this]
      omega
    · have : W ((Tr.neg t).opt 5) = 1 + W (t.opt 5) := by
        rw [opt_W (.neg t)]
        simp only [Tr.rank, Tr.toks, W_cons, W_sg, Tr.opt, List.length_cons, List.length_nil]
        rfl
      rw [this]
      show _ ≤ pw T s1.at_
      omega
  | pr_sign _ _ => trivial
  | pr_deep _ _ => trivial
  | pr_err _ _ _ _ => trivial
  | pr_open _ _ _ _ _ => trivial
  | @pr_ok s s1 a hi hd _ h41 ih =>
    intro _
    obtain ⟨t, h⟩ := ih (by show s.deep + 1 ≤ 12; omega) (by omega)
    have hdp : s1.deep = s.deep + 1 := h.deep
    have hne : s.deep + 1 + opd 1 t.rank t.need ≤ 12 := h.need
    have hw : W (t.opt 1) + pw T (s.at_ + 1) ≤ pw T s1.at_ := h.wid
    have hpw := pw_adv T s
    have hpw1 := pw_adv T s1
    have hc := isS_len hi
    have hc1 := isS_len h41
    simp only [List.length_cons, List.length_nil] at hc hc1
    refine ⟨t, h.fit, h.num, h.out, h.plc, ?_, ?_, ?_⟩
    · show s1.deep - 1 = s.deep
      omega
    · have := opd_le 6 t.rank t.need
      have := opd_ge 1 t.rank t.need
      omega
    · show _ ≤ pw T (s1.at_ + 1)
      rw [opt_W] at hw ⊢
      split <;> omega
  | pr_end _ => trivial
  | @pr_num s h =>
    intro hd
    obtain ⟨e, h0, h1⟩ := tok1 (tok_can hT (s := s) (by omega)) h
    have hpw := pw_adv T s
    have ek : leafK { kind := 1, num := (tokAt T s).num } = [nA (tokAt T s)] := by rw [e]; rfl
    refine Rt.leaf 1 rfl (by decide) (by decide) rfl (plain_leaf (by show decide (0 ≤ (tokAt T s).num) = true; exact decide_eq_true h0) ⟨rfl, rfl, rfl, rfl⟩) (by rw [ek]; intro k hk; rw [List.mem_singleton.1 hk]; exact h1) hd rfl rfl ?_
    rw [ek, W_cons, W_nil, tokT_nA]
    show _ ≤ pw T (s.at_ + 1)
    omega
  | @pr_text s h =>
    intro hd
    obtain ⟨e, h0⟩ := tok2 (tok_can hT (s := s) (by omega)) h
    have hpw := pw_adv T s
    have ek : leafK { kind := 2, text := (tokAt T s).text } = [nA (tokAt T s)] := by rw [e]; rfl
    refine Rt.leaf 2 rfl (by decide) (by decide) rfl (plain_leaf (by show prB (tokAt T s).text = true; exact h0) ⟨rfl, rfl, rfl, rfl⟩) (by rw [ek]; intro k hk; rw [List.mem_singleton.1 hk, e]; show (0 : Int) ≤ 9223372036854775807; decide) hd rfl rfl ?_
    rw [ek, W_cons, W_nil, tokT_nA]
    show _ ≤ pw T (s.at_ + 1)
    omega
  | @pr_dead s h =>
    intro hd
    have e := tok6 (tok_can hT (s := s) (by omega)) h
    have hpw := pw_adv T s
    have ek : leafK { kind := 4 } = [nA (tokAt T s)] := by rw [e]; rfl
    refine Rt.leaf 4 rfl (by decide) (by decide) rfl rfl (by rw [ek]; intro k hk; rw [List.mem_singleton.1 hk, e]; show (0 : Int) ≤ 9223372036854775807; decide) hd rfl rfl ?_
    rw [ek, W_cons, W_nil, tokT_nA]
    show _ ≤ pw T (s.at_ + 1)
    omega
  | @pr_ref s h _ =>
    intro hd
    obtain ⟨e, h0⟩ := tok4 (tok_can hT (s := s) (by omega)) h
    have hpw := pw_adv T s
    have ek : leafK { kind := 5, ref := (tokAt T s).ref } = [nA (tokAt T s)] := by rw [e]; rfl
    refine Rt.leaf 5 rfl (by decide) (by decide) rfl (plain_leaf (by show mayB (tokAt T s).ref = true; exact h0) ⟨rfl, rfl, rfl, rfl⟩) (by rw [ek]; intro k hk; rw [List.mem_singleton.1 hk, e]; show (0 : Int) ≤ 9223372036854775807; decide) hd rfl rfl ?_
    rw [ek, W_cons, W_nil, tokT_nA]
    show _ ≤ pw T (s.at_ + 1)
    omega
  | @pr_range s h hi h' hr =>
    intro hd
    obtain ⟨e, h0⟩ := tok4 (tok_can hT (s := s) (by omega)) h
    obtain ⟨e', h0'⟩ := tok4 (tok_can hT (s := adv (adv s)) (by omega)) h'
    have hpw := pw_adv T s
    have hpw1 : pw T (s.at_ + 1 + 1) = pw T (s.at_ + 1) + (tokT (tokAt T (adv s))).length := pw_adv T (adv s)
    have hpw2 : pw T (s.at_ + 1 + 1 + 1) = pw T (s.at_ + 1 + 1) + (tokT (tokAt T (adv (adv s)))).length := pw_adv T (adv (adv s))
    have hc := isS_len hi
    simp only [List.length_cons, List.length_nil] at hc
    have ek : leafK { kind := 6, ref := (tokAt T s).ref, to := (tokAt T (adv (adv s))).ref } = [nA (tokAt T s), sg [58], nA (tokAt T (adv (adv s)))] := by rw [e, e']; rfl
    refine Rt.leaf 6 rfl (by decide) (by decide) rfl (plain_leaf (by show (mayB (tokAt T s).ref && (mayB (tokAt T (adv (adv s))).ref && rangesB (tokAt T s).ref (tokAt T (adv (adv s))).ref)) = true; have h0 : mayB (tokAt T s).ref = true := h0; have h0' : mayB (tokAt T (adv (adv s))).ref = true := h0'; rw [h0, h0', hr]; rfl) ⟨rfl, rfl, rfl, rfl⟩) (by
      rw [ek]; intro k hk
      simp only [List.mem_cons, List.not_mem_nil, or_false] at hk
      rcases hk with rfl | rfl | rfl
      · rw [e]; show (0 : Int) ≤ 9223372036854775807; decide
      · decide
      · rw [e']; show (0 : Int) ≤ 9223372036854775807; decide) hd rfl rfl ?_
    rw [ek, W_cons, W_cons, W_cons, W_nil, tokT_nA, tokT_nA, W_sg]
    show _ ≤ pw T (s.at_ + 1 + 1 + 1)
    simp only [List.length_cons, List.length_nil]
    omega
  | pr_norange _ _ _ => trivial
  | @pr_true s h h1 =>
    intro hd
    have hpw := pw_adv T s
    have hl : (tokT (tokAt T s)).length = 4 := by simp [tokT, h, h1, trueT]
    refine Rt.leaf 3 rfl (by decide) (by decide) rfl rfl (by decide) hd rfl rfl ?_
    have : W (leafK { kind := 3, num := 1 }) = 4 := rfl
    rw [this]
    show _ ≤ pw T (s.at_ + 1)
    omega
  | @pr_false s h h1 =>
    intro hd
    have hpw := pw_adv T s
    have hl : (tokT (tokAt T s)).length = 5 := by simp [tokT, h, h1, falseT]
    refine Rt.leaf 3 rfl (by decide) (by decide) rfl rfl (by decide) hd rfl rfl ?_
    have : W (leafK { kind := 3 }) = 5 := rfl
    rw [this]
    show _ ≤ pw T (s.at_ + 1)
    omega
  | pr_nocall _ _ _ _ => trivial
  | pr_calldeep _ _ _ _ _ => trivial
  | @pr_call0 s h h1 h2 h40 hd h41 =>
    intro _
    obtain ⟨e, f0, f1⟩ := tok3 (tok_can hT (s := s) (by omega)) h
    have hn : nameF (tokAt T s).text = true := by
      have f0 : fnB (tokAt T s).text = true := f0
      have f1 : okRead (tokAt T s).text = false := f1
      simp [nameF, f0, f1, h1, h2]
    have hpw := pw_adv T s
    have hpw1 : pw T (s.at_ + 1 + 1) = pw T (s.at_ + 1) + (tokT (tokAt T (adv s))).length := pw_adv T (adv s)
    have hpw2 : pw T (s.at_ + 1 + 1 + 1) = pw T (s.at_ + 1 + 1) + (tokT (tokAt T (deeper (adv (adv s))))).length := pw_adv T (deeper (adv (adv s)))
    have hc := isS_len h40
    have hc1 := isS_len h41
    have hx : (tokT (tokAt T s)).length = (tokAt T s).text.length := by simp [tokT, h]
    simp only [List.length_cons, List.length_nil] at hc hc1
    refine ⟨.call (tokAt T s).text .nil, ⟨hn, trivial⟩, ?_, rfl, by simp [Tr.cnt], rfl, ?_, ?_⟩
    · intro k hk
      simp only [Tr.toks, List.mem_cons, List.not_mem_nil, or_false] at hk
      rcases hk with rfl | rfl | rfl
      · show (0 : Int) ≤ _; decide
      · decide
      · decide
    · show s.deep + 1 ≤ 12
      omega
    · rw [opt_W]
      simp only [Tr.rank, Tr.toks, W_cons, W_nil, W_sg, List.length_cons, List.length_nil]
      show (tokAt T s).text.length + _ + _ + _ ≤ pw T (s.at_ + 1 + 1 + 1)
      simp
      omega
  | @pr_call s r h h1 h2 h40 hd h41 _ ih =>
    cases r with
    | err e => trivial
    | ok s2 b =>
      intro _
      obtain ⟨e, f0, f1⟩ := tok3 (tok_can hT (s := s) (by omega)) h
      have hn : nameF (tokAt T s).text = true := by
        have f0 : fnB (tokAt T s).text = true := f0
        have f1 : okRead (tokAt T s).text = false := f1
        simp [nameF, f0, f1, h1, h2]
      obtain ⟨r1, a1, hh⟩ := ih (by show s.deep + 1 ≤ 12; omega) s.out .nil hn trivial (fun k hk => by cases hk) (by simp [Tr.flat, deeper, adv]) rfl (by show s.deep + 1 + 0 ≤ 12; omega) (by show 1 ≤ s.deep + 1; omega)
      have hpw := pw_adv T s
      have hpw1 : pw T (s.at_ + 1 + 1) = pw T (s.at_ + 1) + (tokT (tokAt T (adv s))).length := pw_adv T (adv s)
      have hc := isS_len h40
      have hx : (tokT (tokAt T s)).length = (tokAt T s).text.length := by simp [tokT, h]
      simp only [List.length_cons, List.length_nil] at hc
      have hne : s.deep + 1 + (Tr.snoc r1 a1).need ≤ 12 := hh.need
      have hw : W r1.toks + W a1.toks + 1 + pw T (s.at_ + 1 + 1) ≤ 0 + pw T s2.at_ := hh.wid
      have hdp : s2.deep = s.deep + 1 - 1 := hh.deep
      refine ⟨.call (tokAt T s).text (.snoc r1 a1), hh.fit, num_call hh.num.1 hh.num.2, hh.out, hh.plc, by omega, ?_, ?_⟩
      · show s.deep + ((Tr.snoc r1 a1).need + 1) ≤ 12
        omega
      · rw [opt_W]
        simp only [Tr.rank, Tr.toks, W_cons, W_app, W_nil, W_sg, List.length_cons, List.length_nil]
        show (tokAt T s).text.length + _ + _ + _ ≤ _
        simp
        omega
  | ar_err _ _ => trivial
  | @ar_go x ks s s1 a r _ h44 _ ih1 ih2 =>
    cases r with
    | err e => trivial
    | ok s2 b =>
      intro hd o rs hx h1 h2 h3 h4 h5 h6
      obtain ⟨t, h⟩ : ∃ t, Rt T 1 s s1 a t := ih1 hd (by omega)
      have hop := opd_ge 1 t.rank t.need
      have hne := h.need
      have hdp := h.deep
      have hsl : s.out.length = o.length + rs.cnt := by rw [h3, List.length_append, Tr.flat_len]
      obtain ⟨r1, a1, hh⟩ := ih2 (by show s1.deep ≤ 12; omega) o (.snoc rs t) hx ⟨h1, h.fit⟩ (num_snoc h2 h.num) (by
        show s1.out = _
        rw [h.out, h3]
        simp only [Tr.flat, List.append_assoc, List.length_append, Tr.flat_len]) (by
        rw [h4, h.plc, hsl]
        simp only [Tr.kids]) (by
        show s1.deep + max rs.need t.need ≤ 12
        omega) (by show 1 ≤ s1.deep; omega)
      have hw1 : W (t.opt 1) + pw T s.at_ ≤ pw T s1.at_ := h.wid
      have hw2 : W r1.toks + W a1.toks + 1 + pw T (s1.at_ + 1) ≤ W (Tr.snoc rs t).toks + pw T s2.at_ := hh.wid
      have hpw := pw_adv T s1
      have hc := isS_len h44
      simp only [List.length_cons, List.length_nil] at hc
      have hd2 : s2.deep = s1.deep - 1 := hh.deep
      have hn2 : s1.deep + (Tr.snoc r1 a1).need ≤ 12 := hh.need
      refine ⟨r1, a1, hh.fit, hh.num, hh.out, hh.plc, by omega, by omega, ?_⟩
      rw [opt_W] at hw1
      simp only [Tr.toks, W_app, W_cons, W_nil, W_sg, List.length_cons, List.length_nil] at hw2
      omega
  | ar_open _ _ _ _ => trivial
  | @ar_end x ks s s1 a _ h44 h41 ih =>
    intro hd o rs hx h1 h2 h3 h4 h5 h6
    obtain ⟨t, h⟩ : ∃ t, Rt T 1 s s1 a t := ih hd (by omega)
    have hop := opd_ge 1 t.rank t.need
    have hne := h.need
    have hdp := h.deep
    have hsl : s.out.length = o.length + rs.cnt := by rw [h3, List.length_append, Tr.flat_len]
    have hw1 : W (t.opt 1) + pw T s.at_ ≤ pw T s1.at_ := h.wid
    have hpw := pw_adv T s1
    have hc := isS_len h41
    simp only [List.length_cons, List.length_nil] at hc
    refine ⟨rs, t, ⟨hx, h1, h.fit⟩, ⟨h2, h.num⟩, ?_, ?_, by show s1.deep - 1 = s.deep - 1; omega, ?_, ?_⟩
    · show s1.out ++ [_] = _
      rw [h.out, h3, h4, h.plc, hsl]
      simp only [Tr.flat, Tr.kids, List.append_assoc, List.length_append, Tr.flat_len]
    · rw [h.out, h3]
      simp only [List.length_append, Tr.flat_len, Tr.cnt]
      omega
    · show s.deep + max rs.need t.need ≤ 12
      omega
    · show _ ≤ _ + pw T (s1.at_ + 1)
      rw [opt_W] at hw1
      omega

/-- What is read of a text is a tree; its own text is no longer. -/
theorem read_tree {s : List UInt8} {T : List TokD} {l : List NodeD} (h : lexT s = some T) (hp : Parsed T (.ok l)) : ∃ t : Tr false, t.Fit ∧ t.Num ∧ t.flat 0 = l ∧ t.need ≤ 12 ∧ t.text.length ≤ s.length := by
  obtain ⟨hC, hw⟩ := lexF_can _ s 0 (Nat.le_refl _) h
  obtain ⟨s1, a, hpe, _, ho⟩ := hp
  obtain ⟨t, ht⟩ := (hpe.trees hC) (by simp) (by omega)
  have h1 := ht.out
  have h2 := ht.need
  have h3 := ht.wid
  have h4 := opd_ge 1 t.rank t.need
  have h5 := pw_le T s1.at_
  rw [opt_W] at h3
  have h6 : W T ≤ s.length := hw
  refine ⟨t, ht.fit, ht.num, by rw [← ho, h1]; rfl, by simp only [Nat.zero_add] at h2; omega, ?_⟩
  show W t.toks ≤ _
  omega

/-- What a text is as a formula. -/
noncomputable def parseT (s : List UInt8) : Except Int (List NodeD) := open Classical in
  if 300 < s.length then .error 4 else match lexT s with
  | none => .error 5
  | some T => if h : ∃ o, Parsed T o then h.choose else .error 0
theorem parseT_of {s : List UInt8} {T : List TokD} {o : Except Int (List NodeD)} (h300 : s.length ≤ 300) (hl : lexT s = some T) (hp : Parsed T o) : parseT s = o := by
  unfold parseT
  rw [if_neg (by omega), hl]
  have hx : ∃ o, Parsed T o := ⟨o, hp⟩
  simp only
  rw [dif_pos hx]
  exact hx.choose_spec.det hp
theorem ParseV.res {s : List UInt8} {v : Value} {w : World} {lo : Nat} (h : ParseV s v w lo) : ResV w lo v (parseT s) := by
  unfold ParseV at h
  by_cases h1 : 300 < s.length
  · rw [if_pos h1] at h
    have : parseT s = .error 4 := by unfold parseT; rw [if_pos h1]
    rw [this]; exact h
  · rw [if_neg h1] at h
    cases e : lexT s with
    | none =>
      rw [e] at h
      have : parseT s = .error 5 := by unfold parseT; rw [if_neg h1, e]
      rw [this]; exact h
    | some T =>
      rw [e] at h
      obtain ⟨o, hp, hr⟩ := h
      rw [parseT_of (by omega) e hp]
      exact hr
theorem parseT_ok {s : List UInt8} {l : List NodeD} (h : parseT s = .ok l) : s.length ≤ 300 ∧ ∃ t : Tr false, t.Fit ∧ t.Num ∧ t.flat 0 = l ∧ t.need ≤ 12 ∧ t.text.length ≤ s.length := by
  unfold parseT at h
  split at h
  · cases h
  · rename_i h1
    split at h
    · cases h
    · rename_i T e
      split at h
      · rename_i hx
        have := hx.choose_spec
        rw [h] at this
        exact ⟨by omega, read_tree e this⟩
      · cases h
/-- A tree's text is read as the tree, unless it is too long, or too deep. -/
theorem parseT_text (t : Tr false) (hf : t.Fit) (hn : t.Num) : parseT t.text = if 300 < t.text.length then .error 4 else if t.need ≤ 12 then .ok (t.flat 0) else .error 6 := by
  obtain ⟨T, h1, h2⟩ := t.lex hf hn
  by_cases h3 : 300 < t.text.length
  · rw [if_pos h3]
    unfold parseT
    rw [if_pos h3]
  · rw [if_neg h3]
    exact parseT_of (by omega) h1 (t.again hf h2)
end Go.Proofs.YtiloogjageledaaGreatDoor
