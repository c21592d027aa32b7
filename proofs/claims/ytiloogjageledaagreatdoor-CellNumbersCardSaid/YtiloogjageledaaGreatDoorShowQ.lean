/-
  Plain: a tree's tokens, its text; its text has these tokens. No program in sight.
-/
import Derived.Test.YtiloogjageledaaGreatDoorShowP
import Derived.Test.YtiloogjageledaaGreatDoorLexN
namespace Go.Proofs.YtiloogjageledaaGreatDoor
open Go Go.E

/-! ### Tokens as text -/

def quoteT (s : List UInt8) : List UInt8 := 34 :: (s.flatMap (fun c => if c = 34 then [34, 34] else [c]) ++ [34])
def tokT (t : TokD) : List UInt8 := if t.kind = 1 then Lib.itoa t.num else if t.kind = 2 then quoteT t.text else if t.kind = 4 then textB t.ref else if t.kind = 6 then deadT else t.text
def nA (t : TokD) : TokD := { t with at_ := 0 }
def endK : TokD := ⟨0, [], 0, refN, 0⟩
def sg (s : List UInt8) : TokD := ⟨5, s, 0, refN, 0⟩
theorem tokT_sg (s : List UInt8) : tokT (sg s) = s := rfl
theorem tokT_nA (t : TokD) : tokT (nA t) = tokT t := rfl

/-- Tokens that may be, but for where they stand. -/
inductive TokC : TokD → Prop
  | num {z : Int} : 0 ≤ z → z ≤ 9223372036854775807 → TokC ⟨1, [], z, refN, 0⟩
  | text {s : List UInt8} : prB s = true → TokC ⟨2, s, 0, refN, 0⟩
  | word {s : List UInt8} : fnB s = true → okRead s = false → TokC ⟨3, s, 0, refN, 0⟩
  | ref {r : RefD} : mayB r = true → TokC ⟨4, [], 0, r, 0⟩
  | sign {s : List UInt8} : s ∈ signsT → TokC (sg s)
  | dead : TokC ⟨6, [], 0, refN, 0⟩

def okNext (t : TokD) (R : List UInt8) : Prop :=
  (t.kind = 1 → digB (byte R 0) = false) ∧ (t.kind = 2 → byte R 0 ≠ 34) ∧ (t.kind = 3 ∨ t.kind = 4 → wiB (byte R 0) = false) ∧ (t.kind = 5 → t.text = [60] ∨ t.text = [62] → byte R 0 ≠ 61 ∧ byte R 0 ≠ 62)

theorem head_34 {R : List UInt8} (h : byte R 0 ≠ 34) : R.head? ≠ some 34 := by
  cases R with
  | nil => simp
  | cons c r =>
    simp only [List.head?_cons, ne_eq, Option.some.injEq]
    rintro rfl
    exact h rfl
theorem span_stop {p : Int → Bool} {R : List UInt8} (h : p (byte R 0) = false) : spanL p R = [] := by
  cases R with
  | nil => rfl
  | cons c r =>
    have : p (c.toNat : Int) = false := h
    simp [spanL, this]
theorem scan_esc : ∀ (s R : List UInt8), prB s = true → R.head? ≠ some 34 → scanT (s.flatMap (fun c => if c = 34 then [34, 34] else [c]) ++ 34 :: R) = some (s, (s.flatMap (fun c => if c = 34 then [34, 34] else [c])).length + 1)
  | [], R, _, h => scan_q h
  | c :: s, R, hp, h => by
    have hp' : prB s = true := by
      simp only [prB, decide_eq_true_eq] at hp ⊢
      intro j hj
      exact hp (j + 1) (by simpa using hj)
    have hc : ¬ c < 32 := by
      simp only [prB, decide_eq_true_eq] at hp
      have h0 : 32 ≤ (c.toNat : Int) := hp 0 (by simp)
      intro hh
      have := UInt8.lt_iff_toNat_lt.1 hh
      simp at this
      omega
    have ih := scan_esc s R hp' h
    by_cases h34 : c = 34
    · subst h34
      simp only [List.flatMap_cons, if_true, List.cons_append, List.nil_append]
      rw [scan_qq, ih]
      simp
    · simp only [List.flatMap_cons, if_neg h34, List.cons_append, List.nil_append]
      rw [scan_c h34 hc, ih]
      simp
theorem one_quote {s R : List UInt8} (hp : prB s = true) (h : byte R 0 ≠ 34) : oneO (quoteT s ++ R) = some (⟨2, s, 0, refN, 0⟩, (quoteT s).length) := by
  have hb : byte (quoteT s ++ R) 0 = 34 := rfl
  rw [oneO, hb, show digB 34 = false from rfl, if_neg (by simp), if_pos rfl, textO]
  have e : (quoteT s ++ R).drop 1 = s.flatMap (fun c => if c = 34 then [34, 34] else [c]) ++ 34 :: R := by simp [quoteT]
  rw [e, scan_esc s R hp (head_34 h)]
  simp [quoteT]
theorem ref_head {r : RefD} (h : mayB r = true) : (∀ c ∈ textB r, wiB (c.toNat : Int) = true) ∧ begB (byte (textB r) 0) = true := by
  obtain ⟨hs, c0, c1, r0, r1⟩ := may_parts h
  obtain ⟨hc, hcl, _⟩ := col_ok c0 c1
  obtain ⟨hd, hdl, _, _⟩ := itoa_ok (z := r.row + 1) (by omega) (by omega)
  have hmark : ∀ b c, c ∈ markT b → c = 36 := fun b c hm => by cases b <;> simp [markT] at hm; exact hm
  have wcap : ∀ z, capB z = true → begB z = true := fun z hz => by simp [begB, hz]
  have wld : ∀ z, ldB z = true → wiB z = true := fun z hz => by
    simp only [ldB, letB, Bool.or_eq_true] at hz
    simp only [wiB, begB, Bool.or_eq_true]
    rcases hz with (hz | hz) | hz
    · exact .inl (.inl (.inl (.inl hz)))
    · exact .inl (.inl (.inl (.inr hz)))
    · exact .inl (.inr hz)
  refine ⟨?_, ?_⟩
  · intro c hm
    simp only [textB, List.mem_append] at hm
    rcases hm with hm | ((hm | hm) | hm) | hm
    · by_cases hsh : r.sheet = []
      · simp [hsh] at hm
      · simp only [hsh, if_false, List.mem_append, List.mem_singleton] at hm
        rcases hm with hm | hm
        · obtain ⟨_, _, hld⟩ := name_parts (hs.resolve_left hsh)
          obtain ⟨j, hj, rfl⟩ := List.mem_iff_getElem.1 hm
          have := hld j hj
          rw [byte_eq hj] at this
          exact wld _ this
        · subst hm; rfl
    · rw [hmark _ c hm]; rfl
    · have := wcap _ (hc c hm)
      simp [wiB, this]
    · rw [hmark _ c hm]; rfl
    · have := hd c hm
      simp [wiB, this]
  · have htail : ∀ x, begB (byte (markT r.ac ++ colT r.col ++ x) 0) = true := fun x => by
      cases ha : r.ac with
      | true => rfl
      | false =>
        have : markT false ++ colT r.col ++ x = colT r.col ++ x := rfl
        rw [this, byte_append_left hcl]
        obtain ⟨c, hm, e⟩ := byte_mem hcl
        rw [e]
        exact wcap _ (hc c hm)
    by_cases hsh : r.sheet = []
    · have := htail (markT r.ar ++ Lib.itoa (r.row + 1))
      simpa [textB, hsh] using this
    · have hn := hs.resolve_left hsh
      have hl : letB (byte r.sheet 0) = true := by
        simp only [nameB, Bool.and_eq_true, decide_eq_true_eq] at hn
        exact hn.1.2
      have : byte (textB r) 0 = byte r.sheet 0 := by
        simp only [textB, hsh, if_false, List.append_assoc]
        exact byte_append_left (List.length_pos_iff.2 hsh)
      rw [this, beg_eq, hl]
      rfl
theorem beg_no {z : Int} (h : begB z = true) : digB z = false ∧ z ≠ 34 ∧ z ≠ 32 ∧ z ≠ 35 ∧ z ≠ 61 ∧ z ≠ 62 := by
  simp only [begB, capB, Bool.or_eq_true, Bool.and_eq_true, decide_eq_true_eq] at h
  refine ⟨?_, by omega, by omega, by omega, by omega, by omega⟩
  simp [digB]
  omega
theorem fn_parts {s : List UInt8} (h : fnB s = true) : s ≠ [] ∧ s.length ≤ 12 ∧ capB (byte s 0) = true ∧ ∀ c ∈ s, wiB (c.toNat : Int) = true := by
  simp only [fnB, Bool.and_eq_true, decide_eq_true_eq] at h
  obtain ⟨⟨⟨h0, h1⟩, h2⟩, h3⟩ := h
  refine ⟨h0, h1, h2, fun c hc => ?_⟩
  obtain ⟨j, hj, rfl⟩ := List.mem_iff_getElem.1 hc
  have := h3 j hj
  rw [byte_eq hj] at this
  simp only [cdB, Bool.or_eq_true] at this
  simp only [wiB, begB, Bool.or_eq_true]
  rcases this with h | h
  · exact .inl (.inl (.inl (.inl h)))
  · exact .inl (.inr h)
theorem cap_beg {z : Int} (h : capB z = true) : begB z = true := by simp [begB, h]
theorem sign_all : ∀ s ∈ signsT, s ≠ [] ∧ digB (byte s 0) = false ∧ byte s 0 ≠ 34 ∧ begB (byte s 0) = false ∧ byte s 0 ≠ 35 ∧ byte s 0 ≠ 32 ∧ wiB (byte s 0) = false := by decide
theorem one_sg {s R : List UInt8} (hs : s ∈ signsT) (h : s = [60] ∨ s = [62] → byte R 0 ≠ 61 ∧ byte R 0 ≠ 62) : oneO (s ++ R) = some (sg s, s.length) := by
  obtain ⟨a0, a1, a2, a3, a4, _, _⟩ := sign_all s hs
  have hb : byte (s ++ R) 0 = byte s 0 := byte_head a0 _
  have hf : signsT.find? (fun x => Lib.hasPrefix (s ++ R) x) = some s := by
    rcases sign_len hs with hl | hp
    · match s, hl with
      | [c], _ =>
        have hn : ([c] ++ R).take 2 ∉ pairsT := by
          cases R with
          | nil => simp [pairsT]
          | cons d r =>
            simp only [List.cons_append, List.nil_append, List.take, pairsT, List.mem_cons, List.cons.injEq, and_true, List.not_mem_nil, or_false]
            rintro (⟨rfl, rfl⟩ | ⟨rfl, rfl⟩ | ⟨rfl, rfl⟩)
            · exact (h (.inl rfl)).2 rfl
            · exact (h (.inl rfl)).1 rfl
            · exact (h (.inr rfl)).1 rfl
        rw [sign_single (by simp) hn, hb]
        have : ∀ s ∈ signsT, s.length = 1 → sgB (byte s 0) = true := by decide
        rw [this [c] hs rfl]
        rfl
    · have h2 : s.length = 2 := by
        have : ∀ p ∈ pairsT, p.length = 2 := by decide
        exact this _ hp
      have ht : (s ++ R).take 2 = s := by rw [← h2, List.take_left]
      rw [sign_pair (by rw [ht]; exact hp), ht]
  rw [oneO, hb, a1, if_neg (by simp), if_neg a2, a3, if_neg (by simp), signO, dead_first (by rw [hb]; exact a4), if_neg (by simp), hf]
  rfl
/-- A token is told by its text. -/
theorem one_of {t : TokD} (h : TokC t) {R : List UInt8} (hn : okNext t R) : oneO (tokT t ++ R) = some (t, (tokT t).length) := by
  cases h with
  | @num z h0 h1 =>
    show oneO (Lib.itoa z ++ R) = some (_, (Lib.itoa z).length)
    have e : ((z.toNat : Nat) : Int) = z := by omega
    rw [itoa_nat h0, one_dig (u := z.toNat) (by omega) (.inr (hn.1 rfl)), e]
  | text hp => exact one_quote hp (hn.2.1 rfl)
  | @word s hf ho =>
    obtain ⟨f0, f1, f2, f3⟩ := fn_parts hf
    obtain ⟨b0, b1, _⟩ := beg_no (cap_beg f2)
    have hs : spanL wiB (s ++ R) = s := by rw [span_append wiB s R f3, span_stop (hn.2.2.1 (.inl rfl)), List.append_nil]
    show oneO (s ++ R) = some (_, s.length)
    rw [oneO, byte_head f0, b0, if_neg (by simp), if_neg b1, cap_beg f2, if_pos rfl, wordO, hs, ho, if_neg (by simp), hf, if_pos rfl]
  | @ref r hm =>
    obtain ⟨g0, g1⟩ := ref_head hm
    obtain ⟨hread, hcand⟩ := read_text hm
    obtain ⟨b0, b1, _⟩ := beg_no g1
    have hs : spanL wiB (textB r ++ R) = textB r := by rw [span_append wiB _ R g0, span_stop (hn.2.2.1 (.inr rfl)), List.append_nil]
    show oneO (textB r ++ R) = some (_, (textB r).length)
    rw [oneO, byte_head (textB_ne hm), b0, if_neg (by simp), if_neg b1, g1, if_pos rfl, wordO, hs, hread, if_pos rfl, hcand]
  | sign hs => exact one_sg hs (hn.2.2.2 rfl)
  | dead => rfl
theorem tokT_head {t : TokD} (h : TokC t) : tokT t ≠ [] ∧ byte (tokT t) 0 ≠ 32 := by
  cases h with
  | @num z h0 h1 =>
    show Lib.itoa z ≠ [] ∧ byte (Lib.itoa z) 0 ≠ 32
    rw [itoa_nat h0]
    exact ⟨(dec_head _).2.1, (dec_head _).2.2⟩
  | text hp => exact ⟨by simp [tokT, quoteT], by show (34 : Int) ≠ 32; decide⟩
  | word hf ho =>
    obtain ⟨f0, f1, f2, f3⟩ := fn_parts hf
    exact ⟨f0, (beg_no (cap_beg f2)).2.2.1⟩
  | ref hm => exact ⟨textB_ne hm, (beg_no (ref_head hm).2).2.2.1⟩
  | sign hs =>
    obtain ⟨a0, a1, a2, a3, a4, a5, _⟩ := sign_all _ hs
    exact ⟨a0, a5⟩
  | dead => exact ⟨by simp [tokT, deadT], by decide⟩

/-- Tokens that may stand side by side. -/
def Link : List TokD → Prop
  | [] => True
  | t :: r => okNext t (r.flatMap tokT) ∧ Link r
theorem lex_toks : ∀ (ts : List TokD) (a : Nat), (∀ t ∈ ts, TokC t) → Link ts → ∃ T, lexF (ts.flatMap tokT) a = some T ∧ T.map nA = ts ++ [endK]
  | [], a, _, _ => ⟨_, lexF_end rfl, rfl⟩
  | t :: r, a, hc, hl => by
    have ht := hc t (by simp)
    obtain ⟨T, h1, h2⟩ := lex_toks r (a + (tokT t).length) (fun x hx => hc x (by simp [hx])) hl.2
    obtain ⟨n0, n1⟩ := tokT_head ht
    rw [List.flatMap_cons, lexF_step n0 n1 (one_of ht hl.1), h1]
    refine ⟨_, rfl, ?_⟩
    simp only [List.map_cons, h2, List.cons_append, List.cons.injEq, and_true]
    cases ht <;> rfl

/-! ### What is read is one of these; how long it is -/

theorem dec_of : ∀ (n : Nat) (l : List UInt8), l.length ≤ n → (∀ c ∈ l, digB (c.toNat : Int) = true) → l ≠ [] → (byte l 0 ≠ 48 ∨ l.length = 1) → (Lib.itoa (numT 0 l)).length ≤ l.length
  | n, l, hn, hd, hne, h0 => by
    have hb := num_bound l (fun j hj => by
      have := hd _ (List.getElem_mem hj)
      simpa [byte_eq hj] using this)
    rw [itoa_nat hb.1]
    obtain ⟨r, c, rfl⟩ : ∃ r c, l = r ++ [c] := ⟨l.dropLast, l.getLast hne, (List.dropLast_concat_getLast hne).symm⟩
    have hc := hd c (by simp)
    simp only [digB, Bool.and_eq_true, decide_eq_true_eq] at hc
    cases r with
    | nil =>
      have e : numT 0 ([] ++ [c]) = (c.toNat : Int) - 48 := by
        rw [numT_snoc]
        have : numT 0 [] = 0 := rfl
        omega
      rw [e, decDigits_small' (by omega)]
      simp
    | cons d r =>
      have hd' : ∀ x ∈ d :: r, digB (x.toNat : Int) = true := fun x hx => hd x (List.mem_append_left _ hx)
      have h1 : byte (d :: r) 0 ≠ 48 := by
        rcases h0 with h0 | h0
        · exact h0
        · simp at h0
      match n with
      | 0 => simp at hn
      | n + 1 =>
        have ih := dec_of n (d :: r) (by simp at hn ⊢; omega) hd' (by simp) (.inl h1)
        have hb' := num_bound (d :: r) (fun j hj => by
          have := hd' _ (List.getElem_mem hj)
          simpa [byte_eq hj] using this)
        rw [itoa_nat hb'.1] at ih
        have h48 : ∀ x ∈ d :: r, 48 ≤ x.toNat := fun x hx => by
          have := hd' x hx
          simp only [digB, Bool.and_eq_true, decide_eq_true_eq] at this
          omega
        have hpos : numT 0 (d :: r) ≠ 0 := fun hz => by
          obtain ⟨_, h2⟩ := numT_zero_bytes (d :: r) 0 (by omega) h48 hz
          have := h2 d (by simp)
          exact h1 (by show (d.toNat : Int) = 48; omega)
        have hx := numT_snoc 0 (d :: r) c
        have e1 : 10 ≤ (numT 0 (d :: r ++ [c])).toNat := by omega
        have e2 : (numT 0 (d :: r ++ [c])).toNat / 10 = (numT 0 (d :: r)).toNat := by omega
        rw [decDigits_big' e1, e2]
        simp only [List.length_append, List.length_singleton]
        omega
theorem esc_len : ∀ (n : Nat) (l : List UInt8) (x : List UInt8 × Nat), l.length ≤ n → scanT l = some x → (x.1.flatMap (fun c => if c = (34 : UInt8) then [34, 34] else [c])).length + 1 ≤ x.2
  | n, [], x, hn, h => by simp [scanT] at h
  | 0, c :: l, x, hn, h => by simp at hn
  | n + 1, c :: l, x, hn, h => by
    simp only [List.length_cons] at hn
    by_cases h1 : c = 34
    · subst h1
      by_cases hq : l.head? = some 34
      · cases l with
        | nil => cases hq
        | cons d r =>
          simp only [List.head?_cons, Option.some.injEq] at hq
          subst hq
          rw [scan_qq] at h
          cases e : scanT r with
          | none => rw [e] at h; cases h
          | some y =>
            rw [e] at h
            simp only [Option.map_some, Option.some.injEq] at h
            have := esc_len n r y (by simp at hn; omega) e
            subst h
            simp only [List.flatMap_cons, if_true, List.length_append, List.length_cons, List.length_nil]
            omega
      · rw [scan_q hq] at h
        simp only [Option.some.injEq] at h
        subst h
        simp
    · by_cases h2 : c < 32
      · rw [scan_low' h1 h2] at h; cases h
      · rw [scan_c h1 h2] at h
        cases e : scanT l with
        | none => rw [e] at h; cases h
        | some y =>
          rw [e] at h
          simp only [Option.map_some, Option.some.injEq] at h
          have := esc_len n l y (by omega) e
          subst h
          simp only [List.flatMap_cons, if_neg h1, List.length_append, List.length_cons, List.length_nil]
          omega
theorem oneO_can {l : List UInt8} {t : TokD} {k : Nat} (h : oneO l = some (t, k)) : TokC t ∧ (tokT t).length ≤ k := by
  unfold oneO at h
  split at h
  · rename_i h0
    have hne : spanL digB l ≠ [] := by
      have := (span_pos (p := digB) (l := l) (by
        cases l with
        | nil => cases h0
        | cons a b => simp) h0).1
      exact List.length_pos_iff.1 this
    rw [numO_is hne] at h
    split at h
    · rename_i hc
      simp only [Option.some.injEq, Prod.mk.injEq] at h
      obtain ⟨rfl, rfl⟩ := h
      have hb := num_bound (spanL digB l) (fun j hj => by
        have hh := span_all digB l _ (List.getElem_mem hj)
        simpa [byte_eq hj] using hh)
      refine ⟨.num hb.1 hc.1, ?_⟩
      exact dec_of _ _ (Nat.le_refl _) (span_all digB l) hne hc.2
    · cases h
  · split at h
    · unfold textO at h
      cases e : scanT (l.drop 1) with
      | none => rw [e] at h; cases h
      | some x =>
        rw [e] at h
        simp only [Option.map_some, Option.some.injEq, Prod.mk.injEq] at h
        obtain ⟨rfl, rfl⟩ := h
        have h1 := scan_pr _ e
        have h2 := esc_len _ _ x (Nat.le_refl _) e
        refine ⟨.text h1.1, ?_⟩
        show (quoteT x.1).length ≤ _
        simp only [quoteT, List.length_cons, List.length_append, List.length_nil]
        omega
    · split at h
      · unfold wordO at h
        simp only at h
        split at h
        · rename_i hr
          simp only [Option.some.injEq, Prod.mk.injEq] at h
          obtain ⟨rfl, rfl⟩ := h
          obtain ⟨h1, h2⟩ := read_is hr
          refine ⟨.ref h1, ?_⟩
          show (textB _).length ≤ _
          rw [h2]
          exact Nat.le_refl _
        · rename_i hr
          split at h
          · rename_i hf
            simp only [Option.some.injEq, Prod.mk.injEq] at h
            obtain ⟨rfl, rfl⟩ := h
            exact ⟨.word hf (by simpa using hr), Nat.le_refl _⟩
          · cases h
      · unfold signO at h
        split at h
        · simp only [Option.some.injEq, Prod.mk.injEq] at h
          obtain ⟨rfl, rfl⟩ := h
          exact ⟨.dead, Nat.le_refl _⟩
        · cases e : signsT.find? fun s => Lib.hasPrefix l s with
          | none => rw [e] at h; cases h
          | some x =>
            rw [e] at h
            simp only [Option.map_some, Option.some.injEq, Prod.mk.injEq] at h
            obtain ⟨rfl, rfl⟩ := h
            exact ⟨.sign (List.mem_of_find?_eq_some e), Nat.le_refl _⟩
theorem lexF_can : ∀ (n : Nat) (l : List UInt8) (a : Nat) {out : List TokD}, l.length ≤ n → lexF l a = some out → (∀ t ∈ out, nA t = endK ∨ TokC (nA t)) ∧ (out.flatMap tokT).length ≤ l.length
  | n, l, a, out, hn, h => by
    cases e : l.drop (spanL spB l).length with
    | nil =>
      rw [lexF_end e] at h
      simp only [Option.some.injEq] at h
      subst h
      refine ⟨fun t ht => ?_, by simp [tokT]⟩
      rw [List.mem_singleton.1 ht]
      exact .inl rfl
    | cons c r =>
      have hl' := congrArg List.length e
      simp at hl'
      cases ho : oneO (c :: r) with
      | none => rw [lexF_bad e (by simp) ho] at h; cases h
      | some x =>
        obtain ⟨t, k⟩ := x
        have hk := oneO_pos (by simp) ho
        have hk2 := oneO_le ho
        have hok := oneO_can ho
        rw [lexF_go e (by simp) ho hk] at h
        cases hr : lexF ((c :: r).drop k) (a + (spanL spB l).length + k) with
        | none => rw [hr] at h; cases h
        | some y =>
          rw [hr] at h
          simp only [Option.map_some, Option.some.injEq] at h
          subst h
          match n with
          | 0 => omega
          | n + 1 =>
            have hd : ((c :: r).drop k).length = r.length + 1 - k := by simp
            have ih := lexF_can n ((c :: r).drop k) _ (by rw [hd]; omega) hr
            rw [hd] at ih
            have hk3 : k ≤ r.length + 1 := hk2
            refine ⟨fun t' ht => ?_, ?_⟩
            · rcases List.mem_cons.1 ht with rfl | ht
              · refine .inr ?_
                have : nA { t with at_ := ((a + (spanL spB l).length : Nat) : Int) } = t := by
                  cases hok.1 <;> rfl
                rw [this]
                exact hok.1
              · exact ih.1 t' ht
            · rw [List.flatMap_cons, List.length_append]
              have : tokT { t with at_ := ((a + (spanL spB l).length : Nat) : Int) } = tokT t := rfl
              rw [this]
              have := hok.2
              have := ih.2
              omega

/-! ### A tree's tokens -/

def rankK (k : Int) : Nat := if k = 8 then 5 else if 9 ≤ k ∧ k ≤ 14 then 1 else if k = 15 then 2 else if k = 16 ∨ k = 17 then 3 else if k = 18 ∨ k = 19 then 4 else 6
def Tr.rank : {b : Bool} → Tr b → Nat
  | _, .neg _ => 5
  | _, .two k _ _ => rankK k
  | _, _ => 6
def signK (k : Int) : List UInt8 := opSigns.getD (k - 9).toNat []
def leafK (n : NodeD) : List TokD :=
  if n.kind = 1 then [⟨1, [], n.num, refN, 0⟩]
  else if n.kind = 2 then [⟨2, n.text, 0, refN, 0⟩]
  else if n.kind = 3 then [⟨3, if n.num = 1 then trueT else falseT, 0, refN, 0⟩]
  else if n.kind = 4 then [⟨6, [], 0, refN, 0⟩]
  else if n.kind = 5 then [⟨4, [], 0, n.ref, 0⟩]
  else [⟨4, [], 0, n.ref, 0⟩, sg [58], ⟨4, [], 0, n.to, 0⟩]
/-- In brackets, if its rank is below one. -/
def brk (b : Bool) (l : List TokD) : List TokD := if b then sg [40] :: (l ++ [sg [41]]) else l
/-- Its tokens; of a row: with a comma behind each. -/
def Tr.toks : {b : Bool} → Tr b → List TokD
  | _, .leaf n => leafK n
  | _, .neg a => sg [45] :: brk (decide (a.rank < 5)) a.toks
  | _, .two k a b => brk (decide (a.rank < rankK k)) a.toks ++ sg (signK k) :: brk (decide (b.rank < rankK k + 1)) b.toks
  | _, .call x .nil => [⟨3, x, 0, refN, 0⟩, sg [40], sg [41]]
  | _, .call x (.snoc rs a) => ⟨3, x, 0, refN, 0⟩ :: sg [40] :: (rs.toks ++ (a.toks ++ [sg [41]]))
  | _, .nil => []
  | _, .snoc ks a => ks.toks ++ (a.toks ++ [sg [44]])
def Tr.text {b : Bool} (t : Tr b) : List UInt8 := t.toks.flatMap tokT
/-- As an operand that is of a rank at least. -/
def Tr.opt (n : Nat) (t : Tr false) : List TokD := brk (decide (t.rank < n)) t.toks
/-- Are its numbers not too great? -/
def Tr.Num {b : Bool} (t : Tr b) : Prop := ∀ k ∈ t.toks, k.num ≤ 9223372036854775807

theorem signK_all : ∀ o, o < 11 → opSigns.getD o [] ∈ signsT := by decide
theorem signK_mem {k : Int} (h0 : 9 ≤ k) (h1 : k ≤ 19) : signK k ∈ signsT := signK_all _ (by omega)
theorem brk_mem {b : Bool} {l : List TokD} {t : TokD} (h : t ∈ brk b l) : t ∈ l ∨ t = sg [40] ∨ t = sg [41] := by
  unfold brk at h
  split at h
  · simp only [List.mem_cons, List.mem_append, List.not_mem_nil, or_false] at h
    rcases h with h | h | h
    · exact .inr (.inl h)
    · exact .inl h
    · exact .inr (.inr h)
  · exact .inl h
theorem sub_brk {b : Bool} {l : List TokD} {t : TokD} (h : t ∈ l) : t ∈ brk b l := by
  unfold brk
  split
  · simp [h]
  · exact h
theorem plain_parts {n : NodeD} (h : plainB n = true) : okK n = true := by
  simp only [plainB, Bool.and_eq_true] at h
  exact h.1
theorem leaf_can {n : NodeD} (h0 : 1 ≤ n.kind) (h1 : n.kind ≤ 6) (hp : plainB n = true) (hn : ∀ k ∈ leafK n, k.num ≤ 9223372036854775807) : ∀ t ∈ leafK n, TokC t := by
  have ho := plain_parts hp
  intro t ht
  have h58 : TokC (sg [58]) := .sign (by decide)
  have : n.kind = 1 ∨ n.kind = 2 ∨ n.kind = 3 ∨ n.kind = 4 ∨ n.kind = 5 ∨ n.kind = 6 := by omega
  rcases this with h | h | h | h | h | h <;> simp only [leafK, okK, h, if_true, if_false, Int.reduceEq, List.mem_cons, List.not_mem_nil, or_false, Bool.and_eq_true, decide_eq_true_eq] at ht ho hn
  · subst ht; exact .num ho (hn _ rfl)
  · subst ht; exact .text ho
  · subst ht
    split
    · exact .word (by decide) (by decide +kernel)
    · exact .word (by decide) (by decide +kernel)
  · subst ht; exact .dead
  · subst ht; exact .ref ho
  · rcases ht with rfl | rfl | rfl
    · exact .ref ho.1
    · exact h58
    · exact .ref ho.2.1
theorem name_can {x : List UInt8} (h : nameF x = true) : TokC ⟨3, x, 0, refN, 0⟩ := by
  simp only [nameF, Bool.and_eq_true, Bool.not_eq_true'] at h
  exact .word h.1.1.1 h.1.1.2
theorem Tr.can : ∀ {b : Bool} (t : Tr b), t.Fit → t.Num → ∀ k ∈ t.toks, TokC k
  | _, .leaf n, hf, hn, k, hk => leaf_can hf.1 hf.2.1 hf.2.2.2 hn k hk
  | _, .neg a, hf, hn, k, hk => by
    have ha := can a hf (fun u hu => hn u (by simp only [Tr.toks]; exact List.mem_cons_of_mem _ (sub_brk hu)))
    simp only [Tr.toks, List.mem_cons] at hk
    rcases hk with rfl | hk
    · exact .sign (by decide)
    · rcases brk_mem hk with hk | rfl | rfl
      · exact ha k hk
      · exact .sign (by decide)
      · exact .sign (by decide)
  | _, .two o a b, hf, hn, k, hk => by
    have ha := can a hf.2.2.1 (fun u hu => hn u (by simp only [Tr.toks]; exact List.mem_append_left _ (sub_brk hu)))
    have hb := can b hf.2.2.2 (fun u hu => hn u (by simp only [Tr.toks]; exact List.mem_append_right _ (List.mem_cons_of_mem _ (sub_brk hu))))
    simp only [Tr.toks, List.mem_append, List.mem_cons] at hk
    rcases hk with hk | rfl | hk
    · rcases brk_mem hk with hk | rfl | rfl
      · exact ha k hk
      · exact .sign (by decide)
      · exact .sign (by decide)
    · exact .sign (signK_mem hf.1 hf.2.1)
    · rcases brk_mem hk with hk | rfl | rfl
      · exact hb k hk
      · exact .sign (by decide)
      · exact .sign (by decide)
  | _, .call x .nil, hf, hn, k, hk => by
    simp only [Tr.toks, List.mem_cons, List.not_mem_nil, or_false] at hk
    rcases hk with rfl | rfl | rfl
    · exact name_can hf.1
    · exact .sign (by decide)
    · exact .sign (by decide)
  | _, .call x (.snoc rs a), hf, hn, k, hk => by
    have hr := can rs hf.2.1 (fun u hu => hn u (by simp only [Tr.toks]; simp [hu]))
    have ha := can a hf.2.2 (fun u hu => hn u (by simp only [Tr.toks]; simp [hu]))
    simp only [Tr.toks, List.mem_cons, List.mem_append, List.not_mem_nil, or_false] at hk
    rcases hk with rfl | rfl | hk | hk | rfl
    · exact name_can hf.1
    · exact .sign (by decide)
    · exact hr k hk
    · exact ha k hk
    · exact .sign (by decide)
  | _, .nil, _, _, k, hk => by cases hk
  | _, .snoc rs a, hf, hn, k, hk => by
    have hr := can rs hf.1 (fun u hu => hn u (by simp only [Tr.toks]; simp [hu]))
    have ha := can a hf.2 (fun u hu => hn u (by simp only [Tr.toks]; simp [hu]))
    simp only [Tr.toks, List.mem_append, List.mem_cons, List.not_mem_nil, or_false] at hk
    rcases hk with hk | hk | rfl
    · exact hr k hk
    · exact ha k hk
    · exact .sign (by decide)

/-- What a tree's text begins with. -/
def HeadOk (l : List TokD) : Prop := l.flatMap tokT ≠ [] ∧ byte (l.flatMap tokT) 0 ≠ 61 ∧ byte (l.flatMap tokT) 0 ≠ 62
theorem HeadOk.app {l : List TokD} (h : HeadOk l) (m : List TokD) : HeadOk (l ++ m) := by
  unfold HeadOk at h ⊢
  rw [List.flatMap_append, byte_head h.1]
  exact ⟨by simp [h.1], h.2⟩
theorem HeadOk.cons {t : TokD} (h : tokT t ≠ []) (h1 : byte (tokT t) 0 ≠ 61) (h2 : byte (tokT t) 0 ≠ 62) (m : List TokD) : HeadOk (t :: m) := by
  unfold HeadOk
  rw [List.flatMap_cons, byte_head h]
  exact ⟨by simp [h], h1, h2⟩
theorem HeadOk.brk {l : List TokD} (h : HeadOk l) (b : Bool) : HeadOk (Go.Proofs.YtiloogjageledaaGreatDoor.brk b l) := by
  unfold Go.Proofs.YtiloogjageledaaGreatDoor.brk
  split
  · exact HeadOk.cons (by simp [tokT_sg]) (by rw [tokT_sg]; decide) (by rw [tokT_sg]; decide) _
  · exact h
theorem can_head {t : TokD} (h : TokC t) (hk : t.kind ≠ 5) (m : List TokD) : HeadOk (t :: m) := by
  have h0 := (tokT_head h).1
  cases h with
  | @num z h0' h1 =>
    refine HeadOk.cons h0 ?_ ?_ m <;>
    · show byte (Lib.itoa z) 0 ≠ _
      rw [itoa_nat h0']
      have := (dec_head z.toNat).1
      simp only [digB, Bool.and_eq_true, decide_eq_true_eq] at this
      omega
  | text hp => exact HeadOk.cons h0 (by show (34 : Int) ≠ 61; decide) (by show (34 : Int) ≠ 62; decide) m
  | word hf ho =>
    have := beg_no (cap_beg (fn_parts hf).2.2.1)
    exact HeadOk.cons h0 this.2.2.2.2.1 this.2.2.2.2.2 m
  | ref hm =>
    have := beg_no (ref_head hm).2
    exact HeadOk.cons h0 this.2.2.2.2.1 this.2.2.2.2.2 m
  | sign hs => exact absurd rfl hk
  | dead => exact HeadOk.cons h0 (by decide) (by decide) m
theorem leaf_form {n : NodeD} (h0 : 1 ≤ n.kind) (h1 : n.kind ≤ 6) : ∃ t m, leafK n = t :: m ∧ t.kind ≠ 5 ∧ (m = [] ∨ ∃ u, m = [sg [58], u] ∧ u.kind = 4 ∧ t.kind = 4) := by
  have : n.kind = 1 ∨ n.kind = 2 ∨ n.kind = 3 ∨ n.kind = 4 ∨ n.kind = 5 ∨ n.kind = 6 := by omega
  rcases this with h | h | h | h | h | h <;> simp only [leafK, h, if_true, if_false, Int.reduceEq]
  · exact ⟨_, _, rfl, by simp, .inl rfl⟩
  · exact ⟨_, _, rfl, by simp, .inl rfl⟩
  · exact ⟨_, _, rfl, by simp, .inl rfl⟩
  · exact ⟨_, _, rfl, by simp, .inl rfl⟩
  · exact ⟨_, _, rfl, by simp, .inl rfl⟩
  · exact ⟨_, _, rfl, by simp, .inr ⟨_, rfl, rfl, rfl⟩⟩
theorem Tr.head : ∀ (t : Tr false), t.Fit → t.Num → HeadOk t.toks
  | .leaf n, hf, hn => by
    obtain ⟨t, m, e, hk, _⟩ := leaf_form hf.1 hf.2.1
    have hc := (Tr.leaf n).can hf hn t (by show t ∈ leafK n; rw [e]; simp)
    show HeadOk (leafK n)
    rw [e]
    exact can_head hc hk m
  | .neg a, _, _ => HeadOk.cons (by simp [tokT_sg]) (by rw [tokT_sg]; decide) (by rw [tokT_sg]; decide) _
  | .two o a b, hf, hn => by
    have ha := head a hf.2.2.1 (fun u hu => hn u (by simp only [Tr.toks]; exact List.mem_append_left _ (sub_brk hu)))
    exact (ha.brk _).app _
  | .call x .nil, hf, _ => can_head (name_can hf.1) (by simp) _
  | .call x (.snoc rs a), hf, _ => can_head (name_can hf.1) (by simp) _

/-- What may stand behind anything. -/
def Shut (R : List UInt8) : Prop := digB (byte R 0) = false ∧ byte R 0 ≠ 34 ∧ wiB (byte R 0) = false
theorem shut_sg {s : List UInt8} (h : s ∈ signsT) (B : List TokD) : Shut ((sg s :: B).flatMap tokT) := by
  obtain ⟨a0, a1, a2, a3, a4, a5, a6⟩ := sign_all s h
  rw [List.flatMap_cons, tokT_sg]
  unfold Shut
  rw [byte_head a0]
  exact ⟨a1, a2, a6⟩
theorem shut_next {t : TokD} (hk : t.kind ≠ 5) {R : List UInt8} (h : Shut R) : okNext t R := ⟨fun _ => h.1, fun _ => h.2.1, fun _ => h.2.2, fun e => absurd e hk⟩
theorem sg_next {s R : List UInt8} (h1 : s ≠ [60]) (h2 : s ≠ [62]) : okNext (sg s) R := ⟨by simp [sg], by simp [sg], by simp [sg], fun _ e => by rcases e with e | e <;> contradiction⟩
theorem head_next {s : List UInt8} {B : List TokD} (h : HeadOk B) : okNext (sg s) (B.flatMap tokT) := ⟨by simp [sg], by simp [sg], by simp [sg], fun _ _ => h.2⟩
theorem link_brk {l : List TokD} (hl : ∀ B : List TokD, Shut (B.flatMap tokT) → Link B → Link (l ++ B)) (b : Bool) : ∀ B : List TokD, Shut (B.flatMap tokT) → Link B → Link (brk b l ++ B) := by
  intro B hs hB
  unfold brk
  split
  · simp only [List.cons_append, List.append_assoc, List.nil_append]
    exact ⟨sg_next (by decide) (by decide), hl _ (shut_sg (by decide) B) ⟨sg_next (by decide) (by decide), hB⟩⟩
  · exact hl B hs hB
theorem Tr.link : ∀ {b : Bool} (t : Tr b), t.Fit → t.Num → ∀ B : List TokD, (b = true ∨ Shut (B.flatMap tokT)) → Link B → Link (t.toks ++ B)
  | _, .leaf n, hf, hn, B, hs, hB => by
    have hs := hs.resolve_left (by simp)
    obtain ⟨t, m, e, hk, hm⟩ := leaf_form hf.1 hf.2.1
    show Link (leafK n ++ B)
    rw [e]
    rcases hm with rfl | ⟨u, rfl, hu, _⟩
    · exact ⟨shut_next hk hs, hB⟩
    · exact ⟨shut_next hk (shut_sg (by decide) _), sg_next (by decide) (by decide), shut_next (by omega) hs, hB⟩
  | _, .neg a, hf, hn, B, hs, hB => by
    have hs := hs.resolve_left (by simp)
    have ha := link a hf (fun u hu => hn u (by simp only [Tr.toks]; exact List.mem_cons_of_mem _ (sub_brk hu)))
    exact ⟨sg_next (by decide) (by decide), link_brk (fun B h1 h2 => ha B (.inr h1) h2) _ B hs hB⟩
  | _, .two o a b, hf, hn, B, hs, hB => by
    have hs := hs.resolve_left (by simp)
    have hna : a.Num := fun u hu => hn u (by simp only [Tr.toks]; exact List.mem_append_left _ (sub_brk hu))
    have hnb : b.Num := fun u hu => hn u (by simp only [Tr.toks]; exact List.mem_append_right _ (List.mem_cons_of_mem _ (sub_brk hu)))
    have ha := link a hf.2.2.1 hna
    have hb := link b hf.2.2.2 hnb
    have hm := signK_mem hf.1 hf.2.1
    simp only [Tr.toks, List.append_assoc, List.cons_append]
    exact link_brk (fun B h1 h2 => ha B (.inr h1) h2) _ _ (shut_sg hm _) ⟨head_next (((b.head hf.2.2.2 hnb).brk _).app _), link_brk (fun B h1 h2 => hb B (.inr h1) h2) _ B hs hB⟩
  | _, .call x .nil, hf, hn, B, hs, hB => ⟨shut_next (by simp) (shut_sg (by decide) _), sg_next (by decide) (by decide), sg_next (by decide) (by decide), hB⟩
  | _, .call x (.snoc rs a), hf, hn, B, hs, hB => by
    have hr := link rs hf.2.1 (fun u hu => hn u (by simp only [Tr.toks]; simp [hu]))
    have ha := link a hf.2.2 (fun u hu => hn u (by simp only [Tr.toks]; simp [hu]))
    simp only [Tr.toks, List.append_assoc, List.cons_append, List.nil_append]
    exact ⟨shut_next (by simp) (shut_sg (by decide) _), sg_next (by decide) (by decide), hr _ (.inl rfl) (ha _ (.inr (shut_sg (by decide) _)) ⟨sg_next (by decide) (by decide), hB⟩)⟩
  | _, .nil, _, _, B, _, hB => hB
  | _, .snoc rs a, hf, hn, B, _, hB => by
    have hr := link rs hf.1 (fun u hu => hn u (by simp only [Tr.toks]; simp [hu]))
    have ha := link a hf.2 (fun u hu => hn u (by simp only [Tr.toks]; simp [hu]))
    simp only [Tr.toks, List.append_assoc, List.cons_append, List.nil_append]
    exact hr _ (.inl rfl) (ha _ (.inr (shut_sg (by decide) _)) ⟨sg_next (by decide) (by decide), hB⟩)
/-- A tree's text has its tokens. -/
theorem Tr.lex (t : Tr false) (hf : t.Fit) (hn : t.Num) : ∃ T, lexT t.text = some T ∧ T.map nA = t.toks ++ [endK] := by
  have := t.link hf hn [] (.inr ⟨rfl, by decide, rfl⟩) trivial
  rw [List.append_nil] at this
  exact lex_toks _ 0 (t.can hf hn) this
end Go.Proofs.YtiloogjageledaaGreatDoor
