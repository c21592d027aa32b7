/-
  The laws of layer 4: numbers.
  Plain laws: blanks between tokens change places alone. No program in sight.
-/
import Derived.Test.YtiloogjageledaaGreatDoorLexM
import Derived.Test.YtiloogjageledaaGreatDoorLexL
namespace Go.Proofs.YtiloogjageledaaGreatDoor
open Go Go.E

theorem dec_facts : ∀ (n u : Nat), u ≤ n → (∀ c ∈ Lib.decDigits u, digB (c.toNat : Int) = true) ∧ Lib.decDigits u ≠ [] ∧ numT 0 (Lib.decDigits u) = u ∧ (u ≠ 0 → byte (Lib.decDigits u) 0 ≠ 48) ∧ (u = 0 → (Lib.decDigits u).length = 1)
  | n, u, hn => by
    by_cases h : u < 10
    · rw [decDigits_small' h]
      have e : ((ch (48 + (u : Int))).toNat : Int) = 48 + u := ch_toNat (by omega) (by omega)
      refine ⟨?_, by simp, ?_, fun h0 => ?_, fun _ => rfl⟩
      · intro c hc
        simp only [List.mem_singleton] at hc
        subst hc
        rw [e]
        simp [digB]
        omega
      · have := numT_byte 0 [] (z := 48 + (u : Int)) (by omega) (by omega)
        rw [List.nil_append] at this
        rw [this]
        have : numT 0 [] = 0 := rfl
        omega
      · have : byte [ch (48 + (u : Int))] 0 = 48 + u := e
        omega
    · rw [decDigits_big' (by omega)]
      match n with
      | 0 => omega
      | n + 1 =>
        obtain ⟨a1, a2, a3, a4, _⟩ := dec_facts n (u / 10) (by omega)
        have hr : (48 + (u : Int) % 10) ≤ 57 ∧ 48 ≤ (48 + (u : Int) % 10) := by omega
        have e : ((ch (48 + (u : Int) % 10)).toNat : Int) = 48 + (u : Int) % 10 := ch_toNat (by omega) (by omega)
        refine ⟨?_, by simp, ?_, fun _ => ?_, fun h0 => by omega⟩
        · intro c hc
          rw [List.mem_append] at hc
          rcases hc with hc | hc
          · exact a1 c hc
          · simp only [List.mem_singleton] at hc
            subst hc
            rw [e]
            simp [digB]
            omega
        · rw [numT_byte _ _ (by omega) (by omega), a3]
          omega
        · rw [byte_append_left (List.length_pos_iff.2 a2)]
          exact a4 (by omega)
theorem itoa_nat {k : Int} (h : 0 ≤ k) : Lib.itoa k = Lib.decDigits k.toNat := by
  unfold Lib.itoa
  rw [if_neg (by omega)]
theorem span_whole (p : Int → Bool) (l : List UInt8) (h : ∀ c ∈ l, p (c.toNat : Int) = true) : spanL p l = l := by
  have := span_append p l [] h
  simpa [spanL] using this

/-- A text of one token. -/
theorem lex_whole {l : List UInt8} {t : TokD} (hl : l ≠ []) (hb : byte l 0 ≠ 32) (h : oneO l = some (t, l.length)) : lexT l = some [{ t with at_ := 0 }, ⟨0, [], 0, refN, (l.length : Int)⟩] := by
  have hsp : 0 + (spanL spB (l.drop 0)).length = 0 := by
    cases l with
    | nil => exact absurd rfl hl
    | cons c r =>
      have : spB (c.toNat : Int) = false := by simp [spB]; exact hb
      simp [spanL, this]
  have h1 := (LexAt.start l).go hsp (List.length_pos_iff.2 hl) (t := t) (k := l.length) (by rw [List.drop_zero]; exact h)
  have := h1.end (by rw [Nat.zero_add, List.drop_length]; rfl)
  rw [this]
  rfl
theorem lex_none {l : List UInt8} (hl : l ≠ []) (hb : byte l 0 ≠ 32) (h : oneO l = none) : lexT l = none := by
  have hsp : 0 + (spanL spB (l.drop 0)).length = 0 := by
    cases l with
    | nil => exact absurd rfl hl
    | cons c r =>
      have : spB (c.toNat : Int) = false := by simp [spB]; exact hb
      simp [spanL, this]
  exact (LexAt.start l).bad hsp (List.length_pos_iff.2 hl) (by rw [List.drop_zero]; exact h)
theorem one_num {l : List UInt8} (hl : l ≠ []) (hd : ∀ c ∈ l, digB (c.toNat : Int) = true) : oneO l = if numT 0 l ≤ 9223372036854775807 ∧ (byte l 0 ≠ 48 ∨ l.length = 1) then some (⟨1, [], numT 0 l, refN, 0⟩, l.length) else none := by
  have h0 : digB (byte l 0) = true := by
    obtain ⟨c, hm, e⟩ := byte_mem (List.length_pos_iff.2 hl)
    rw [e]; exact hd c hm
  have hs := span_whole digB l hd
  rw [oneO, h0, if_pos rfl, numO_is (by rw [hs]; exact hl), hs]
theorem dig_ne32 {l : List UInt8} (hl : l ≠ []) (hd : ∀ c ∈ l, digB (c.toNat : Int) = true) : byte l 0 ≠ 32 := by
  obtain ⟨c, hm, e⟩ := byte_mem (List.length_pos_iff.2 hl)
  have := hd c hm
  rw [← e] at this
  simp [digB] at this
  omega
theorem lex_num {k : Int} (h0 : 0 ≤ k) (h1 : k ≤ 9223372036854775807) : lexT (Lib.itoa k) = some [⟨1, [], k, refN, 0⟩, ⟨0, [], 0, refN, ((Lib.itoa k).length : Int)⟩] := by
  rw [itoa_nat h0]
  obtain ⟨a1, a2, a3, a4, a5⟩ := dec_facts k.toNat k.toNat (Nat.le_refl _)
  refine lex_whole (t := ⟨1, [], k, refN, 0⟩) a2 (dig_ne32 a2 a1) ?_
  have ek : ((k.toNat : Nat) : Int) = k := by omega
  rw [one_num a2 a1, a3, ek, if_pos]
  refine ⟨h1, ?_⟩
  by_cases hz : k.toNat = 0
  · exact .inr (a5 hz)
  · exact .inl (a4 hz)
theorem lex_nought {k : Int} (h0 : 0 ≤ k) : lexT ([48] ++ Lib.itoa k) = none := by
  rw [itoa_nat h0]
  obtain ⟨a1, a2, _⟩ := dec_facts k.toNat k.toNat (Nat.le_refl _)
  have hd : ∀ c ∈ [48] ++ Lib.decDigits k.toNat, digB (c.toNat : Int) = true := fun c hc => by
    rw [List.mem_append] at hc
    rcases hc with hc | hc
    · simp at hc; subst hc; rfl
    · exact a1 c hc
  have hne : [48] ++ Lib.decDigits k.toNat ≠ [] := by simp
  refine lex_none hne (dig_ne32 hne hd) ?_
  rw [one_num hne hd, if_neg]
  rintro ⟨_, h | h⟩
  · exact h rfl
  · simp [a2] at h
theorem lex_big : lexT [57, 50, 50, 51, 51, 55, 50, 48, 51, 54, 56, 53, 52, 55, 55, 53, 56, 48, 56] = none := by
  refine lex_none (by simp) (by decide) ?_
  rw [one_num (by simp) (by decide), if_neg (by decide)]

/-- A reference's text is one token. -/
theorem lex_ref {r : RefD} (h : mayB r = true) : lexT (textB r) = some [⟨4, [], 0, r, 0⟩, ⟨0, [], 0, refN, ((textB r).length : Int)⟩] := by
  obtain ⟨hs, c0, c1, r0, r1⟩ := may_parts h
  obtain ⟨hc, hcl, _⟩ := col_ok c0 c1
  obtain ⟨hd, hdl, _, _⟩ := itoa_ok (z := r.row + 1) (by omega) (by omega)
  obtain ⟨hread, hcand⟩ := read_text h
  have hmark : ∀ b c, c ∈ markT b → c = 36 := fun b c hm => by cases b <;> simp [markT] at hm; exact hm
  have wcap : ∀ z, capB z = true → begB z = true := fun z hz => by simp [begB, hz]
  have wld : ∀ z, ldB z = true → wiB z = true := fun z hz => by
    simp only [ldB, letB, Bool.or_eq_true] at hz
    simp only [wiB, begB, Bool.or_eq_true]
    rcases hz with (hz | hz) | hz
    · exact .inl (.inl (.inl (.inl hz)))
    · exact .inl (.inl (.inl (.inr hz)))
    · exact .inl (.inr hz)
  have hall : ∀ c ∈ textB r, wiB (c.toNat : Int) = true := by
    intro c hm
    simp only [textB, List.mem_append] at hm
    rcases hm with hm | ((hm | hm) | hm) | hm
    · by_cases hsh : r.sheet = []
      · simp [hsh] at hm
      · simp only [hsh, if_false, List.mem_append, List.mem_singleton] at hm
        rcases hm with hm | hm
        · obtain ⟨_, _, hld⟩ := name_parts (hs.resolve_left hsh)
          obtain ⟨j, hj, rfl⟩ := List.mem_iff_getElem.1 hm
          have := hld j hj
          rw [byte_eq hj] at this
          exact wld _ this
        · subst hm; rfl
    · rw [hmark _ c hm]; rfl
    · have := wcap _ (hc c hm)
      simp [wiB, this]
    · rw [hmark _ c hm]; rfl
    · have := hd c hm
      simp [wiB, this]
  have hsp := span_whole wiB _ hall
  have hne := textB_ne h
  have hbeg : begB (byte (textB r) 0) = true := by
    have htail : ∀ x, begB (byte (markT r.ac ++ colT r.col ++ x) 0) = true := fun x => by
      cases ha : r.ac with
      | true => rfl
      | false =>
        have : markT false ++ colT r.col ++ x = colT r.col ++ x := rfl
        rw [this, byte_append_left hcl]
        obtain ⟨c, hm, e⟩ := byte_mem hcl
        rw [e]
        exact wcap _ (hc c hm)
    by_cases hsh : r.sheet = []
    · have := htail (markT r.ar ++ Lib.itoa (r.row + 1))
      simpa [textB, hsh] using this
    · have hn := hs.resolve_left hsh
      have hl : letB (byte r.sheet 0) = true := by
        simp only [nameB, Bool.and_eq_true, decide_eq_true_eq] at hn
        exact hn.1.2
      have : byte (textB r) 0 = byte r.sheet 0 := by
        simp only [textB, hsh, if_false, List.append_assoc]
        exact byte_append_left (List.length_pos_iff.2 hsh)
      rw [this, beg_eq, hl]
      rfl
  have hb0 : digB (byte (textB r) 0) = false ∧ byte (textB r) 0 ≠ 34 ∧ byte (textB r) 0 ≠ 32 := by
    simp only [begB, capB, Bool.or_eq_true, Bool.and_eq_true, decide_eq_true_eq] at hbeg
    refine ⟨?_, by omega, by omega⟩
    simp [digB]
    omega
  refine lex_whole (t := ⟨4, [], 0, r, 0⟩) hne hb0.2.2 ?_
  rw [oneO, hb0.1, if_neg (by simp), if_neg hb0.2.1, hbeg, if_pos rfl, wordO, hsp]
  simp only [hread, hcand, if_true]

end Go.Proofs.YtiloogjageledaaGreatDoor

namespace Go.Proofs.YtiloogjageledaaGreatDoor
open Go Go.E

/-- What may follow instead: nothing, a blank, or something that begins alike. -/
def Soft (R R' : List UInt8) : Prop := R'.head? = none ∨ R'.head? = some 32 ∨ R'.head? = R.head?

theorem span_tok {p : Int → Bool} {tok R : List UInt8} (h : spanL p (tok ++ R) = tok) {R' : List UInt8} (hp : p 32 = false) (hR : Soft R R') : spanL p (tok ++ R') = tok := by
  have hall : ∀ c ∈ tok, p (c.toNat : Int) = true := fun c hc => span_all p (tok ++ R) c (by rw [h]; exact hc)
  rw [span_append p tok R hall] at h
  have h0 : spanL p R = [] := by simpa using h
  rw [span_append p tok R' hall]
  have : spanL p R' = [] := by
    cases R' with
    | nil => rfl
    | cons c r =>
      rcases hR with hR | hR | hR
      · cases hR
      · simp only [List.head?_cons, Option.some.injEq] at hR
        subst hR
        have h32 : p (((32 : UInt8).toNat : Nat) : Int) = false := hp
        rw [spanL, List.takeWhile_cons, h32]
        rfl
      · cases R with
        | nil => cases hR
        | cons d r2 =>
          simp only [List.head?_cons, Option.some.injEq] at hR
          subst hR
          cases hc : p (c.toNat : Int)
          · simp [spanL, hc]
          · simp [spanL, hc] at h0
  rw [this, List.append_nil]

theorem scan_pos : ∀ (l : List UInt8) {x : List UInt8 × Nat}, scanT l = some x → 0 < x.2
  | [], x, h => by simp [scanT] at h
  | [c], x, h => by
    simp only [scanT] at h
    split at h
    · simp only [Option.some.injEq] at h
      subst h; simp
    · cases h
  | c :: d :: r, x, h => by
    simp only [scanT] at h
    split at h
    · split at h
      · cases e : scanT r with
        | none => rw [e] at h; cases h
        | some y =>
          rw [e] at h
          simp only [Option.map_some, Option.some.injEq] at h
          subst h
          simp
      · simp only [Option.some.injEq] at h
        subst h; simp
    · split at h
      · cases h
      · cases e : scanT (d :: r) with
        | none => rw [e] at h; cases h
        | some y =>
          rw [e] at h
          simp only [Option.map_some, Option.some.injEq] at h
          subst h
          simp
theorem scan_q {R : List UInt8} (h : R.head? ≠ some 34) : scanT (34 :: R) = some ([], 1) := by
  cases R with
  | nil => rfl
  | cons d r =>
    have : d ≠ 34 := fun e => h (by rw [e]; rfl)
    simp [scanT, this]
theorem scan_qq (R : List UInt8) : scanT (34 :: 34 :: R) = (scanT R).map fun x => (34 :: x.1, x.2 + 2) := by simp [scanT]
theorem scan_c {c : UInt8} (h1 : c ≠ 34) (h2 : ¬ c < 32) (R : List UInt8) : scanT (c :: R) = (scanT R).map fun x => (c :: x.1, x.2 + 1) := by
  cases R with
  | nil => simp [scanT, h1]
  | cons d r => simp [scanT, h1, h2]
theorem scan_low' {c : UInt8} (h1 : c ≠ 34) (h2 : c < 32) (R : List UInt8) : scanT (c :: R) = none := by
  cases R with
  | nil => simp [scanT, h1]
  | cons d r => simp [scanT, h1, h2]
theorem scan_tok : ∀ (n : Nat) (A R : List UInt8) (x : List UInt8), A.length ≤ n → scanT (A ++ R) = some (x, A.length) → R.head? ≠ some 34 ∧ ∀ R' : List UInt8, R'.head? ≠ some 34 → scanT (A ++ R') = some (x, A.length)
  | n, [], R, x, hn, h => by have := scan_pos _ h; simp at this
  | n, c :: A, R, x, hn, h => by
    match n with
    | 0 => simp at hn
    | n + 1 =>
      have hn' : A.length ≤ n := by simpa using hn
      by_cases h1 : c = 34
      · subst h1
        by_cases hq : (A ++ R).head? = some 34
        · cases A with
          | nil =>
            cases R with
            | nil => cases hq
            | cons d r =>
              simp only [List.nil_append, List.head?_cons, Option.some.injEq] at hq
              subst hq
              rw [List.cons_append, List.nil_append, scan_qq] at h
              cases e : scanT r with
              | none => rw [e] at h; cases h
              | some y =>
                rw [e] at h
                simp at h
          | cons d A =>
            simp only [List.cons_append, List.head?_cons, Option.some.injEq] at hq
            subst hq
            rw [List.cons_append, List.cons_append, scan_qq] at h
            cases e : scanT (A ++ R) with
            | none => rw [e] at h; cases h
            | some y =>
              rw [e] at h
              simp only [Option.map_some, Option.some.injEq, Prod.mk.injEq, List.length_cons] at h
              obtain ⟨rfl, h⟩ := h
              have ey : scanT (A ++ R) = some (y.1, A.length) := by rw [e]; congr 1; ext1 <;> simp; omega
              obtain ⟨g1, g2⟩ := scan_tok n A R y.1 (by simp at hn'; omega) ey
              refine ⟨g1, fun R' hR' => ?_⟩
              rw [List.cons_append, List.cons_append, scan_qq, g2 R' hR']
              simp
        · rw [List.cons_append, scan_q hq] at h
          simp only [Option.some.injEq, Prod.mk.injEq, List.length_cons] at h
          obtain ⟨rfl, h⟩ := h
          have hA : A = [] := List.eq_nil_of_length_eq_zero (by omega)
          subst hA
          refine ⟨by simpa using hq, fun R' hR' => ?_⟩
          rw [List.cons_append, List.nil_append, scan_q hR']
          rfl
      · by_cases h2 : c < 32
        · rw [List.cons_append, scan_low' h1 h2] at h; cases h
        · rw [List.cons_append, scan_c h1 h2] at h
          cases e : scanT (A ++ R) with
          | none => rw [e] at h; cases h
          | some y =>
            rw [e] at h
            simp only [Option.map_some, Option.some.injEq, Prod.mk.injEq, List.length_cons] at h
            obtain ⟨rfl, h⟩ := h
            have ey : scanT (A ++ R) = some (y.1, A.length) := by rw [e]; congr 1; ext1 <;> simp; omega
            obtain ⟨g1, g2⟩ := scan_tok n A R y.1 hn' ey
            refine ⟨g1, fun R' hR' => ?_⟩
            rw [List.cons_append, scan_c h1 h2, g2 R' hR']
            simp

theorem soft_34 {R R' : List UInt8} (h : R.head? ≠ some 34) (hR : Soft R R') : R'.head? ≠ some 34 := by
  rcases hR with hR | hR | hR
  · rw [hR]; simp
  · rw [hR]; decide
  · rw [hR]; exact h

theorem sign_len {s : List UInt8} (h : s ∈ signsT) : s.length = 1 ∨ s ∈ pairsT := by
  have : ∀ s ∈ signsT, s.length = 1 ∨ s ∈ pairsT := by decide
  exact this s h
theorem sign_tok {tok R : List UInt8} (h : signsT.find? (fun s => Lib.hasPrefix (tok ++ R) s) = some tok) {R' : List UInt8} (hR : Soft R R') : signsT.find? (fun s => Lib.hasPrefix (tok ++ R') s) = some tok := by
  have hm := List.mem_of_find?_eq_some h
  rcases sign_len hm with hl | hp
  · match tok, hl with
    | [c], _ =>
      have hne : ∀ X : List UInt8, [c] ++ X ≠ [] := by simp
      by_cases hp : ([c] ++ R).take 2 ∈ pairsT
      · rw [sign_pair hp] at h
        simp only [Option.some.injEq] at h
        rw [h] at hp
        simp [pairsT] at hp
      · rw [sign_single (hne R) hp] at h
        have hs : sgB (byte ([c] ++ R) 0) = true := by
          cases e : sgB (byte ([c] ++ R) 0)
          · rw [e] at h; cases h
          · rfl
        have hp' : ([c] ++ R').take 2 ∉ pairsT := by
          rcases hR with hR | hR | hR
          · have : R' = [] := by simpa using hR
            subst this
            simp [pairsT]
          · cases R' with
            | nil => cases hR
            | cons d r =>
              simp only [List.head?_cons, Option.some.injEq] at hR
              subst hR
              simp [pairsT]
          · cases R' with
            | nil => simp [pairsT]
            | cons d r =>
              cases R with
              | nil => cases hR
              | cons d2 r2 =>
                simp only [List.head?_cons, Option.some.injEq] at hR
                subst hR
                exact hp
        rw [sign_single (hne R') hp']
        have hb : byte ([c] ++ R') 0 = byte ([c] ++ R) 0 := rfl
        rw [hb, hs]
        rfl
  · have h2 : tok.length = 2 := by
      have : ∀ p ∈ pairsT, p.length = 2 := by decide
      exact this _ hp
    have ht : (tok ++ R').take 2 = tok := by rw [← h2, List.take_left]
    rw [sign_pair (by rw [ht]; exact hp), ht]

theorem byte_head {tok : List UInt8} (h : tok ≠ []) (R : List UInt8) : byte (tok ++ R) 0 = byte tok 0 := byte_append_left (List.length_pos_iff.2 h)

/-- A token is what it is, whatever follows that may. -/
theorem one_tok {tok R : List UInt8} {t : TokD} (hne : tok ≠ []) (h : oneO (tok ++ R) = some (t, tok.length)) {R' : List UInt8} (hR : Soft R R') : oneO (tok ++ R') = some (t, tok.length) := by
  have take_span' : ∀ {p : Int → Bool}, tok.length = (spanL p (tok ++ R)).length → spanL p (tok ++ R) = tok := fun {p} hl => by
    have := List.prefix_iff_eq_take.1 (List.takeWhile_prefix (l := tok ++ R) (fun c => p (c.toNat : Int)))
    change spanL p (tok ++ R) = _ at this
    rw [this]
    change (tok ++ R).take (spanL p (tok ++ R)).length = tok
    rw [← hl, List.take_left]
  unfold oneO at h ⊢
  rw [byte_head hne] at h ⊢
  split at h
  · rename_i hd
    rw [if_pos hd]
    have hs := take_span' (numO_len h).1
    have hs' := span_tok hs (by decide) hR
    unfold numO at h ⊢
    rw [hs] at h
    rw [hs']
    exact h
  · rename_i hd
    rw [if_neg hd]
    split at h
    · rename_i hq
      rw [if_pos hq]
      cases tok with
      | nil => exact absurd rfl hne
      | cons c A =>
        unfold textO at h ⊢
        simp only [List.cons_append, List.drop_succ_cons, List.drop_zero] at h ⊢
        cases e : scanT (A ++ R) with
        | none => rw [e] at h; cases h
        | some y =>
          rw [e] at h
          simp only [Option.map_some, Option.some.injEq, Prod.mk.injEq, List.length_cons] at h
          obtain ⟨rfl, h⟩ := h
          have ey : scanT (A ++ R) = some (y.1, A.length) := by rw [e]; congr 1; ext1 <;> simp; omega
          obtain ⟨g1, g2⟩ := scan_tok _ A R y.1 (Nat.le_refl _) ey
          rw [g2 R' (soft_34 g1 hR)]
          simp
    · rename_i hq
      rw [if_neg hq]
      split at h
      · rename_i hb
        rw [if_pos hb]
        have hs := take_span' (wordO_len h).1
        have hs' := span_tok hs (by decide) hR
        unfold wordO at h ⊢
        rw [hs] at h
        rw [hs']
        exact h
      · rename_i hb
        rw [if_neg hb]
        unfold signO at h ⊢
        split at h
        · rename_i hp
          simp only [Option.some.injEq, Prod.mk.injEq] at h
          obtain ⟨rfl, h5⟩ := h
          have ht : tok = deadT := by
            have := List.prefix_iff_eq_take.1 (List.isPrefixOf_iff_prefix.1 hp)
            have h5' : deadT.length = tok.length := by rw [← h5]; rfl
            rw [h5', List.take_left] at this
            exact this.symm
          have : Lib.hasPrefix (tok ++ R') deadT = true := by
            rw [ht]
            exact List.isPrefixOf_iff_prefix.2 (List.prefix_append _ _)
          rw [if_pos this, ← h5]
        · rename_i hp
          cases e : signsT.find? fun s => Lib.hasPrefix (tok ++ R) s with
          | none => rw [e] at h; cases h
          | some s =>
            rw [e] at h
            simp only [Option.map_some, Option.some.injEq, Prod.mk.injEq] at h
            obtain ⟨rfl, hl⟩ := h
            have hst : s = tok := by
              have hpre : Lib.hasPrefix (tok ++ R) s = true := List.find?_some e
              have := List.prefix_iff_eq_take.1 (List.isPrefixOf_iff_prefix.1 hpre)
              rw [hl, List.take_left] at this
              exact this
            subst hst
            have hdead : Lib.hasPrefix (s ++ R') deadT = false := by
              refine dead_first ?_
              rw [byte_head hne]
              have hm := List.mem_of_find?_eq_some e
              have : ∀ s ∈ signsT, byte s 0 ≠ 35 := by decide
              exact this s hm
            rw [hdead, if_neg (by simp), sign_tok e hR]
            rfl
end Go.Proofs.YtiloogjageledaaGreatDoor
