/-
  Plain laws: blanks between tokens change places alone. No program in sight.
-/
import Derived.Test.YtfpklhgkndnjjaaDoorLexQ
import Derived.Test.YtfpklhgkndnjjaaDoorLaw4N
import Derived.Test.YtfpklhgkndnjjaaDoorLexI
namespace Go.Proofs.YtfpklhgkndnjjaaDoor
open Go Go.E

/-- What may follow instead: nothing, a blank, or something that begins alike. -/
def Soft (R R' : List UInt8) : Prop := R'.head? = none ∨ R'.head? = some 32 ∨ R'.head? = R.head?

theorem span_tok {p : Int → Bool} {tok R : List UInt8} (h : spanL p (tok ++ R) = tok) {R' : List UInt8} (hp : p 32 = false) (hR : Soft R R') : spanL p (tok ++ R') = tok := by
  have hall : ∀ c ∈ tok, p (c.toNat : Int) = true := fun c hc => span_all p (tok ++ R) c (by rw [h]; exact hc)
  rw [span_append p tok R hall] at h
  have h0 : spanL p R = [] := by simpa using h
  rw [span_append p tok R' hall]
  have : spanL p R' = [] := by
    cases R' with
    | nil => rfl
    | cons c r =>
      rcases hR with hR | hR | hR
      · cases hR
      · simp only [List.head?_cons, Option.some.injEq] at hR
        subst hR
        have h32 : p (((32 : UInt8).toNat : Nat) : Int) = false := hp
        rw [spanL, List.takeWhile_cons, h32]
        rfl
      · cases R with
        | nil => cases hR
        | cons d r2 =>
          simp only [List.head?_cons, Option.some.injEq] at hR
          subst hR
          cases hc : p (c.toNat : Int)
          · simp [spanL, hc]
          · simp [spanL, hc] at h0
  rw [this, List.append_nil]

theorem scan_pos : ∀ (l : List UInt8) {x : List UInt8 × Nat}, scanT l = some x → 0 < x.2
  | [], x, h => by simp [scanT] at h
  | [c], x, h => by
    simp only [scanT] at h
    split at h
    · simp only [Option.some.injEq] at h
      subst h; simp
    · cases h
  | c :: d :: r, x, h => by
    simp only [scanT] at h
    split at h
    · split at h
      · cases e : scanT r with
        | none => rw [e] at h; cases h
        | some y =>
          rw [e] at h
          simp only [Option.map_some, Option.some.injEq] at h
          subst h
          simp
      · simp only [Option.some.injEq] at h
        subst h; simp
    · split at h
      · cases h
      · cases e : scanT (d :: r) with
        | none => rw [e] at h; cases h
        | some y =>
          rw [e] at h
          simp only [Option.map_some, Option.some.injEq] at h
          subst h
          simp
theorem scan_q {R : List UInt8} (h : R.head? ≠ some 34) : scanT (34 :: R) = some ([], 1) := by
  cases R with
  | nil => rfl
  | cons d r =>
    have : d ≠ 34 := fun e => h (by rw [e]; rfl)
    simp [scanT, this]
theorem scan_qq (R : List UInt8) : scanT (34 :: 34 :: R) = (scanT R).map fun x => (34 :: x.1, x.2 + 2) := by simp [scanT]
theorem scan_c {c : UInt8} (h1 : c ≠ 34) (h2 : ¬ c < 32) (R : List UInt8) : scanT (c :: R) = (scanT R).map fun x => (c :: x.1, x.2 + 1) := by
  cases R with
  | nil => simp [scanT, h1]
  | cons d r => simp [scanT, h1, h2]
theorem scan_low' {c : UInt8} (h1 : c ≠ 34) (h2 : c < 32) (R : List UInt8) : scanT (c :: R) = none := by
  cases R with
  | nil => simp [scanT, h1]
  | cons d r => simp [scanT, h1, h2]
theorem scan_tok : ∀ (n : Nat) (A R : List UInt8) (x : List UInt8), A.length ≤ n → scanT (A ++ R) = some (x, A.length) → R.head? ≠ some 34 ∧ ∀ R' : List UInt8, R'.head? ≠ some 34 → scanT (A ++ R') = some (x, A.length)
  | n, [], R, x, hn, h => by have := scan_pos _ h; simp at this
  | n, c :: A, R, x, hn, h => by
    match n with
    | 0 => simp at hn
    | n + 1 =>
      have hn' : A.length ≤ n := by simpa using hn
      by_cases h1 : c = 34
      · subst h1
        by_cases hq : (A ++ R).head? = some 34
        · cases A with
          | nil =>
            cases R with
            | nil => cases hq
            | cons d r =>
              simp only [List.nil_append, List.head?_cons, Option.some.injEq] at hq
              subst hq
              rw [List.cons_append, List.nil_append, scan_qq] at h
              cases e : scanT r with
              | none => rw [e] at h; cases h
              | some y =>
                rw [e] at h
                simp at h
          | cons d A =>
            simp only [List.cons_append, List.head?_cons, Option.some.injEq] at hq
            subst hq
            rw [List.cons_append, List.cons_append, scan_qq] at h
            cases e : scanT (A ++ R) with
            | none => rw [e] at h; cases h
            | some y =>
              rw [e] at h
              simp only [Option.map_some, Option.some.injEq, Prod.mk.injEq, List.length_cons] at h
              obtain ⟨rfl, h⟩ := h
              have ey : scanT (A ++ R) = some (y.1, A.length) := by rw [e]; congr 1; ext1 <;> simp; omega
              obtain ⟨g1, g2⟩ := scan_tok n A R y.1 (by simp at hn'; omega) ey
              refine ⟨g1, fun R' hR' => ?_⟩
              rw [List.cons_append, List.cons_append, scan_qq, g2 R' hR']
              simp
        · rw [List.cons_append, scan_q hq] at h
          simp only [Option.some.injEq, Prod.mk.injEq, List.length_cons] at h
          obtain ⟨rfl, h⟩ := h
          have hA : A = [] := List.eq_nil_of_length_eq_zero (by omega)
          subst hA
          refine ⟨by simpa using hq, fun R' hR' => ?_⟩
          rw [List.cons_append, List.nil_append, scan_q hR']
          rfl
      · by_cases h2 : c < 32
        · rw [List.cons_append, scan_low' h1 h2] at h; cases h
        · rw [List.cons_append, scan_c h1 h2] at h
          cases e : scanT (A ++ R) with
          | none => rw [e] at h; cases h
          | some y =>
            rw [e] at h
            simp only [Option.map_some, Option.some.injEq, Prod.mk.injEq, List.length_cons] at h
            obtain ⟨rfl, h⟩ := h
            have ey : scanT (A ++ R) = some (y.1, A.length) := by rw [e]; congr 1; ext1 <;> simp; omega
            obtain ⟨g1, g2⟩ := scan_tok n A R y.1 hn' ey
            refine ⟨g1, fun R' hR' => ?_⟩
            rw [List.cons_append, scan_c h1 h2, g2 R' hR']
            simp

theorem soft_34 {R R' : List UInt8} (h : R.head? ≠ some 34) (hR : Soft R R') : R'.head? ≠ some 34 := by
  rcases hR with hR | hR | hR
  · rw [hR]; simp
  · rw [hR]; decide
  · rw [hR]; exact h

theorem sign_len {s : List UInt8} (h : s ∈ signsT) : s.length = 1 ∨ s ∈ pairsT := by
  have : ∀ s ∈ signsT, s.length = 1 ∨ s ∈ pairsT := by decide
  exact this s h
theorem sign_tok {tok R : List UInt8} (h : signsT.find? (fun s => Lib.hasPrefix (tok ++ R) s) = some tok) {R' : List UInt8} (hR : Soft R R') : signsT.find? (fun s => Lib.hasPrefix (tok ++ R') s) = some tok := by
  have hm := List.mem_of_find?_eq_some h
  rcases sign_len hm with hl | hp
  · match tok, hl with
    | [c], _ =>
      have hne : ∀ X : List UInt8, [c] ++ X ≠ [] := by simp
      by_cases hp : ([c] ++ R).take 2 ∈ pairsT
      · rw [sign_pair hp] at h
        simp only [Option.some.injEq] at h
        rw [h] at hp
        simp [pairsT] at hp
      · rw [sign_single (hne R) hp] at h
        have hs : sgB (byte ([c] ++ R) 0) = true := by
          cases e : sgB (byte ([c] ++ R) 0)
          · rw [e] at h; cases h
          · rfl
        have hp' : ([c] ++ R').take 2 ∉ pairsT := by
          rcases hR with hR | hR | hR
          · have : R' = [] := by simpa using hR
            subst this
            simp [pairsT]
          · cases R' with
            | nil => cases hR
            | cons d r =>
              simp only [List.head?_cons, Option.some.injEq] at hR
              subst hR
              simp [pairsT]
          · cases R' with
            | nil => simp [pairsT]
            | cons d r =>
              cases R with
              | nil => cases hR
              | cons d2 r2 =>
                simp only [List.head?_cons, Option.some.injEq] at hR
                subst hR
                exact hp
        rw [sign_single (hne R') hp']
        have hb : byte ([c] ++ R') 0 = byte ([c] ++ R) 0 := rfl
        rw [hb, hs]
        rfl
  · have h2 : tok.length = 2 := by
      have : ∀ p ∈ pairsT, p.length = 2 := by decide
      exact this _ hp
    have ht : (tok ++ R').take 2 = tok := by rw [← h2, List.take_left]
    rw [sign_pair (by rw [ht]; exact hp), ht]

theorem byte_head {tok : List UInt8} (h : tok ≠ []) (R : List UInt8) : byte (tok ++ R) 0 = byte tok 0 := byte_append_left (List.length_pos_iff.2 h)

/-- A token is what it is, whatever follows that may. -/
theorem one_tok {tok R : List UInt8} {t : TokD} (hne : tok ≠ []) (h : oneO (tok ++ R) = some (t, tok.length)) {R' : List UInt8} (hR : Soft R R') : oneO (tok ++ R') = some (t, tok.length) := by
  have take_span' : ∀ {p : Int → Bool}, tok.length = (spanL p (tok ++ R)).length → spanL p (tok ++ R) = tok := fun {p} hl => by
    have := List.prefix_iff_eq_take.1 (List.takeWhile_prefix (l := tok ++ R) (fun c => p (c.toNat : Int)))
    change spanL p (tok ++ R) = _ at this
    rw [this]
    change (tok ++ R).take (spanL p (tok ++ R)).length = tok
    rw [← hl, List.take_left]
  unfold oneO at h ⊢
  rw [byte_head hne] at h ⊢
  split at h
  · rename_i hd
    rw [if_pos hd]
    have hs := take_span' (numO_len h).1
    have hs' := span_tok hs (by decide) hR
    unfold numO at h ⊢
    rw [hs] at h
    rw [hs']
    exact h
  · rename_i hd
    rw [if_neg hd]
    split at h
    · rename_i hq
      rw [if_pos hq]
      cases tok with
      | nil => exact absurd rfl hne
      | cons c A =>
        unfold textO at h ⊢
        simp only [List.cons_append, List.drop_succ_cons, List.drop_zero] at h ⊢
        cases e : scanT (A ++ R) with
        | none => rw [e] at h; cases h
        | some y =>
          rw [e] at h
          simp only [Option.map_some, Option.some.injEq, Prod.mk.injEq, List.length_cons] at h
          obtain ⟨rfl, h⟩ := h
          have ey : scanT (A ++ R) = some (y.1, A.length) := by rw [e]; congr 1; ext1 <;> simp; omega
          obtain ⟨g1, g2⟩ := scan_tok _ A R y.1 (Nat.le_refl _) ey
          rw [g2 R' (soft_34 g1 hR)]
          simp
    · rename_i hq
      rw [if_neg hq]
      split at h
      · rename_i hb
        rw [if_pos hb]
        have hs := take_span' (wordO_len h).1
        have hs' := span_tok hs (by decide) hR
        unfold wordO at h ⊢
        rw [hs] at h
        rw [hs']
        exact h
      · rename_i hb
        rw [if_neg hb]
        unfold signO at h ⊢
        split at h
        · rename_i hp
          simp only [Option.some.injEq, Prod.mk.injEq] at h
          obtain ⟨rfl, h5⟩ := h
          have ht : tok = deadT := by
            have := List.prefix_iff_eq_take.1 (List.isPrefixOf_iff_prefix.1 hp)
            have h5' : deadT.length = tok.length := by rw [← h5]; rfl
            rw [h5', List.take_left] at this
            exact this.symm
          have : Lib.hasPrefix (tok ++ R') deadT = true := by
            rw [ht]
            exact List.isPrefixOf_iff_prefix.2 (List.prefix_append _ _)
          rw [if_pos this, ← h5]
        · rename_i hp
          cases e : signsT.find? fun s => Lib.hasPrefix (tok ++ R) s with
          | none => rw [e] at h; cases h
          | some s =>
            rw [e] at h
            simp only [Option.map_some, Option.some.injEq, Prod.mk.injEq] at h
            obtain ⟨rfl, hl⟩ := h
            have hst : s = tok := by
              have hpre : Lib.hasPrefix (tok ++ R) s = true := List.find?_some e
              have := List.prefix_iff_eq_take.1 (List.isPrefixOf_iff_prefix.1 hpre)
              rw [hl, List.take_left] at this
              exact this
            subst hst
            have hdead : Lib.hasPrefix (s ++ R') deadT = false := by
              refine dead_first ?_
              rw [byte_head hne]
              have hm := List.mem_of_find?_eq_some e
              have : ∀ s ∈ signsT, byte s 0 ≠ 35 := by decide
              exact this s hm
            rw [hdead, if_neg (by simp), sign_tok e hR]
            rfl
end Go.Proofs.YtfpklhgkndnjjaaDoor
