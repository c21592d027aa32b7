/-
  Plain laws of lists of tokens: no program in sight.
-/
import Derived.Test.YtfpklhgkndnjjaaDoorLexS
namespace Go.Proofs.YtfpklhgkndnjjaaDoor
open Go Go.E

/-- The tokens of what is left, which begins at a place. -/
def lexF (l : List UInt8) (a : Nat) : Option (List TokD) :=
  match _h : l.drop (spanL spB l).length with
  | [] => some [⟨0, [], 0, refN, ((a + (spanL spB l).length : Nat) : Int)⟩]
  | c :: r => match oneO (c :: r) with
    | none => none
    | some (t, k) => if _hk : k = 0 then none else (lexF ((c :: r).drop k) (a + (spanL spB l).length + k)).map ({ t with at_ := ((a + (spanL spB l).length : Nat) : Int) } :: ·)
termination_by l.length
decreasing_by
  have := congrArg List.length _h
  simp at this
  simp
  omega
def lexT (s : List UInt8) : Option (List TokD) := lexF s 0

theorem lexF_end {l : List UInt8} {a : Nat} (h : l.drop (spanL spB l).length = []) : lexF l a = some [⟨0, [], 0, refN, ((a + (spanL spB l).length : Nat) : Int)⟩] := by
  rw [lexF]
  split
  · rfl
  · rename_i c r e
    rw [h] at e; cases e
theorem lexF_bad {l l' : List UInt8} {a : Nat} (h : l.drop (spanL spB l).length = l') (hl : l' ≠ []) (h1 : oneO l' = none) : lexF l a = none := by
  rw [lexF]
  split
  · rename_i e
    rw [h] at e; exact absurd e hl
  · rename_i c r e
    rw [h] at e
    subst e
    rw [h1]
theorem lexF_go {l l' : List UInt8} {a k : Nat} {t : TokD} (h : l.drop (spanL spB l).length = l') (hl : l' ≠ []) (h1 : oneO l' = some (t, k)) (hk : 0 < k) :
    lexF l a = (lexF (l'.drop k) (a + (spanL spB l).length + k)).map ({ t with at_ := ((a + (spanL spB l).length : Nat) : Int) } :: ·) := by
  rw [lexF]
  split
  · rename_i e
    rw [h] at e; exact absurd e hl
  · rename_i c r e
    rw [h] at e
    subst e
    rw [h1]
    simp only
    rw [dif_neg (by omega)]

/-- What each token takes. -/
theorem numO_len {l : List UInt8} {t : TokD} {k : Nat} (h : numO l = some (t, k)) : k = (spanL digB l).length ∧ t.kind = 1 := by
  unfold numO at h
  simp only at h
  split at h
  · split at h
    · simp only [Option.some.injEq, Prod.mk.injEq] at h
      exact ⟨h.2.symm, by rw [← h.1]⟩
    · cases h
  · cases h
theorem okRead_nil : okRead [] = false := by decide +kernel
theorem wordO_len {l : List UInt8} {t : TokD} {k : Nat} (h : wordO l = some (t, k)) : k = (spanL wiB l).length ∧ 0 < k := by
  unfold wordO at h
  simp only at h
  split at h
  · rename_i hr
    simp only [Option.some.injEq, Prod.mk.injEq] at h
    refine ⟨h.2.symm, ?_⟩
    rw [← h.2]
    cases e : spanL wiB l with
    | nil => rw [e, okRead_nil] at hr; cases hr
    | cons _ _ => simp
  · split at h
    · rename_i hr
      simp only [Option.some.injEq, Prod.mk.injEq] at h
      refine ⟨h.2.symm, ?_⟩
      rw [← h.2]
      cases e : spanL wiB l with
      | nil => rw [e, fnB_nil] at hr; cases hr
      | cons _ _ => simp
    · cases h
theorem textO_pos {l : List UInt8} {t : TokD} {k : Nat} (h : textO l = some (t, k)) : 0 < k := by
  unfold textO at h
  cases e : scanT (l.drop 1) with
  | none => rw [e] at h; cases h
  | some x =>
    rw [e] at h
    simp only [Option.map_some, Option.some.injEq, Prod.mk.injEq] at h
    omega
theorem signO_pos {l : List UInt8} {t : TokD} {k : Nat} (h : signO l = some (t, k)) : 0 < k := by
  unfold signO at h
  split at h
  · simp only [Option.some.injEq, Prod.mk.injEq] at h
    omega
  · cases e : signsT.find? fun s => Lib.hasPrefix l s with
    | none => rw [e] at h; cases h
    | some x =>
      rw [e] at h
      simp only [Option.map_some, Option.some.injEq, Prod.mk.injEq] at h
      have hm := List.mem_of_find?_eq_some e
      have : ∀ s ∈ signsT, 0 < s.length := by decide
      have := this x hm
      omega
theorem oneO_pos {l : List UInt8} (hl : l ≠ []) {t : TokD} {k : Nat} (h : oneO l = some (t, k)) : 0 < k := by
  unfold oneO at h
  split at h
  · rename_i hd
    rw [(numO_len h).1]
    exact (span_pos (List.length_pos_iff.2 hl) hd).1
  · split at h
    · exact textO_pos h
    · split at h
      · exact (wordO_len h).2
      · exact signO_pos h

theorem lexF_congr {l m : List UInt8} {a b : Nat} (h : l.drop (spanL spB l).length = m.drop (spanL spB m).length) (ha : a + (spanL spB l).length = b + (spanL spB m).length) : lexF l a = lexF m b := by
  cases e : m.drop (spanL spB m).length with
  | nil => rw [lexF_end (h.trans e), lexF_end e, ha]
  | cons c r =>
    cases ho : oneO (c :: r) with
    | none => rw [lexF_bad (h.trans e) (by simp) ho, lexF_bad e (by simp) ho]
    | some x =>
      obtain ⟨t, k⟩ := x
      have hk := oneO_pos (by simp) ho
      rw [lexF_go (h.trans e) (by simp) ho hk, lexF_go e (by simp) ho hk, ha]

/-- No token takes more than there is. -/
theorem scan_le : ∀ (l : List UInt8) {x : List UInt8 × Nat}, scanT l = some x → x.2 ≤ l.length
  | [], x, h => by simp [scanT] at h
  | [c], x, h => by
    simp only [scanT] at h
    split at h
    · simp only [Option.some.injEq] at h
      subst h; simp
    · cases h
  | c :: d :: r, x, h => by
    simp only [scanT] at h
    split at h
    · split at h
      · cases e : scanT r with
        | none => rw [e] at h; cases h
        | some y =>
          rw [e] at h
          simp only [Option.map_some, Option.some.injEq] at h
          have := scan_le r e
          subst h
          simp
          omega
      · simp only [Option.some.injEq] at h
        subst h; simp
    · split at h
      · cases h
      · cases e : scanT (d :: r) with
        | none => rw [e] at h; cases h
        | some y =>
          rw [e] at h
          simp only [Option.map_some, Option.some.injEq] at h
          have := scan_le (d :: r) e
          subst h
          simp at this ⊢
          omega
theorem oneO_le {l : List UInt8} {t : TokD} {k : Nat} (h : oneO l = some (t, k)) : k ≤ l.length := by
  unfold oneO at h
  split at h
  · rw [(numO_len h).1]; exact span_le _ _
  · split at h
    · unfold textO at h
      cases e : scanT (l.drop 1) with
      | none => rw [e] at h; cases h
      | some x =>
        rw [e] at h
        simp only [Option.map_some, Option.some.injEq, Prod.mk.injEq] at h
        have := scan_le _ e
        cases l with
        | nil => cases e
        | cons c r =>
          simp at this ⊢
          omega
    · split at h
      · rw [(wordO_len h).1]; exact span_le _ _
      · unfold signO at h
        split at h
        · rename_i hp
          simp only [Option.some.injEq, Prod.mk.injEq] at h
          have := pre_le hp
          have h5 : deadT.length = 5 := rfl
          omega
        · cases e : signsT.find? fun s => Lib.hasPrefix l s with
          | none => rw [e] at h; cases h
          | some x =>
            rw [e] at h
            simp only [Option.map_some, Option.some.injEq, Prod.mk.injEq] at h
            have := pre_le (List.find?_some e)
            omega

/-- No more tokens than bytes, and one. -/
theorem lexF_len : ∀ (n : Nat) (l : List UInt8) (a : Nat) {out : List TokD}, l.length ≤ n → lexF l a = some out → out.length ≤ l.length + 1
  | n, l, a, out, hn, h => by
    cases e : l.drop (spanL spB l).length with
    | nil =>
      rw [lexF_end e] at h
      simp only [Option.some.injEq] at h
      subst h; simp
    | cons c r =>
      have hl := congrArg List.length e
      simp at hl
      cases ho : oneO (c :: r) with
      | none => rw [lexF_bad e (by simp) ho] at h; cases h
      | some x =>
        obtain ⟨t, k⟩ := x
        have hk := oneO_pos (by simp) ho
        have hk2 := oneO_le ho
        rw [lexF_go e (by simp) ho hk] at h
        cases hr : lexF ((c :: r).drop k) (a + (spanL spB l).length + k) with
        | none => rw [hr] at h; cases h
        | some y =>
          rw [hr] at h
          simp only [Option.map_some, Option.some.injEq] at h
          subst h
          match n with
          | 0 => omega
          | n + 1 =>
            have hd : ((c :: r).drop k).length = r.length + 1 - k := by simp
            have := lexF_len n ((c :: r).drop k) _ (by rw [hd]; omega) hr
            simp only [List.length_cons]
            rw [hd] at this
            omega
theorem lexT_len {s : List UInt8} {l : List TokD} (h : lexT s = some l) : l.length ≤ s.length + 1 := lexF_len _ s 0 (Nat.le_refl _) h

/-- What has been gone through, and what is left. -/
def LexAt (s : List UInt8) (a : Nat) (out : List TokD) : Prop := lexT s = (lexF (s.drop a) a).map (out ++ ·)
theorem LexAt.start (s : List UInt8) : LexAt s 0 [] := by simp [LexAt, lexT]
theorem LexAt.end {s : List UInt8} {a : Nat} {out : List TokD} (h : LexAt s a out) (he : a + (spanL spB (s.drop a)).length = s.length) : lexT s = some (out ++ [⟨0, [], 0, refN, (s.length : Int)⟩]) := by
  rw [h, lexF_end (by rw [List.drop_drop, he, List.drop_length]), he]
  rfl
theorem LexAt.bad {s : List UInt8} {a c : Nat} {out : List TokD} (h : LexAt s a out) (he : a + (spanL spB (s.drop a)).length = c) (hc : c < s.length) (h1 : oneO (s.drop c) = none) : lexT s = none := by
  rw [h, lexF_bad (l' := s.drop c) (by rw [List.drop_drop, he]) (by intro hn; have := congrArg List.length hn; simp at this; omega) h1]
  rfl
theorem LexAt.go {s : List UInt8} {a c k : Nat} {out : List TokD} {t : TokD} (h : LexAt s a out) (he : a + (spanL spB (s.drop a)).length = c) (hc : c < s.length) (h1 : oneO (s.drop c) = some (t, k)) : LexAt s (c + k) (out ++ [{ t with at_ := (c : Int) }]) := by
  have hne : s.drop c ≠ [] := by intro hn; have := congrArg List.length hn; simp at this; omega
  unfold LexAt
  rw [h, lexF_go (l' := s.drop c) (by rw [List.drop_drop, he]) hne h1 (oneO_pos hne h1), he, List.drop_drop, Option.map_map]
  congr 1
  funext x
  simp
/-- A blank more. -/
theorem LexAt.blank {s : List UInt8} {a : Nat} {out : List TokD} (h : LexAt s a out) (ha : a < s.length) (hb : byte s a = 32) : LexAt s (a + 1) out := by
  unfold LexAt
  rw [h]
  have e : (spanL spB (s.drop a)).length = (spanL spB (s.drop (a + 1))).length + 1 := by
    obtain ⟨c, e, hc⟩ := drop_at ha
    rw [e]
    have : spB (c.toNat : Int) = true := by simp [spB]; omega
    simp [spanL, this]
  have e2 : (s.drop a).drop (spanL spB (s.drop a)).length = (s.drop (a + 1)).drop (spanL spB (s.drop (a + 1))).length := by
    rw [List.drop_drop, List.drop_drop, e]
    congr 1
    omega
  have e3 : a + (spanL spB (s.drop a)).length = a + 1 + (spanL spB (s.drop (a + 1))).length := by omega
  rw [lexF_congr e2 e3]
end Go.Proofs.YtfpklhgkndnjjaaDoor
