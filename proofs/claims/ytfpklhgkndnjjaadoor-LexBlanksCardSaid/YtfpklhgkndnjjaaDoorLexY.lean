/-
  Plain laws: blanks that are put in ahead of tokens. No program in sight.
-/
import Derived.Test.YtfpklhgkndnjjaaDoorLexZ
namespace Go.Proofs.YtfpklhgkndnjjaaDoor
open Go Go.E

def noAt (t : TokD) : TokD := { t with at_ := 0 }
/-- A text with blanks put in ahead of its tokens. -/
def ins (s : List UInt8) (b : Nat → Nat) : Nat → List TokD → Nat → List UInt8
  | a, [], _ => s.drop a
  | a, t :: ts, i => cut s a t.at_.toNat ++ (List.replicate (b i) 32 ++ ins s b t.at_.toNat ts (i + 1))

theorem lexF_ne {l : List UInt8} {a : Nat} {out : List TokD} (h : lexF l a = some out) : out ≠ [] := by
  cases e : l.drop (spanL spB l).length with
  | nil =>
    rw [lexF_end e] at h
    simp only [Option.some.injEq] at h
    rw [← h]; simp
  | cons c r =>
    cases ho : oneO (c :: r) with
    | none => rw [lexF_bad e (by simp) ho] at h; cases h
    | some x =>
      obtain ⟨t, k⟩ := x
      rw [lexF_go e (by simp) ho (oneO_pos (by simp) ho)] at h
      cases hr : lexF ((c :: r).drop k) (a + (spanL spB l).length + k) with
      | none => rw [hr] at h; cases h
      | some y =>
        rw [hr] at h
        simp only [Option.map_some, Option.some.injEq] at h
        rw [← h]; simp

/-- How a list of tokens begins. -/
theorem lexF_cases {s : List UInt8} {a : Nat} {toks : List TokD} (ha : a ≤ s.length) (h : lexF (s.drop a) a = some toks) :
    ∃ c, a ≤ c ∧ c ≤ s.length ∧ c = a + (spanL spB (s.drop a)).length ∧
      ((c = s.length ∧ toks = [⟨0, [], 0, refN, (c : Int)⟩]) ∨
       (c < s.length ∧ ∃ t k ts, oneO (s.drop c) = some (t, k) ∧ 0 < k ∧ c + k ≤ s.length ∧ toks = { t with at_ := (c : Int) } :: ts ∧ lexF (s.drop (c + k)) (c + k) = some ts)) := by
  have hl := span_le spB (s.drop a)
  simp only [List.length_drop] at hl
  refine ⟨a + (spanL spB (s.drop a)).length, by omega, by omega, rfl, ?_⟩
  have hd : (s.drop a).drop (spanL spB (s.drop a)).length = s.drop (a + (spanL spB (s.drop a)).length) := by rw [List.drop_drop]
  by_cases he : a + (spanL spB (s.drop a)).length = s.length
  · left
    rw [lexF_end (by rw [hd, he, List.drop_length])] at h
    simp only [Option.some.injEq] at h
    exact ⟨he, h.symm⟩
  · right
    have hne : s.drop (a + (spanL spB (s.drop a)).length) ≠ [] := by intro hn; have := congrArg List.length hn; simp at this; omega
    refine ⟨by omega, ?_⟩
    cases ho : oneO (s.drop (a + (spanL spB (s.drop a)).length)) with
    | none => rw [lexF_bad hd hne ho] at h; cases h
    | some x =>
      obtain ⟨t, k⟩ := x
      have hk := oneO_pos hne ho
      have hk2 := oneO_le ho
      simp only [List.length_drop] at hk2
      rw [lexF_go hd hne ho hk, List.drop_drop] at h
      cases hr : lexF (s.drop (a + (spanL spB (s.drop a)).length + k)) (a + (spanL spB (s.drop a)).length + k) with
      | none => rw [hr] at h; cases h
      | some y =>
        rw [hr] at h
        simp only [Option.map_some, Option.some.injEq] at h
        exact ⟨t, k, y, rfl, hk, by omega, h.symm, hr⟩

/-- Places that rise. -/
def Up (N : Nat) : Nat → List TokD → Prop
  | _, [] => True
  | a, t :: ts => 0 ≤ t.at_ ∧ a ≤ t.at_.toNat ∧ t.at_.toNat ≤ N ∧ Up N t.at_.toNat ts
theorem Up.low {N a a' : Nat} (h : a' ≤ a) : ∀ {ts : List TokD}, Up N a ts → Up N a' ts
  | [], _ => trivial
  | t :: ts, ⟨h0, h1, h2, h3⟩ => ⟨h0, by omega, h2, h3⟩
theorem lexF_up {s : List UInt8} : ∀ (toks : List TokD) (a : Nat), a ≤ s.length → lexF (s.drop a) a = some toks → Up s.length a toks
  | [], _, _, _ => trivial
  | t :: ts, a, ha, h => by
    obtain ⟨c, hac, hcl, _, ⟨rfl, e⟩ | ⟨hlt, t', k, ts', ho, hk, hck, e, hr⟩⟩ := lexF_cases ha h
    · simp only [List.cons.injEq] at e
      obtain ⟨rfl, rfl⟩ := e
      exact ⟨by simp, by simpa using hac, by simp, trivial⟩
    · simp only [List.cons.injEq] at e
      obtain ⟨rfl, rfl⟩ := e
      exact ⟨by simp, by simpa using hac, by simpa using hcl, Up.low (by simp) (lexF_up ts (c + k) hck hr)⟩

theorem cut_app {s : List UInt8} {a b c : Nat} (h1 : a ≤ b) (h2 : b ≤ c) : cut s a c = cut s a b ++ cut s b c := by
  unfold cut
  have e : c - a = (b - a) + (c - b) := by omega
  rw [e, List.take_add, List.drop_drop]
  congr 3
  omega
theorem cut_self (s : List UInt8) (a : Nat) : cut s a a = [] := by simp [cut]
theorem cut_head' {s : List UInt8} {a b : Nat} (h : a < b) (hb : b ≤ s.length) (X : List UInt8) : (cut s a b ++ X).head? = (s.drop a).head? := by
  obtain ⟨c, e, _⟩ := drop_at (show a < s.length by omega)
  unfold cut
  rw [e]
  cases hk : b - a with
  | zero => omega
  | succ m => simp

theorem span_blanks {B X : List UInt8} (hB : ∀ c ∈ B, c = 32) (hX : X = [] ∨ byte X 0 ≠ 32) : spanL spB (B ++ X) = B := by
  rw [span_append spB B X (fun c hc => by rw [hB c hc]; rfl)]
  have : spanL spB X = [] := by
    cases X with
    | nil => rfl
    | cons c r =>
      rcases hX with hX | hX
      · cases hX
      · have h0 : spB (c.toNat : Int) = false := by simp [spB]; exact hX
        simp [spanL, h0]
  rw [this, List.append_nil]

theorem ins_lex (s : List UInt8) (b : Nat → Nat) : ∀ (toks : List TokD) (a i a' : Nat), a ≤ s.length → lexF (s.drop a) a = some toks → ∃ toks', lexF (ins s b a toks i) a' = some toks' ∧ toks'.map noAt = toks.map noAt
  | [], a, i, a', _, h => absurd rfl (lexF_ne h)
  | t :: ts, a, i, a', ha, h => by
    have hsp := span_all spB (s.drop a)
    obtain ⟨c, hac, hcl, hc, hh⟩ := lexF_cases ha h
    have hcut : cut s a c = spanL spB (s.drop a) := by
      have := List.prefix_iff_eq_take.1 (List.takeWhile_prefix (l := s.drop a) (fun c => spB (c.toNat : Int)))
      change spanL spB (s.drop a) = (s.drop a).take (spanL spB (s.drop a)).length at this
      rw [cut, show c - a = (spanL spB (s.drop a)).length by omega]
      exact this.symm
    have hB : ∀ x ∈ cut s a c ++ List.replicate (b i) 32, x = 32 := fun x hx => by
      rw [List.mem_append] at hx
      rcases hx with hx | hx
      · rw [hcut] at hx
        have := hsp x hx
        simp only [spB, decide_eq_true_eq] at this
        exact UInt8.toNat_inj.1 (by simpa using (by omega : x.toNat = 32))
      · exact (List.mem_replicate.1 hx).2
    rcases hh with ⟨rfl, e⟩ | ⟨hlt, t', k, ts', ho, hk, hck, e, hr⟩
    · simp only [List.cons.injEq] at e
      obtain ⟨rfl, rfl⟩ := e
      have e1 : ins s b a [⟨0, [], 0, refN, (s.length : Int)⟩] i = (cut s a s.length ++ List.replicate (b i) 32) ++ [] := by
        simp [ins]
      refine ⟨[⟨0, [], 0, refN, ((a' + (spanL spB (ins s b a [⟨0, [], 0, refN, (s.length : Int)⟩] i)).length : Nat) : Int)⟩], lexF_end ?_, rfl⟩
      rw [e1, span_blanks hB (.inl rfl), List.append_nil, List.drop_length]
    · simp only [List.cons.injEq] at e
      obtain ⟨rfl, rfl⟩ := e
      have hup := lexF_up ts (c + k) hck hr
      have hne := lexF_ne hr
      have hsplit : ins s b c ts (i + 1) = cut s c (c + k) ++ ins s b (c + k) ts (i + 1) := by
        cases ts with
        | nil => exact absurd rfl hne
        | cons u us =>
          obtain ⟨_, h1, _, _⟩ := hup
          simp only [ins]
          rw [cut_app (s := s) (show c ≤ c + k by omega) h1, List.append_assoc]
      have htl : (cut s c (c + k)).length = k := by simp [cut]; omega
      have htr : cut s c (c + k) ++ s.drop (c + k) = s.drop c := by
        rw [cut, show c + k - c = k by omega, ← List.drop_drop, List.take_append_drop]
      have hsoft : Soft (s.drop (c + k)) (ins s b (c + k) ts (i + 1)) := by
        cases ts with
        | nil => exact absurd rfl hne
        | cons u us =>
          obtain ⟨_, h1, h2, _⟩ := hup
          by_cases hgt : c + k < u.at_.toNat
          · right; right
            simp only [ins]
            exact cut_head' hgt h2 _
          · have heq : u.at_.toNat = c + k := by omega
            simp only [ins, heq, cut_self, List.nil_append]
            cases hb : b (i + 1) with
            | succ m => right; left; rw [List.replicate_succ]; rfl
            | zero =>
              simp only [List.replicate_zero, List.nil_append]
              obtain ⟨c2, hac2, hcl2, _, ⟨e2, e3⟩ | ⟨hlt2, t2, k2, ts2, ho2, hk2, hck2, e3, hr2⟩⟩ := lexF_cases hck hr
              · simp only [List.cons.injEq] at e3
                obtain ⟨rfl, rfl⟩ := e3
                left
                simp only [ins]
                simp at heq
                rw [← heq, e2]
                simp
              · simp only [List.cons.injEq] at e3
                obtain ⟨rfl, rfl⟩ := e3
                simp at heq
                subst heq
                have hup2 := lexF_up us _ hck2 hr2
                cases us with
                | nil => exact absurd rfl (lexF_ne hr2)
                | cons v vs =>
                  obtain ⟨_, h3, h4, _⟩ := hup2
                  right; right
                  simp only [ins]
                  exact cut_head' (by omega) h4 _
      have htn : cut s c (c + k) ≠ [] := by intro hn; rw [hn] at htl; simp at htl; omega
      have hone := one_tok (tok := cut s c (c + k)) (R := s.drop (c + k)) (t := t') htn (by rw [htr, htl]; exact ho) hsoft
      rw [htl] at hone
      have hX : byte (cut s c (c + k) ++ ins s b (c + k) ts (i + 1)) 0 ≠ 32 := by
        rw [byte_head htn]
        have h1 : byte (s.drop c) 0 = byte (cut s c (c + k)) 0 := by rw [← htr, byte_head htn]
        rw [← h1]
        intro h32
        have hlast : spB (byte s c) = false := by
          have hsa := span_at spB (s.drop a) (spanL spB (s.drop a)).length (span_le _ _)
          by_cases hsb : spB (byte s c) = true
          · exfalso
            obtain ⟨d, ed, hd⟩ := drop_at hlt
            have e4 : s.drop a = spanL spB (s.drop a) ++ s.drop c := by
              have h5 : (s.drop a).drop (spanL spB (s.drop a)).length = s.drop c := by rw [List.drop_drop, ← hc]
              have h6 := List.prefix_iff_eq_take.1 (List.takeWhile_prefix (l := s.drop a) (fun c => spB (c.toNat : Int)))
              change spanL spB (s.drop a) = (s.drop a).take (spanL spB (s.drop a)).length at h6
              rw [← h5]
              conv => rhs; rw [h6]
              simp only [List.length_take, List.length_drop]
              rw [Nat.min_eq_left (by have := span_le spB (s.drop a); simpa using this), List.take_append_drop]
            have h7 := congrArg (spanL spB) e4
            rw [span_append spB _ _ hsp, ed] at h7
            rw [hd] at hsb
            have h8 : spanL spB (d :: s.drop (c + 1)) = [] := by
              have := congrArg List.length h7
              simp at this
              exact this
            simp [spanL, hsb] at h8
          · simpa using hsb
        have h9 : byte (s.drop c) 0 = byte s c := by rw [byte_drop']; rfl
        rw [h9] at h32
        simp [spB, h32] at hlast
      have e1 : ins s b a ({ t' with at_ := (c : Int) } :: ts) i = (cut s a c ++ List.replicate (b i) 32) ++ (cut s c (c + k) ++ ins s b (c + k) ts (i + 1)) := by
        simp only [ins, Int.toNat_natCast]
        rw [hsplit, List.append_assoc]
      obtain ⟨toks', g1, g2⟩ := ins_lex s b ts (c + k) (i + 1) (a' + (cut s a c ++ List.replicate (b i) 32).length + k) hck hr
      have hgo := lexF_go (l := ins s b a ({ t' with at_ := (c : Int) } :: ts) i) (a := a') (by rw [e1, span_blanks hB (.inr hX), List.drop_left]) (by simp [htn]) hone hk
      rw [e1] at hgo
      rw [span_blanks hB (.inr hX)] at hgo
      have hdrop : (cut s c (c + k) ++ ins s b (c + k) ts (i + 1)).drop k = ins s b (c + k) ts (i + 1) := List.drop_left' htl
      rw [hdrop, g1] at hgo
      rw [e1]
      refine ⟨_, hgo, ?_⟩
      simp only [List.map_cons, g2]
      rfl
end Go.Proofs.YtfpklhgkndnjjaaDoor
