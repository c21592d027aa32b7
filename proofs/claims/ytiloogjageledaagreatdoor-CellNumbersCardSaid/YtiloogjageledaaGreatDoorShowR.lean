/-
  Plain: what a tree's tokens are read as; what is read of tokens is a tree whose own tokens are no longer. No program in sight.
-/
import Derived.Test.YtiloogjageledaaGreatDoorShowQ
namespace Go.Proofs.YtiloogjageledaaGreatDoor
open Go Go.E

/-! ### How deep a tree's text is -/

def opd (least r need : Nat) : Nat := if r < least then need + 1 else need
def Tr.need : {b : Bool} → Tr b → Nat
  | _, .leaf _ => 0
  | _, .neg a => opd 5 a.rank a.need + 1
  | _, .two k a b => max (opd (rankK k) a.rank a.need) (opd (rankK k + 1) b.rank b.need)
  | _, .call _ ks => ks.need + 1
  | _, .nil => 0
  | _, .snoc ks a => max ks.need a.need

/-! ### From a tree's tokens to its nodes -/

def modeM (n : Nat) : PMode := if n < 4 then .lev n else if n = 4 then .unary else .prim
theorem below_M {n : Nat} (h : n < 4) : below n = modeM (n + 1) := by
  unfold below modeM
  by_cases h3 : n < 3
  · rw [if_pos h3, if_pos (by omega)]
  · rw [if_neg h3, if_neg (by omega), if_pos (by omega)]
/-- The tokens from where the reader stands. -/
def Left (T : List TokD) (s : PSt) : List TokD := (T.drop s.at_).map nA
theorem left_at {T : List TokD} {s : PSt} {u : TokD} {R : List TokD} (h : Left T s = u :: R) : (tokAt T s).kind = u.kind ∧ (tokAt T s).text = u.text ∧ (tokAt T s).num = u.num ∧ (tokAt T s).ref = u.ref := by
  unfold Left at h
  have : ((T.drop s.at_).map nA)[0]? = some u := by rw [h]; rfl
  rw [List.getElem?_map, List.getElem?_drop, Nat.add_zero] at this
  cases e : T[s.at_]? with
  | none => rw [e] at this; cases this
  | some t =>
    rw [e] at this
    simp only [Option.map_some, Option.some.injEq] at this
    have et : tokAt T s = t := by simp [tokAt, List.getD_eq_getElem?_getD, e]
    rw [et, ← this]
    exact ⟨rfl, rfl, rfl, rfl⟩
theorem left_drop {T : List TokD} {s s' : PSt} {w R : List TokD} (h : Left T s = w ++ R) (hs : s'.at_ = s.at_ + w.length) : Left T s' = R := by
  unfold Left at h ⊢
  rw [hs, ← List.drop_drop, List.map_drop, h, List.drop_left]
theorem left_isS {T : List TokD} {s : PSt} {u : TokD} {R : List TokD} (h : Left T s = u :: R) (x : List UInt8) : isS T s x = (decide (u.kind = 5) && decide (u.text = x)) := by
  obtain ⟨h1, h2, _⟩ := left_at h
  rw [isS, h1, h2]
/-- Where a sign goes on at none of the levels from one on. -/
def stopL (n : Nat) (u : TokD) : Prop := u.kind = 5 → u.text ≠ [58] ∧ ∀ m, n ≤ m → m < 4 → (signsN m).findIdx? (fun x => decide (x = u.text)) = none
def Fol (n : Nat) (R : List TokD) : Prop := ∃ u B, R = u :: B ∧ stopL n u
theorem Fol.mono {n m : Nat} {R : List TokD} (h : Fol n R) (hm : n ≤ m) : Fol m R := by
  obtain ⟨u, B, e, hs⟩ := h
  exact ⟨u, B, e, fun h5 => ⟨(hs h5).1, fun k hk => (hs h5).2 k (by omega)⟩⟩
theorem fol_end (n : Nat) : Fol n [endK] := ⟨_, _, rfl, fun h => by cases h⟩
theorem fol_41 (n : Nat) (B : List TokD) : Fol n (sg [41] :: B) := ⟨_, _, rfl, fun _ => ⟨by decide, fun m _ h4 => by
  have : ∀ m, m < 4 → (signsN m).findIdx? (fun x => decide (x = [41])) = none := by decide
  exact this m h4⟩⟩
theorem fol_44 (n : Nat) (B : List TokD) : Fol n (sg [44] :: B) := ⟨_, _, rfl, fun _ => ⟨by decide, fun m _ h4 => by
  have : ∀ m, m < 4 → (signsN m).findIdx? (fun x => decide (x = [44])) = none := by decide
  exact this m h4⟩⟩
theorem op_none {T : List TokD} {s : PSt} {R : List TokD} {n m : Nat} (h : Left T s = R) (hf : Fol n R) (hn : n ≤ m) (h4 : m < 4) : opIx T s m = none := by
  obtain ⟨u, B, rfl, hs⟩ := hf
  obtain ⟨h1, h2, _⟩ := left_at h
  unfold opIx
  split
  · rename_i h5
    rw [h2]
    exact (hs (by rw [← h1]; exact h5)).2 m hn h4
  · rfl
/-- The sign of a kind, and its level. -/
theorem op_all : ∀ o, o < 11 → opSigns.getD o [] ≠ [58] ∧ ∃ n, n < 4 ∧ rankK (9 + (o : Int)) = n + 1 ∧ (∃ i, (signsN n).findIdx? (fun x => decide (x = opSigns.getD o [])) = some i ∧ (kindsN n).getD i 0 = 9 + (o : Int)) ∧ ∀ m, m < 4 → n + 1 ≤ m → (signsN m).findIdx? (fun x => decide (x = opSigns.getD o [])) = none := by
  intro o ho
  have : o = 0 ∨ o = 1 ∨ o = 2 ∨ o = 3 ∨ o = 4 ∨ o = 5 ∨ o = 6 ∨ o = 7 ∨ o = 8 ∨ o = 9 ∨ o = 10 := by omega
  rcases this with rfl | rfl | rfl | rfl | rfl | rfl | rfl | rfl | rfl | rfl | rfl
  · exact ⟨by decide, 0, by decide, rfl, ⟨0, rfl, rfl⟩, by decide⟩
  · exact ⟨by decide, 0, by decide, rfl, ⟨1, rfl, rfl⟩, by decide⟩
  · exact ⟨by decide, 0, by decide, rfl, ⟨2, rfl, rfl⟩, by decide⟩
  · exact ⟨by decide, 0, by decide, rfl, ⟨3, rfl, rfl⟩, by decide⟩
  · exact ⟨by decide, 0, by decide, rfl, ⟨4, rfl, rfl⟩, by decide⟩
  · exact ⟨by decide, 0, by decide, rfl, ⟨5, rfl, rfl⟩, by decide⟩
  · exact ⟨by decide, 1, by decide, rfl, ⟨0, rfl, rfl⟩, by decide⟩
  · exact ⟨by decide, 2, by decide, rfl, ⟨0, rfl, rfl⟩, by decide⟩
  · exact ⟨by decide, 2, by decide, rfl, ⟨1, rfl, rfl⟩, by decide⟩
  · exact ⟨by decide, 3, by decide, rfl, ⟨0, rfl, rfl⟩, by decide⟩
  · exact ⟨by decide, 3, by decide, rfl, ⟨1, rfl, rfl⟩, by decide⟩
theorem op_kind {k : Int} (h0 : 9 ≤ k) (h1 : k ≤ 19) : signK k ≠ [58] ∧ ∃ n, n < 4 ∧ rankK k = n + 1 ∧ (∃ i, (signsN n).findIdx? (fun x => decide (x = signK k)) = some i ∧ (kindsN n).getD i 0 = k) ∧ ∀ m, m < 4 → n + 1 ≤ m → (signsN m).findIdx? (fun x => decide (x = signK k)) = none := by
  have := op_all (k - 9).toNat (by omega)
  rw [show 9 + (((k - 9).toNat : Nat) : Int) = k by omega] at this
  exact this

/-- Where the reader is behind a tree. -/
def aft {b : Bool} (t : Tr b) (w : List TokD) (s : PSt) : PSt := ⟨s.at_ + w.length, s.out ++ t.flat s.out.length, s.deep⟩
def plc (t : Tr false) (s : PSt) : Nat := s.out.length + t.cnt - 1
def resP (d : Nat) (t : Tr false) (w : List TokD) (s : PSt) : PRes := if s.deep + d ≤ 12 then .ok (aft t w s) (plc t s) else .err 6

/-- A level of operators goes on behind a tree. -/
def GoK (t : Tr false) (d : Nat) (w : List TokD) (n : Nat) : Prop := ∀ (T : List TokD) (s : PSt) (R : List TokD) (r : PRes), s.deep ≤ 12 → Left T s = w ++ R → Fol (n + 1) R →
  (if s.deep + d ≤ 12 then PE T (.loop n (plc t s)) (aft t w s) r else r = .err 6) → PE T (.lev n) s r
def GoM (t : Tr false) (d : Nat) (w : List TokD) (n : Nat) : Prop := ∀ (T : List TokD) (s : PSt) (R : List TokD), s.deep ≤ 12 → Left T s = w ++ R → Fol n R → PE T (modeM n) s (resP d t w s)

theorem GoK.m {t : Tr false} {d : Nat} {w : List TokD} {n : Nat} (h : GoK t d w n) (hn : n < 4) : GoM t d w n := by
  intro T s R hs hl hf
  have e : modeM n = .lev n := by rw [modeM, if_pos hn]
  rw [e]
  refine h T s R _ hs hl (hf.mono (by omega)) ?_
  unfold resP
  split
  · exact .loop_end (op_none (left_drop hl rfl) hf (Nat.le_refl n) hn)
  · rfl
theorem GoM.k {t : Tr false} {d : Nat} {w : List TokD} {n : Nat} (h : GoM t d w (n + 1)) (hn : n < 4) : GoK t d w n := by
  intro T s R r hs hl hf hr
  have hp := h T s R hs hl hf
  rw [← below_M hn] at hp
  unfold resP at hp
  split at hp
  · rename_i hd
    rw [if_pos hd] at hr
    exact .lev_ok hp hr
  · rename_i hd
    rw [if_neg hd] at hr
    subst hr
    exact .lev_err hp
/-- What begins with no sign '-' is what it is at each level below. -/
theorem GoM.down {t : Tr false} {d : Nat} {w : List TokD} (h : GoM t d w 5) (hw : ∃ u v, w = u :: v ∧ ¬ (u.kind = 5 ∧ u.text = [45])) : ∀ k n, n + k = 5 → GoM t d w n := by
  have hu : GoM t d w 4 := by
    intro T s R hs hl hf
    obtain ⟨u, v, rfl, hv⟩ := hw
    have hp := h T s R hs hl (hf.mono (by omega))
    refine .un_prim ?_ hp
    rw [left_isS hl]
    by_cases h5 : u.kind = 5
    · have : ¬ u.text = [45] := fun e => hv ⟨h5, e⟩
      simp [this]
    · simp [h5]
  intro k
  induction k with
  | zero => intro n hn; rw [show n = 5 by omega]; exact h
  | succ k ih =>
    intro n hn
    by_cases h4 : n = 4
    · rw [h4]; exact hu
    · exact (GoM.k (ih (n + 1) (by omega)) (by omega)).m (by omega)

theorem cnt_pos : ∀ (t : Tr false), 0 < t.cnt
  | .leaf _ => by simp [Tr.cnt]
  | .neg _ => by simp [Tr.cnt]
  | .two _ _ _ => by simp [Tr.cnt]
  | .call _ _ => by simp [Tr.cnt]
/-- In brackets. -/
theorem bracket {t : Tr false} (h : GoM t t.need t.toks 0) : GoM t (t.need + 1) (sg [40] :: (t.toks ++ [sg [41]])) 5 := by
  intro T s R hs hl hf
  have hl : Left T s = sg [40] :: (t.toks ++ (sg [41] :: R)) := by rw [hl]; simp
  have hi : isS T s [40] = true := by rw [left_isS hl]; rfl
  show PE T .prim s _
  by_cases hd : s.deep < 12
  · have hl1 : Left T (deeper (adv s)) = t.toks ++ (sg [41] :: R) := left_drop (w := [sg [40]]) hl rfl
    have hp := h T (deeper (adv s)) (sg [41] :: R) (by show s.deep + 1 ≤ 12; omega) hl1 (fol_41 0 R)
    unfold resP at hp ⊢
    have hdd : (deeper (adv s)).deep = s.deep + 1 := rfl
    rw [hdd] at hp
    by_cases hh : s.deep + 1 + t.need ≤ 12
    · rw [if_pos hh] at hp
      rw [if_pos (by omega)]
      have hl2 : Left T (aft t t.toks (deeper (adv s))) = sg [41] :: R := left_drop hl1 rfl
      have h41 : isS T (aft t t.toks (deeper (adv s))) [41] = true := by rw [left_isS hl2]; rfl
      have := PE.pr_ok hi hd hp h41
      have e : upper (adv (aft t t.toks (deeper (adv s)))) = aft t (sg [40] :: (t.toks ++ [sg [41]])) s := by
        simp only [upper, adv, aft, deeper, PSt.mk.injEq, List.length_cons, List.length_append, List.length_nil]
        exact ⟨by omega, trivial, by omega⟩
      rw [e] at this
      exact this
    · rw [if_neg hh] at hp
      rw [if_neg (by omega)]
      exact .pr_err hi hd hp
  · unfold resP
    rw [if_neg (by omega)]
    exact .pr_deep hi (by omega)
/-- As an operand. -/
theorem operand {t : Tr false} (h0 : GoM t t.need t.toks 0) (hm : ∀ n, n + 1 ≤ t.rank → GoM t t.need t.toks n) {n : Nat} (hn : n ≤ 5) : GoM t (opd (n + 1) t.rank t.need) (brk (decide (t.rank < n + 1)) t.toks) n := by
  unfold opd brk
  by_cases hr : t.rank < n + 1
  · rw [if_pos hr, if_pos (by simpa using hr)]
    exact (bracket h0).down ⟨_, _, rfl, by rintro ⟨_, e⟩; cases e⟩ (5 - n) n (by omega)
  · rw [if_neg hr, if_neg (by simpa using hr)]
    exact hm n (by omega)
theorem operandK {t : Tr false} (h0 : GoM t t.need t.toks 0) (hk : ∀ n, n < 4 → n + 1 ≤ t.rank → GoK t t.need t.toks n) {n : Nat} (hn : n < 4) : GoK t (opd (n + 1) t.rank t.need) (brk (decide (t.rank < n + 1)) t.toks) n := by
  unfold opd brk
  by_cases hr : t.rank < n + 1
  · rw [if_pos hr, if_pos (by simpa using hr)]
    exact ((bracket h0).down ⟨_, _, rfl, by rintro ⟨_, e⟩; cases e⟩ (5 - (n + 1)) (n + 1) (by omega)).k hn
  · rw [if_neg hr, if_neg (by simpa using hr)]
    exact hk n hn (by omega)

theorem rank_pos {k : Int} (h0 : 9 ≤ k) (h1 : k ≤ 19) : 1 ≤ rankK k ∧ rankK k ≤ 4 := by
  obtain ⟨_, n, hn, e, _⟩ := op_kind h0 h1
  omega
theorem Tr.rank_le : ∀ (t : Tr false), t.Fit → 1 ≤ t.rank ∧ t.rank ≤ 6
  | .leaf _, _ => by simp [Tr.rank]
  | .neg _, _ => by simp [Tr.rank]
  | .two k _ _, h => by have := rank_pos h.1 h.2.1; simp only [Tr.rank]; omega
  | .call _ _, _ => by simp [Tr.rank]

theorem leaf_go {n : NodeD} (h0 : 1 ≤ n.kind) (h1 : n.kind ≤ 6) (hk : n.kids = []) (hp : plainB n = true) : GoM (.leaf n) 0 (leafK n) 5 := by
  intro T s R hs hl hf
  show PE T .prim s _
  unfold resP
  rw [if_pos (by omega)]
  have ho := plain_parts hp
  have hpl : plc (.leaf n) s = s.out.length := by simp [plc, Tr.cnt]
  rw [hpl]
  have hb := hp
  simp only [plainB, Bool.and_eq_true, decide_eq_true_eq] at hb
  have hform : ∀ w : List TokD, aft (.leaf n) w s = putS ⟨s.at_ + w.length, s.out, s.deep⟩ n := fun w => by simp [aft, putS, Tr.flat]
  rw [hform]
  have : n.kind = 1 ∨ n.kind = 2 ∨ n.kind = 3 ∨ n.kind = 4 ∨ n.kind = 5 ∨ n.kind = 6 := by omega
  rcases this with h | h | h | h | h | h <;> simp only [leafK, okK, bareN, h, if_true, if_false, Int.reduceEq, Bool.and_eq_true, decide_eq_true_eq, Bool.or_eq_true, true_and, and_true, List.cons_append, List.nil_append] at hl ho hb ⊢
  · obtain ⟨t1, t2, t3, t4⟩ := left_at hl
    have e : n = { kind := 1, num := (tokAt T s).num } := by cases n; simp_all
    rw [e]
    exact .pr_num t1
  · obtain ⟨t1, t2, t3, t4⟩ := left_at hl
    have e : n = { kind := 2, text := (tokAt T s).text } := by cases n; simp_all
    rw [e]
    exact .pr_text t1
  · obtain ⟨t1, t2, t3, t4⟩ := left_at hl
    rcases ho with ho | ho
    · rw [if_neg (by omega)] at t2
      have e : n = { kind := 3 } := by cases n; simp_all
      rw [e]
      exact .pr_false t1 t2
    · rw [if_pos ho] at t2
      have e : n = { kind := 3, num := 1 } := by cases n; simp_all
      rw [e]
      exact .pr_true t1 t2
  · obtain ⟨t1, t2, t3, t4⟩ := left_at hl
    have e : n = { kind := 4 } := by cases n; simp_all
    rw [e]
    exact .pr_dead t1
  · obtain ⟨t1, t2, t3, t4⟩ := left_at hl
    have e : n = { kind := 5, ref := (tokAt T s).ref } := by cases n; simp_all
    rw [e]
    refine .pr_ref t1 ?_
    obtain ⟨u, B, rfl, hu⟩ := hf
    have hl2 : Left T (adv s) = u :: B := left_drop (w := [_]) hl rfl
    rw [left_isS hl2]
    by_cases h5 : u.kind = 5
    · simp [(hu h5).1]
    · simp [h5]
  · obtain ⟨t1, t2, t3, t4⟩ := left_at hl
    have hl2 : Left T (adv s) = sg [58] :: ⟨4, [], 0, n.to, 0⟩ :: R := left_drop (w := [_]) hl rfl
    have hl3 : Left T (adv (adv s)) = ⟨4, [], 0, n.to, 0⟩ :: R := left_drop (w := [_]) hl2 rfl
    obtain ⟨q1, q2, q3, q4⟩ := left_at hl3
    have e : n = { kind := 6, ref := (tokAt T s).ref, to := (tokAt T (adv (adv s))).ref } := by cases n; simp_all
    have hr : rangesB (tokAt T s).ref (tokAt T (adv (adv s))).ref = true := by rw [t4, q4]; exact ho.2.2
    have hi : isS T (adv s) [58] = true := by rw [left_isS hl2]; rfl
    rw [e]
    exact .pr_range t1 hi q1 hr

/-- A row's trees, one by one. -/
def GoR (ks : Tr true) : Prop := ∀ (T : List TokD) (s : PSt) (R : List TokD) (x : List UInt8) (k0 : List Int) (r : PRes), s.deep ≤ 12 → Left T s = ks.toks ++ R →
  (if s.deep + ks.need ≤ 12 then PE T (.args x (k0 ++ ks.kids s.out.length)) (aft ks ks.toks s) r else r = .err 6) → PE T (.args x k0) s r
def GoT : {b : Bool} → Tr b → Prop
  | false, t => (∀ n, n + 1 ≤ t.rank → GoM t t.need t.toks n) ∧ ∀ n, n < 4 → n + 1 ≤ t.rank → GoK t t.need t.toks n
  | true, ks => GoR ks

theorem name_parts' {x : List UInt8} (h : nameF x = true) : x ≠ trueT ∧ x ≠ falseT := by
  simp only [nameF, Bool.and_eq_true, Bool.not_eq_true', decide_eq_false_iff_not] at h
  exact ⟨h.1.2, h.2⟩
theorem go_top {t : Tr false} (h5 : GoM t t.need t.toks 5) (hw : ∃ u v, t.toks = u :: v ∧ ¬ (u.kind = 5 ∧ u.text = [45])) (hr : t.rank = 6) : GoT t := by
  have hd := h5.down hw
  refine ⟨fun n hn => hd (5 - n) n (by omega), fun n hn _ => (hd (5 - (n + 1)) (n + 1) (by omega)).k hn⟩
theorem go_from {t : Tr false} {m : Nat} (hr : t.rank = m + 1) (hm4 : m ≤ 4) (h : GoM t t.need t.toks m) (hk : m < 4 → GoK t t.need t.toks m) : GoT t := by
  have key : ∀ k n, n + k = m → GoM t t.need t.toks n := by
    intro k
    induction k with
    | zero => intro n hn; rw [show n = m by omega]; exact h
    | succ k ih => intro n hn; exact (GoM.k (ih (n + 1) (by omega)) (by omega)).m (by omega)
  refine ⟨fun n hn => key (m - n) n (by omega), fun n hn h1 => ?_⟩
  by_cases e : n = m
  · subst e; exact hk hn
  · exact (key (m - (n + 1)) (n + 1) (by omega)).k hn

/-- What a tree's first token is not. -/
def First (l : List TokD) : Prop := ∃ u v, l = u :: v ∧ ¬ (u.kind = 5 ∧ u.text = [41])
theorem First.app {l : List TokD} (h : First l) (m : List TokD) : First (l ++ m) := by
  obtain ⟨u, v, rfl, hu⟩ := h
  exact ⟨u, v ++ m, rfl, hu⟩
theorem First.brk {l : List TokD} (h : First l) (b : Bool) : First (Go.Proofs.YtiloogjageledaaGreatDoor.brk b l) := by
  unfold Go.Proofs.YtiloogjageledaaGreatDoor.brk
  split
  · exact ⟨_, _, rfl, by rintro ⟨_, e⟩; cases e⟩
  · exact h
theorem Tr.first : ∀ {b : Bool} (t : Tr b), t.Fit → (b = true ∧ t.toks = []) ∨ First t.toks
  | _, .leaf n, hf => by
    obtain ⟨u, m, e, hk, _⟩ := leaf_form hf.1 hf.2.1
    exact .inr ⟨u, m, e, fun h => hk h.1⟩
  | _, .neg a, _ => .inr ⟨_, _, rfl, by rintro ⟨_, e⟩; cases e⟩
  | _, .two k a b, hf => by
    rcases first a hf.2.2.1 with h | h
    · cases h.1
    · exact .inr ((h.brk _).app _)
  | _, .call x .nil, _ => .inr ⟨_, _, rfl, by rintro ⟨e, _⟩; cases e⟩
  | _, .call x (.snoc rs a), _ => .inr ⟨_, _, rfl, by rintro ⟨e, _⟩; cases e⟩
  | _, .nil, _ => .inl ⟨rfl, rfl⟩
  | _, .snoc rs a, hf => by
    rcases first a hf.2 with h | h
    · cases h.1
    · rcases first rs hf.1 with h2 | h2
      · refine .inr ?_
        simp only [Tr.toks, h2.2, List.nil_append]
        exact h.app _
      · exact .inr (h2.app _)
theorem first_isS {T : List TokD} {s : PSt} {l : List TokD} (h : First l) (hl : Left T s = l) : isS T s [41] = false := by
  obtain ⟨u, v, rfl, hu⟩ := h
  rw [left_isS hl]
  by_cases h5 : u.kind = 5
  · have : ¬ u.text = [41] := fun e => hu ⟨h5, e⟩
    simp [this]
  · simp [h5]

/-- A tree's tokens are read as its nodes. -/
theorem Tr.go : ∀ {b : Bool} (t : Tr b), t.Fit → GoT t
  | _, .leaf n, hf => by
    obtain ⟨u, m, e, hk, _⟩ := leaf_form hf.1 hf.2.1
    exact go_top (leaf_go hf.1 hf.2.1 hf.2.2.1 hf.2.2.2) ⟨u, m, e, fun h => hk h.1⟩ rfl
  | _, .neg a, hf => by
    have ga : GoT a := go a hf
    have hr := Tr.rank_le a hf
    have hop : GoM a (opd 5 a.rank a.need) (brk (decide (a.rank < 5)) a.toks) 4 := operand (ga.1 0 (by omega)) ga.1 (n := 4) (by omega)
    refine go_from (m := 4) rfl (Nat.le_refl _) ?_ (fun h => absurd h (by omega))
    intro T s R hs hl hfol
    have hl : Left T s = sg [45] :: (brk (decide (a.rank < 5)) a.toks ++ R) := hl
    have hi : isS T s [45] = true := by rw [left_isS hl]; rfl
    show PE T .unary s _
    have hneed : (Tr.neg a).need = opd 5 a.rank a.need + 1 := rfl
    by_cases hd : s.deep < 12
    · have hl1 : Left T (deeper (adv s)) = brk (decide (a.rank < 5)) a.toks ++ R := left_drop (w := [_]) hl rfl
      have hp := hop T (deeper (adv s)) R (by show s.deep + 1 ≤ 12; omega) hl1 hfol
      unfold resP at hp ⊢
      have hdd : (deeper (adv s)).deep = s.deep + 1 := rfl
      rw [hdd] at hp
      rw [hneed]
      by_cases hh : s.deep + 1 + opd 5 a.rank a.need ≤ 12
      · rw [if_pos hh] at hp
        rw [if_pos (by omega)]
        have := PE.un_ok hi hd hp
        have e : putS (upper (aft a (brk (decide (a.rank < 5)) a.toks) (deeper (adv s)))) { kind := 8, kids := [((plc a (deeper (adv s)) : Nat) : Int)] } = aft (.neg a) (Tr.neg a).toks s := by
          simp only [putS, upper, aft, deeper, adv, Tr.flat, Tr.toks, PSt.mk.injEq, List.length_cons, List.append_assoc, plc]
          exact ⟨by omega, trivial, by omega⟩
        have e2 : (aft a (brk (decide (a.rank < 5)) a.toks) (deeper (adv s))).out.length = plc (.neg a) s := by
          simp only [aft, deeper, adv, plc, Tr.cnt, List.length_append, Tr.flat_len]
          omega
        rw [e, e2] at this
        exact this
      · rw [if_neg hh] at hp
        rw [if_neg (by omega)]
        exact .un_err hi hd hp
    · unfold resP
      rw [if_neg (by omega)]
      exact .un_deep hi (by omega)
  | _, .two k a b, hf => by
    have ga : GoT a := go a hf.2.2.1
    have gb : GoT b := go b hf.2.2.2
    have ra := Tr.rank_le a hf.2.2.1
    have rb := Tr.rank_le b hf.2.2.2
    obtain ⟨h58, n, hn, hrk, ⟨i, hi, hki⟩, hno⟩ := op_kind hf.1 hf.2.1
    have hA := operandK (ga.1 0 (by omega)) ga.2 hn
    have hB := operand (gb.1 0 (by omega)) gb.1 (n := n + 1) (by omega)
    have hneed : (Tr.two k a b).need = max (opd (n + 1) a.rank a.need) (opd (n + 1 + 1) b.rank b.need) := by simp only [Tr.need, hrk]
    have htoks : (Tr.two k a b).toks = brk (decide (a.rank < n + 1)) a.toks ++ sg (signK k) :: brk (decide (b.rank < n + 1 + 1)) b.toks := by simp only [Tr.toks, hrk]
    have hK : GoK (.two k a b) (Tr.two k a b).need (Tr.two k a b).toks n := by
      intro T s R r hs hl hfol hr
      rw [htoks, List.append_assoc, List.cons_append] at hl
      have hsg : Fol (n + 1) (sg (signK k) :: (brk (decide (b.rank < n + 1 + 1)) b.toks ++ R)) := ⟨_, _, rfl, fun _ => ⟨h58, fun m h1 h2 => hno m h2 h1⟩⟩
      refine hA T s _ r hs hl hsg ?_
      split
      · rename_i hda
        have hl1 : Left T (aft a (brk (decide (a.rank < n + 1)) a.toks) s) = sg (signK k) :: (brk (decide (b.rank < n + 1 + 1)) b.toks ++ R) := left_drop hl rfl
        obtain ⟨t1, t2, _⟩ := left_at hl1
        have hop : opIx T (aft a (brk (decide (a.rank < n + 1)) a.toks) s) n = some i := by
          unfold opIx
          rw [if_pos (show _ = (5 : Int) from t1), t2]
          exact hi
        have hl2 : Left T (adv (aft a (brk (decide (a.rank < n + 1)) a.toks) s)) = brk (decide (b.rank < n + 1 + 1)) b.toks ++ R := left_drop (w := [_]) hl1 rfl
        have hp := hB T (adv (aft a (brk (decide (a.rank < n + 1)) a.toks) s)) R hs hl2 hfol
        rw [← below_M hn] at hp
        unfold resP at hp
        have hdd : (adv (aft a (brk (decide (a.rank < n + 1)) a.toks) s)).deep = s.deep := rfl
        rw [hdd] at hp
        by_cases hdb : s.deep + opd (n + 1 + 1) b.rank b.need ≤ 12
        · rw [if_pos hdb] at hp
          rw [if_pos (by rw [hneed]; omega)] at hr
          refine .loop_go hop hp ?_
          rw [hki]
          have e : putS (aft b (brk (decide (b.rank < n + 1 + 1)) b.toks) (adv (aft a (brk (decide (a.rank < n + 1)) a.toks) s))) { kind := k, kids := [((plc a s : Nat) : Int), ((plc b (adv (aft a (brk (decide (a.rank < n + 1)) a.toks) s)) : Nat) : Int)] } = aft (.two k a b) (Tr.two k a b).toks s := by
            rw [htoks]
            simp only [putS, aft, adv, Tr.flat, PSt.mk.injEq, List.length_append, List.length_cons, List.append_assoc, plc, Tr.flat_len]
            exact ⟨by omega, trivial, trivial⟩
          have e2 : (aft b (brk (decide (b.rank < n + 1 + 1)) b.toks) (adv (aft a (brk (decide (a.rank < n + 1)) a.toks) s))).out.length = plc (.two k a b) s := by
            simp only [aft, adv, plc, Tr.cnt, List.length_append, Tr.flat_len]
            omega
          rw [e, e2]
          exact hr
        · rw [if_neg hdb] at hp
          rw [if_neg (by rw [hneed]; omega)] at hr
          subst hr
          exact .loop_err hop hp
      · rename_i hda
        rw [if_neg (by rw [hneed]; omega)] at hr
        exact hr
    exact go_from (m := n) (by simp only [Tr.rank, hrk]) (by omega) (hK.m hn) (fun _ => hK)
  | _, .call x .nil, hf => by
    obtain ⟨hx1, hx2⟩ := name_parts' hf.1
    refine go_top ?_ ⟨_, _, rfl, by rintro ⟨e, _⟩; cases e⟩ rfl
    intro T s R hs hl hfol
    have hl : Left T s = ⟨3, x, 0, refN, 0⟩ :: sg [40] :: sg [41] :: R := hl
    obtain ⟨t1, t2, _⟩ := left_at hl
    have hl1 : Left T (adv s) = sg [40] :: sg [41] :: R := left_drop (w := [_]) hl rfl
    have hl2 : Left T (deeper (adv (adv s))) = sg [41] :: R := left_drop (w := [_]) hl1 rfl
    have h40 : isS T (adv s) [40] = true := by rw [left_isS hl1]; rfl
    have h41 : isS T (deeper (adv (adv s))) [41] = true := by rw [left_isS hl2]; rfl
    show PE T .prim s _
    unfold resP
    by_cases hd : s.deep < 12
    · rw [if_pos (by show s.deep + 1 ≤ 12; omega)]
      have := PE.pr_call0 t1 (by rw [t2]; exact hx1) (by rw [t2]; exact hx2) h40 hd h41
      rw [t2] at this
      exact this
    · rw [if_neg (by show ¬ s.deep + 1 ≤ 12; omega)]
      exact .pr_calldeep t1 (by rw [t2]; exact hx1) (by rw [t2]; exact hx2) h40 (by omega)
  | _, .call x (.snoc rs a), hf => by
    obtain ⟨hx1, hx2⟩ := name_parts' hf.1
    have gr : GoR rs := go rs hf.2.1
    have ga : GoT a := go a hf.2.2
    have ra := Tr.rank_le a hf.2.2
    have hfirst : First (rs.toks ++ (a.toks ++ [sg [41]])) := by
      rcases Tr.first a hf.2.2 with h | h
      · cases h.1
      · rcases Tr.first rs hf.2.1 with h2 | h2
        · rw [h2.2, List.nil_append]
          exact h.app _
        · exact h2.app _
    refine go_top ?_ ⟨_, _, rfl, by rintro ⟨e, _⟩; cases e⟩ rfl
    intro T s R hs hl hfol
    have hl : Left T s = ⟨3, x, 0, refN, 0⟩ :: sg [40] :: (rs.toks ++ (a.toks ++ (sg [41] :: R))) := by rw [hl]; simp [Tr.toks]
    obtain ⟨t1, t2, _⟩ := left_at hl
    have hl1 : Left T (adv s) = sg [40] :: (rs.toks ++ (a.toks ++ (sg [41] :: R))) := left_drop (w := [_]) hl rfl
    have hl2 : Left T (deeper (adv (adv s))) = rs.toks ++ (a.toks ++ (sg [41] :: R)) := left_drop (w := [_]) hl1 rfl
    have h40 : isS T (adv s) [40] = true := by rw [left_isS hl1]; rfl
    have h41 : isS T (deeper (adv (adv s))) [41] = false := by
      refine first_isS (hfirst.app R) ?_
      rw [hl2]; simp
    have hneed : (Tr.call x (.snoc rs a)).need = max rs.need a.need + 1 := rfl
    show PE T .prim s _
    unfold resP
    by_cases hd : s.deep < 12
    · refine .pr_call t1 (by rw [t2]; exact hx1) (by rw [t2]; exact hx2) h40 hd h41 ?_
      rw [t2]
      refine gr T (deeper (adv (adv s))) _ x [] _ (by show s.deep + 1 ≤ 12; omega) hl2 ?_
      have hdd : (deeper (adv (adv s))).deep = s.deep + 1 := rfl
      rw [hdd, hneed]
      split
      · rename_i hdr
        have hl3 : Left T (aft rs rs.toks (deeper (adv (adv s)))) = a.toks ++ (sg [41] :: R) := left_drop hl2 rfl
        have hp := ga.1 0 (by omega) T (aft rs rs.toks (deeper (adv (adv s)))) _ (by show s.deep + 1 ≤ 12; omega) hl3 (fol_41 0 R)
        unfold resP at hp
        have hd3 : (aft rs rs.toks (deeper (adv (adv s)))).deep = s.deep + 1 := rfl
        rw [hd3] at hp
        by_cases hda : s.deep + 1 + a.need ≤ 12
        · rw [if_pos hda] at hp
          rw [if_pos (by omega)]
          have hl4 : Left T (aft a a.toks (aft rs rs.toks (deeper (adv (adv s))))) = sg [41] :: R := left_drop hl3 rfl
          have h44 : isS T (aft a a.toks (aft rs rs.toks (deeper (adv (adv s))))) [44] = false := by rw [left_isS hl4]; rfl
          have h41' : isS T (aft a a.toks (aft rs rs.toks (deeper (adv (adv s))))) [41] = true := by rw [left_isS hl4]; rfl
          have := PE.ar_end (x := x) (ks := [] ++ rs.kids (deeper (adv (adv s))).out.length) hp h44 h41'
          have e : putS (upper (adv (aft a a.toks (aft rs rs.toks (deeper (adv (adv s))))))) { kind := 7, text := x, kids := [] ++ rs.kids (deeper (adv (adv s))).out.length ++ [((plc a (aft rs rs.toks (deeper (adv (adv s)))) : Nat) : Int)] } = aft (.call x (.snoc rs a)) (Tr.call x (.snoc rs a)).toks s := by
            simp only [putS, upper, aft, deeper, adv, Tr.flat, Tr.toks, Tr.kids, PSt.mk.injEq, List.length_cons, List.length_append, List.length_nil, List.append_assoc, plc, Tr.flat_len, List.nil_append]
            exact ⟨by omega, trivial, by omega⟩
          have e2 : (aft a a.toks (aft rs rs.toks (deeper (adv (adv s))))).out.length = plc (.call x (.snoc rs a)) s := by
            simp only [aft, deeper, adv, plc, Tr.cnt, List.length_append, Tr.flat_len]
            omega
          rw [e, e2] at this
          exact this
        · rw [if_neg hda] at hp
          rw [if_neg (by omega)]
          exact .ar_err hp
      · rename_i hdr
        rw [if_neg (by omega)]
    · rw [if_neg (by omega)]
      exact .pr_calldeep t1 (by rw [t2]; exact hx1) (by rw [t2]; exact hx2) h40 (by omega)
  | _, .nil, _ => by
    intro T s R x k0 r hs hl hr
    have e : aft Tr.nil Tr.nil.toks s = s := by simp [aft, Tr.toks, Tr.flat]
    rw [e, if_pos (by show s.deep + 0 ≤ 12; omega)] at hr
    simpa [Tr.kids] using hr
  | _, .snoc rs a, hf => by
    have gr : GoR rs := go rs hf.1
    have ga : GoT a := go a hf.2
    have ra := Tr.rank_le a hf.2
    intro T s R x k0 r hs hl hr
    have hl : Left T s = rs.toks ++ (a.toks ++ (sg [44] :: R)) := by rw [hl]; simp [Tr.toks]
    have hneed : (Tr.snoc rs a).need = max rs.need a.need := rfl
    rw [hneed] at hr
    refine gr T s _ x k0 r hs hl ?_
    split
    · rename_i hdr
      have hl3 : Left T (aft rs rs.toks s) = a.toks ++ (sg [44] :: R) := left_drop hl rfl
      have hp := ga.1 0 (by omega) T (aft rs rs.toks s) _ hs hl3 (fol_44 0 R)
      unfold resP at hp
      have hd3 : (aft rs rs.toks s).deep = s.deep := rfl
      rw [hd3] at hp
      by_cases hda : s.deep + a.need ≤ 12
      · rw [if_pos hda] at hp
        rw [if_pos (by omega)] at hr
        have hl4 : Left T (aft a a.toks (aft rs rs.toks s)) = sg [44] :: R := left_drop hl3 rfl
        have h44 : isS T (aft a a.toks (aft rs rs.toks s)) [44] = true := by rw [left_isS hl4]; rfl
        refine .ar_go hp h44 ?_
        have e : adv (aft a a.toks (aft rs rs.toks s)) = aft (.snoc rs a) (Tr.snoc rs a).toks s := by
          simp only [aft, adv, Tr.flat, Tr.toks, PSt.mk.injEq, List.length_cons, List.length_append, List.length_nil, List.append_assoc, Tr.flat_len]
          exact ⟨by omega, trivial, trivial⟩
        have e2 : k0 ++ rs.kids s.out.length ++ [((plc a (aft rs rs.toks s) : Nat) : Int)] = k0 ++ (Tr.snoc rs a).kids s.out.length := by
          simp only [aft, plc, Tr.kids, List.length_append, Tr.flat_len, List.append_assoc]
        rw [e, e2]
        exact hr
      · rw [if_neg hda] at hp
        rw [if_neg (by omega)] at hr
        subst hr
        exact .ar_err hp
    · rename_i hdr
      rw [if_neg (by omega)] at hr
      exact hr

/-- What a tree's text is read as. -/
theorem Tr.again (t : Tr false) (hf : t.Fit) {T : List TokD} (hT : T.map nA = t.toks ++ [endK]) : Parsed T (if t.need ≤ 12 then .ok (t.flat 0) else .error 6) := by
  have hg := (t.go hf).1 0 (by have := Tr.rank_le t hf; omega) T ⟨0, [], 0⟩ [endK] (by simp) hT (fol_end 0)
  have hg : PE T (.lev 0) ⟨0, [], 0⟩ (resP t.need t t.toks ⟨0, [], 0⟩) := hg
  unfold resP at hg
  simp only [Nat.zero_add] at hg
  by_cases h : t.need ≤ 12
  · rw [if_pos h] at hg ⊢
    refine ⟨_, _, hg, ?_, by simp [aft]⟩
    have : Left T (aft t t.toks ⟨0, [], 0⟩) = [endK] := left_drop (s := ⟨0, [], 0⟩) (w := t.toks) hT rfl
    exact (left_at this).1
  · rw [if_neg h] at hg ⊢
    exact .inl hg
end Go.Proofs.YtiloogjageledaaGreatDoor
