/-
  Plain: operators and numbers in a row: what their tree's top is.
-/
import Derived.Test.YtfpklhgkndnjjaaDoorParK
import Derived.Test.YtfpklhgkndnjjaaDoorLexZ
namespace Go.Proofs.YtfpklhgkndnjjaaDoor
open Go Go.E

def opSigns : List (List UInt8) := [[61], [60, 62], [60], [60, 61], [62], [62, 61], [38], [43], [45], [42], [47]]
def opRanks : List Nat := [0, 0, 0, 0, 0, 0, 1, 2, 2, 3, 3]
def signS (o : Nat) : List UInt8 := opSigns.getD o []
def rankN (o : Nat) : Nat := opRanks.getD o 0
def textFrom : Nat → List Nat → List UInt8
  | _, [] => []
  | i, o :: r => signS o ++ (Lib.decDigits (i + 1) ++ textFrom (i + 1) r)
def ktT (t : TokD) : Int × List UInt8 := (t.kind, t.text)
def coreT (ops : List Nat) : List (Int × List UInt8) := ops.flatMap (fun o => [(5, signS o), (1, [])]) ++ [(0, [])]

/-! ### Its tokens -/

theorem one_dig {u : Nat} (hu : u ≤ 9223372036854775807) {R : List UInt8} (hR : R = [] ∨ digB (byte R 0) = false) : oneO (Lib.decDigits u ++ R) = some (⟨1, [], u, refN, 0⟩, (Lib.decDigits u).length) := by
  obtain ⟨h1, h2, h3, h4, h5⟩ := dec_facts u u (Nat.le_refl _)
  have h0 : digB (byte (Lib.decDigits u ++ R) 0) = true := by
    rw [byte_head h2]
    obtain ⟨c, hm, e⟩ := byte_mem (List.length_pos_iff.2 h2)
    rw [e]; exact h1 c hm
  have hs : spanL digB (Lib.decDigits u ++ R) = Lib.decDigits u := by
    rw [span_append digB _ R h1]
    have : spanL digB R = [] := by
      rcases hR with rfl | h
      · rfl
      · cases R with
        | nil => rfl
        | cons c r =>
          have : digB (c.toNat : Int) = false := h
          simp [spanL, this]
    rw [this, List.append_nil]
  have hc : ((u : Nat) : Int) ≤ 9223372036854775807 ∧ (byte (Lib.decDigits u) 0 ≠ 48 ∨ (Lib.decDigits u).length = 1) := by
    refine ⟨by omega, ?_⟩
    by_cases hz : u = 0
    · exact .inr (h5 hz)
    · exact .inl (h4 hz)
  rw [oneO, h0, if_pos rfl, numO_is (by rw [hs]; exact h2), hs, h3, if_pos hc]

theorem one_sign {o : Nat} (ho : o < 11) {R : List UInt8} (hR : digB (byte R 0) = true) : oneO (signS o ++ R) = some (⟨5, signS o, 0, refN, 0⟩, (signS o).length) := by
  cases R with
  | nil => cases hR
  | cons d r =>
    have hd : digB (d.toNat : Int) = true := hR
    have h61 : (61 == d) = false := by
      rw [beq_eq_false_iff_ne]; rintro rfl; revert hd; decide
    have h62 : (62 == d) = false := by
      rw [beq_eq_false_iff_ne]; rintro rfl; revert hd; decide
    have h82 : (82 == d) = false := by
      rw [beq_eq_false_iff_ne]; rintro rfl; revert hd; decide
    have hall : ∀ o, o < 11 → (digB (byte (signS o) 0) = false ∧ byte (signS o) 0 ≠ 34 ∧ begB (byte (signS o) 0) = false ∧ signS o ≠ []) := by decide
    obtain ⟨a1, a2, a3, a4⟩ := hall o ho
    have hb : byte (signS o ++ d :: r) 0 = byte (signS o) 0 := byte_head a4 _
    rw [oneO, hb, a1, a3, if_neg (by simp), if_neg a2, if_neg (by simp)]
    have : o = 0 ∨ o = 1 ∨ o = 2 ∨ o = 3 ∨ o = 4 ∨ o = 5 ∨ o = 6 ∨ o = 7 ∨ o = 8 ∨ o = 9 ∨ o = 10 := by omega
    rcases this with rfl | rfl | rfl | rfl | rfl | rfl | rfl | rfl | rfl | rfl | rfl <;>
      simp [signO, signS, opSigns, deadT, Lib.hasPrefix, List.isPrefixOf, signsT, List.find?, h61, h62]

theorem lexF_step {X R : List UInt8} {t : TokD} {a : Nat} (hX : X ≠ []) (hb : byte X 0 ≠ 32) (h1 : oneO (X ++ R) = some (t, X.length)) : lexF (X ++ R) a = (lexF R (a + X.length)).map ({ t with at_ := (a : Int) } :: ·) := by
  have hs : spanL spB (X ++ R) = [] := by
    cases X with
    | nil => exact absurd rfl hX
    | cons c r =>
      have : spB (c.toNat : Int) = false := by simp [spB]; exact hb
      simp [spanL, this]
  have := lexF_go (l := X ++ R) (l' := X ++ R) (a := a) (t := t) (k := X.length) (by rw [hs]; rfl) (by simp [hX]) h1 (List.length_pos_iff.2 hX)
  rw [this, hs]
  simp [List.drop_left']

theorem sign_facts : ∀ o, o < 11 → (digB (byte (signS o) 0) = false ∧ byte (signS o) 0 ≠ 32 ∧ signS o ≠ []) := by decide
theorem textFrom_soft (i : Nat) {ops : List Nat} (h : ∀ o ∈ ops, o < 11) : textFrom i ops = [] ∨ digB (byte (textFrom i ops) 0) = false := by
  cases ops with
  | nil => exact .inl rfl
  | cons o r =>
    obtain ⟨h1, h2, h3⟩ := sign_facts o (h o (by simp))
    refine .inr ?_
    rw [textFrom, byte_head h3]
    exact h1
theorem dec_head (u : Nat) : digB (byte (Lib.decDigits u) 0) = true ∧ Lib.decDigits u ≠ [] ∧ byte (Lib.decDigits u) 0 ≠ 32 := by
  obtain ⟨h1, h2, _⟩ := dec_facts u u (Nat.le_refl _)
  obtain ⟨c, hm, e⟩ := byte_mem (List.length_pos_iff.2 h2)
  exact ⟨by rw [e]; exact h1 c hm, h2, dig_ne32 h2 h1⟩
theorem ops_lex : ∀ (ops : List Nat) (i a : Nat), (∀ o ∈ ops, o < 11) → i + ops.length ≤ 1000 → ∃ T, lexF (textFrom i ops) a = some T ∧ T.map ktT = coreT ops
  | [], i, a, _, _ => ⟨_, lexF_end rfl, rfl⟩
  | o :: r, i, a, ho, hi => by
    obtain ⟨f1, f2, f3⟩ := sign_facts o (ho o (by simp))
    obtain ⟨g1, g2, g3⟩ := dec_head (i + 1)
    simp only [List.length_cons] at hi
    obtain ⟨T, h1, h2⟩ := ops_lex r (i + 1) (a + (signS o).length + (Lib.decDigits (i + 1)).length) (fun x hx => ho x (by simp [hx])) (by omega)
    rw [textFrom, lexF_step f3 f2 (one_sign (ho o (by simp)) (by rw [byte_head g2]; exact g1)), lexF_step g2 g3 (one_dig (by omega) (textFrom_soft (i + 1) (fun x hx => ho x (by simp [hx])))), h1]
    refine ⟨_, rfl, ?_⟩
    simp only [List.map_cons, h2]
    simp [coreT, ktT]
theorem textFrom_snoc : ∀ (ops : List Nat) (i o : Nat), textFrom i (ops ++ [o]) = textFrom i ops ++ (signS o ++ Lib.decDigits (i + ops.length + 1))
  | [], i, o => by simp [textFrom]
  | x :: r, i, o => by
    rw [List.cons_append, textFrom, textFrom, textFrom_snoc r (i + 1) o, List.length_cons, show i + 1 + r.length + 1 = i + (r.length + 1) + 1 by omega]
    simp [List.append_assoc]
/-- The whole: a nought ahead. -/
theorem order_lex {ops : List Nat} (h : ∀ o ∈ ops, o < 11) (hl : ops.length ≤ 900) : ∃ T, lexT ([48] ++ textFrom 0 ops) = some T ∧ T.map ktT = (1, []) :: coreT ops := by
  have e : ([48] : List UInt8) = Lib.decDigits 0 := by rw [Lib.decDigits, dif_pos (by omega)]; rfl
  obtain ⟨g1, g2, g3⟩ := dec_head 0
  obtain ⟨T, h1, h2⟩ := ops_lex ops 0 (0 + (Lib.decDigits 0).length) h (by omega)
  rw [lexT, e, lexF_step g2 g3 (one_dig (by omega) (textFrom_soft 0 h)), h1]
  exact ⟨_, rfl, by simp only [List.map_cons, h2]; rfl⟩

/-! ### Its tree -/

structure Row (T : List TokD) (ops : List Nat) : Prop where
  lt : ∀ o ∈ ops, o < 11
  num : ∀ i, i ≤ ops.length → (T.getD (2 * i) tokZ).kind = 1
  sign : ∀ i, i < ops.length → (T.getD (2 * i + 1) tokZ).kind = 5 ∧ (T.getD (2 * i + 1) tokZ).text = signS (ops.getD i 0)
  fin : (T.getD (2 * ops.length + 1) tokZ).kind = 0
theorem core_get : ∀ (ops : List Nat), (∀ i, i < ops.length → (coreT ops)[2 * i]? = some (5, signS (ops.getD i 0)) ∧ (coreT ops)[2 * i + 1]? = some (1, [])) ∧ (coreT ops)[2 * ops.length]? = some (0, [])
  | [] => ⟨fun i hi => by simp at hi, rfl⟩
  | o :: r => by
    obtain ⟨h1, h2⟩ := core_get r
    have e : coreT (o :: r) = (5, signS o) :: (1, []) :: coreT r := by simp [coreT]
    rw [e]
    refine ⟨fun i hi => ?_, ?_⟩
    · cases i with
      | zero => exact ⟨rfl, rfl⟩
      | succ i =>
        have := h1 i (by simpa using hi)
        rw [show 2 * (i + 1) = 2 * i + 1 + 1 by omega]
        simpa using this
    · rw [List.length_cons, show 2 * (r.length + 1) = 2 * r.length + 1 + 1 by omega]
      simpa using h2
theorem kt_at {T : List TokD} {i : Nat} {x : Int × List UInt8} (h : (T.map ktT)[i]? = some x) : (T.getD i tokZ).kind = x.1 ∧ (T.getD i tokZ).text = x.2 := by
  rw [List.getElem?_map] at h
  cases e : T[i]? with
  | none => rw [e] at h; cases h
  | some t =>
    rw [e] at h
    simp only [Option.map_some, Option.some.injEq] at h
    rw [List.getD_eq_getElem?_getD, e, ← h]
    exact ⟨rfl, rfl⟩
theorem Row.of {T : List TokD} {ops : List Nat} (h : ∀ o ∈ ops, o < 11) (e : T.map ktT = (1, []) :: coreT ops) : Row T ops := by
  obtain ⟨h1, h2⟩ := core_get ops
  refine ⟨h, fun i hi => ?_, fun i hi => ?_, ?_⟩
  · cases i with
    | zero => exact (kt_at (x := (1, [])) (by rw [e]; rfl)).1
    | succ i =>
      refine (kt_at (x := (1, [])) ?_).1
      rw [e, show 2 * (i + 1) = 2 * i + 1 + 1 by omega, List.getElem?_cons_succ]
      exact (h1 i (by omega)).2
  · refine kt_at (x := (5, signS (ops.getD i 0))) ?_
    rw [e, List.getElem?_cons_succ]
    exact (h1 i hi).1
  · refine (kt_at (x := (0, [])) ?_).1
    rw [e, List.getElem?_cons_succ]
    exact h2

theorem ix_all : ∀ o, o < 11 → ∀ n, n < 4 → (signsN n).findIdx? (fun x => decide (x = signS o)) = (if rankN o = n then (signsN n).findIdx? (fun x => decide (x = signS o)) else none) ∧ (rankN o = n → ∃ i, (signsN n).findIdx? (fun x => decide (x = signS o)) = some i ∧ (kindsN n).getD i 0 = 9 + (o : Int)) := by
  intro o ho n hn
  have ho' : o = 0 ∨ o = 1 ∨ o = 2 ∨ o = 3 ∨ o = 4 ∨ o = 5 ∨ o = 6 ∨ o = 7 ∨ o = 8 ∨ o = 9 ∨ o = 10 := by omega
  have : n = 0 ∨ n = 1 ∨ n = 2 ∨ n = 3 := by omega
  rcases ho' with rfl | rfl | rfl | rfl | rfl | rfl | rfl | rfl | rfl | rfl | rfl <;> rcases this with rfl | rfl | rfl | rfl <;> first
    | exact ⟨rfl, fun h => absurd h (by decide)⟩
    | exact ⟨rfl, fun _ => ⟨_, rfl, rfl⟩⟩
theorem rank_lt : ∀ o, rankN o < 4 := by
  intro o
  have : o = 0 ∨ o = 1 ∨ o = 2 ∨ o = 3 ∨ o = 4 ∨ o = 5 ∨ o = 6 ∨ o = 7 ∨ o = 8 ∨ o = 9 ∨ o = 10 ∨ 11 ≤ o := by omega
  rcases this with rfl | rfl | rfl | rfl | rfl | rfl | rfl | rfl | rfl | rfl | rfl | h <;> first | decide | skip
  rw [rankN, List.getD_eq_getElem?_getD, List.getElem?_eq_none (by show 11 ≤ o; exact h)]
  decide

def rk (ops : List Nat) (i : Nat) : Nat := rankN (ops.getD i 0)
/-- The operators from i on to j: the last of the least rank is what stands last. -/
def Top (ops : List Nat) (L i j : Nat) (out : List NodeD) : Prop :=
  ∃ k, i ≤ k ∧ k < j ∧ (∀ t, i ≤ t → t < j → rk ops k ≤ rk ops t) ∧ (∀ t, k < t → t < j → rk ops k < rk ops t) ∧
    out[L + 2 * (j - i)]? = some { kind := 9 + (ops.getD k 0 : Int), kids := [((L + 2 * (k - i) : Nat) : Int), ((L + 2 * (j - i) - 1 : Nat) : Int)] }
/-- What has been read: numbers i to j. -/
structure Seg (ops : List Nat) (n i j : Nat) (s s1 : PSt) : Prop where
  le : i ≤ j
  le2 : j ≤ ops.length
  at_ : s1.at_ = 2 * j + 1
  deep : s1.deep = s.deep
  len : s1.out.length = s.out.length + 2 * (j - i) + 1
  rank : ∀ t, i ≤ t → t < j → n ≤ rk ops t
  top : i < j → Top ops s.out.length i j s1.out
def modeN (n : Nat) : PMode := if n < 4 then .lev n else .unary
theorem below_mode {n : Nat} (h : n < 4) : below n = modeN (n + 1) := by
  unfold below modeN
  by_cases h3 : n < 3
  · rw [if_pos h3, if_pos (by omega)]
  · rw [if_neg h3, if_neg (by omega)]

theorem Row.ix_no {T : List TokD} {ops : List Nat} (R : Row T ops) {s : PSt} {j n : Nat} (hn : n < 4) (hj : j ≤ ops.length) (hs : s.at_ = 2 * j + 1) (h : j = ops.length ∨ rk ops j ≠ n) : opIx T s n = none := by
  unfold opIx
  split
  · rename_i hk
    unfold tokAt at hk ⊢
    rw [hs] at hk ⊢
    rcases Nat.lt_or_ge j ops.length with hl | hl
    · have h := h.resolve_left (by omega)
      rw [(R.sign j hl).2, (ix_all _ (R.lt _ (by rw [List.getD_eq_getElem?_getD, List.getElem?_eq_getElem hl]; exact List.getElem_mem hl)) n hn).1]
      exact if_neg h
    · have : j = ops.length := by omega
      subst this
      rw [R.fin] at hk
      cases hk
  · rfl
theorem Row.ix_yes {T : List TokD} {ops : List Nat} (R : Row T ops) {s : PSt} {j n : Nat} (hn : n < 4) (hj : j < ops.length) (hs : s.at_ = 2 * j + 1) (h : rk ops j = n) : ∃ i, opIx T s n = some i ∧ (kindsN n).getD i 0 = 9 + (ops.getD j 0 : Int) := by
  unfold opIx tokAt
  rw [hs, if_pos (R.sign j hj).1, (R.sign j hj).2]
  exact (ix_all _ (R.lt _ (by rw [List.getD_eq_getElem?_getD, List.getElem?_eq_getElem hj]; exact List.getElem_mem hj)) n hn).2 h

theorem Row.loop {T : List TokD} {ops : List Nat} (R : Row T ops) {n : Nat} (hn : n < 4)
    (sub : ∀ (i : Nat) (s : PSt), i ≤ ops.length → s.at_ = 2 * i → ∃ j s1, PE T (below n) s (.ok s1 (s.out.length + 2 * (j - i))) ∧ Seg ops (n + 1) i j s s1 ∧ (j = ops.length ∨ rk ops j < n + 1)) :
    ∀ (d i j : Nat) (s s1 : PSt), ops.length - j ≤ d → Seg ops n i j s s1 → (j = ops.length ∨ rk ops j < n + 1) → ∃ j' s2, PE T (.loop n (s.out.length + 2 * (j - i))) s1 (.ok s2 (s.out.length + 2 * (j' - i))) ∧ Seg ops n i j' s s2 ∧ (j' = ops.length ∨ rk ops j' < n) := by
  intro d
  induction d with
  | zero =>
    intro i j s s1 hd hS _
    have := hS.le2
    have hj : j = ops.length := by omega
    exact ⟨j, s1, .loop_end (R.ix_no hn hS.le2 hS.at_ (.inl hj)), hS, .inl hj⟩
  | succ d ih =>
    intro i j s s1 hd hS hr
    have hle := hS.le
    have hle2 := hS.le2
    by_cases hj : j = ops.length
    · exact ⟨j, s1, .loop_end (R.ix_no hn hS.le2 hS.at_ (.inl hj)), hS, .inl hj⟩
    have hr := hr.resolve_left hj
    by_cases hk : rk ops j = n
    · obtain ⟨x, hx, hkind⟩ := R.ix_yes hn (by omega) hS.at_ hk
      obtain ⟨j2, s2, hp, hS2, hr2⟩ := sub (j + 1) (adv s1) (by omega) (by show s1.at_ + 1 = _; rw [hS.at_]; omega)
      have g1 := hS2.le
      have g2 := hS2.le2
      have e0 : (adv s1).out.length = s.out.length + 2 * (j - i) + 1 := hS.len
      have e1 : s2.out.length = s.out.length + 2 * (j2 - i) := by rw [hS2.len, e0]; omega
      have hS3 : Seg ops n i j2 s (putS s2 { kind := (kindsN n).getD x 0, kids := [((s.out.length + 2 * (j - i) : Nat) : Int), (((adv s1).out.length + 2 * (j2 - (j + 1)) : Nat) : Int)] }) := by
        refine ⟨by omega, g2, hS2.at_, hS2.deep.trans hS.deep, by show (s2.out ++ [_]).length = _; rw [List.length_append, e1]; rfl, fun t h1 h2 => ?_, fun _ => ⟨j, by omega, by omega, fun t h1 h2 => ?_, fun t h1 h2 => ?_, ?_⟩⟩
        · rcases Nat.lt_or_ge t j with h | h
          · exact hS.rank t h1 h
          · rcases Nat.lt_or_ge j t with h' | h'
            · have := hS2.rank t (by omega) h2; omega
            · have : t = j := by omega
              subst this; omega
        · rw [hk]
          rcases Nat.lt_or_ge t j with h | h
          · exact hS.rank t h1 h
          · rcases Nat.lt_or_ge j t with h' | h'
            · have := hS2.rank t (by omega) h2; omega
            · have : t = j := by omega
              subst this; omega
        · have := hS2.rank t (by omega) h2; omega
        · show (s2.out ++ [_])[_]? = _
          rw [List.getElem?_append_right (by omega), e1, Nat.sub_self, hkind, e0]
          rw [show s.out.length + 2 * (j - i) + 1 + 2 * (j2 - (j + 1)) = s.out.length + 2 * (j2 - i) - 1 by omega]
          rfl
      obtain ⟨j3, s3, hp3, hS4, hr4⟩ := ih i j2 s _ (by omega) hS3 hr2
      refine ⟨j3, s3, .loop_go hx hp ?_, hS4, hr4⟩
      rw [e1]
      exact hp3
    · exact ⟨j, s1, .loop_end (R.ix_no hn hS.le2 hS.at_ (.inr hk)), hS, .inr (by omega)⟩

theorem Row.lev {T : List TokD} {ops : List Nat} (R : Row T ops) : ∀ (d n : Nat), n + d = 4 → ∀ (i : Nat) (s : PSt), i ≤ ops.length → s.at_ = 2 * i → ∃ j s1, PE T (modeN n) s (.ok s1 (s.out.length + 2 * (j - i))) ∧ Seg ops n i j s s1 ∧ (j = ops.length ∨ rk ops j < n) := by
  intro d
  induction d with
  | zero =>
    intro n hn i s hi hs
    have hn : n = 4 := by omega
    subst hn
    have hk : (tokAt T s).kind = 1 := by unfold tokAt; rw [hs]; exact R.num i hi
    have hS : isS T s [45] = false := by simp [isS, hk]
    refine ⟨i, putS (adv s) { kind := 1, num := (tokAt T s).num }, .un_prim hS (by rw [Nat.sub_self, Nat.mul_zero, Nat.add_zero]; exact .pr_num hk), ⟨Nat.le_refl _, hi, by show s.at_ + 1 = _; rw [hs], rfl, by show (s.out ++ [_]).length = _; simp, (fun t h1 h2 => by omega), (fun h => by omega)⟩, .inr (rank_lt _)⟩
  | succ d ih =>
    intro n hn i s hi hs
    have hn4 : n < 4 := by omega
    have hb := below_mode hn4
    have sub : ∀ (i : Nat) (s : PSt), i ≤ ops.length → s.at_ = 2 * i → ∃ j s1, PE T (below n) s (.ok s1 (s.out.length + 2 * (j - i))) ∧ Seg ops (n + 1) i j s s1 ∧ (j = ops.length ∨ rk ops j < n + 1) := by
      intro i s hi hs
      rw [hb]
      exact ih (n + 1) (by omega) i s hi hs
    obtain ⟨j, s1, hp, hS, hr⟩ := sub i s hi hs
    have hS' : Seg ops n i j s s1 := ⟨hS.le, hS.le2, hS.at_, hS.deep, hS.len, fun t h1 h2 => by have := hS.rank t h1 h2; omega, hS.top⟩
    obtain ⟨j', s2, hp2, hS2, hr2⟩ := R.loop hn4 sub _ i j s s1 (Nat.le_refl _) hS' hr
    refine ⟨j', s2, ?_, hS2, hr2⟩
    rw [modeN, if_pos hn4]
    exact .lev_ok hp hp2

/-- What is read, whole. -/
theorem Row.parsed {T : List TokD} {ops : List Nat} (R : Row T ops) (h : 0 < ops.length) : ∃ l, Parsed T (.ok l) ∧ l.length = 2 * ops.length + 1 ∧ ∃ k, k < ops.length ∧ (∀ t, t < ops.length → rk ops k ≤ rk ops t) ∧ (∀ t, k < t → t < ops.length → rk ops k < rk ops t) ∧
    l[2 * ops.length]? = some { kind := 9 + (ops.getD k 0 : Int), kids := [((2 * k : Nat) : Int), ((2 * ops.length - 1 : Nat) : Int)] } := by
  obtain ⟨j, s1, hp, hS, hr⟩ := R.lev 4 0 rfl 0 ⟨0, [], 0⟩ (by omega) rfl
  have hj : j = ops.length := hr.resolve_right (by omega)
  subst hj
  obtain ⟨k, h1, h2, h3, h4, h5⟩ := hS.top h
  refine ⟨s1.out, ⟨s1, _, hp, by unfold tokAt; rw [hS.at_]; exact R.fin, rfl⟩, by have := hS.len; simpa using this, k, h2, fun t ht => h3 t (by omega) ht, h4, ?_⟩
  simpa using h5
end Go.Proofs.YtfpklhgkndnjjaaDoor
