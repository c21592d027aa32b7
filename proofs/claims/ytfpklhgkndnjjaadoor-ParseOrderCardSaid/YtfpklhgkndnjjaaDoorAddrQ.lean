/-
  Plain laws: a reference's text tells the reference. No program in sight.
-/
import Derived.Test.YtfpklhgkndnjjaaDoorAddrC
namespace Go.Proofs.YtfpklhgkndnjjaaDoor
open Go Go.E

theorem byte_is {l : List UInt8} {i : Nat} {c : UInt8} (hi : i < l.length) : byte l i = (c.toNat : Int) ↔ l[i]? = some c := by
  rw [byte_eq hi, List.getElem?_eq_getElem hi]
  constructor
  · intro h
    have : l[i].toNat = c.toNat := by omega
    rw [UInt8.toNat_inj.1 this]
  · intro h
    simp only [Option.some.injEq] at h
    rw [h]

theorem occ33 (s : List UInt8) (i : Nat) : Lib.occAt s [33] i = decide (s[i]? = some 33) := by
  unfold Lib.occAt
  cases h : s.drop i with
  | nil =>
    have : s.length ≤ i := by
      have := congrArg List.length h
      simp at this; omega
    simp [List.getElem?_eq_none this]
  | cons c r =>
    have hlt : i < s.length := by
      have := congrArg List.length h
      simp at this; omega
    have : s[i]? = some c := by
      have := congrArg (fun l : List UInt8 => l[0]?) h
      simpa using this
    rw [this]
    rw [Bool.eq_iff_iff]
    simp [List.isPrefixOf]
    exact eq_comm

theorem cut_found {s : List UInt8} {k : Nat} (hk : k < s.length) (h : byte s k = 33) (hn : ∀ j, j < k → byte s j ≠ 33) : Lib.cut s [33] = (s.take k, s.drop (k + 1), true) := by
  have hi : Lib.index s [33] = k := by
    refine Lib.index_hit (fun j hj => ?_) (by omega) ?_
    · rw [occ33, decide_eq_false_iff_not]
      intro hh
      exact hn j hj ((byte_is (c := 33) (by omega)).2 hh)
    · rw [occ33, decide_eq_true_eq]
      exact (byte_is (c := 33) hk).1 h
  unfold Lib.cut
  rw [hi, if_pos (by omega)]
  simp
theorem cut_none {s : List UInt8} (hn : ∀ j, j < s.length → byte s j ≠ 33) : Lib.cut s [33] = (s, [], false) := by
  have hi : Lib.index s [33] = -1 := by
    refine Lib.index_past (i := s.length) (by simp) (fun j hj => ?_) (by simp)
    rw [occ33, decide_eq_false_iff_not]
    intro hh
    exact hn j hj ((byte_is (c := 33) hj).2 hh)
  unfold Lib.cut
  rw [hi, if_neg (by omega)]

theorem pre36 (l : List UInt8) : Lib.hasPrefix l [36] = decide (0 < l.length ∧ byte l 0 = 36) := by
  cases l with
  | nil => rfl
  | cons c r =>
    rw [Bool.eq_iff_iff]
    have := byte_is (l := c :: r) (i := 0) (c := 36) (by simp)
    simp [Lib.hasPrefix, List.isPrefixOf]
    rw [show (36 : Int) = (((36 : UInt8).toNat : Nat) : Int) from rfl, this]
    simp [eq_comm]
theorem trim36 (l : List UInt8) : Lib.trimPrefix l [36] = if 0 < l.length ∧ byte l 0 = 36 then l.drop 1 else l := by
  unfold Lib.trimPrefix
  rw [pre36]
  simp only [decide_eq_true_eq]
  rfl

/-- Three digits. -/
def d3 (n : Nat) : List UInt8 :=
  if n < 10 then [ch (48 + (n : Int))] else if n < 100 then [ch (48 + ((n / 10 : Nat) : Int)), ch (48 + (n : Int) % 10)] else [ch (48 + ((n / 100 : Nat) : Int)), ch (48 + ((n / 10 : Nat) : Int) % 10), ch (48 + (n : Int) % 10)]
theorem decDigits_small' {u : Nat} (h : u < 10) : Lib.decDigits u = [ch (48 + (u : Int))] := by
  rw [Lib.decDigits, dif_pos h]
  rfl
theorem decDigits_big' {u : Nat} (h : 10 ≤ u) : Lib.decDigits u = Lib.decDigits (u / 10) ++ [ch (48 + (u : Int) % 10)] := by
  rw [Lib.decDigits, dif_neg (by omega)]
  congr 2
theorem d3_eq {n : Nat} (h : n < 1000) : Lib.decDigits n = d3 n := by
  unfold d3
  split
  · rename_i h1; exact decDigits_small' h1
  · rename_i h1
    rw [decDigits_big' (by omega)]
    split
    · rw [decDigits_small' (by omega)]; rfl
    · rw [decDigits_big' (by omega), decDigits_small' (by omega)]
      have : n / 10 / 10 = n / 100 := by omega
      rw [this]; rfl
def okDigits (n : Nat) : Bool := (d3 n).all (fun c => digB (c.toNat : Int)) && decide (0 < (d3 n).length) && decide ((d3 n).length ≤ 3) && decide (Lib.atoiAll (d3 n) = .ok (n : Int))
theorem all_digits : ∀ n : Fin 1000, okDigits n.val = true := by decide +kernel
theorem itoa_d3 {z : Int} (h0 : 0 ≤ z) (h1 : z < 1000) : Lib.itoa z = d3 z.toNat := by
  unfold Lib.itoa
  rw [if_neg (by omega), d3_eq (by omega)]
theorem itoa_ok {z : Int} (h0 : 0 ≤ z) (h1 : z < 1000) : (∀ c ∈ Lib.itoa z, digB (c.toNat : Int) = true) ∧ 0 < (Lib.itoa z).length ∧ (Lib.itoa z).length ≤ 3 ∧ Lib.atoiAll (Lib.itoa z) = .ok z := by
  have := all_digits ⟨z.toNat, by omega⟩
  rw [itoa_d3 h0 h1]
  simp only [okDigits, Bool.and_eq_true, List.all_eq_true, decide_eq_true_eq] at this
  obtain ⟨⟨⟨a1, a2⟩, a3⟩, a4⟩ := this
  exact ⟨a1, a2, a3, by rw [a4]; congr 1; omega⟩

def okCol (n : Nat) : Bool := (colT (n : Int)).all (fun c => capB (c.toNat : Int)) && decide (0 < (colT (n : Int)).length) && decide (readCol (colT (n : Int)) = some (n : Int))
theorem all_cols : ∀ n : Fin 702, okCol n.val = true := by decide +kernel
theorem col_ok {z : Int} (h0 : 0 ≤ z) (h1 : z ≤ 701) : (∀ c ∈ colT z, capB (c.toNat : Int) = true) ∧ 0 < (colT z).length ∧ readCol (colT z) = some z := by
  have := all_cols ⟨z.toNat, by omega⟩
  have e : ((z.toNat : Nat) : Int) = z := by omega
  simp only [okCol, e, Bool.and_eq_true, List.all_eq_true, decide_eq_true_eq] at this
  exact ⟨this.1.1, this.1.2, this.2⟩

theorem may_parts {r : RefD} (h : mayB r = true) : (r.sheet = [] ∨ nameB r.sheet = true) ∧ 0 ≤ r.col ∧ r.col ≤ 701 ∧ 0 ≤ r.row ∧ r.row ≤ 998 := by
  simp only [mayB, Bool.and_eq_true, Bool.or_eq_true, decide_eq_true_eq] at h
  exact ⟨h.1.1.1.1, h.1.1.1.2, h.1.1.2, h.1.2, h.2⟩
theorem name_parts {l : List UInt8} (h : nameB l = true) : l ≠ [] ∧ l.length ≤ 12 ∧ ∀ j, j < l.length → ldB (byte l j) = true := by
  simp only [nameB, Bool.and_eq_true, decide_eq_true_eq] at h
  exact ⟨h.1.1.1, h.1.1.2, h.2⟩

def tail3 (r : RefD) : List UInt8 := Lib.itoa (r.row + 1)
def tail2 (r : RefD) : List UInt8 := markT r.ar ++ tail3 r
def tail1 (r : RefD) : List UInt8 := colT r.col ++ tail2 r
def tail0 (r : RefD) : List UInt8 := markT r.ac ++ tail1 r

theorem textB_eq (r : RefD) : textB r = (if r.sheet = [] then [] else r.sheet ++ [33]) ++ tail0 r := by
  simp [textB, tail0, tail1, tail2, tail3]

theorem take_span (p : Int → Bool) : ∀ (a b : List UInt8), (∀ c ∈ a, p (c.toNat : Int) = true) → (b = [] ∨ p (byte b 0) = false) → spanL p (a ++ b) = a ∧ restL p (a ++ b) = b
  | [], b, _, hb => by
    cases b with
    | nil => simp [spanL, restL]
    | cons c r =>
      have hc : p (c.toNat : Int) = false := by
        rcases hb with hb | hb
        · cases hb
        · exact hb
      simp [spanL, restL, hc]
  | c :: a, b, ha, hb => by
    have hc := ha c (by simp)
    obtain ⟨h1, h2⟩ := take_span p a b (fun d hd => ha d (by simp [hd])) hb
    simp only [spanL, restL] at h1 h2 ⊢
    simp [hc, h1, h2]

theorem byte_append_left {a b : List UInt8} {j : Nat} (h : j < a.length) : byte (a ++ b) j = byte a j := by
  unfold byte
  rw [List.getD_eq_getElem?_getD, List.getD_eq_getElem?_getD, List.getElem?_append_left h]
theorem byte_mem {l : List UInt8} {j : Nat} (h : j < l.length) : ∃ c ∈ l, byte l j = (c.toNat : Int) := ⟨l[j], List.getElem_mem h, byte_eq h⟩

theorem cap_not (z : Int) (h : capB z = true) : z ≠ 33 ∧ z ≠ 36 ∧ digB z = false := by
  simp [capB] at h
  refine ⟨by omega, by omega, ?_⟩
  simp [digB]; omega
theorem dig_not (z : Int) (h : digB z = true) : z ≠ 33 ∧ z ≠ 36 ∧ capB z = false := by
  simp [digB] at h
  refine ⟨by omega, by omega, ?_⟩
  simp [capB]; omega
theorem ld_not (z : Int) (h : ldB z = true) : z ≠ 33 ∧ z ≠ 36 := by
  simp [ldB, letB, capB, digB] at h
  omega

theorem no33 {r : RefD} (h : mayB r = true) : ∀ c ∈ tail0 r, (c.toNat : Int) ≠ 33 := by
  obtain ⟨_, c0, c1, r0, r1⟩ := may_parts h
  obtain ⟨hc, _, _⟩ := col_ok c0 c1
  obtain ⟨hd, _, _, _⟩ := itoa_ok (z := r.row + 1) (by omega) (by omega)
  intro c hm
  have mk : ∀ b, c ∈ markT b → (c.toNat : Int) ≠ 33 := fun b hb => by
    cases b
    · simp [markT] at hb
    · simp [markT] at hb; subst hb; decide
  simp only [tail0, tail1, tail2, tail3, List.mem_append] at hm
  rcases hm with hm | hm | hm | hm
  · exact mk _ hm
  · exact (cap_not _ (hc c hm)).1
  · exact mk _ hm
  · exact (dig_not _ (hd c hm)).1

/-- The parts of a reference's text. -/
theorem parse {r : RefD} (h : mayB r = true) :
    candS (textB r) = r.sheet ∧ candR (textB r) = tail0 r ∧ Lib.hasPrefix (tail0 r) [36] = r.ac ∧ cand1 (textB r) = tail1 r ∧ spanL capB (tail1 r) = colT r.col ∧ cand2 (textB r) = tail2 r ∧
    Lib.hasPrefix (tail2 r) [36] = r.ar ∧ cand3 (textB r) = tail3 r ∧ spanL digB (tail3 r) = tail3 r := by
  obtain ⟨hs, c0, c1, r0, r1⟩ := may_parts h
  obtain ⟨hc, hcl, _⟩ := col_ok c0 c1
  obtain ⟨hd, hdl, _, _⟩ := itoa_ok (z := r.row + 1) (by omega) (by omega)
  have h33 := no33 h
  have e0 : candS (textB r) = r.sheet ∧ candR (textB r) = tail0 r := by
    rw [textB_eq]
    by_cases hsh : r.sheet = []
    · rw [if_pos hsh, List.nil_append]
      have hcut := cut_none (s := tail0 r) (fun j hj => by
        obtain ⟨c, hm, e⟩ := byte_mem hj
        rw [e]; exact h33 c hm)
      simp [candS, candR, hcut, hsh]
    · rw [if_neg hsh]
      have hn : nameB r.sheet = true := hs.resolve_left hsh
      obtain ⟨_, _, hld⟩ := name_parts hn
      have hcut := cut_found (s := r.sheet ++ [33] ++ tail0 r) (k := r.sheet.length) (by simp)
        (by
          refine (byte_is (c := 33) (by simp)).2 ?_
          simp)
        (fun j hj => by
          rw [List.append_assoc, byte_append_left hj]
          exact (ld_not _ (hld j hj)).1)
      have t1 : (r.sheet ++ [33] ++ tail0 r).take r.sheet.length = r.sheet := by rw [List.append_assoc, List.take_left]
      have t2 : (r.sheet ++ [33] ++ tail0 r).drop (r.sheet.length + 1) = tail0 r := by
        have : (r.sheet ++ [33]).length = r.sheet.length + 1 := by simp
        rw [← this, List.drop_left]
      rw [t1, t2] at hcut
      unfold candS candR
      rw [hcut]
      exact ⟨rfl, rfl⟩
  have bcol : byte (tail1 r) 0 ≠ 36 := by
    obtain ⟨c, hm, e⟩ := byte_mem hcl
    rw [tail1, byte_append_left hcl, e]
    exact (cap_not _ (hc c hm)).2.1
  have bdig : byte (tail3 r) 0 ≠ 36 ∧ capB (byte (tail3 r) 0) = false := by
    obtain ⟨c, hm, e⟩ := byte_mem hdl
    rw [tail3, e]
    exact (dig_not _ (hd c hm)).2
  have p0 : Lib.hasPrefix (tail0 r) [36] = r.ac ∧ Lib.trimPrefix (tail0 r) [36] = tail1 r := by
    rw [pre36, trim36]
    cases ha : r.ac with
    | true =>
      have e : tail0 r = 36 :: tail1 r := by simp [tail0, markT, ha]
      have b : byte (36 :: tail1 r) 0 = 36 := rfl
      rw [e]; simp [b]
    | false =>
      have e : tail0 r = tail1 r := by simp [tail0, markT, ha]
      rw [e]; simp [bcol]
  have p2 : Lib.hasPrefix (tail2 r) [36] = r.ar ∧ Lib.trimPrefix (tail2 r) [36] = tail3 r := by
    rw [pre36, trim36]
    cases ha : r.ar with
    | true =>
      have e : tail2 r = 36 :: tail3 r := by simp [tail2, markT, ha]
      have b : byte (36 :: tail3 r) 0 = 36 := rfl
      rw [e]; simp [b]
    | false =>
      have e : tail2 r = tail3 r := by simp [tail2, markT, ha]
      rw [e]; simp [bdig.1]
  have hb2 : capB (byte (tail2 r) 0) = false := by
    cases ha : r.ar with
    | true =>
      have e : tail2 r = 36 :: tail3 r := by simp [tail2, markT, ha]
      rw [e]; rfl
    | false =>
      have e : tail2 r = tail3 r := by simp [tail2, markT, ha]
      rw [e]; exact bdig.2
  have s1 := take_span capB (colT r.col) (tail2 r) hc (Or.inr hb2)
  have s3 := take_span digB (tail3 r) [] hd (Or.inl rfl)
  rw [List.append_nil] at s3
  have k1 : cand1 (textB r) = tail1 r := by rw [cand1, e0.2, p0.2]
  have k2 : cand2 (textB r) = tail2 r := by rw [cand2, k1]; exact s1.2
  exact ⟨e0.1, e0.2, p0.1, k1, s1.1, k2, p2.1, by rw [cand3, k2, p2.2], s3.1⟩

theorem textB_ne {r : RefD} (h : mayB r = true) : textB r ≠ [] := by
  obtain ⟨_, _, _, r0, r1⟩ := may_parts h
  obtain ⟨_, hdl, _, _⟩ := itoa_ok (z := r.row + 1) (by omega) (by omega)
  intro he
  have := congrArg List.length he
  simp [textB] at this
  have h2 := this.2.2.2.2
  rw [h2] at hdl; simp at hdl

/-- A reference's text is told as it. -/
theorem read_text {r : RefD} (h : mayB r = true) : okRead (textB r) = true ∧ candV (textB r) = r := by
  obtain ⟨q1, q2, q3, q4, q5, q6, q7, q8, q9⟩ := parse h
  obtain ⟨_, c0, c1, r0, r1⟩ := may_parts h
  obtain ⟨_, _, hrc⟩ := col_ok c0 c1
  obtain ⟨_, _, _, hat⟩ := itoa_ok (z := r.row + 1) (by omega) (by omega)
  have hro : rowOf (textB r) = some (r.row + 1) := by
    unfold rowOf
    rw [q8, q9, tail3, hat]
  have hv : candV (textB r) = r := by
    unfold candV
    rw [q1, q4, q5, hrc, hro, q2, q3, q6, q7]
    have : IntKind.i64.wrap ((some (r.row + 1)).getD 0 - 1) = r.row := by
      rw [Option.getD_some, show r.row + 1 - 1 = r.row by omega]
      exact wrap_i64 (by omega) (by omega)
    rw [this]
    rfl
  refine ⟨?_, hv⟩
  unfold okRead
  rw [hv, q4, q5, hrc, hro, textT, if_pos h]
  simp [textB_ne h]
theorem read_is {s : List UInt8} (h : okRead s = true) : mayB (candV s) = true ∧ textB (candV s) = s := by
  simp only [okRead, Bool.and_eq_true, decide_eq_true_eq, Bool.not_eq_true', decide_eq_false_iff_not] at h
  obtain ⟨⟨_, h1⟩, h2⟩ := h
  unfold textT at h1
  split at h1
  · rename_i hm; exact ⟨hm, h1⟩
  · exact absurd h1.symm h2
theorem read_no {s : List UInt8} (h : ∀ r, mayB r = true → textB r ≠ s) : okRead s = false := by
  cases hk : okRead s
  · rfl
  · obtain ⟨a, b⟩ := read_is hk
    exact absurd b (h _ a)
end Go.Proofs.YtfpklhgkndnjjaaDoor
