/-
  Walks: the document's reader of tokens: numbers, texts, words.
  Walks: the document's reader of tokens: texts, names, words.
  Walks: the document's reader of tokens: words, signs.
  Walks: the document's reader of tokens: signs, one token.
  Walks: the document's tokens of a text.
  The laws of layer 4: what they call; the tokens of any text.
-/
import Derived.Test.YtiloogjageledaaGreatDoorLexL
import Derived.Test.YtiloogjageledaaGreatDoorAddr
namespace Go.Proofs.YtiloogjageledaaGreatDoor
open Go Go.E

/-- What the document's readers tell. -/
def RT (i : Nat) (w : World) (o : Option (TokD × Nat)) (v : Value) (w' : World) : Prop :=
  (match o with
    | none => ∃ t, v = .tuple #[.agg ⟨tokL t⟩, .int .i64 0]
    | some (t, k) => v = .tuple #[.agg ⟨tokL { t with at_ := (i : Int) }⟩, .int .i64 ((k : Nat) : Int)]) ∧ Ext w w'

theorem take_byte {s : List UInt8} {k : Nat} (h : k < s.length) : s.take (k + 1) = s.take k ++ [ch (byte s k)] := by
  rw [take_snoc' h]
  congr 2
  rw [byte_eq h, ch]
  simp
theorem numT_byte (acc : Int) (l : List UInt8) {z : Int} (h0 : 0 ≤ z) (h1 : z ≤ 255) : numT acc (l ++ [ch z]) = 10 * numT acc l + (z - 48) := by
  rw [numT_snoc, ch_toNat h0 h1]
theorem drop_take_byte {s : List UInt8} {i k : Nat} (hi : i ≤ k) (h : k < s.length) : (s.take (k + 1)).drop i = (s.take k).drop i ++ [ch (byte s k)] := by
  rw [take_byte h, List.drop_append_of_le_length (by simp; omega)]
theorem numT_zero_bytes : ∀ (l : List UInt8) (acc : Int), 0 ≤ acc → (∀ c ∈ l, 48 ≤ c.toNat) → numT acc l = 0 → acc = 0 ∧ ∀ c ∈ l, c.toNat = 48
  | [], acc, _, _, h => ⟨h, by simp⟩
  | c :: r, acc, ha, hd, h => by
    have hc := hd c (by simp)
    obtain ⟨e, hr⟩ := numT_zero_bytes r (10 * acc + ((c.toNat : Int) - 48)) (by omega) (fun x hx => hd x (by simp [hx])) h
    exact ⟨by omega, fun x hx => by
      simp only [List.mem_cons] at hx
      rcases hx with rfl | hx
      · omega
      · exact hr x hx⟩

theorem take_drop_self (s : List UInt8) (i : Nat) : (s.take i).drop i = [] := List.drop_eq_nil_of_le (by simp; omega)
theorem span_append (p : Int → Bool) : ∀ (a b : List UInt8), (∀ c ∈ a, p (c.toNat : Int) = true) → spanL p (a ++ b) = a ++ spanL p b
  | [], _, _ => rfl
  | c :: a, b, h => by
    have hc := h c (by simp)
    have ih := span_append p a b (fun d hd => h d (by simp [hd]))
    simp only [spanL] at ih ⊢
    simp [hc, ih]
/-- Digits that have been read, more than one of which the first is a nought, or too many: none. -/
theorem num_over {s : List UInt8} {i k : Nat} (hi : i ≤ k) (hk : k < s.length) (hall : ∀ j, i ≤ j → j ≤ k → digB (byte s j) = true)
    (h : 9223372036854775807 < numT 0 ((s.take (k + 1)).drop i) ∨ (i < k ∧ numT 0 ((s.take k).drop i) = 0)) : numO (s.drop i) = none := by
  have hD : (s.take (k + 1)).drop i <+: spanL digB (s.drop i) := by
    rw [show (s.take (k + 1)).drop i = (s.drop i).take (k + 1 - i) by rw [List.drop_take]]
    have e1 : ∀ c ∈ (s.drop i).take (k + 1 - i), digB (c.toNat : Int) = true := by
      intro c hc
      obtain ⟨j, hj, rfl⟩ := List.mem_iff_getElem.1 hc
      simp only [List.length_take, List.length_drop] at hj
      have := hall (i + j) (by omega) (by omega)
      rw [byte_eq (by omega)] at this
      simpa using this
    have e2 := span_append digB _ ((s.drop i).drop (k + 1 - i)) e1
    rw [List.take_append_drop] at e2
    rw [e2]
    exact List.prefix_append _ _
  obtain ⟨r, hr⟩ := hD
  have hne : spanL digB (s.drop i) ≠ [] := by
    rw [← hr, drop_take_byte hi hk]
    simp
  have hdig := span_all digB (s.drop i)
  have h48 : ∀ c ∈ spanL digB (s.drop i), 48 ≤ c.toNat := fun c hc => by
    have := hdig c hc
    simp [digB] at this
    omega
  rw [numO_is hne, if_neg]
  rintro ⟨h1, h2⟩
  rcases h with h | ⟨hlt, h⟩
  · rw [← hr] at h1
    have e : numT 0 ((s.take (k + 1)).drop i ++ r) = numT (numT 0 ((s.take (k + 1)).drop i)) r := by simp [numT]
    have := numT_mono r (numT 0 ((s.take (k + 1)).drop i)) (by omega) (fun c hc => h48 c (by rw [← hr]; simp [hc]))
    omega
  · have e : spanL digB (s.drop i) = (s.take k).drop i ++ ([ch (byte s k)] ++ r) := by rw [← hr, drop_take_byte hi hk, List.append_assoc]
    have hz := (numT_zero_bytes ((s.take k).drop i) 0 (by omega) (fun c hc => h48 c (by rw [e]; simp [hc])) h).2
    have hl : ((s.take k).drop i).length = k - i := by simp; omega
    have hb : byte (spanL digB (s.drop i)) 0 = 48 := by
      rw [e, byte_append_left (by omega)]
      obtain ⟨c, hm, hc⟩ := byte_mem (l := (s.take k).drop i) (j := 0) (by omega)
      rw [hc, hz c hm]
      rfl
    rcases h2 with h2 | h2
    · exact h2 hb
    · rw [e] at h2
      simp at h2
      omega
theorem num_good {s : List UInt8} {i k : Nat} (hi : i < k) (hk : k ≤ s.length) (hall : ∀ j, i ≤ j → j < k → digB (byte s j) = true) (hend : k = s.length ∨ digB (byte s k) = false)
    (h1 : numT 0 ((s.take k).drop i) ≤ 9223372036854775807) (h2 : i + 1 < k → numT 0 ((s.take (i + 1)).drop i) ≠ 0) : numO (s.drop i) = some (⟨1, [], numT 0 ((s.take k).drop i), refN, 0⟩, k - i) := by
  obtain ⟨e1, e2⟩ := span_from digB s i k (by omega) hk hall hend
  have hne : spanL digB (s.drop i) ≠ [] := by
    intro hn
    rw [hn] at e2
    simp at e2
    omega
  rw [numO_is hne, ← e1, if_pos]
  · congr 2
    simp
    omega
  · refine ⟨h1, ?_⟩
    by_cases hl : i + 1 < k
    · refine .inl fun hb => h2 hl ?_
      rw [drop_take_byte (Nat.le_refl i) (by omega)]
      have := take_drop_self s i
      rw [this, List.nil_append]
      rw [e1, (span_pos (p := digB) (l := s.drop i) (by simp; omega) (by rw [byte_drop']; exact hall i (by omega) (by omega))).2, byte_drop'] at hb
      have hb : byte s i = 48 := hb
      rw [hb]
      rfl
    · right
      simp
      omega

theorem rnumber_ret (s : List UInt8) (hs : s.length ≤ 1000) (i : Nat) (hi : i < s.length) (hd : digB (byte s i) = true) (w : World) :
    Ret Tryz.prog 157 [str s, .int .i64 i] w (RT i w (numO (s.drop i))) := by
  refine Ret.enter Tryz.func157 rfl Tryz.ntmps157 (by kernel_rfl) rfl ?_
  refine Sa ?_
  (apply LW.alloc; exact rfl; exact rfl; exact rfl; intro C w1 hbC hx hC)
  refine Sa ?_
  refine CW.loop (ι := Nat) (fun k w' => i ≤ k ∧ k ≤ s.length ∧ Ext w w' ∧ Blk w' C (tokL ⟨0, [], 0, refN, 0⟩) 102 ∧ (∀ j, i ≤ j → j < k → digB (byte s j) = true) ∧ 0 ≤ numT 0 ((s.take k).drop i) ∧ numT 0 ((s.take k).drop i) ≤ 9223372036854775807 ∧ (i + 1 < k → numT 0 ((s.take (i + 1)).drop i) ≠ 0)) (fun k => [(0, str s), (1, .int .i64 i), (4, .pointer (some ⟨C, 0, none⟩)), (6, .int .i64 (numT 0 ((s.take k).drop i))), (7, .int .i64 k)]) (fun k => s.length - k) i
    ⟨by omega, by omega, hx, hC, by omega, ?_, ?_, by omega⟩ ?_ ?_
  · have := take_drop_self s i
    rw [this]; exact Int.le_refl _
  · have := take_drop_self s i
    rw [this]; decide
  · have := take_drop_self s i
    simp only [this]
    exact (Sub.cons rfl (Sub.cons rfl (Sub.cons rfl (Sub.cons rfl (Sub.cons rfl (Sub.nil))))))
  clear hC
  rintro k w2 ⟨hik, hk, hx2, hC, hall, hn0, hn1, hlead⟩
  refine Sa ?_
  refine LW.part rfl rfl rfl (fun h1 => ?_) (fun h1 => ?_)
  · have h1 : k < s.length := by simpa using h1
    refine Sa ?_
    refine LW.call0 rfl rfl (rdigit_ret _ _) ?_
    rintro v w3 ⟨rfl, hx3⟩
    replace hC := hC.ext hx3
    replace hx2 := hx2.trans hx3
    refine Sa ?_
    refine CW.cond rfl (fun h2 => ?_) (fun h2 => ?_)
    · have h2 : digB (byte s k) = true := h2
      have hall' : ∀ j, i ≤ j → j ≤ k → digB (byte s j) = true := fun j hj hjk => by
        by_cases e : j = k
        · subst e; exact h2
        · exact hall j hj (by omega)
      have hdk : 48 ≤ byte s k ∧ byte s k ≤ 57 := by
        have := h2
        simp [digB] at this
        omega
      have hnx : numT 0 ((s.take (k + 1)).drop i) = 10 * numT 0 ((s.take k).drop i) + (byte s k - 48) := by
        rw [drop_take_byte hik h1, numT_byte _ _ (by omega) (by omega)]
      refine Sa ?_
      refine LW.part rfl rfl rfl (fun h3 => ?_) (fun h3 => ?_)
      · have h3 : (9223372036854775807 - (byte s k - 48)) / 10 < numT 0 ((s.take k).drop i) := by simpa using h3
        refine Sa ?_
        refine Sa ?_
        (apply LW.store_all; exact rfl; exact rfl; exact rfl; assumption; exact rfl; exact rfl; exact rfl; intro w8 hc8 hC)
        replace hC : Blk w8 C (tokL ⟨0, [], 0, refN, 0⟩) 102 := hC
        replace hx2 := hx2.step hc8 (by simp; omega)
        refine Sa ?_
        refine QW.body_ct Tryz.results157 rfl hC rfl rfl rfl rfl ⟨?_, hx2⟩
        rw [num_over hik h1 hall' (.inl (by omega))]
        exact ⟨_, rfl⟩
      · have h3 : numT 0 ((s.take k).drop i) ≤ (9223372036854775807 - (byte s k - 48)) / 10 := by simpa using h3
        refine Sa ?_
        refine LW.part rfl rfl rfl (fun h4 => ?_) (fun h4 => ?_)
        · have h4 : i < k := by simp at h4; omega
          refine Sa ?_
          refine CW.cond rfl (fun h5 => ?_) (fun h5 => ?_)
          · have h5 : numT 0 ((s.take k).drop i) = 0 := by simpa using h5
            refine Sa ?_
            (apply LW.store_all; exact rfl; exact rfl; exact rfl; assumption; exact rfl; exact rfl; exact rfl; intro w8 hc8 hC)
            replace hC : Blk w8 C (tokL ⟨0, [], 0, refN, 0⟩) 102 := hC
            replace hx2 := hx2.step hc8 (by simp; omega)
            refine Sa ?_
            refine QW.body_ct Tryz.results157 rfl hC rfl rfl rfl rfl ⟨?_, hx2⟩
            rw [num_over hik h1 hall' (.inr ⟨h4, h5⟩)]
            exact ⟨_, rfl⟩
          · have h5 : numT 0 ((s.take k).drop i) ≠ 0 := by simpa using h5
            refine Sa ?_
            refine QW.again (k + 1) ⟨by omega, by omega, hx2, hC, fun j hj hjk => hall' j hj (by omega), by omega, by omega, ?_⟩ (by rw [hnx]; exact (Sub.cons rfl (Sub.cons rfl (Sub.cons rfl (Sub.cons rfl (Sub.cons rfl (Sub.nil))))))) (by omega)
            intro hl
            by_cases e : i + 1 = k
            · rw [e]; exact h5
            · exact hlead (by omega)
        · have h4 : i = k := by simp at h4; omega
          refine Sa ?_
          refine QW.again (k + 1) ⟨by omega, by omega, hx2, hC, fun j hj hjk => hall' j hj (by omega), by omega, by omega, ?_⟩ (by rw [hnx]; exact (Sub.cons rfl (Sub.cons rfl (Sub.cons rfl (Sub.cons rfl (Sub.cons rfl (Sub.nil))))))) (by omega)
          omega
    · have h2 : digB (byte s k) = false := h2
      refine Sa ?_
      (apply LW.store_all; exact rfl; exact rfl; exact rfl; assumption; exact rfl; exact rfl; exact rfl; intro w8 hc8 hC)
      replace hC : Blk w8 C (tokL ⟨1, [], numT 0 ((s.take k).drop i), refN, i⟩) 102 := hC
      replace hx2 := hx2.step hc8 (by simp; omega)
      refine Sa ?_
      refine QW.body_ct Tryz.results157 rfl hC rfl rfl rfl rfl ⟨?_, hx2⟩
      have hkk : i < k := by
        by_cases e : i = k
        · subst e
          first
          | (rw [hd] at h2; cases h2)
          | omega
        · omega
      rw [num_good hkk hk hall ?_ hn1 hlead]
      · have e : ((k - i : Nat) : Int) = (k : Int) - i := by omega
        show _ = Value.tuple #[_, .int .i64 ((k - i : Nat) : Int)]
        rw [e]
      · exact .inr h2
  · have h1 : k = s.length := by simp at h1; omega
    refine Sa ?_
    (apply LW.store_all; exact rfl; exact rfl; exact rfl; assumption; exact rfl; exact rfl; exact rfl; intro w8 hc8 hC)
    replace hC : Blk w8 C (tokL ⟨1, [], numT 0 ((s.take k).drop i), refN, i⟩) 102 := hC
    replace hx2 := hx2.step hc8 (by simp; omega)
    refine Sa ?_
    refine QW.body_ct Tryz.results157 rfl hC rfl rfl rfl rfl ⟨?_, hx2⟩
    have hkk : i < k := by
      by_cases e : i = k
      · subst e
        first
        | (rw [hd] at h2; cases h2)
        | omega
      · omega
    rw [num_good hkk hk hall ?_ hn1 hlead]
    · have e : ((k - i : Nat) : Int) = (k : Int) - i := by omega
      show _ = Value.tuple #[_, .int .i64 ((k - i : Nat) : Int)]
      rw [e]
    · exact .inl h1
end Go.Proofs.YtiloogjageledaaGreatDoor

namespace Go.Proofs.YtiloogjageledaaGreatDoor
open Go Go.E

theorem rquoted_ret (s : List UInt8) (hs : s.length ≤ 1000) (a : Nat) (ha : a < s.length) (w : World) :
    Ret Tryz.prog 158 [str s, .int .i64 a] w (RT a w (textO (s.drop a))) := by
  refine Ret.enter Tryz.func158 rfl Tryz.ntmps158 (by kernel_rfl) rfl ?_
  refine Sa ?_
  (apply LW.alloc; exact rfl; exact rfl; exact rfl; intro C w1 hbC hx hC)
  have hz1 : C < w1.heap.size := hC.lt
  refine Sa ?_
  refine CW.loop (ι := Nat × List UInt8 × Value) (fun k w' => k.1 ≤ s.length ∧ k.2.1.length ≤ k.1 ∧ Ext w1 w' ∧ Own w' w1.heap.size 5 1 k.2.2 k.2.1.length (bcells k.2.1) ∧ ScanAt s (a + 1) k.1 k.2.1) (fun k => [(0, str s), (1, .int .i64 a), (4, .pointer (some ⟨C, 0, none⟩)), (6, k.2.2), (7, .int .i64 k.1)]) (fun k => s.length - k.1) (a + 1, [], .slice none 0 0) ⟨by simp; omega, by simp, Chg.refl _ _, Own.nil _ _ _ _, ScanAt.start _ _⟩ (Sub.cons rfl (Sub.cons rfl (Sub.cons rfl (Sub.cons rfl (Sub.cons rfl (Sub.nil)))))) ?_
  rintro ⟨i, out, v⟩ w2 ⟨hi, ho, hx2, hown, hsc⟩
  simp only at hi ho hown hsc
  show CW _ _ _ _ _ [(0, str s), (1, .int .i64 a), (4, .pointer (some ⟨C, 0, none⟩)), (6, v), (7, .int .i64 i)] _
  have ha1 := hsc.1
  have hcv : C ∉ vblk v := hown.old hz1
  replace hC := hC.ext hx2
  have hz2 := hx2.size
  refine Sa ?_
  refine CW.cond rfl (fun h1 => ?_) (fun h1 => ?_)
  · have h1 : i < s.length := by simp at h1; omega
    have hby := byte_lt s i
    refine Sa ?_
    refine CW.cond rfl (fun h5 => ?_) (fun h5 => ?_)
    · have h5 : byte s i < 32 := by simpa using h5
      refine Sa ?_
      (apply LW.store_all; exact rfl; exact rfl; exact rfl; assumption; exact rfl; exact rfl; exact rfl; intro w8 hc8 hC)
      replace hC : Blk w8 C (tokL ⟨0, [], 0, refN, 0⟩) 102 := hC
      replace hx2 := (hx.trans hx2).step hc8 (by simp; omega)
      refine Sa ?_
      refine QW.body_ct Tryz.results158 rfl hC rfl rfl rfl rfl ⟨?_, hx2⟩
      have e := hsc.2
      rw [scan_low (i := i) (by omega) h5] at e
      simp only [textO, List.drop_drop]
      rw [e]
      exact ⟨_, rfl⟩
    have h5 : ¬ byte s i < 32 := by simpa using h5
    refine Sa ?_
    refine CW.cond rfl (fun h2 => ?_) (fun h2 => ?_)
    · have h2 : byte s i ≠ 34 := by simpa using h2
      refine Sa ?_
      refine Sa ?_
      (apply LW.buildSlice; exact rfl; exact rfl; exact rfl; exact rfl; exact rfl; exact rfl; exact rfl; exact rfl; exact rfl; intro A w3 hbA hx3 hA)
      replace hown := hown.ext hx3
      replace hx2 := hx2.trans hx3
      have hz3 := hx2.size
      refine Sa ?_
      refine LW.append rfl rfl rfl rfl rfl rfl hown (by omega) hA rfl rfl rfl (by show (out.length + 1) * 2 ≤ 140737488355328; omega) rfl ?_
      intro v' w4 hc4 hown' hv'
      replace hx2 := hx2.step hc4 (fun k hk => (hown.lt hk).1)
      refine Sa ?_
      refine QW.again (i + 1, out ++ [ch (byte s i)], v') ⟨by show i + 1 ≤ _; omega, by show (out ++ _).length ≤ i + 1; simp; omega, hx2, own_snoc hby.1 (by omega) hown', ScanAt.go hsc (by omega) ?_⟩ (Sub.cons rfl (Sub.cons rfl (Sub.cons rfl (Sub.cons rfl (Sub.cons rfl (Sub.nil)))))) (by show s.length - (i + 1) < s.length - i; omega)
      rw [scan_go h1 h2 h5, show i + 1 - i = 1 by omega]
    have h2 : byte s i = 34 := by simpa using h2
    refine Sa ?_
    refine LW.part rfl rfl rfl (fun h3 => ?_) (fun h3 => ?_)
    · have h3 : ¬ i + 1 < s.length := by simp at h3; omega
      have h4 : i + 1 < s.length → byte s (i + 1) ≠ 34 := fun h => absurd h h3
      refine Sa ?_
      refine LW.string_own rfl hown rfl rfl rfl rfl rfl rfl rfl ?_
      refine Sa ?_
      (apply LW.store_all; exact rfl; exact rfl; exact rfl; assumption; exact rfl; exact rfl; exact rfl; intro w8 hc8 hC)
      replace hC : Blk w8 C (tokL ⟨2, out, 0, refN, a⟩) 102 := hC
      replace hx2 := (hx.trans hx2).step hc8 (by simp; omega)
      refine Sa ?_
      refine QW.body_ct Tryz.results158 rfl hC rfl rfl rfl rfl ⟨?_, hx2⟩
      have e := hsc.2
      rw [scan_quote h1 h2 h4] at e
      simp only [textO, List.drop_drop]
      rw [e]
      have e2 : (i : Int) + 1 - a = ((1 + (i - (a + 1)) + 1 : Nat) : Int) := by omega
      simp only [Option.map_some, List.append_nil]
      rw [e2]
    · have h3 : i + 1 < s.length := by simp at h3; omega
      refine Sa ?_
      refine CW.cond rfl (fun h4 => ?_) (fun h4 => ?_)
      · have h4 : i + 1 < s.length → byte s (i + 1) ≠ 34 := fun _ => by simpa using h4
        refine Sa ?_
        refine LW.string_own rfl hown rfl rfl rfl rfl rfl rfl rfl ?_
        refine Sa ?_
        (apply LW.store_all; exact rfl; exact rfl; exact rfl; assumption; exact rfl; exact rfl; exact rfl; intro w8 hc8 hC)
        replace hC : Blk w8 C (tokL ⟨2, out, 0, refN, a⟩) 102 := hC
        replace hx2 := (hx.trans hx2).step hc8 (by simp; omega)
        refine Sa ?_
        refine QW.body_ct Tryz.results158 rfl hC rfl rfl rfl rfl ⟨?_, hx2⟩
        have e := hsc.2
        rw [scan_quote h1 h2 h4] at e
        simp only [textO, List.drop_drop]
        rw [e]
        have e2 : (i : Int) + 1 - a = ((1 + (i - (a + 1)) + 1 : Nat) : Int) := by omega
        simp only [Option.map_some, List.append_nil]
        rw [e2]
      · have h4 : byte s (i + 1) = 34 := by simpa using h4
        refine Sa ?_
        refine Sa ?_
        (apply LW.buildSlice; exact rfl; exact rfl; exact rfl; exact rfl; exact rfl; exact rfl; exact rfl; exact rfl; exact rfl; intro A w3 hbA hx3 hA)
        replace hown := hown.ext hx3
        replace hx2 := hx2.trans hx3
        have hz3 := hx2.size
        refine Sa ?_
        refine LW.append rfl rfl rfl rfl rfl rfl hown (by omega) hA rfl rfl rfl (by show (out.length + 1) * 2 ≤ 140737488355328; omega) rfl ?_
        intro v' w4 hc4 hown' hv'
        replace hx2 := hx2.step hc4 (fun k hk => (hown.lt hk).1)
        refine Sa ?_
        refine QW.again (i + 2, out ++ [ch 34], v') ⟨by show i + 2 ≤ _; omega, by show (out ++ _).length ≤ i + 2; simp; omega, hx2, own_snoc (by omega) (by omega) hown', ScanAt.go hsc (by omega) ?_⟩ (Sub.cons rfl (Sub.cons rfl (Sub.cons rfl (Sub.cons rfl (Sub.cons rfl (Sub.nil)))))) (by show s.length - (i + 2) < s.length - i; omega)
        rw [scan_two h3 h2 h4, show i + 2 - i = 2 by omega]
        rfl
  · have h1 : i = s.length := by simp at h1; omega
    refine Sa ?_
    (apply LW.store_all; exact rfl; exact rfl; exact rfl; assumption; exact rfl; exact rfl; exact rfl; intro w8 hc8 hC)
    replace hC : Blk w8 C (tokL ⟨0, [], 0, refN, 0⟩) 102 := hC
    replace hx2 := (hx.trans hx2).step hc8 (by simp; omega)
    refine Sa ?_
    refine QW.body_ct Tryz.results158 rfl hC rfl rfl rfl rfl ⟨?_, hx2⟩
    have e := hsc.2
    rw [scan_end (i := i) (by omega)] at e
    simp only [textO, List.drop_drop]
    rw [e]
    exact ⟨_, rfl⟩

theorem rcalled_ret (s : List UInt8) (hs : s.length ≤ 1000000) (w : World) : Ret Tryz.prog 124 [str s] w (fun v w' => v = .bool (fnB s) ∧ Ext w w') := by
  refine Ret.enter Tryz.func124 rfl Tryz.ntmps124 (by kernel_rfl) rfl ?_
  refine Sa ?_
  refine CW.loop (ι := Nat) (fun k w' => k ≤ s.length ∧ Ext w w' ∧ ∀ j, j < k → cdB (byte s j) = true) (fun k => [(0, str s), (3, .int .i64 k)]) (fun k => s.length - k) 0 ⟨by omega, Chg.refl _ _, by omega⟩ (Sub.cons rfl (Sub.cons rfl (Sub.nil))) ?_
  rintro k w2 ⟨hk, hx2, hall⟩
  refine Sa ?_
  refine CW.cond rfl (fun h3 => ?_) (fun h3 => ?_)
  · have h3 : k < s.length := by simpa using h3
    refine Sa ?_
    refine LW.call0 rfl rfl (rcapital_ret _ _) ?_
    rintro v w3 ⟨rfl, hx3⟩
    refine Sa ?_
    refine LW.part rfl rfl rfl (fun h4 => ?_) (fun h4 => ?_)
    · refine Sa ?_
      refine LW.call0 rfl rfl (rdigit_ret _ _) ?_
      rintro v w4 ⟨rfl, hx4⟩
      refine Sa ?_
      refine CW.cond rfl (fun h5 => ?_) (fun h5 => ?_)
      · refine Sa ?_
        refine QW.body1 Tryz.results124 rfl ⟨?_, (hx2.trans hx3).trans hx4⟩
        rw [fnB_at h3]
        simp at h4 h5
        simp [cdB, h4, h5]
      · refine Sa ?_
        refine QW.again (k + 1) ⟨by omega, (hx2.trans hx3).trans hx4, ?_⟩ (Sub.cons rfl (Sub.cons rfl (Sub.nil))) (by omega)
        intro j hj
        by_cases hjk : j = k
        · subst hjk; simp at h5; simp [cdB, h5]
        · exact hall j (by omega)
    · refine Sa ?_
      refine QW.again (k + 1) ⟨by omega, hx2.trans hx3, ?_⟩ (Sub.cons rfl (Sub.cons rfl (Sub.nil))) (by omega)
      intro j hj
      by_cases hjk : j = k
      · subst hjk; simp at h4; simp [cdB, h4]
      · exact hall j (by omega)
  · have h3 : k = s.length := by simp at h3; omega
    subst h3
    refine Sa ?_
    refine LW.part rfl rfl rfl (fun h0 => ?_) (fun h0 => ?_)
    · have h0 : 0 < s.length := by simp at h0; omega
      refine Sa ?_
      refine LW.part rfl rfl rfl (fun h1 => ?_) (fun h1 => ?_)
      · have h1 : s.length ≤ 12 := by simp at h1; omega
        refine Sa ?_
        refine LW.call0 rfl rfl (rcapital_ret _ _) ?_
        rintro v w3 ⟨rfl, hx3⟩
        refine Sa ?_
        refine QW.body1 Tryz.results124 rfl ⟨?_, hx2.trans hx3⟩
        cases h2 : capB (byte s 0)
        · rw [fnB_first h2]
          exact congrArg Value.bool h2
        · rw [fnB_true (List.length_pos_iff.1 h0) h1 h2 hall]
          exact congrArg Value.bool h2
      · have h1 : 12 < s.length := by simp at h1; omega
        refine Sa ?_
        refine QW.body1 Tryz.results124 rfl ⟨?_, hx2⟩
        rw [fnB_long h1]
    · have h0 : s = [] := by simp at h0; exact List.eq_nil_of_length_eq_zero (by omega)
      refine Sa ?_
      refine QW.body1 Tryz.results124 rfl ⟨?_, hx2⟩
      rw [h0, fnB_nil]
end Go.Proofs.YtiloogjageledaaGreatDoor

namespace Go.Proofs.YtiloogjageledaaGreatDoor
open Go Go.E

theorem wi_eq (c : Int) : wiB c = (letB c || (digB c || (decide (c = 36) || decide (c = 33)))) := by
  unfold wiB begB letB
  cases capB c <;> cases digB c <;> cases (decide (97 ≤ c) && decide (c ≤ 122)) <;> cases decide (c = 36) <;> cases decide (c = 33) <;> rfl

theorem rword_ret (s : List UInt8) (hs : s.length ≤ 1000) (a : Nat) (ha : a < s.length) (w : World) :
    Ret Tryz.prog 160 [str s, .int .i64 a] w (RT a w (wordO (s.drop a))) := by
  refine Ret.enter Tryz.func160 rfl Tryz.ntmps160 (by kernel_rfl) rfl ?_
  refine Sa ?_
  (apply LW.alloc; exact rfl; exact rfl; exact rfl; intro C w1 hbC hx hC)
  refine Sa ?_
  refine CW.loop (ι := Nat) (fun k w' => a ≤ k ∧ k ≤ s.length ∧ Ext w w' ∧ Blk w' C (tokL ⟨0, [], 0, refN, 0⟩) 102 ∧ (∀ j, a ≤ j → j < k → wiB (byte s j) = true)) (fun k => [(0, str s), (1, .int .i64 a), (4, .pointer (some ⟨C, 0, none⟩)), (6, .int .i64 k)]) (fun k => s.length - k) a
    ⟨by omega, by omega, hx, hC, by omega⟩ (Sub.cons rfl (Sub.cons rfl (Sub.cons rfl (Sub.cons rfl (Sub.nil))))) ?_
  clear hC
  rintro k w2 ⟨hik, hk, hx2, hC, hall⟩
  refine Sa ?_
  refine LW.part rfl rfl rfl (fun h1 => ?_) (fun h1 => ?_)
  · have h1 : k < s.length := by simpa using h1
    refine Sa ?_
    refine LW.call0 rfl rfl (rletter_ret _ _) ?_
    rintro v w3 ⟨rfl, hx3⟩
    replace hC := hC.ext hx3
    replace hx2 := hx2.trans hx3
    refine Sa ?_
    refine LW.part rfl rfl rfl (fun h2 => ?_) (fun h2 => ?_)
    · have h2 : letB (byte s k) = true := h2
      have hw : wiB (byte s k) = true := by rw [wi_eq, h2]; rfl
      refine Sa ?_
      refine QW.again (k + 1) ⟨by omega, by omega, hx2, hC, ?_⟩ (Sub.cons rfl (Sub.cons rfl (Sub.cons rfl (Sub.cons rfl (Sub.nil))))) (by omega)
      intro j hj hjk
      by_cases e : j = k
      · subst e; exact hw
      · exact hall j hj (by omega)
    · have h2 : letB (byte s k) = false := h2
      refine Sa ?_
      refine LW.call0 rfl rfl (rdigit_ret _ _) ?_
      rintro v w4 ⟨rfl, hx4⟩
      replace hC := hC.ext hx4
      replace hx2 := hx2.trans hx4
      refine Sa ?_
      refine LW.part rfl rfl rfl (fun h3 => ?_) (fun h3 => ?_)
      · have h3 : digB (byte s k) = true := h3
        have hw : wiB (byte s k) = true := by rw [wi_eq, h2, h3]; rfl
        refine Sa ?_
        refine QW.again (k + 1) ⟨by omega, by omega, hx2, hC, ?_⟩ (Sub.cons rfl (Sub.cons rfl (Sub.cons rfl (Sub.cons rfl (Sub.nil))))) (by omega)
        intro j hj hjk
        by_cases e : j = k
        · subst e; exact hw
        · exact hall j hj (by omega)
      · have h3 : digB (byte s k) = false := h3
        refine Sa ?_
        refine LW.part rfl rfl rfl (fun h4 => ?_) (fun h4 => ?_)
        · have hw : wiB (byte s k) = true := by rw [wi_eq, h2, h3]; simp at h4; simp [h4]
          refine Sa ?_
          refine QW.again (k + 1) ⟨by omega, by omega, hx2, hC, ?_⟩ (Sub.cons rfl (Sub.cons rfl (Sub.cons rfl (Sub.cons rfl (Sub.nil))))) (by omega)
          intro j hj hjk
          by_cases e : j = k
          · subst e; exact hw
          · exact hall j hj (by omega)
        · refine Sa ?_
          refine CW.cond rfl (fun h5 => ?_) (fun h5 => ?_)
          · have hw : wiB (byte s k) = true := by rw [wi_eq, h2, h3]; simp at h5; simp [h5]
            refine Sa ?_
            refine QW.again (k + 1) ⟨by omega, by omega, hx2, hC, ?_⟩ (Sub.cons rfl (Sub.cons rfl (Sub.cons rfl (Sub.cons rfl (Sub.nil))))) (by omega)
            intro j hj hjk
            by_cases e : j = k
            · subst e; exact hw
            · exact hall j hj (by omega)
          · have hw : wiB (byte s k) = false := by rw [wi_eq, h2, h3]; simp at h4 h5; simp [h4, h5]
            obtain ⟨e1, e2⟩ := span_from wiB s a k hik hk hall (.inr hw)
            refine Sz ?_
            have hcut : cut s a k = spanL wiB (s.drop a) := by rw [cut_mid, e1]
            refine LW.call0 (vs := [str (spanL wiB (s.drop a))]) (by rw [← hcut]; rfl) rfl (ReadRef_ret _ (by have := span_le wiB (s.drop a); simp at this; omega) _) ?_
            rintro v w5 ⟨rfl, hx5⟩
            replace hC := hC.ext hx5
            replace hx2 := hx2.trans hx5
            have hz5 := hC.lt
            cases hr : okRead (spanL wiB (s.drop a)) with
            | true =>
              rw [readV, if_pos hr]
              refine Sa ?_
              (apply LW.alloc; exact rfl; exact rfl; exact rfl; intro F w6 hbF hx6 hF)
              replace hC := hC.ext hx6
              replace hx2 := hx2.trans hx6
              have hzz := hx.size
              refine Sa ?_
              (apply LW.store_all; exact rfl; exact rfl; exact rfl; assumption; exact rfl; exact rfl; exact rfl; intro w7 hc7 hF)
              replace hF : Blk w7 F (refL (candV (spanL wiB (s.drop a)))) 35 := hF
              replace hC := hC.chg hc7 (by simp; omega)
              replace hx2 := hx2.step hc7 (by simp; omega)
              refine Sa ?_
              (apply LW.store_all; exact rfl; exact rfl; exact rfl; assumption; exact rfl; exact rfl; exact rfl; intro w8 hc8 hC)
              replace hC : Blk w8 C (tokL ⟨4, [], 0, candV (spanL wiB (s.drop a)), a⟩) 102 := hC
              replace hx2 := hx2.step hc8 (by simp; omega)
              refine Sa ?_
              refine QW.body_ct Tryz.results160 rfl hC rfl rfl rfl rfl ⟨?_, hx2⟩
              rw [wordO]
              simp only [hr, if_true]
              show _ = Value.tuple #[_, .int .i64 (((spanL wiB (s.drop a)).length : Nat) : Int)]
              rw [show (k : Int) - a = (((spanL wiB (s.drop a)).length : Nat) : Int) by omega]
            | false =>
              rw [no_at hr]
              refine Sa ?_
              (apply LW.alloc; exact rfl; exact rfl; exact rfl; intro F w6 hbF hx6 hF)
              replace hC := hC.ext hx6
              replace hx2 := hx2.trans hx6
              have hzz := hx.size
              refine Sa ?_
              (apply LW.store_all; exact rfl; exact rfl; exact rfl; assumption; exact rfl; exact rfl; exact rfl; intro w7 hc7 hF)
              replace hC := hC.chg hc7 (by simp; omega)
              replace hx2 := hx2.step hc7 (by simp; omega)
              refine Sz ?_
              refine LW.call0 (vs := [str (spanL wiB (s.drop a))]) (by rw [← hcut]; rfl) rfl (rcalled_ret _ (by have := span_le wiB (s.drop a); simp at this; omega) _) ?_
              rintro v w9 ⟨rfl, hx9⟩
              replace hC := hC.ext hx9
              replace hx2 := hx2.trans hx9
              refine Sa ?_
              refine CW.cond rfl (fun hf => ?_) (fun hf => ?_)
              · have hf : fnB (spanL wiB (s.drop a)) = true := hf
                refine Sz ?_
                (apply LW.store_all; exact rfl; exact rfl; exact rfl; assumption; exact rfl; exact rfl; exact rfl; intro w8 hc8 hC)
                replace hC : Blk w8 C (tokL ⟨3, cut s a k, 0, refN, a⟩) 102 := hC
                replace hx2 := hx2.step hc8 (by simp; omega)
                refine Sa ?_
                refine QW.body_ct Tryz.results160 rfl hC rfl rfl rfl rfl ⟨?_, hx2⟩
                rw [wordO]
                simp only [hr, hf, if_true, Bool.false_eq_true, if_false]
                show _ = Value.tuple #[_, .int .i64 (((spanL wiB (s.drop a)).length : Nat) : Int)]
                rw [show (k : Int) - a = (((spanL wiB (s.drop a)).length : Nat) : Int) by omega, hcut]
              · have hf : fnB (spanL wiB (s.drop a)) = false := hf
                refine Sa ?_
                (apply LW.store_all; exact rfl; exact rfl; exact rfl; assumption; exact rfl; exact rfl; exact rfl; intro w8 hc8 hC)
                replace hC : Blk w8 C (tokL ⟨0, [], 0, refN, 0⟩) 102 := hC
                replace hx2 := hx2.step hc8 (by simp; omega)
                refine Sa ?_
                refine QW.body_ct Tryz.results160 rfl hC rfl rfl rfl rfl ⟨?_, hx2⟩
                rw [wordO]
                simp only [hr, hf, Bool.false_eq_true, if_false]
                exact ⟨_, rfl⟩
  · have h1 : k = s.length := by simp at h1; omega
    obtain ⟨e1, e2⟩ := span_from wiB s a k hik hk hall (.inl h1)
    refine Sz ?_
    have hcut : cut s a k = spanL wiB (s.drop a) := by rw [cut_mid, e1]
    refine LW.call0 (vs := [str (spanL wiB (s.drop a))]) (by rw [← hcut]; rfl) rfl (ReadRef_ret _ (by have := span_le wiB (s.drop a); simp at this; omega) _) ?_
    rintro v w5 ⟨rfl, hx5⟩
    replace hC := hC.ext hx5
    replace hx2 := hx2.trans hx5
    have hz5 := hC.lt
    cases hr : okRead (spanL wiB (s.drop a)) with
    | true =>
      rw [readV, if_pos hr]
      refine Sa ?_
      (apply LW.alloc; exact rfl; exact rfl; exact rfl; intro F w6 hbF hx6 hF)
      replace hC := hC.ext hx6
      replace hx2 := hx2.trans hx6
      have hzz := hx.size
      refine Sa ?_
      (apply LW.store_all; exact rfl; exact rfl; exact rfl; assumption; exact rfl; exact rfl; exact rfl; intro w7 hc7 hF)
      replace hF : Blk w7 F (refL (candV (spanL wiB (s.drop a)))) 35 := hF
      replace hC := hC.chg hc7 (by simp; omega)
      replace hx2 := hx2.step hc7 (by simp; omega)
      refine Sa ?_
      (apply LW.store_all; exact rfl; exact rfl; exact rfl; assumption; exact rfl; exact rfl; exact rfl; intro w8 hc8 hC)
      replace hC : Blk w8 C (tokL ⟨4, [], 0, candV (spanL wiB (s.drop a)), a⟩) 102 := hC
      replace hx2 := hx2.step hc8 (by simp; omega)
      refine Sa ?_
      refine QW.body_ct Tryz.results160 rfl hC rfl rfl rfl rfl ⟨?_, hx2⟩
      rw [wordO]
      simp only [hr, if_true]
      show _ = Value.tuple #[_, .int .i64 (((spanL wiB (s.drop a)).length : Nat) : Int)]
      rw [show (k : Int) - a = (((spanL wiB (s.drop a)).length : Nat) : Int) by omega]
    | false =>
      rw [no_at hr]
      refine Sa ?_
      (apply LW.alloc; exact rfl; exact rfl; exact rfl; intro F w6 hbF hx6 hF)
      replace hC := hC.ext hx6
      replace hx2 := hx2.trans hx6
      have hzz := hx.size
      refine Sa ?_
      (apply LW.store_all; exact rfl; exact rfl; exact rfl; assumption; exact rfl; exact rfl; exact rfl; intro w7 hc7 hF)
      replace hC := hC.chg hc7 (by simp; omega)
      replace hx2 := hx2.step hc7 (by simp; omega)
      refine Sz ?_
      refine LW.call0 (vs := [str (spanL wiB (s.drop a))]) (by rw [← hcut]; rfl) rfl (rcalled_ret _ (by have := span_le wiB (s.drop a); simp at this; omega) _) ?_
      rintro v w9 ⟨rfl, hx9⟩
      replace hC := hC.ext hx9
      replace hx2 := hx2.trans hx9
      refine Sa ?_
      refine CW.cond rfl (fun hf => ?_) (fun hf => ?_)
      · have hf : fnB (spanL wiB (s.drop a)) = true := hf
        refine Sz ?_
        (apply LW.store_all; exact rfl; exact rfl; exact rfl; assumption; exact rfl; exact rfl; exact rfl; intro w8 hc8 hC)
        replace hC : Blk w8 C (tokL ⟨3, cut s a k, 0, refN, a⟩) 102 := hC
        replace hx2 := hx2.step hc8 (by simp; omega)
        refine Sa ?_
        refine QW.body_ct Tryz.results160 rfl hC rfl rfl rfl rfl ⟨?_, hx2⟩
        rw [wordO]
        simp only [hr, hf, if_true, Bool.false_eq_true, if_false]
        show _ = Value.tuple #[_, .int .i64 (((spanL wiB (s.drop a)).length : Nat) : Int)]
        rw [show (k : Int) - a = (((spanL wiB (s.drop a)).length : Nat) : Int) by omega, hcut]
      · have hf : fnB (spanL wiB (s.drop a)) = false := hf
        refine Sa ?_
        (apply LW.store_all; exact rfl; exact rfl; exact rfl; assumption; exact rfl; exact rfl; exact rfl; intro w8 hc8 hC)
        replace hC : Blk w8 C (tokL ⟨0, [], 0, refN, 0⟩) 102 := hC
        replace hx2 := hx2.step hc8 (by simp; omega)
        refine Sa ?_
        refine QW.body_ct Tryz.results160 rfl hC rfl rfl rfl rfl ⟨?_, hx2⟩
        rw [wordO]
        simp only [hr, hf, Bool.false_eq_true, if_false]
        exact ⟨_, rfl⟩
end Go.Proofs.YtiloogjageledaaGreatDoor

namespace Go.Proofs.YtiloogjageledaaGreatDoor
open Go Go.E

def pairsT : List (List UInt8) := [[60, 62], [60, 61], [62, 61]]
def sgT : List UInt8 := [43, 45, 42, 47, 38, 61, 60, 62, 40, 41, 44, 58]
def sgB (z : Int) : Bool := decide (z = 43 ∨ z = 45 ∨ z = 42 ∨ z = 47 ∨ z = 38 ∨ z = 61 ∨ z = 60 ∨ z = 62 ∨ z = 40 ∨ z = 41 ∨ z = 44 ∨ z = 58)
theorem sg_all : ∀ n : Fin 256, decide (UInt8.ofNat n.val ∈ sgT) = sgB (n.val : Int) := by decide +kernel
theorem sg_is (c : UInt8) : decide (c ∈ sgT) = sgB (c.toNat : Int) := by
  have := sg_all ⟨c.toNat, c.toNat_lt⟩
  simpa using this
theorem signs_split : signsT = pairsT ++ sgT.map fun c => [c] := rfl
theorem find_self (c : UInt8) : ∀ l : List UInt8, l.find? (fun x => x == c) = if c ∈ l then some c else none
  | [] => rfl
  | d :: r => by
    have ih := find_self c r
    by_cases h : d = c
    · subst h; simp [List.find?]
    · have h' : ¬ c = d := fun e => h e.symm
      have hb : (d == c) = false := by simpa using h
      simp only [List.find?, hb, ih, List.mem_cons, h', false_or]
theorem sign_pair {l : List UInt8} (h : (l.take 2) ∈ pairsT) : signsT.find? (fun s => Lib.hasPrefix l s) = some (l.take 2) := by
  match l, h with
  | [], h => simp [pairsT] at h
  | [_], h => simp [pairsT] at h
  | c :: d :: r, h =>
    simp only [List.take, pairsT, List.mem_cons, List.cons.injEq, and_true, List.not_mem_nil, or_false] at h
    rcases h with ⟨rfl, rfl⟩ | ⟨rfl, rfl⟩ | ⟨rfl, rfl⟩ <;> rfl
theorem sign_single {l : List UInt8} (hl : l ≠ []) (hn : l.take 2 ∉ pairsT) : signsT.find? (fun s => Lib.hasPrefix l s) = if sgB (byte l 0) then some (l.take 1) else none := by
  cases l with
  | nil => exact absurd rfl hl
  | cons c r =>
    have h1 : pairsT.find? (fun s => Lib.hasPrefix (c :: r) s) = none := by
      rw [List.find?_eq_none]
      intro p hp hh
      have h2 : p.length = 2 := by
        have : ∀ p ∈ pairsT, p.length = 2 := by decide
        exact this p hp
      have h3 := List.prefix_iff_eq_take.1 (List.isPrefixOf_iff_prefix.1 hh)
      rw [h2] at h3
      exact hn (h3 ▸ hp)
    have h2 : (fun s => Lib.hasPrefix (c :: r) s) ∘ (fun c : UInt8 => [c]) = fun x => x == c := by
      funext x
      simp [Lib.hasPrefix, List.isPrefixOf]
    rw [signs_split, List.find?_append, h1, List.find?_map, h2, find_self]
    have h3 : sgB (byte (c :: r) 0) = decide (c ∈ sgT) := (sg_is c).symm
    rw [h3]
    by_cases hm : c ∈ sgT
    · simp [hm]
    · simp [hm]

theorem rsign_ret (s : List UInt8) (hs : s.length ≤ 1000) (a : Nat) (ha : a < s.length) (w : World) :
    Ret Tryz.prog 161 [str s, .int .i64 a] w (fun v w' => v = str ((signsT.find? fun p => Lib.hasPrefix (s.drop a) p).getD []) ∧ Ext w w') := by
  have hne : s.drop a ≠ [] := by intro hn; have := congrArg List.length hn; simp at this; omega
  refine Ret.enter Tryz.func161 rfl Tryz.ntmps161 (by kernel_rfl) rfl ?_
  apply CW.seq
  apply CW.region
  refine Sl ?_
  apply LW.nil
  apply QW.then_n
  refine CW.seq_cut (ι := Unit) (fun _ w' => (s.drop a).take 2 ∉ pairsT ∧ Ext w w') (fun _ => [(0, str s), (1, .int .i64 a)]) ?_ ?_
  · refine Sa ?_
    refine CW.cond rfl (fun h1 => ?_) (fun h1 => ?_)
    · have h1 : a + 1 < s.length := by simp at h1; omega
      have hcut : cut s a (a + 2) = (s.drop a).take 2 := by simp [cut]
      refine Sz ?_
      refine CW.cond rfl (fun h2 => ?_) (fun h2 => ?_)
      · have h2 : (s.drop a).take 2 = [60, 62] := by rw [← hcut]; exact of_decide_eq_true h2
        refine Sz ?_
        refine CW.yes rfl (by assumption) ?_
        refine Sz ?_
        refine QW.body1 Tryz.results161 rfl ⟨?_, Chg.refl _ _⟩
        rw [sign_pair (by simp [pairsT, *])]
        exact congrArg str hcut
      have h2 : ¬ (s.drop a).take 2 = [60, 62] := by rw [← hcut]; exact of_decide_eq_false h2
      refine Sz ?_
      refine CW.cond rfl (fun h3 => ?_) (fun h3 => ?_)
      · have h3 : (s.drop a).take 2 = [60, 61] := by rw [← hcut]; exact of_decide_eq_true h3
        refine Sz ?_
        refine CW.yes rfl (by assumption) ?_
        refine Sz ?_
        refine QW.body1 Tryz.results161 rfl ⟨?_, Chg.refl _ _⟩
        rw [sign_pair (by simp [pairsT, *])]
        exact congrArg str hcut
      have h3 : ¬ (s.drop a).take 2 = [60, 61] := by rw [← hcut]; exact of_decide_eq_false h3
      refine Sz ?_
      refine CW.cond rfl (fun h4 => ?_) (fun h4 => ?_)
      · have h4 : (s.drop a).take 2 = [62, 61] := by rw [← hcut]; exact of_decide_eq_true h4
        refine Sz ?_
        refine QW.body1 Tryz.results161 rfl ⟨?_, Chg.refl _ _⟩
        rw [sign_pair (by simp [pairsT, *])]
        exact congrArg str hcut
      have h4 : ¬ (s.drop a).take 2 = [62, 61] := by rw [← hcut]; exact of_decide_eq_false h4
      refine Sz ?_
      exact QW.head () ⟨by simp [pairsT, h2, h3, h4], Chg.refl _ _⟩ (Sub.cons rfl (Sub.cons rfl (Sub.nil)))
    · have h1 : ¬ a + 1 < s.length := by simp at h1; omega
      refine Sz ?_
      refine QW.head () ⟨?_, Chg.refl _ _⟩ (Sub.cons rfl (Sub.cons rfl (Sub.nil)))
      intro hm
      have : ∀ p ∈ pairsT, p.length = 2 := by decide
      have := this _ hm
      simp at this
      omega
  rintro _ w1 ⟨hnp, hx⟩
  have hfind := sign_single hne hnp
  have hb : byte (s.drop a) 0 = byte s a := by rw [byte_drop']; rfl
  rw [hb] at hfind
  apply CW.seq
  apply CW.seq
  apply CW.region
  refine Sl ?_
  apply LW.nil
  apply QW.then_n
  apply CW.block
  refine CW.seq_cut (ι := Bool) (fun b w' => b = sgB (byte s a) ∧ Ext w w') (fun b => [(0, str s), (1, .int .i64 a), (27, .bool b)]) ?_ ?_
  · skip
    refine Sa ?_
    refine CW.cond rfl (fun g0 => ?_) (fun g0 => ?_)
    · refine Sa ?_
      have e : byte s a = 43 := by simpa using g0
      exact QW.head (decide (byte s a = 43)) ⟨by rw [e]; rfl, hx⟩ (Sub.cons rfl (Sub.cons rfl (Sub.cons rfl (Sub.nil))))
    have g0 : byte s a ≠ 43 := by simpa using g0
    refine Sa ?_
    refine CW.cond rfl (fun g1 => ?_) (fun g1 => ?_)
    · refine Sa ?_
      have e : byte s a = 45 := by simpa using g1
      exact QW.head (decide (byte s a = 45)) ⟨by rw [e]; rfl, hx⟩ (Sub.cons rfl (Sub.cons rfl (Sub.cons rfl (Sub.nil))))
    have g1 : byte s a ≠ 45 := by simpa using g1
    refine Sa ?_
    refine CW.cond rfl (fun g2 => ?_) (fun g2 => ?_)
    · refine Sa ?_
      have e : byte s a = 42 := by simpa using g2
      exact QW.head (decide (byte s a = 42)) ⟨by rw [e]; rfl, hx⟩ (Sub.cons rfl (Sub.cons rfl (Sub.cons rfl (Sub.nil))))
    have g2 : byte s a ≠ 42 := by simpa using g2
    refine Sa ?_
    refine CW.cond rfl (fun g3 => ?_) (fun g3 => ?_)
    · refine Sa ?_
      have e : byte s a = 47 := by simpa using g3
      exact QW.head (decide (byte s a = 47)) ⟨by rw [e]; rfl, hx⟩ (Sub.cons rfl (Sub.cons rfl (Sub.cons rfl (Sub.nil))))
    have g3 : byte s a ≠ 47 := by simpa using g3
    refine Sa ?_
    refine CW.cond rfl (fun g4 => ?_) (fun g4 => ?_)
    · refine Sa ?_
      have e : byte s a = 38 := by simpa using g4
      exact QW.head (decide (byte s a = 38)) ⟨by rw [e]; rfl, hx⟩ (Sub.cons rfl (Sub.cons rfl (Sub.cons rfl (Sub.nil))))
    have g4 : byte s a ≠ 38 := by simpa using g4
    refine Sa ?_
    refine CW.cond rfl (fun g5 => ?_) (fun g5 => ?_)
    · refine Sa ?_
      have e : byte s a = 61 := by simpa using g5
      exact QW.head (decide (byte s a = 61)) ⟨by rw [e]; rfl, hx⟩ (Sub.cons rfl (Sub.cons rfl (Sub.cons rfl (Sub.nil))))
    have g5 : byte s a ≠ 61 := by simpa using g5
    refine Sa ?_
    refine CW.cond rfl (fun g6 => ?_) (fun g6 => ?_)
    · refine Sa ?_
      have e : byte s a = 60 := by simpa using g6
      exact QW.head (decide (byte s a = 60)) ⟨by rw [e]; rfl, hx⟩ (Sub.cons rfl (Sub.cons rfl (Sub.cons rfl (Sub.nil))))
    have g6 : byte s a ≠ 60 := by simpa using g6
    refine Sa ?_
    refine CW.cond rfl (fun g7 => ?_) (fun g7 => ?_)
    · refine Sa ?_
      have e : byte s a = 62 := by simpa using g7
      exact QW.head (decide (byte s a = 62)) ⟨by rw [e]; rfl, hx⟩ (Sub.cons rfl (Sub.cons rfl (Sub.cons rfl (Sub.nil))))
    have g7 : byte s a ≠ 62 := by simpa using g7
    refine Sa ?_
    refine CW.cond rfl (fun g8 => ?_) (fun g8 => ?_)
    · refine Sa ?_
      have e : byte s a = 40 := by simpa using g8
      exact QW.head (decide (byte s a = 40)) ⟨by rw [e]; rfl, hx⟩ (Sub.cons rfl (Sub.cons rfl (Sub.cons rfl (Sub.nil))))
    have g8 : byte s a ≠ 40 := by simpa using g8
    refine Sa ?_
    refine CW.cond rfl (fun g9 => ?_) (fun g9 => ?_)
    · refine Sa ?_
      have e : byte s a = 41 := by simpa using g9
      exact QW.head (decide (byte s a = 41)) ⟨by rw [e]; rfl, hx⟩ (Sub.cons rfl (Sub.cons rfl (Sub.cons rfl (Sub.nil))))
    have g9 : byte s a ≠ 41 := by simpa using g9
    refine Sa ?_
    refine CW.cond rfl (fun g10 => ?_) (fun g10 => ?_)
    · refine Sa ?_
      have e : byte s a = 44 := by simpa using g10
      exact QW.head (decide (byte s a = 44)) ⟨by rw [e]; rfl, hx⟩ (Sub.cons rfl (Sub.cons rfl (Sub.cons rfl (Sub.nil))))
    have g10 : byte s a ≠ 44 := by simpa using g10
    refine Sa ?_
    refine QW.head (decide (byte s a = 58)) ⟨?_, hx⟩ (Sub.cons rfl (Sub.cons rfl (Sub.cons rfl (Sub.nil))))
    simp [sgB, g0, g1, g2, g3, g4, g5, g6, g7, g8, g9, g10]
  rintro b w2 ⟨rfl, hx2⟩
  refine CW.cond rfl (fun h1 => ?_) (fun h1 => ?_)
  · have h1 : sgB (byte s a) = true := h1
    refine Sz ?_
    refine QW.body1 Tryz.results161 rfl ⟨?_, hx2⟩
    have hcut : cut s a (a + 1) = (s.drop a).take 1 := by simp [cut]
    rw [hfind, if_pos h1]
    exact congrArg str hcut
  · have h1 : sgB (byte s a) = false := h1
    refine Sz ?_
    refine QW.body1 Tryz.results161 rfl ⟨?_, hx2⟩
    rw [hfind, h1]
    rfl
end Go.Proofs.YtiloogjageledaaGreatDoor

namespace Go.Proofs.YtiloogjageledaaGreatDoor
open Go Go.E

theorem dead_is (s : List UInt8) (a : Nat) : Lib.hasPrefix (s.drop a) deadT = decide (cut s a (a + 5) = deadT) := by
  have e : cut s a (a + 5) = (s.drop a).take 5 := by simp [cut]
  rw [Bool.eq_iff_iff, decide_eq_true_eq, e]
  show List.isPrefixOf deadT (s.drop a) = true ↔ _
  rw [List.isPrefixOf_iff_prefix, List.prefix_iff_eq_take]
  exact eq_comm
theorem dead_short {s : List UInt8} {a : Nat} (h : s.length < a + 5) (ha : a < s.length) : Lib.hasPrefix (s.drop a) deadT = false := by
  cases hp : Lib.hasPrefix (s.drop a) deadT
  · rfl
  · have := pre_le hp
    have h5 : deadT.length = 5 := rfl
    simp at this
    omega
theorem dead_first {l : List UInt8} (h : byte l 0 ≠ 35) : Lib.hasPrefix l deadT = false := by
  cases l with
  | nil => rfl
  | cons c r =>
    have hc : c ≠ 35 := by
      rintro rfl
      exact h rfl
    simp [Lib.hasPrefix, deadT, List.isPrefixOf]
    exact fun e => absurd e.symm hc
theorem sign_35 {l : List UInt8} (hl : l ≠ []) (h : byte l 0 = 35) : signsT.find? (fun s => Lib.hasPrefix l s) = none := by
  rw [sign_single hl, h]
  · rfl
  · cases l with
    | nil => exact absurd rfl hl
    | cons c r =>
      have hc : (c.toNat : Int) = 35 := h
      have : c = 35 := UInt8.toNat_inj.1 (by simpa using (by omega : c.toNat = 35))
      subst this
      simp [pairsT]
theorem signO_is {l : List UInt8} (h : Lib.hasPrefix l deadT = false) : signO l = (signsT.find? fun s => Lib.hasPrefix l s).map fun s => (⟨5, s, 0, refN, 0⟩, s.length) := by
  rw [signO, h]
  rfl
theorem RT_form {i : Nat} {w w' : World} {o : Option (TokD × Nat)} {v : Value} (h : RT i w o v w') : ∃ t k, v = .tuple #[.agg ⟨tokL t⟩, .int .i64 k] := by
  obtain ⟨h, _⟩ := h
  cases o with
  | none => obtain ⟨t, rfl⟩ := h; exact ⟨_, _, rfl⟩
  | some x =>
    obtain ⟨t, k⟩ := x
    exact ⟨_, _, h⟩
theorem beg_eq (c : Int) : begB c = (letB c || decide (c = 36)) := rfl

theorem token_ret (s : List UInt8) (hs : s.length ≤ 1000) (a : Nat) (ha : a < s.length) (w : World) :
    Ret Tryz.prog 112 [str s, .int .i64 a] w (RT a w (oneO (s.drop a))) := by
  have hb : byte (s.drop a) 0 = byte s a := by rw [byte_drop']; rfl
  have hne : s.drop a ≠ [] := by intro hn; have := congrArg List.length hn; simp at this; omega
  refine Ret.enter Tryz.func112 rfl Tryz.ntmps112 (by kernel_rfl) rfl ?_
  refine Sa ?_
  (apply LW.alloc; exact rfl; exact rfl; exact rfl; intro C w1 hbC hx hC)
  refine Sa ?_
  refine LW.call0 rfl rfl (rdigit_ret _ _) ?_
  rintro v w2 ⟨rfl, hx2⟩
  replace hC := hC.ext hx2
  replace hx := hx.trans hx2
  refine Sa ?_
  refine CW.cond rfl (fun h1 => ?_) (fun h1 => ?_)
  · have h1 : digB (byte s a) = true := h1
    refine Sa ?_
    refine LW.call0 rfl rfl (rnumber_ret s hs a ha h1 _) ?_
    have ho : oneO (s.drop a) = numO (s.drop a) := by rw [oneO, hb, h1]; rfl
    rintro v w3 hv
    obtain ⟨t, k, rfl⟩ := RT_form hv
    obtain ⟨hv, hx3⟩ := hv
    replace hC := hC.ext hx3
    replace hx := hx.trans hx3
    refine Sa ?_
    (apply LW.store_all; exact rfl; exact rfl; exact rfl; assumption; exact rfl; exact rfl; exact rfl; intro w4 hc4 hC)
    replace hC : Blk w4 C (tokL t) 102 := hC
    replace hx := hx.step hc4 (by simp; omega)
    refine Sa ?_
    exact QW.body_ct Tryz.results112 rfl hC rfl rfl rfl rfl ⟨by rw [ho]; exact hv, hx⟩
  have h1 : digB (byte s a) = false := h1
  refine Sa ?_
  refine CW.cond rfl (fun h2 => ?_) (fun h2 => ?_)
  · have h2 : byte s a = 34 := by simpa using h2
    refine Sa ?_
    refine LW.call0 rfl rfl (rquoted_ret s hs a ha _) ?_
    have ho : oneO (s.drop a) = textO (s.drop a) := by rw [oneO, hb, h1, h2]; rfl
    rintro v w3 hv
    obtain ⟨t, k, rfl⟩ := RT_form hv
    obtain ⟨hv, hx3⟩ := hv
    replace hC := hC.ext hx3
    replace hx := hx.trans hx3
    refine Sa ?_
    (apply LW.store_all; exact rfl; exact rfl; exact rfl; assumption; exact rfl; exact rfl; exact rfl; intro w4 hc4 hC)
    replace hC : Blk w4 C (tokL t) 102 := hC
    replace hx := hx.step hc4 (by simp; omega)
    refine Sa ?_
    exact QW.body_ct Tryz.results112 rfl hC rfl rfl rfl rfl ⟨by rw [ho]; exact hv, hx⟩
  have h2 : byte s a ≠ 34 := by simpa using h2
  refine Sa ?_
  refine CW.cond rfl (fun h3 => ?_) (fun h3 => ?_)
  · have h3 : byte s a = 35 := by simpa using h3
    have ho : oneO (s.drop a) = signO (s.drop a) := by
      rw [oneO, hb, h1, if_neg (by simp), if_neg h2, h3]
      rfl
    refine Sz ?_
    refine LW.part rfl rfl rfl (fun h4 => ?_) (fun h4 => ?_)
    · have h4 : a + 5 ≤ s.length := by simp at h4; omega
      refine Sz ?_
      refine CW.cond rfl (fun h5 => ?_) (fun h5 => ?_)
      · have h5 : Lib.hasPrefix (s.drop a) deadT = true := by rw [dead_is]; exact h5
        refine Sa ?_
        (apply LW.store_all; exact rfl; exact rfl; exact rfl; assumption; exact rfl; exact rfl; exact rfl; intro w4 hc4 hC)
        replace hC : Blk w4 C (tokL ⟨6, [], 0, refN, a⟩) 102 := hC
        replace hx := hx.step hc4 (by simp; omega)
        refine Sa ?_
        refine QW.body_ct Tryz.results112 rfl hC rfl rfl rfl rfl ⟨?_, hx⟩
        rw [ho, signO, h5]
        rfl
      · have h5 : Lib.hasPrefix (s.drop a) deadT = false := by rw [dead_is]; exact h5
        refine Sa ?_
        (apply LW.store_all; exact rfl; exact rfl; exact rfl; assumption; exact rfl; exact rfl; exact rfl; intro w4 hc4 hC)
        replace hC : Blk w4 C (tokL ⟨0, [], 0, refN, 0⟩) 102 := hC
        replace hx := hx.step hc4 (by simp; omega)
        refine Sa ?_
        refine QW.body_ct Tryz.results112 rfl hC rfl rfl rfl rfl ⟨?_, hx⟩
        rw [ho, signO_is h5, sign_35 hne (by rw [hb]; exact h3)]
        exact ⟨_, rfl⟩
    · have h4 : s.length < a + 5 := by simp at h4; omega
      have h5 := dead_short h4 ha
      refine Sa ?_
      (apply LW.store_all; exact rfl; exact rfl; exact rfl; assumption; exact rfl; exact rfl; exact rfl; intro w4 hc4 hC)
      replace hC : Blk w4 C (tokL ⟨0, [], 0, refN, 0⟩) 102 := hC
      replace hx := hx.step hc4 (by simp; omega)
      refine Sa ?_
      refine QW.body_ct Tryz.results112 rfl hC rfl rfl rfl rfl ⟨?_, hx⟩
      rw [ho, signO_is h5, sign_35 hne (by rw [hb]; exact h3)]
      exact ⟨_, rfl⟩
  have h3 : byte s a ≠ 35 := by simpa using h3
  have hdead : Lib.hasPrefix (s.drop a) deadT = false := dead_first (by rw [hb]; exact h3)
  refine Sa ?_
  refine LW.call0 rfl rfl (rletter_ret _ _) ?_
  rintro v w3 ⟨rfl, hx3⟩
  replace hC := hC.ext hx3
  replace hx := hx.trans hx3
  refine Sa ?_
  refine LW.part rfl rfl rfl (fun h4 => ?_) (fun h4 => ?_)
  · have h4 : letB (byte s a) = true := h4
    have ho : oneO (s.drop a) = wordO (s.drop a) := by
      rw [oneO, hb, h1, if_neg (by simp), if_neg h2, beg_eq, h4]
      rfl
    refine Sa ?_
    refine LW.call0 rfl rfl (rword_ret s hs a ha _) ?_
    rintro v w3 hv
    obtain ⟨t, k, rfl⟩ := RT_form hv
    obtain ⟨hv, hx3⟩ := hv
    replace hC := hC.ext hx3
    replace hx := hx.trans hx3
    refine Sa ?_
    (apply LW.store_all; exact rfl; exact rfl; exact rfl; assumption; exact rfl; exact rfl; exact rfl; intro w4 hc4 hC)
    replace hC : Blk w4 C (tokL t) 102 := hC
    replace hx := hx.step hc4 (by simp; omega)
    refine Sa ?_
    exact QW.body_ct Tryz.results112 rfl hC rfl rfl rfl rfl ⟨by rw [ho]; exact hv, hx⟩
  have h4 : letB (byte s a) = false := h4
  refine Sa ?_
  refine CW.cond rfl (fun h5 => ?_) (fun h5 => ?_)
  · have ho : oneO (s.drop a) = wordO (s.drop a) := by
      rw [oneO, hb, h1, if_neg (by simp), if_neg h2, beg_eq, h4]
      simp only [decide_eq_true_eq] at h5
      have h5 : byte s a = 36 := h5
      rw [h5]
      rfl
    refine Sa ?_
    refine LW.call0 rfl rfl (rword_ret s hs a ha _) ?_
    rintro v w3 hv
    obtain ⟨t, k, rfl⟩ := RT_form hv
    obtain ⟨hv, hx3⟩ := hv
    replace hC := hC.ext hx3
    replace hx := hx.trans hx3
    refine Sa ?_
    (apply LW.store_all; exact rfl; exact rfl; exact rfl; assumption; exact rfl; exact rfl; exact rfl; intro w4 hc4 hC)
    replace hC : Blk w4 C (tokL t) 102 := hC
    replace hx := hx.step hc4 (by simp; omega)
    refine Sa ?_
    exact QW.body_ct Tryz.results112 rfl hC rfl rfl rfl rfl ⟨by rw [ho]; exact hv, hx⟩
  have ho : oneO (s.drop a) = signO (s.drop a) := by
    rw [oneO, hb, h1, if_neg (by simp), if_neg h2, beg_eq, h4]
    simp only [decide_eq_false_iff_not] at h5
    have h5 : byte s a ≠ 36 := h5
    simp [h5]
  refine Sa ?_
  refine LW.call0 rfl rfl (rsign_ret s hs a ha _) ?_
  rintro v w5 ⟨rfl, hx5⟩
  replace hC := hC.ext hx5
  replace hx := hx.trans hx5
  refine Sa ?_
  (apply LW.store_all; exact rfl; exact rfl; exact rfl; assumption; exact rfl; exact rfl; exact rfl; intro w4 hc4 hC)
  replace hx := hx.step hc4 (by simp; omega)
  refine Sa ?_
  refine QW.body_ct Tryz.results112 rfl hC rfl rfl rfl rfl ⟨?_, hx⟩
  rw [ho, signO_is hdead]
  cases signsT.find? fun p => Lib.hasPrefix (s.drop a) p with
  | none => exact ⟨⟨5, [], 0, refN, a⟩, rfl⟩
  | some p => rfl

/-- What the document tells of a text. -/
def RLexV (s : List UInt8) (v : Value) (w : World) (lo : Nat) : Prop :=
  if 300 < s.length then v = .agg ⟨[.slice none 0 0, .int .i64 4]⟩
  else match lexT s with
    | none => v = .agg ⟨[.slice none 0 0, .int .i64 5]⟩
    | some l => ∃ sv, v = .agg ⟨[sv, .int .i64 0]⟩ ∧ Own w lo 102 9 sv l.length (l.flatMap tokL)

theorem rLex_ret (s : List UInt8) (hs : s.length ≤ 9223372036854775807) (w : World) : Ret Tryz.prog 70 [str s] w (fun v w' => RLexV s v w' w.heap.size ∧ Ext w w') := by
  refine Ret.enter Tryz.func70 rfl Tryz.ntmps70 (by kernel_rfl) rfl ?_
  refine Sa ?_
  (apply LW.alloc; exact rfl; exact rfl; exact rfl; intro R w1 hbR hx hR)
  have hz1 : R < w1.heap.size := hR.lt
  refine Sa ?_
  refine CW.cond rfl (fun h1 => ?_) (fun h1 => ?_)
  · have h1 : 300 < s.length := by simp at h1; omega
    refine Sa ?_
    (apply LW.store_all; exact rfl; exact rfl; exact rfl; assumption; exact rfl; exact rfl; exact rfl; intro w2 hc2 hR)
    replace hx := hx.step hc2 (by simp; omega)
    refine Sa ?_
    refine QW.body_c Tryz.results70 rfl hR rfl rfl rfl ⟨?_, hx⟩
    rw [RLexV, if_pos h1]
    rfl
  have h1 : ¬ 300 < s.length := by simp at h1; omega
  refine Sa ?_
  refine CW.loop (ι := Nat × List TokD × Value) (fun k w' => k.1 ≤ s.length ∧ k.2.1.length ≤ k.1 ∧ Ext w1 w' ∧ Own w' w1.heap.size 102 9 k.2.2 k.2.1.length (k.2.1.flatMap tokL) ∧ LexAt s k.1 k.2.1) (fun k => [(0, str s), (2, .pointer (some ⟨R, 0, none⟩)), (3, k.2.2), (4, .int .i64 k.1)]) (fun k => s.length - k.1) (0, [], .slice none 0 0) ⟨by simp, by simp, Chg.refl _ _, Own.nil _ _ _ _, LexAt.start _⟩ (Sub.cons rfl (Sub.cons rfl (Sub.cons rfl (Sub.cons rfl (Sub.nil))))) ?_
  rintro ⟨a, out, v⟩ w2 ⟨ha, ho, hx2, hown, hla⟩
  simp only at ha ho hown hla
  show CW _ _ _ _ _ [(0, str s), (2, .pointer (some ⟨R, 0, none⟩)), (3, v), (4, .int .i64 a)] _
  have hrv : R ∉ vblk v := hown.old hz1
  have hz2 := hx2.size
  replace hR := hR.ext hx2
  refine Sa ?_
  refine CW.cond rfl (fun h2 => ?_) (fun h2 => ?_)
  · have h2 : a < s.length := by simp at h2; omega
    have hsp : ∀ (c : Nat), byte s a ≠ 32 → (spanL spB (s.drop a)).length = 0 := fun _ hb => by
      obtain ⟨c, e, hc⟩ := drop_at h2
      rw [e]
      have : spB (c.toNat : Int) = false := by simp [spB]; omega
      simp [spanL, this]
    refine Sa ?_
    refine CW.cond rfl (fun h3 => ?_) (fun h3 => ?_)
    · have h3 : byte s a = 32 := by simpa using h3
      refine Sa ?_
      exact QW.again (a + 1, out, v) ⟨by show a + 1 ≤ _; omega, by show out.length ≤ a + 1; omega, hx2, hown, hla.blank h2 h3⟩ (Sub.cons rfl (Sub.cons rfl (Sub.cons rfl (Sub.cons rfl (Sub.nil))))) (by show s.length - (a + 1) < s.length - a; omega)
    have h3 : byte s a ≠ 32 := by simpa using h3
    have hc : a + (spanL spB (s.drop a)).length = a := by rw [hsp 0 h3]; rfl
    refine Sa ?_
    refine LW.call0 rfl rfl (token_ret s (by omega) a h2 _) ?_
    rintro u w3 ⟨hv, hx3⟩
    replace hR := hR.ext hx3
    have hz3 := hx3.size
    have hown3 := hown.ext hx3
    cases ho3 : oneO (s.drop a) with
    | none =>
      rw [ho3] at hv
      obtain ⟨t, rfl⟩ := hv
      refine Sa ?_
      (apply LW.alloc; exact rfl; exact rfl; exact rfl; intro C w6 hbC hx6 hC)
      replace hR := hR.ext hx6
      have hz6 := hx6.size
      refine Sa ?_
      (apply LW.store_all; exact rfl; exact rfl; exact rfl; assumption; exact rfl; exact rfl; exact rfl; intro w7 hc7 hC)
      replace hR := hR.chg hc7 (by simp; omega)
      have hx7 := ((hx2.trans hx3).trans hx6).step hc7 (by simp; omega)
      refine Sa ?_
      (apply LW.store_all; exact rfl; exact rfl; exact rfl; assumption; exact rfl; exact rfl; exact rfl; intro w8 hc8 hR)
      have hx8 := (hx.trans hx7).step hc8 (by simp; omega)
      refine Sa ?_
      refine QW.body_c Tryz.results70 rfl hR rfl rfl rfl ⟨?_, hx8⟩
      rw [RLexV, if_neg h1, hla.bad hc h2 ho3]
      rfl
    | some x =>
      obtain ⟨t, k⟩ := x
      rw [ho3] at hv
      simp only at hv
      subst hv
      have hpos := oneO_pos (by intro hn; have := congrArg List.length hn; simp at this; omega) ho3
      have hle := oneO_le ho3
      simp at hle
      refine Sa ?_
      (apply LW.alloc; exact rfl; exact rfl; exact rfl; intro C w6 hbC hx6 hC)
      replace hR := hR.ext hx6
      have hz6 := hx6.size
      have hown6 := hown3.ext hx6
      refine Sa ?_
      (apply LW.store_all; exact rfl; exact rfl; exact rfl; assumption; exact rfl; exact rfl; exact rfl; intro w7 hc7 hC)
      replace hC : Blk w7 C (tokL { t with at_ := (a : Int) }) 102 := hC
      replace hR := hR.chg hc7 (by simp; omega)
      have hx7 := ((hx2.trans hx3).trans hx6).step hc7 (by simp; omega)
      have hz7 := hc7.size
      have hown7 := hown6.chg hc7 (fun j hj hb => by
        simp at hb
        have := (hown3.lt hj).2
        omega)
      refine Sa ?_
      refine CW.no rfl (by simp; omega) ?_
      refine Sa ?_
      (apply LW.buildSlice; exact rfl; exact rfl; exact rfl; exact rfl; exact rfl; exact rfl; exact rfl; exact rfl; exact rfl; intro A w9 hbA hx9 hA)
      replace hA : Blk w9 A (tokL { t with at_ := (a : Int) }) 102 := hA
      replace hR := hR.ext hx9
      have hz9 := hx9.size
      refine Sa ?_
      refine LW.append rfl rfl rfl rfl rfl rfl (hown7.ext hx9) (by omega) hA rfl rfl rfl (by show (out.length + 1) * 81 ≤ 140737488355328; omega) rfl ?_
      intro v' w10 hc10 hown10 _
      have hz10 := hc10.size
      refine Sa ?_
      refine QW.again (a + k, out ++ [{ t with at_ := (a : Int) }], v') ⟨by show a + k ≤ _; omega, by show (out ++ _).length ≤ a + k; simp; omega, ?_, own_tok hown10, hla.go hc h2 ho3⟩ (Sub.cons rfl (Sub.cons rfl (Sub.cons rfl (Sub.cons rfl (Sub.nil))))) (by show s.length - (a + k) < s.length - a; omega)
      exact (hx7.trans hx9).step hc10 (fun k hk => (hown.lt hk).1)
  · have h2 : a = s.length := by simp at h2; omega
    have he : a + (spanL spB (s.drop a)).length = s.length := by
      have := span_le spB (s.drop a)
      simp at this
      omega
    refine Sa ?_
    (apply LW.buildSlice; exact rfl; exact rfl; exact rfl; exact rfl; exact rfl; exact rfl; exact rfl; exact rfl; exact rfl; intro A w4 hbA hx4 hA)
    replace hA : Blk w4 A (tokL ⟨0, [], 0, refN, (s.length : Int)⟩) 102 := hA
    have hz4 := hx4.size
    replace hR := hR.ext hx4
    refine Sa ?_
    refine LW.append rfl rfl rfl rfl rfl rfl (hown.ext hx4) (by omega) hA rfl rfl rfl (by show (out.length + 1) * 81 ≤ 140737488355328; omega) rfl ?_
    intro v' w5 hc5 hown5 hnew
    replace hR := hR.chg hc5 hrv
    have hR5 : R ∉ vblk v' := fun hm => by
      rcases hnew _ hm with hm | hm
      · exact hrv hm
      · omega
    have hx5 := (hx2.trans hx4).step hc5 (fun k hk => (hown.lt hk).1)
    have hone5 : v'.oneCell' = true := by
      obtain ⟨p, q, rfl⟩ := hown5.slice
      rfl
    obtain ⟨p5, q5, e5⟩ := hown5.slice
    subst e5
    refine Sa ?_
    (apply LW.store_all; exact rfl; exact rfl; exact rfl; assumption; exact rfl; exact rfl; exact rfl; intro w6 hc6 hR)
    have hx6 := (hx.trans hx5).step hc6 (by simp; omega)
    have hown6 := hown5.chg hc6 (fun j hj hb => hR5 (by simp at hb; subst hb; exact hj))
    refine Sa ?_
    refine QW.body_c Tryz.results70 rfl hR rfl rfl rfl ⟨?_, hx6⟩
    rw [RLexV, if_neg h1, hla.end he]
    refine ⟨_, rfl, ?_⟩
    obtain ⟨hl, hh⟩ := own_tok hown6
    refine ⟨hl, ?_⟩
    rcases hh with hh | ⟨gg, cap, sp, e1, e2, e3, e4, e5⟩
    · exact .inl hh
    · exact .inr ⟨gg, cap, sp, e1, e2, e3, e4, by have := hx.size; omega⟩
end Go.Proofs.YtiloogjageledaaGreatDoor

namespace Go.Proofs.YtiloogjageledaaGreatDoor
open Go Go.E

theorem tok_len (x : TokD) : (tokL x).length = 9 := rfl
theorem eqg_ref4 : Tryz.prog.eqGuardType Tryz.prog.depth 35 = false := by kernel_rfl
theorem eqg_tok : Tryz.prog.eqGuardType Tryz.prog.depth 102 = false := by kernel_rfl
theorem eqr_ref (x y : RefD) (d : Nat) (w : World) : (Op.equalIn (d + 2) 35 (.agg ⟨refL x⟩) (.agg ⟨refL y⟩)).run Tryz.prog w = .ok (decide (x = y)) w := by
  obtain ⟨s1, c1, r1, a1, b1⟩ := x
  obtain ⟨s2, c2, r2, a2, b2⟩ := y
  have ht : Tryz.prog.underlying 35 = some (.struct (Tryz.prog.fieldsOf 35)) := by simp [Program.fieldsOf, Tryz.underlying35]
  have hp : Tryz.prog.stoodInHeld 35 = false := by kernel_rfl
  simp only [refL]
  rw [run_equalIn_agg w (d + 1) _ _ _ ht hp]
  simp only [Program.fieldsOf, Tryz.underlying35]
  refine (eqf_step (by decide) (run_part_one (v := str s1) rfl rfl rfl w) (run_part_one (v := str s2) rfl rfl rfl w) (eq_str rfl rfl _ _ w)
    (eqf_step (by decide) (run_part_one (v := .int .i64 c1) rfl rfl rfl w) (run_part_one (v := .int .i64 c2) rfl rfl rfl w) (eq_int rfl rfl _ _ w)
    (eqf_step (by decide) (run_part_one (v := .int .i64 r1) rfl rfl rfl w) (run_part_one (v := .int .i64 r2) rfl rfl rfl w) (eq_int rfl rfl _ _ w)
    (eqf_step (by decide) (run_part_one (v := .bool a1) rfl rfl rfl w) (run_part_one (v := .bool a2) rfl rfl rfl w) (eq_bool rfl rfl _ _ w)
    (eqf_step (by decide) (run_part_one (v := .bool b1) rfl rfl rfl w) (run_part_one (v := .bool b2) rfl rfl rfl w) (eq_bool rfl rfl _ _ w)
    (eqf_nil _ _ _ w)))))).trans ?_
  refine congrArg (fun b => Result.ok b w) ?_
  rw [Bool.eq_iff_iff]
  simp only [Bool.and_eq_true, decide_eq_true_eq, RefD.mk.injEq, and_true]
set_option maxRecDepth 100000 in
theorem eq_tok (x y : TokD) (d : Nat) (w : World) : (Op.equalIn (d + 3) 102 (.agg ⟨tokL x⟩) (.agg ⟨tokL y⟩)).run Tryz.prog w = .ok (decide (x = y)) w := by
  obtain ⟨k1, s1, n1, r1, a1⟩ := x
  obtain ⟨k2, s2, n2, r2, a2⟩ := y
  have ht : Tryz.prog.underlying 102 = some (.struct (Tryz.prog.fieldsOf 102)) := by simp [Program.fieldsOf, Tryz.underlying102]
  have hp : Tryz.prog.stoodInHeld 102 = false := by kernel_rfl
  simp only [tokL]
  rw [run_equalIn_agg w (d + 2) _ _ _ ht hp]
  simp only [Program.fieldsOf, Tryz.underlying102]
  refine (eqf_step (by decide) (run_part_one (v := .int .i64 k1) rfl rfl rfl w) (run_part_one (v := .int .i64 k2) rfl rfl rfl w) (eq_int rfl rfl _ _ w)
    (eqf_step (by decide) (run_part_one (v := str s1) rfl rfl rfl w) (run_part_one (v := str s2) rfl rfl rfl w) (eq_str rfl rfl _ _ w)
    (eqf_step (by decide) (run_part_one (v := .int .i64 n1) rfl rfl rfl w) (run_part_one (v := .int .i64 n2) rfl rfl rfl w) (eq_int rfl rfl _ _ w)
    (eqf_step (by decide) (run_part_agg (cs := refL r1) rfl rfl rfl w) (run_part_agg (cs := refL r2) rfl rfl rfl w) (eqr_ref r1 r2 d w)
    (eqf_step (by decide) (run_part_one (v := .int .i64 a1) rfl rfl rfl w) (run_part_one (v := .int .i64 a2) rfl rfl rfl w) (eq_int rfl rfl _ _ w)
    (eqf_nil _ _ _ w)))))).trans ?_
  refine congrArg (fun b => Result.ok b w) ?_
  rw [Bool.eq_iff_iff]
  simp only [Bool.and_eq_true, decide_eq_true_eq, TokD.mk.injEq, and_true]

theorem Num_ret (k : Int) (w : World) : Ret Tryz.prog 25 [.int .i64 k] w (fun v w' => v = .int .i64 k ∧ Ext w w') := by
  refine Ret.enter Tryz.func25 rfl Tryz.ntmps25 (by kernel_rfl) rfl ?_
  refine Sa ?_
  exact QW.body1 Tryz.results25 rfl ⟨rfl, Chg.refl _ _⟩

def exA : RefD := ⟨[], 0, 0, false, false⟩
theorem exA_text : textB exA = [65, 49] := by
  rw [textB, itoa_d3 (by decide) (by decide)]
  decide +kernel
theorem exA_read : okRead [65, 49] = true ∧ candV [65, 49] = exA := by
  have := read_text (r := exA) (by decide +kernel)
  rwa [exA_text] at this
theorem ex_lex : lexT [65, 49, 43, 49] = some [⟨4, [], 0, exA, 0⟩, ⟨5, [43], 0, refN, 2⟩, ⟨1, [], 1, refN, 3⟩, ⟨0, [], 0, refN, 4⟩] := by
  have h0 := LexAt.start [65, 49, 43, 49]
  have h1 := h0.go (c := 0) (k := 2) (t := ⟨4, [], 0, exA, 0⟩) (by decide) (by decide) (by
    show wordO [65, 49, 43, 49] = _
    have e : spanL wiB [65, 49, 43, 49] = [65, 49] := by decide +kernel
    rw [wordO, e]
    simp only [exA_read.1, exA_read.2, if_true]
    rfl)
  have h2 := h1.go (c := 2) (k := 1) (t := ⟨5, [43], 0, refN, 0⟩) (by decide) (by decide) (by decide +kernel)
  have h3 := h2.go (c := 3) (k := 1) (t := ⟨1, [], 1, refN, 0⟩) (by decide) (by decide) (by decide +kernel)
  exact h3.end (by decide)

end Go.Proofs.YtiloogjageledaaGreatDoor
