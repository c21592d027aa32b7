/-
  Walks: the document's reader of tokens: numbers, texts, words.
-/
import Derived.Test.YtfpklhgkndnjjaaDoorLexE
import Derived.Test.YtfpklhgkndnjjaaDoorLexR
namespace Go.Proofs.YtfpklhgkndnjjaaDoor
open Go Go.E

/-- What the document's readers tell. -/
def RT (i : Nat) (w : World) (o : Option (TokD × Nat)) (v : Value) (w' : World) : Prop :=
  (match o with
    | none => ∃ t, v = .tuple #[.agg ⟨tokL t⟩, .int .i64 0]
    | some (t, k) => v = .tuple #[.agg ⟨tokL { t with at_ := (i : Int) }⟩, .int .i64 ((k : Nat) : Int)]) ∧ Ext w w'

theorem take_byte {s : List UInt8} {k : Nat} (h : k < s.length) : s.take (k + 1) = s.take k ++ [ch (byte s k)] := by
  rw [take_snoc' h]
  congr 2
  rw [byte_eq h, ch]
  simp
theorem numT_byte (acc : Int) (l : List UInt8) {z : Int} (h0 : 0 ≤ z) (h1 : z ≤ 255) : numT acc (l ++ [ch z]) = 10 * numT acc l + (z - 48) := by
  rw [numT_snoc, ch_toNat h0 h1]
theorem drop_take_byte {s : List UInt8} {i k : Nat} (hi : i ≤ k) (h : k < s.length) : (s.take (k + 1)).drop i = (s.take k).drop i ++ [ch (byte s k)] := by
  rw [take_byte h, List.drop_append_of_le_length (by simp; omega)]
theorem numT_zero_bytes : ∀ (l : List UInt8) (acc : Int), 0 ≤ acc → (∀ c ∈ l, 48 ≤ c.toNat) → numT acc l = 0 → acc = 0 ∧ ∀ c ∈ l, c.toNat = 48
  | [], acc, _, _, h => ⟨h, by simp⟩
  | c :: r, acc, ha, hd, h => by
    have hc := hd c (by simp)
    obtain ⟨e, hr⟩ := numT_zero_bytes r (10 * acc + ((c.toNat : Int) - 48)) (by omega) (fun x hx => hd x (by simp [hx])) h
    exact ⟨by omega, fun x hx => by
      simp only [List.mem_cons] at hx
      rcases hx with rfl | hx
      · omega
      · exact hr x hx⟩

theorem take_drop_self (s : List UInt8) (i : Nat) : (s.take i).drop i = [] := List.drop_eq_nil_of_le (by simp; omega)
theorem span_append (p : Int → Bool) : ∀ (a b : List UInt8), (∀ c ∈ a, p (c.toNat : Int) = true) → spanL p (a ++ b) = a ++ spanL p b
  | [], _, _ => rfl
  | c :: a, b, h => by
    have hc := h c (by simp)
    have ih := span_append p a b (fun d hd => h d (by simp [hd]))
    simp only [spanL] at ih ⊢
    simp [hc, ih]
/-- Digits that have been read, more than one of which the first is a nought, or too many: none. -/
theorem num_over {s : List UInt8} {i k : Nat} (hi : i ≤ k) (hk : k < s.length) (hall : ∀ j, i ≤ j → j ≤ k → digB (byte s j) = true)
    (h : 9223372036854775807 < numT 0 ((s.take (k + 1)).drop i) ∨ (i < k ∧ numT 0 ((s.take k).drop i) = 0)) : numO (s.drop i) = none := by
  have hD : (s.take (k + 1)).drop i <+: spanL digB (s.drop i) := by
    rw [show (s.take (k + 1)).drop i = (s.drop i).take (k + 1 - i) by rw [List.drop_take]]
    have e1 : ∀ c ∈ (s.drop i).take (k + 1 - i), digB (c.toNat : Int) = true := by
      intro c hc
      obtain ⟨j, hj, rfl⟩ := List.mem_iff_getElem.1 hc
      simp only [List.length_take, List.length_drop] at hj
      have := hall (i + j) (by omega) (by omega)
      rw [byte_eq (by omega)] at this
      simpa using this
    have e2 := span_append digB _ ((s.drop i).drop (k + 1 - i)) e1
    rw [List.take_append_drop] at e2
    rw [e2]
    exact List.prefix_append _ _
  obtain ⟨r, hr⟩ := hD
  have hne : spanL digB (s.drop i) ≠ [] := by
    rw [← hr, drop_take_byte hi hk]
    simp
  have hdig := span_all digB (s.drop i)
  have h48 : ∀ c ∈ spanL digB (s.drop i), 48 ≤ c.toNat := fun c hc => by
    have := hdig c hc
    simp [digB] at this
    omega
  rw [numO_is hne, if_neg]
  rintro ⟨h1, h2⟩
  rcases h with h | ⟨hlt, h⟩
  · rw [← hr] at h1
    have e : numT 0 ((s.take (k + 1)).drop i ++ r) = numT (numT 0 ((s.take (k + 1)).drop i)) r := by simp [numT]
    have := numT_mono r (numT 0 ((s.take (k + 1)).drop i)) (by omega) (fun c hc => h48 c (by rw [← hr]; simp [hc]))
    omega
  · have e : spanL digB (s.drop i) = (s.take k).drop i ++ ([ch (byte s k)] ++ r) := by rw [← hr, drop_take_byte hi hk, List.append_assoc]
    have hz := (numT_zero_bytes ((s.take k).drop i) 0 (by omega) (fun c hc => h48 c (by rw [e]; simp [hc])) h).2
    have hl : ((s.take k).drop i).length = k - i := by simp; omega
    have hb : byte (spanL digB (s.drop i)) 0 = 48 := by
      rw [e, byte_append_left (by omega)]
      obtain ⟨c, hm, hc⟩ := byte_mem (l := (s.take k).drop i) (j := 0) (by omega)
      rw [hc, hz c hm]
      rfl
    rcases h2 with h2 | h2
    · exact h2 hb
    · rw [e] at h2
      simp at h2
      omega
theorem num_good {s : List UInt8} {i k : Nat} (hi : i < k) (hk : k ≤ s.length) (hall : ∀ j, i ≤ j → j < k → digB (byte s j) = true) (hend : k = s.length ∨ digB (byte s k) = false)
    (h1 : numT 0 ((s.take k).drop i) ≤ 9223372036854775807) (h2 : i + 1 < k → numT 0 ((s.take (i + 1)).drop i) ≠ 0) : numO (s.drop i) = some (⟨1, [], numT 0 ((s.take k).drop i), refN, 0⟩, k - i) := by
  obtain ⟨e1, e2⟩ := span_from digB s i k (by omega) hk hall hend
  have hne : spanL digB (s.drop i) ≠ [] := by
    intro hn
    rw [hn] at e2
    simp at e2
    omega
  rw [numO_is hne, ← e1, if_pos]
  · congr 2
    simp
    omega
  · refine ⟨h1, ?_⟩
    by_cases hl : i + 1 < k
    · refine .inl fun hb => h2 hl ?_
      rw [drop_take_byte (Nat.le_refl i) (by omega)]
      have := take_drop_self s i
      rw [this, List.nil_append]
      rw [e1, (span_pos (p := digB) (l := s.drop i) (by simp; omega) (by rw [byte_drop']; exact hall i (by omega) (by omega))).2, byte_drop'] at hb
      have hb : byte s i = 48 := hb
      rw [hb]
      rfl
    · right
      simp
      omega

theorem rnumber_ret (s : List UInt8) (hs : s.length ≤ 1000) (i : Nat) (hi : i < s.length) (hd : digB (byte s i) = true) (w : World) :
    Ret Tryd.prog 68 [str s, .int .i64 i] w (RT i w (numO (s.drop i))) := by
  refine Ret.enter Tryd.func68 rfl Tryd.ntmps68 (by kernel_rfl) rfl ?_
  (repeat (first | refine La ?_ | refine Lb ?_ | refine Lc ?_ | refine Ld ?_ | refine Le ?_ | refine Lf ?_ | refine Lg ?_ | apply LW.nil | apply QW.then_n | apply QW.round | apply RW.succ | apply CW.seq | apply CW.region | apply CW.skip | apply CW.block | apply CW.ret | apply CW.exit | apply QW.then_ret | apply QW.then_exit | apply QW.blk_n | apply QW.blk_ret | apply QW.blk_exit | refine Ca ?_ | refine Cb ?_ | refine Cc ?_ | refine Lh ?_ | refine Li ?_ | refine Lj ?_ | refine Lk ?_ | refine Ll ?_))
  (apply LW.alloc; exact rfl; exact rfl; exact rfl; intro C w1 hbC hx hC)
  (repeat (first | refine La ?_ | refine Lb ?_ | refine Lc ?_ | refine Ld ?_ | refine Le ?_ | refine Lf ?_ | refine Lg ?_ | apply LW.nil | apply QW.then_n | apply QW.round | apply RW.succ | apply CW.seq | apply CW.region | apply CW.skip | apply CW.block | apply CW.ret | apply CW.exit | apply QW.then_ret | apply QW.then_exit | apply QW.blk_n | apply QW.blk_ret | apply QW.blk_exit | refine Ca ?_ | refine Cb ?_ | refine Cc ?_ | refine Lh ?_ | refine Li ?_ | refine Lj ?_ | refine Lk ?_ | refine Ll ?_))
  refine CW.loop (ι := Nat) (fun k w' => i ≤ k ∧ k ≤ s.length ∧ Ext w w' ∧ Blk w' C (tokL ⟨0, [], 0, refN, 0⟩) 47 ∧ (∀ j, i ≤ j → j < k → digB (byte s j) = true) ∧ 0 ≤ numT 0 ((s.take k).drop i) ∧ numT 0 ((s.take k).drop i) ≤ 9223372036854775807 ∧ (i + 1 < k → numT 0 ((s.take (i + 1)).drop i) ≠ 0)) (fun k => [(0, str s), (1, .int .i64 i), (4, .pointer (some ⟨C, 0, none⟩)), (6, .int .i64 (numT 0 ((s.take k).drop i))), (7, .int .i64 k)]) (fun k => s.length - k) i
    ⟨by omega, by omega, hx, hC, by omega, ?_, ?_, by omega⟩ ?_ ?_
  · have := take_drop_self s i
    rw [this]; exact Int.le_refl _
  · have := take_drop_self s i
    rw [this]; decide
  · have := take_drop_self s i
    simp only [this]
    exact (Sub.cons rfl (Sub.cons rfl (Sub.cons rfl (Sub.cons rfl (Sub.cons rfl (Sub.nil))))))
  clear hC
  rintro k w2 ⟨hik, hk, hx2, hC, hall, hn0, hn1, hlead⟩
  (repeat (first | refine La ?_ | refine Lb ?_ | refine Lc ?_ | refine Ld ?_ | refine Le ?_ | refine Lf ?_ | refine Lg ?_ | apply LW.nil | apply QW.then_n | apply QW.round | apply RW.succ | apply CW.seq | apply CW.region | apply CW.skip | apply CW.block | apply CW.ret | apply CW.exit | apply QW.then_ret | apply QW.then_exit | apply QW.blk_n | apply QW.blk_ret | apply QW.blk_exit | refine Ca ?_ | refine Cb ?_ | refine Cc ?_ | refine Lh ?_ | refine Li ?_ | refine Lj ?_ | refine Lk ?_ | refine Ll ?_))
  refine LW.part rfl rfl rfl (fun h1 => ?_) (fun h1 => ?_)
  · have h1 : k < s.length := by simpa using h1
    (repeat (first | refine La ?_ | refine Lb ?_ | refine Lc ?_ | refine Ld ?_ | refine Le ?_ | refine Lf ?_ | refine Lg ?_ | apply LW.nil | apply QW.then_n | apply QW.round | apply RW.succ | apply CW.seq | apply CW.region | apply CW.skip | apply CW.block | apply CW.ret | apply CW.exit | apply QW.then_ret | apply QW.then_exit | apply QW.blk_n | apply QW.blk_ret | apply QW.blk_exit | refine Ca ?_ | refine Cb ?_ | refine Cc ?_ | refine Lh ?_ | refine Li ?_ | refine Lj ?_ | refine Lk ?_ | refine Ll ?_))
    refine LW.call0 rfl rfl (rdigit_ret _ _) ?_
    rintro v w3 ⟨rfl, hx3⟩
    replace hC := hC.ext hx3
    replace hx2 := hx2.trans hx3
    (repeat (first | refine La ?_ | refine Lb ?_ | refine Lc ?_ | refine Ld ?_ | refine Le ?_ | refine Lf ?_ | refine Lg ?_ | apply LW.nil | apply QW.then_n | apply QW.round | apply RW.succ | apply CW.seq | apply CW.region | apply CW.skip | apply CW.block | apply CW.ret | apply CW.exit | apply QW.then_ret | apply QW.then_exit | apply QW.blk_n | apply QW.blk_ret | apply QW.blk_exit | refine Ca ?_ | refine Cb ?_ | refine Cc ?_ | refine Lh ?_ | refine Li ?_ | refine Lj ?_ | refine Lk ?_ | refine Ll ?_))
    refine CW.cond rfl (fun h2 => ?_) (fun h2 => ?_)
    · have h2 : digB (byte s k) = true := h2
      have hall' : ∀ j, i ≤ j → j ≤ k → digB (byte s j) = true := fun j hj hjk => by
        by_cases e : j = k
        · subst e; exact h2
        · exact hall j hj (by omega)
      have hdk : 48 ≤ byte s k ∧ byte s k ≤ 57 := by
        have := h2
        simp [digB] at this
        omega
      have hnx : numT 0 ((s.take (k + 1)).drop i) = 10 * numT 0 ((s.take k).drop i) + (byte s k - 48) := by
        rw [drop_take_byte hik h1, numT_byte _ _ (by omega) (by omega)]
      (repeat (first | refine La ?_ | refine Lb ?_ | refine Lc ?_ | refine Ld ?_ | refine Le ?_ | refine Lf ?_ | refine Lg ?_ | apply LW.nil | apply QW.then_n | apply QW.round | apply RW.succ | apply CW.seq | apply CW.region | apply CW.skip | apply CW.block | apply CW.ret | apply CW.exit | apply QW.then_ret | apply QW.then_exit | apply QW.blk_n | apply QW.blk_ret | apply QW.blk_exit | refine Ca ?_ | refine Cb ?_ | refine Cc ?_ | refine Lh ?_ | refine Li ?_ | refine Lj ?_ | refine Lk ?_ | refine Ll ?_))
      refine LW.part rfl rfl rfl (fun h3 => ?_) (fun h3 => ?_)
      · have h3 : (9223372036854775807 - (byte s k - 48)) / 10 < numT 0 ((s.take k).drop i) := by simpa using h3
        (repeat (first | refine La ?_ | refine Lb ?_ | refine Lc ?_ | refine Ld ?_ | refine Le ?_ | refine Lf ?_ | refine Lg ?_ | apply LW.nil | apply QW.then_n | apply QW.round | apply RW.succ | apply CW.seq | apply CW.region | apply CW.skip | apply CW.block | apply CW.ret | apply CW.exit | apply QW.then_ret | apply QW.then_exit | apply QW.blk_n | apply QW.blk_ret | apply QW.blk_exit | refine Ca ?_ | refine Cb ?_ | refine Cc ?_ | refine Lh ?_ | refine Li ?_ | refine Lj ?_ | refine Lk ?_ | refine Ll ?_))
        (repeat (first | refine La ?_ | refine Lb ?_ | refine Lc ?_ | refine Ld ?_ | refine Le ?_ | refine Lf ?_ | refine Lg ?_ | apply LW.nil | apply QW.then_n | apply QW.round | apply RW.succ | apply CW.seq | apply CW.region | apply CW.skip | apply CW.block | apply CW.ret | apply CW.exit | apply QW.then_ret | apply QW.then_exit | apply QW.blk_n | apply QW.blk_ret | apply QW.blk_exit | refine Ca ?_ | refine Cb ?_ | refine Cc ?_ | refine Lh ?_ | refine Li ?_ | refine Lj ?_ | refine Lk ?_ | refine Ll ?_))
        (apply LW.store_all; exact rfl; exact rfl; exact rfl; assumption; exact rfl; exact rfl; exact rfl; intro w8 hc8 hC)
        replace hC : Blk w8 C (tokL ⟨0, [], 0, refN, 0⟩) 47 := hC
        replace hx2 := hx2.step hc8 (by simp; omega)
        (repeat (first | refine La ?_ | refine Lb ?_ | refine Lc ?_ | refine Ld ?_ | refine Le ?_ | refine Lf ?_ | refine Lg ?_ | apply LW.nil | apply QW.then_n | apply QW.round | apply RW.succ | apply CW.seq | apply CW.region | apply CW.skip | apply CW.block | apply CW.ret | apply CW.exit | apply QW.then_ret | apply QW.then_exit | apply QW.blk_n | apply QW.blk_ret | apply QW.blk_exit | refine Ca ?_ | refine Cb ?_ | refine Cc ?_ | refine Lh ?_ | refine Li ?_ | refine Lj ?_ | refine Lk ?_ | refine Ll ?_))
        refine QW.body_ct Tryd.results68 rfl hC rfl rfl rfl rfl ⟨?_, hx2⟩
        rw [num_over hik h1 hall' (.inl (by omega))]
        exact ⟨_, rfl⟩
      · have h3 : numT 0 ((s.take k).drop i) ≤ (9223372036854775807 - (byte s k - 48)) / 10 := by simpa using h3
        (repeat (first | refine La ?_ | refine Lb ?_ | refine Lc ?_ | refine Ld ?_ | refine Le ?_ | refine Lf ?_ | refine Lg ?_ | apply LW.nil | apply QW.then_n | apply QW.round | apply RW.succ | apply CW.seq | apply CW.region | apply CW.skip | apply CW.block | apply CW.ret | apply CW.exit | apply QW.then_ret | apply QW.then_exit | apply QW.blk_n | apply QW.blk_ret | apply QW.blk_exit | refine Ca ?_ | refine Cb ?_ | refine Cc ?_ | refine Lh ?_ | refine Li ?_ | refine Lj ?_ | refine Lk ?_ | refine Ll ?_))
        refine LW.part rfl rfl rfl (fun h4 => ?_) (fun h4 => ?_)
        · have h4 : i < k := by simp at h4; omega
          (repeat (first | refine La ?_ | refine Lb ?_ | refine Lc ?_ | refine Ld ?_ | refine Le ?_ | refine Lf ?_ | refine Lg ?_ | apply LW.nil | apply QW.then_n | apply QW.round | apply RW.succ | apply CW.seq | apply CW.region | apply CW.skip | apply CW.block | apply CW.ret | apply CW.exit | apply QW.then_ret | apply QW.then_exit | apply QW.blk_n | apply QW.blk_ret | apply QW.blk_exit | refine Ca ?_ | refine Cb ?_ | refine Cc ?_ | refine Lh ?_ | refine Li ?_ | refine Lj ?_ | refine Lk ?_ | refine Ll ?_))
          refine CW.cond rfl (fun h5 => ?_) (fun h5 => ?_)
          · have h5 : numT 0 ((s.take k).drop i) = 0 := by simpa using h5
            (repeat (first | refine La ?_ | refine Lb ?_ | refine Lc ?_ | refine Ld ?_ | refine Le ?_ | refine Lf ?_ | refine Lg ?_ | apply LW.nil | apply QW.then_n | apply QW.round | apply RW.succ | apply CW.seq | apply CW.region | apply CW.skip | apply CW.block | apply CW.ret | apply CW.exit | apply QW.then_ret | apply QW.then_exit | apply QW.blk_n | apply QW.blk_ret | apply QW.blk_exit | refine Ca ?_ | refine Cb ?_ | refine Cc ?_ | refine Lh ?_ | refine Li ?_ | refine Lj ?_ | refine Lk ?_ | refine Ll ?_))
            (apply LW.store_all; exact rfl; exact rfl; exact rfl; assumption; exact rfl; exact rfl; exact rfl; intro w8 hc8 hC)
            replace hC : Blk w8 C (tokL ⟨0, [], 0, refN, 0⟩) 47 := hC
            replace hx2 := hx2.step hc8 (by simp; omega)
            (repeat (first | refine La ?_ | refine Lb ?_ | refine Lc ?_ | refine Ld ?_ | refine Le ?_ | refine Lf ?_ | refine Lg ?_ | apply LW.nil | apply QW.then_n | apply QW.round | apply RW.succ | apply CW.seq | apply CW.region | apply CW.skip | apply CW.block | apply CW.ret | apply CW.exit | apply QW.then_ret | apply QW.then_exit | apply QW.blk_n | apply QW.blk_ret | apply QW.blk_exit | refine Ca ?_ | refine Cb ?_ | refine Cc ?_ | refine Lh ?_ | refine Li ?_ | refine Lj ?_ | refine Lk ?_ | refine Ll ?_))
            refine QW.body_ct Tryd.results68 rfl hC rfl rfl rfl rfl ⟨?_, hx2⟩
            rw [num_over hik h1 hall' (.inr ⟨h4, h5⟩)]
            exact ⟨_, rfl⟩
          · have h5 : numT 0 ((s.take k).drop i) ≠ 0 := by simpa using h5
            (repeat (first | refine La ?_ | refine Lb ?_ | refine Lc ?_ | refine Ld ?_ | refine Le ?_ | refine Lf ?_ | refine Lg ?_ | apply LW.nil | apply QW.then_n | apply QW.round | apply RW.succ | apply CW.seq | apply CW.region | apply CW.skip | apply CW.block | apply CW.ret | apply CW.exit | apply QW.then_ret | apply QW.then_exit | apply QW.blk_n | apply QW.blk_ret | apply QW.blk_exit | refine Ca ?_ | refine Cb ?_ | refine Cc ?_ | refine Lh ?_ | refine Li ?_ | refine Lj ?_ | refine Lk ?_ | refine Ll ?_))
            refine QW.again (k + 1) ⟨by omega, by omega, hx2, hC, fun j hj hjk => hall' j hj (by omega), by omega, by omega, ?_⟩ (by rw [hnx]; exact (Sub.cons rfl (Sub.cons rfl (Sub.cons rfl (Sub.cons rfl (Sub.cons rfl (Sub.nil))))))) (by omega)
            intro hl
            by_cases e : i + 1 = k
            · rw [e]; exact h5
            · exact hlead (by omega)
        · have h4 : i = k := by simp at h4; omega
          (repeat (first | refine La ?_ | refine Lb ?_ | refine Lc ?_ | refine Ld ?_ | refine Le ?_ | refine Lf ?_ | refine Lg ?_ | apply LW.nil | apply QW.then_n | apply QW.round | apply RW.succ | apply CW.seq | apply CW.region | apply CW.skip | apply CW.block | apply CW.ret | apply CW.exit | apply QW.then_ret | apply QW.then_exit | apply QW.blk_n | apply QW.blk_ret | apply QW.blk_exit | refine Ca ?_ | refine Cb ?_ | refine Cc ?_ | refine Lh ?_ | refine Li ?_ | refine Lj ?_ | refine Lk ?_ | refine Ll ?_))
          refine QW.again (k + 1) ⟨by omega, by omega, hx2, hC, fun j hj hjk => hall' j hj (by omega), by omega, by omega, ?_⟩ (by rw [hnx]; exact (Sub.cons rfl (Sub.cons rfl (Sub.cons rfl (Sub.cons rfl (Sub.cons rfl (Sub.nil))))))) (by omega)
          omega
    · have h2 : digB (byte s k) = false := h2
      (repeat (first | refine La ?_ | refine Lb ?_ | refine Lc ?_ | refine Ld ?_ | refine Le ?_ | refine Lf ?_ | refine Lg ?_ | apply LW.nil | apply QW.then_n | apply QW.round | apply RW.succ | apply CW.seq | apply CW.region | apply CW.skip | apply CW.block | apply CW.ret | apply CW.exit | apply QW.then_ret | apply QW.then_exit | apply QW.blk_n | apply QW.blk_ret | apply QW.blk_exit | refine Ca ?_ | refine Cb ?_ | refine Cc ?_ | refine Lh ?_ | refine Li ?_ | refine Lj ?_ | refine Lk ?_ | refine Ll ?_))
      (apply LW.store_all; exact rfl; exact rfl; exact rfl; assumption; exact rfl; exact rfl; exact rfl; intro w8 hc8 hC)
      replace hC : Blk w8 C (tokL ⟨1, [], numT 0 ((s.take k).drop i), refN, i⟩) 47 := hC
      replace hx2 := hx2.step hc8 (by simp; omega)
      (repeat (first | refine La ?_ | refine Lb ?_ | refine Lc ?_ | refine Ld ?_ | refine Le ?_ | refine Lf ?_ | refine Lg ?_ | apply LW.nil | apply QW.then_n | apply QW.round | apply RW.succ | apply CW.seq | apply CW.region | apply CW.skip | apply CW.block | apply CW.ret | apply CW.exit | apply QW.then_ret | apply QW.then_exit | apply QW.blk_n | apply QW.blk_ret | apply QW.blk_exit | refine Ca ?_ | refine Cb ?_ | refine Cc ?_ | refine Lh ?_ | refine Li ?_ | refine Lj ?_ | refine Lk ?_ | refine Ll ?_))
      refine QW.body_ct Tryd.results68 rfl hC rfl rfl rfl rfl ⟨?_, hx2⟩
      have hkk : i < k := by
        by_cases e : i = k
        · subst e
          first
          | (rw [hd] at h2; cases h2)
          | omega
        · omega
      rw [num_good hkk hk hall ?_ hn1 hlead]
      · have e : ((k - i : Nat) : Int) = (k : Int) - i := by omega
        show _ = Value.tuple #[_, .int .i64 ((k - i : Nat) : Int)]
        rw [e]
      · exact .inr h2
  · have h1 : k = s.length := by simp at h1; omega
    (repeat (first | refine La ?_ | refine Lb ?_ | refine Lc ?_ | refine Ld ?_ | refine Le ?_ | refine Lf ?_ | refine Lg ?_ | apply LW.nil | apply QW.then_n | apply QW.round | apply RW.succ | apply CW.seq | apply CW.region | apply CW.skip | apply CW.block | apply CW.ret | apply CW.exit | apply QW.then_ret | apply QW.then_exit | apply QW.blk_n | apply QW.blk_ret | apply QW.blk_exit | refine Ca ?_ | refine Cb ?_ | refine Cc ?_ | refine Lh ?_ | refine Li ?_ | refine Lj ?_ | refine Lk ?_ | refine Ll ?_))
    (apply LW.store_all; exact rfl; exact rfl; exact rfl; assumption; exact rfl; exact rfl; exact rfl; intro w8 hc8 hC)
    replace hC : Blk w8 C (tokL ⟨1, [], numT 0 ((s.take k).drop i), refN, i⟩) 47 := hC
    replace hx2 := hx2.step hc8 (by simp; omega)
    (repeat (first | refine La ?_ | refine Lb ?_ | refine Lc ?_ | refine Ld ?_ | refine Le ?_ | refine Lf ?_ | refine Lg ?_ | apply LW.nil | apply QW.then_n | apply QW.round | apply RW.succ | apply CW.seq | apply CW.region | apply CW.skip | apply CW.block | apply CW.ret | apply CW.exit | apply QW.then_ret | apply QW.then_exit | apply QW.blk_n | apply QW.blk_ret | apply QW.blk_exit | refine Ca ?_ | refine Cb ?_ | refine Cc ?_ | refine Lh ?_ | refine Li ?_ | refine Lj ?_ | refine Lk ?_ | refine Ll ?_))
    refine QW.body_ct Tryd.results68 rfl hC rfl rfl rfl rfl ⟨?_, hx2⟩
    have hkk : i < k := by
      by_cases e : i = k
      · subst e
        first
        | (rw [hd] at h2; cases h2)
        | omega
      · omega
    rw [num_good hkk hk hall ?_ hn1 hlead]
    · have e : ((k - i : Nat) : Int) = (k : Int) - i := by omega
      show _ = Value.tuple #[_, .int .i64 ((k - i : Nat) : Int)]
      rw [e]
    · exact .inl h1
end Go.Proofs.YtfpklhgkndnjjaaDoor
