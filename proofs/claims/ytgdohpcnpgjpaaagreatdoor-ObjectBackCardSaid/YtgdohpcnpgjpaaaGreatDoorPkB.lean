/-
  Joined by program out of the texts LexM LexN InS ParL1 ParL2 Tree.
-/
import Derived.Test.YtgdohpcnpgjpaaaGreatDoorPkA
import Derived.Test.YtgdohpcnpgjpaaaGreatDoorTab
import Derived.Test.YtgdohpcnpgjpaaaGreatDoorPkE
import Derived.DataElems
namespace Go.Proofs.YtgdohpcnpgjpaaaGreatDoor
open Go Go.E
def RT (i : Nat) (w : World) (o : Option (TokD × Nat)) (v : Value) (w' : World) : Prop :=
 (match o with
  | none => ∃ t, v = .tuple #[.agg ⟨tokL t⟩, .int .i64 0]
  | some (t, k) => v = .tuple #[.agg ⟨tokL { t with at_ := (i : Int) }⟩, .int .i64 ((k : Nat) : Int)]) ∧ Ext w w'
theorem take_byte {s : List UInt8} {k : Nat} (h : k < s.length) : s.take (k + 1) = s.take k ++ [ch (byte s k)] := by
 rw [take_snoc' h]
 congr 2
 rw [byte_eq h, ch]; simp
theorem numT_byte (acc : Int) (l : List UInt8) {z : Int} (h0 : 0 ≤ z) (h1 : z ≤ 255) : numT acc (l ++ [ch z]) = 10 * numT acc l + (z - 48) := by
 rw [numT_snoc, ch_toNat h0 h1]
theorem drop_take_byte {s : List UInt8} {i k : Nat} (hi : i ≤ k) (h : k < s.length) : (s.take (k + 1)).drop i = (s.take k).drop i ++ [ch (byte s k)] := by
 rw [take_byte h, List.drop_append_of_le_length (by simp; omega)]
theorem numT_zero_bytes : ∀ (l : List UInt8) (acc : Int), 0 ≤ acc → (∀ c ∈ l, 48 ≤ c.toNat) → numT acc l = 0 → acc = 0 ∧ ∀ c ∈ l, c.toNat = 48
 | [], acc, _, _, h => ⟨h, by simp⟩
 | c :: r, acc, ha, hd, h => by
  have hc := hd c (by simp); obtain ⟨e, hr⟩ := numT_zero_bytes r (10 * acc + ((c.toNat : Int) - 48)) (by omega) (fun x hx => hd x (by simp [hx])) h; exact ⟨by omega, fun x hx => by
   simp only [List.mem_cons] at hx; rcases hx with rfl | hx
   ·omega
   ·exact hr x hx⟩
theorem take_drop_self (s : List UInt8) (i : Nat) : (s.take i).drop i = [] := List.drop_eq_nil_of_le (by simp; omega)
theorem span_append (p : Int → Bool) : ∀ (a b : List UInt8), (∀ c ∈ a, p (c.toNat : Int) = true) → spanL p (a ++ b) = a ++ spanL p b
 | [], _, _ => rfl
 | c :: a, b, h => by
  have hc := h c (by simp); have ih := span_append p a b (fun d hd => h d (by simp [hd])); simp only [spanL] at ih ⊢; simp [hc, ih]
theorem num_over {s : List UInt8} {i k : Nat} (hi : i ≤ k) (hk : k < s.length) (hall : ∀ j, i ≤ j → j ≤ k → digB (byte s j) = true)
  (h : 9223372036854775807 < numT 0 ((s.take (k + 1)).drop i) ∨ (i < k ∧ numT 0 ((s.take k).drop i) = 0)) : numO (s.drop i) = none := by
 have hD : (s.take (k + 1)).drop i <+: spanL digB (s.drop i) := by
  rw [show (s.take (k + 1)).drop i = (s.drop i).take (k + 1 - i) by rw [List.drop_take]]; have e1 : ∀ c ∈ (s.drop i).take (k + 1 - i), digB (c.toNat : Int) = true := by
   intro c hc; obtain ⟨j, hj, rfl⟩ := List.mem_iff_getElem.1 hc; simp only [List.length_take, List.length_drop] at hj; have := hall (i + j) (by omega) (by omega); rw [byte_eq (by omega)] at this
   simpa using this
  have e2 := span_append digB _ ((s.drop i).drop (k + 1 - i)) e1; rw [List.take_append_drop] at e2; rw [e2]; exact List.prefix_append _ _
 obtain ⟨r, hr⟩ := hD; have hne : spanL digB (s.drop i) ≠ [] := by
  rw [← hr, drop_take_byte hi hk]; simp
 have hdig := span_all digB (s.drop i); have h48 : ∀ c ∈ spanL digB (s.drop i), 48 ≤ c.toNat := fun c hc => by
  have := hdig c hc; simp [digB] at this; omega
 rw [numO_is hne, if_neg]; rintro ⟨h1, h2⟩; rcases h with h | ⟨hlt, h⟩
 ·rw [← hr] at h1; have e : numT 0 ((s.take (k + 1)).drop i ++ r) = numT (numT 0 ((s.take (k + 1)).drop i)) r := by simp [numT]
  have := numT_mono r (numT 0 ((s.take (k + 1)).drop i)) (by omega) (fun c hc => h48 c (by rw [← hr]; simp [hc])); omega
 ·have e : spanL digB (s.drop i) = (s.take k).drop i ++ ([ch (byte s k)] ++ r) := by rw [← hr, drop_take_byte hi hk, List.append_assoc]
  have hz := (numT_zero_bytes ((s.take k).drop i) 0 (by omega) (fun c hc => h48 c (by rw [e]; simp [hc])) h).2; have hl : ((s.take k).drop i).length = k - i := by simp; omega
  have hb : byte (spanL digB (s.drop i)) 0 = 48 := by
   rw [e, byte_append_left (by omega)]; obtain ⟨c, hm, hc⟩ := byte_mem (l := (s.take k).drop i) (j := 0) (by omega); rw [hc, hz c hm]; rfl
  rcases h2 with h2 | h2
  ·exact h2 hb
  ·rw [e] at h2; simp at h2; omega
theorem num_good {s : List UInt8} {i k : Nat} (hi : i < k) (hk : k ≤ s.length) (hall : ∀ j, i ≤ j → j < k → digB (byte s j) = true) (hend : k = s.length ∨ digB (byte s k) = false)
  (h1 : numT 0 ((s.take k).drop i) ≤ 9223372036854775807) (h2 : i + 1 < k → numT 0 ((s.take (i + 1)).drop i) ≠ 0) : numO (s.drop i) = some (⟨1, [], numT 0 ((s.take k).drop i), refN, 0⟩, k - i) := by
 obtain ⟨e1, e2⟩ := span_from digB s i k (by omega) hk hall hend; have hne : spanL digB (s.drop i) ≠ [] := by
  intro hn; rw [hn] at e2; simp at e2; omega
 rw [numO_is hne, ← e1, if_pos]
 ·congr 2
  simp; omega
 ·refine ⟨h1, ?_⟩; by_cases hl : i + 1 < k
  ·refine .inl fun hb => h2 hl ?_; rw [drop_take_byte (Nat.le_refl i) (by omega)]; have := take_drop_self s i; rw [this, List.nil_append]; rw [e1, (span_pos (p := digB) (l := s.drop i) (by simp; omega) (by rw [byte_drop']; exact hall i (by omega) (by omega))).2, byte_drop'] at hb; have hb : byte s i = 48 := hb; rw [hb]; rfl
  ·right
   simp; omega
theorem rnumber_ret (s : List UInt8) (hs : s.length ≤ 1000) (i : Nat) (hi : i < s.length) (hd : digB (byte s i) = true) (w : World) :
  Ret Tryz.prog 125 [str s, .int .i64 i] w (RT i w (numO (s.drop i))) := by
 refine Rte Tryz.func125 Tryz.ntmps125 ?_; refine Sa ?_; refine Lwa fun C w1 hbC hx hC => ?_; refine Sa ?_; refine CW.loop (ι := Nat) (fun k w' => i ≤ k ∧ k ≤ s.length ∧ Ext w w' ∧ Blk w' C (tokL ⟨0, [], 0, refN, 0⟩) 100 ∧ (∀ j, i ≤ j → j < k → digB (byte s j) = true) ∧ 0 ≤ numT 0 ((s.take k).drop i) ∧ numT 0 ((s.take k).drop i) ≤ 9223372036854775807 ∧ (i + 1 < k → numT 0 ((s.take (i + 1)).drop i) ≠ 0)) (fun k => [(0, str s), (1, .int .i64 i), (4, .pointer (some ⟨C, 0, none⟩)), (6, .int .i64 (numT 0 ((s.take k).drop i))), (7, .int .i64 k)]) (fun k => s.length - k) i
  ⟨by omega, by omega, hx, hC, by omega, ?_, ?_, by omega⟩ ?_ ?_
 ·have := take_drop_self s i; rw [this]; exact Int.le_refl _
 ·have := take_drop_self s i; rw [this]; decide
 ·have := take_drop_self s i; simp only [this]; exact Sub5
 clear hC; rintro k w2 ⟨hik, hk, hx2, hC, hall, hn0, hn1, hlead⟩; refine Sa ?_; refine Lwp (fun h1 => ?_) fun h1 => ?_
 ·have h1 : k < s.length := by simpa using h1
  refine Sa ?_; refine Lc0 rfl rfl (rdigit_ret _ _) ?_; rintro v w3 ⟨rfl, hx3⟩; replace hC := hC.ext hx3; replace hx2 := hx2.trans hx3; refine Sa ?_; refine Cwc (fun h2 => ?_) fun h2 => ?_
  ·have h2 : digB (byte s k) = true := h2; have hall' : ∀ j, i ≤ j → j ≤ k → digB (byte s j) = true := fun j hj hjk => by
    by_cases e : j = k
    ·subst e; exact h2
    ·exact hall j hj (by omega)
   have hdk : 48 ≤ byte s k ∧ byte s k ≤ 57 := by
    have := h2; simp [digB] at this; omega
   have hnx : numT 0 ((s.take (k + 1)).drop i) = 10 * numT 0 ((s.take k).drop i) + (byte s k - 48) := by
    rw [drop_take_byte hik h1, numT_byte _ _ (by omega) (by omega)]
   refine Sa ?_; refine Lwp (fun h3 => ?_) fun h3 => ?_
   ·have h3 : (9223372036854775807 - (byte s k - 48)) / 10 < numT 0 ((s.take k).drop i) := by simpa using h3
    refine Sa ?_; refine Sa ?_; refine Lws fun w8 hc8 hC => ?_; replace hC : Blk w8 C (tokL ⟨0, [], 0, refN, 0⟩) 100 := hC; replace hx2 := hx2.step hc8 (by simp; omega); refine Sa ?_; refine QW.body_ct Tryz.results125 rfl hC rfl rfl rfl rfl ⟨?_, hx2⟩; rw [num_over hik h1 hall' (.inl (by omega))]; exact ⟨_, rfl⟩
   ·have h3 : numT 0 ((s.take k).drop i) ≤ (9223372036854775807 - (byte s k - 48)) / 10 := by simpa using h3
    refine Sa ?_; refine Lwp (fun h4 => ?_) fun h4 => ?_
    ·have h4 : i < k := by simp at h4; omega
     refine Sa ?_; refine Cwc (fun h5 => ?_) fun h5 => ?_
     ·have h5 : numT 0 ((s.take k).drop i) = 0 := by simpa using h5
      refine Sa ?_; refine Lws fun w8 hc8 hC => ?_; replace hC : Blk w8 C (tokL ⟨0, [], 0, refN, 0⟩) 100 := hC; replace hx2 := hx2.step hc8 (by simp; omega); refine Sa ?_; refine QW.body_ct Tryz.results125 rfl hC rfl rfl rfl rfl ⟨?_, hx2⟩; rw [num_over hik h1 hall' (.inr ⟨h4, h5⟩)]; exact ⟨_, rfl⟩
     ·have h5 : numT 0 ((s.take k).drop i) ≠ 0 := by simpa using h5
      refine Sa ?_; refine QW.again (k + 1) ⟨by omega, by omega, hx2, hC, fun j hj hjk => hall' j hj (by omega), by omega, by omega, ?_⟩ (by rw [hnx]; exact (Sub.cons rfl (Sub.cons rfl (Sub.cons rfl (Sub.cons rfl (Sub.cons rfl (Sub.nil))))))) (by omega); intro hl; by_cases e : i + 1 = k
      ·rw [e]; exact h5
      ·exact hlead (by omega)
    ·have h4 : i = k := by simp at h4; omega
     refine Sa ?_; refine QW.again (k + 1) ⟨by omega, by omega, hx2, hC, fun j hj hjk => hall' j hj (by omega), by omega, by omega, ?_⟩ (by rw [hnx]; exact (Sub.cons rfl (Sub.cons rfl (Sub.cons rfl (Sub.cons rfl (Sub.cons rfl (Sub.nil))))))) (by omega); omega
  ·have h2 : digB (byte s k) = false := h2; refine Sa ?_; refine Lws fun w8 hc8 hC => ?_; replace hC : Blk w8 C (tokL ⟨1, [], numT 0 ((s.take k).drop i), refN, i⟩) 100 := hC; replace hx2 := hx2.step hc8 (by simp; omega); refine Sa ?_; refine QW.body_ct Tryz.results125 rfl hC rfl rfl rfl rfl ⟨?_, hx2⟩; have hkk : i < k := by
    by_cases e : i = k
    ·subst e
     first
     | (rw [hd] at h2; cases h2)
     | omega
    ·omega
   rw [num_good hkk hk hall ?_ hn1 hlead]
   ·have e : ((k - i : Nat) : Int) = (k : Int) - i := by omega
    show _ = Value.tuple #[_, .int .i64 ((k - i : Nat) : Int)]; rw [e]
   ·exact .inr h2
 ·have h1 : k = s.length := by simp at h1; omega
  refine Sa ?_; refine Lws fun w8 hc8 hC => ?_; replace hC : Blk w8 C (tokL ⟨1, [], numT 0 ((s.take k).drop i), refN, i⟩) 100 := hC; replace hx2 := hx2.step hc8 (by simp; omega); refine Sa ?_; refine QW.body_ct Tryz.results125 rfl hC rfl rfl rfl rfl ⟨?_, hx2⟩; have hkk : i < k := by
   by_cases e : i = k
   ·subst e
    first
    | (rw [hd] at h2; cases h2)
    | omega
   ·omega
  rw [num_good hkk hk hall ?_ hn1 hlead]
  ·have e : ((k - i : Nat) : Int) = (k : Int) - i := by omega
   show _ = Value.tuple #[_, .int .i64 ((k - i : Nat) : Int)]; rw [e]
  ·exact .inl h1
theorem rquoted_ret (s : List UInt8) (hs : s.length ≤ 1000) (a : Nat) (ha : a < s.length) (w : World) :
  Ret Tryz.prog 126 [str s, .int .i64 a] w (RT a w (textO (s.drop a))) := by
 refine Rte Tryz.func126 Tryz.ntmps126 ?_; refine Sa ?_; refine Lwa fun C w1 hbC hx hC => ?_; have hz1 : C < w1.heap.size := hC.lt; refine Sa ?_; refine CW.loop (ι := Nat × List UInt8 × Value) (fun k w' => k.1 ≤ s.length ∧ k.2.1.length ≤ k.1 ∧ Ext w1 w' ∧ Own w' w1.heap.size 5 1 k.2.2 k.2.1.length (bcells k.2.1) ∧ ScanAt s (a + 1) k.1 k.2.1) (fun k => [(0, str s), (1, .int .i64 a), (4, .pointer (some ⟨C, 0, none⟩)), (6, k.2.2), (7, .int .i64 k.1)]) (fun k => s.length - k.1) (a + 1, [], .slice none 0 0) ⟨by simp; omega, by simp, Chg.refl _ _, Own.nil _ _ _ _, ScanAt.start _ _⟩ Sub5 ?_; rintro ⟨i, out, v⟩ w2 ⟨hi, ho, hx2, hown, hsc⟩; simp only at hi ho hown hsc; show CW _ _ _ _ _ [(0, str s), (1, .int .i64 a), (4, .pointer (some ⟨C, 0, none⟩)), (6, v), (7, .int .i64 i)] _; have ha1 := hsc.1; have hcv : C ∉ vblk v := hown.old hz1; replace hC := hC.ext hx2; have hz2 := hx2.size; refine Sa ?_; refine Cwc (fun h1 => ?_) fun h1 => ?_
 ·have h1 : i < s.length := by simp at h1; omega
  have hby := byte_lt s i; refine Sa ?_; refine Cwc (fun h5 => ?_) fun h5 => ?_
  ·have h5 : byte s i < 32 := by simpa using h5
   refine Sa ?_; refine Lws fun w8 hc8 hC => ?_; replace hC : Blk w8 C (tokL ⟨0, [], 0, refN, 0⟩) 100 := hC; replace hx2 := (hx.trans hx2).step hc8 (by simp; omega); refine Sa ?_; refine QW.body_ct Tryz.results126 rfl hC rfl rfl rfl rfl ⟨?_, hx2⟩; have e := hsc.2; rw [scan_low (i := i) (by omega) h5] at e; simp only [textO, List.drop_drop]; rw [e]; exact ⟨_, rfl⟩
  have h5 : ¬ byte s i < 32 := by simpa using h5
  refine Sa ?_; refine Cwc (fun h2 => ?_) fun h2 => ?_
  ·have h2 : byte s i ≠ 34 := by simpa using h2
   refine Sa ?_; refine Sa ?_; refine Lwl fun A w3 hbA hx3 hA => ?_; replace hown := hown.ext hx3; replace hx2 := hx2.trans hx3; have hz3 := hx2.size; refine Sa ?_; refine LW.append rfl rfl rfl rfl rfl rfl hown (by omega) hA rfl rfl rfl (by show (out.length + 1) * 2 ≤ 140737488355328; omega) rfl ?_; intro v' w4 hc4 hown' hv'; replace hx2 := hx2.step hc4 (fun k hk => (hown.lt hk).1); refine Sa ?_; refine QW.again (i + 1, out ++ [ch (byte s i)], v') ⟨by show i + 1 ≤ _; omega, by show (out ++ _).length ≤ i + 1; simp; omega, hx2, own_snoc hby.1 (by omega) hown', ScanAt.go hsc (by omega) ?_⟩ Sub5 (by show s.length - (i + 1) < s.length - i; omega); rw [scan_go h1 h2 h5, show i + 1 - i = 1 by omega]
  have h2 : byte s i = 34 := by simpa using h2
  refine Sa ?_; refine Lwp (fun h3 => ?_) fun h3 => ?_
  ·have h3 : ¬ i + 1 < s.length := by simp at h3; omega
   have h4 : i + 1 < s.length → byte s (i + 1) ≠ 34 := fun h => absurd h h3; refine Sa ?_; refine LW.string_own rfl hown rfl rfl rfl rfl rfl rfl rfl ?_; refine Sa ?_; refine Lws fun w8 hc8 hC => ?_; replace hC : Blk w8 C (tokL ⟨2, out, 0, refN, a⟩) 100 := hC; replace hx2 := (hx.trans hx2).step hc8 (by simp; omega); refine Sa ?_; refine QW.body_ct Tryz.results126 rfl hC rfl rfl rfl rfl ⟨?_, hx2⟩; have e := hsc.2; rw [scan_quote h1 h2 h4] at e; simp only [textO, List.drop_drop]; rw [e]; have e2 : (i : Int) + 1 - a = ((1 + (i - (a + 1)) + 1 : Nat) : Int) := by omega
   simp only [Option.map_some, List.append_nil]; rw [e2]
  ·have h3 : i + 1 < s.length := by simp at h3; omega
   refine Sa ?_; refine Cwc (fun h4 => ?_) fun h4 => ?_
   ·have h4 : i + 1 < s.length → byte s (i + 1) ≠ 34 := fun _ => by simpa using h4
    refine Sa ?_; refine LW.string_own rfl hown rfl rfl rfl rfl rfl rfl rfl ?_; refine Sa ?_; refine Lws fun w8 hc8 hC => ?_; replace hC : Blk w8 C (tokL ⟨2, out, 0, refN, a⟩) 100 := hC; replace hx2 := (hx.trans hx2).step hc8 (by simp; omega); refine Sa ?_; refine QW.body_ct Tryz.results126 rfl hC rfl rfl rfl rfl ⟨?_, hx2⟩; have e := hsc.2; rw [scan_quote h1 h2 h4] at e; simp only [textO, List.drop_drop]; rw [e]; have e2 : (i : Int) + 1 - a = ((1 + (i - (a + 1)) + 1 : Nat) : Int) := by omega
    simp only [Option.map_some, List.append_nil]; rw [e2]
   ·have h4 : byte s (i + 1) = 34 := by simpa using h4
    refine Sa ?_; refine Sa ?_; refine Lwl fun A w3 hbA hx3 hA => ?_; replace hown := hown.ext hx3; replace hx2 := hx2.trans hx3; have hz3 := hx2.size; refine Sa ?_; refine LW.append rfl rfl rfl rfl rfl rfl hown (by omega) hA rfl rfl rfl (by show (out.length + 1) * 2 ≤ 140737488355328; omega) rfl ?_; intro v' w4 hc4 hown' hv'; replace hx2 := hx2.step hc4 (fun k hk => (hown.lt hk).1); refine Sa ?_; refine QW.again (i + 2, out ++ [ch 34], v') ⟨by show i + 2 ≤ _; omega, by show (out ++ _).length ≤ i + 2; simp; omega, hx2, own_snoc (by omega) (by omega) hown', ScanAt.go hsc (by omega) ?_⟩ Sub5 (by show s.length - (i + 2) < s.length - i; omega); rw [scan_two h3 h2 h4, show i + 2 - i = 2 by omega]; rfl
 ·have h1 : i = s.length := by simp at h1; omega
  refine Sa ?_; refine Lws fun w8 hc8 hC => ?_; replace hC : Blk w8 C (tokL ⟨0, [], 0, refN, 0⟩) 100 := hC; replace hx2 := (hx.trans hx2).step hc8 (by simp; omega); refine Sa ?_; refine QW.body_ct Tryz.results126 rfl hC rfl rfl rfl rfl ⟨?_, hx2⟩; have e := hsc.2; rw [scan_end (i := i) (by omega)] at e; simp only [textO, List.drop_drop]; rw [e]; exact ⟨_, rfl⟩
theorem rcalled_ret (s : List UInt8) (hs : s.length ≤ 1000000) (w : World) : Ret Tryz.prog 134 [str s] w (fun v w' => v = .bool (fnB s) ∧ Ext w w') := by
 refine Rte Tryz.func134 Tryz.ntmps134 ?_; refine Sa ?_; refine CW.loop (ι := Nat) (fun k w' => k ≤ s.length ∧ Ext w w' ∧ ∀ j, j < k → cdB (byte s j) = true) (fun k => [(0, str s), (3, .int .i64 k)]) (fun k => s.length - k) 0 ⟨by omega, Chg.refl _ _, by omega⟩ Sub2 ?_; rintro k w2 ⟨hk, hx2, hall⟩; refine Sa ?_; refine Cwc (fun h3 => ?_) fun h3 => ?_
 ·have h3 : k < s.length := by simpa using h3
  refine Sa ?_; refine Lc0 rfl rfl (rcapital_ret _ _) ?_; rintro v w3 ⟨rfl, hx3⟩; refine Sa ?_; refine Lwp (fun h4 => ?_) fun h4 => ?_
  ·refine Sa ?_; refine Lc0 rfl rfl (rdigit_ret _ _) ?_; rintro v w4 ⟨rfl, hx4⟩; refine Sa ?_; refine Cwc (fun h5 => ?_) fun h5 => ?_
   ·refine Sa ?_; refine QW.body1 Tryz.results134 rfl ⟨?_, (hx2.trans hx3).trans hx4⟩; rw [fnB_at h3]; simp at h4 h5; simp [cdB, h4, h5]
   ·refine Sa ?_; refine QW.again (k + 1) ⟨by omega, (hx2.trans hx3).trans hx4, ?_⟩ Sub2 (by omega); intro j hj; by_cases hjk : j = k
    ·subst hjk; simp at h5; simp [cdB, h5]
    ·exact hall j (by omega)
  ·refine Sa ?_; refine QW.again (k + 1) ⟨by omega, hx2.trans hx3, ?_⟩ Sub2 (by omega); intro j hj; by_cases hjk : j = k
   ·subst hjk; simp at h4; simp [cdB, h4]
   ·exact hall j (by omega)
 ·have h3 : k = s.length := by simp at h3; omega
  subst h3; refine Sa ?_; refine Lwp (fun h0 => ?_) fun h0 => ?_
  ·have h0 : 0 < s.length := by simp at h0; omega
   refine Sa ?_; refine Lwp (fun h1 => ?_) fun h1 => ?_
   ·have h1 : s.length ≤ 12 := by simp at h1; omega
    refine Sa ?_; refine Lc0 rfl rfl (rcapital_ret _ _) ?_; rintro v w3 ⟨rfl, hx3⟩; refine Sa ?_; refine QW.body1 Tryz.results134 rfl ⟨?_, hx2.trans hx3⟩; cases h2 : capB (byte s 0)
    ·rw [fnB_first h2]; exact congrArg Value.bool h2
    ·rw [fnB_true (List.length_pos_iff.1 h0) h1 h2 hall]; exact congrArg Value.bool h2
   ·have h1 : 12 < s.length := by simp at h1; omega
    refine Sa ?_; refine QW.body1 Tryz.results134 rfl ⟨?_, hx2⟩; rw [fnB_long h1]
  ·have h0 : s = [] := by simp at h0; exact List.eq_nil_of_length_eq_zero (by omega)
   refine Sa ?_; refine QW.body1 Tryz.results134 rfl ⟨?_, hx2⟩; rw [h0, fnB_nil]
theorem wi_eq (c : Int) : wiB c = (letB c || (digB c || (decide (c = 36) || decide (c = 33)))) := by
 unfold wiB begB letB; cases capB c <;> cases digB c <;> cases (decide (97 ≤ c) && decide (c ≤ 122)) <;> cases decide (c = 36) <;> cases decide (c = 33) <;> rfl
theorem rword_ret (s : List UInt8) (hs : s.length ≤ 1000) (a : Nat) (ha : a < s.length) (w : World) :
  Ret Tryz.prog 127 [str s, .int .i64 a] w (RT a w (wordO (s.drop a))) := by
 refine Rte Tryz.func127 Tryz.ntmps127 ?_; refine Sa ?_; refine Lwa fun C w1 hbC hx hC => ?_; refine Sa ?_; refine CW.loop (ι := Nat) (fun k w' => a ≤ k ∧ k ≤ s.length ∧ Ext w w' ∧ Blk w' C (tokL ⟨0, [], 0, refN, 0⟩) 100 ∧ (∀ j, a ≤ j → j < k → wiB (byte s j) = true)) (fun k => [(0, str s), (1, .int .i64 a), (4, .pointer (some ⟨C, 0, none⟩)), (6, .int .i64 k)]) (fun k => s.length - k) a
  ⟨by omega, by omega, hx, hC, by omega⟩ Sub4 ?_
 clear hC; rintro k w2 ⟨hik, hk, hx2, hC, hall⟩; refine Sa ?_; refine Lwp (fun h1 => ?_) fun h1 => ?_
 ·have h1 : k < s.length := by simpa using h1
  refine Sa ?_; refine Lc0 rfl rfl (rletter_ret _ _) ?_; rintro v w3 ⟨rfl, hx3⟩; replace hC := hC.ext hx3; replace hx2 := hx2.trans hx3; refine Sa ?_; refine Lwp (fun h2 => ?_) fun h2 => ?_
  ·have h2 : letB (byte s k) = true := h2; have hw : wiB (byte s k) = true := by rw [wi_eq, h2]; rfl
   refine Sa ?_; refine QW.again (k + 1) ⟨by omega, by omega, hx2, hC, ?_⟩ Sub4 (by omega); intro j hj hjk; by_cases e : j = k
   ·subst e; exact hw
   ·exact hall j hj (by omega)
  ·have h2 : letB (byte s k) = false := h2; refine Sa ?_; refine Lc0 rfl rfl (rdigit_ret _ _) ?_; rintro v w4 ⟨rfl, hx4⟩; replace hC := hC.ext hx4; replace hx2 := hx2.trans hx4; refine Sa ?_; refine Lwp (fun h3 => ?_) fun h3 => ?_
   ·have h3 : digB (byte s k) = true := h3; have hw : wiB (byte s k) = true := by rw [wi_eq, h2, h3]; rfl
    refine Sa ?_; refine QW.again (k + 1) ⟨by omega, by omega, hx2, hC, ?_⟩ Sub4 (by omega); intro j hj hjk; by_cases e : j = k
    ·subst e; exact hw
    ·exact hall j hj (by omega)
   ·have h3 : digB (byte s k) = false := h3; refine Sa ?_; refine Lwp (fun h4 => ?_) fun h4 => ?_
    ·have hw : wiB (byte s k) = true := by rw [wi_eq, h2, h3]; simp at h4; simp [h4]
     refine Sa ?_; refine QW.again (k + 1) ⟨by omega, by omega, hx2, hC, ?_⟩ Sub4 (by omega); intro j hj hjk; by_cases e : j = k
     ·subst e; exact hw
     ·exact hall j hj (by omega)
    ·refine Sa ?_; refine Cwc (fun h5 => ?_) fun h5 => ?_
     ·have hw : wiB (byte s k) = true := by rw [wi_eq, h2, h3]; simp at h5; simp [h5]
      refine Sa ?_; refine QW.again (k + 1) ⟨by omega, by omega, hx2, hC, ?_⟩ Sub4 (by omega); intro j hj hjk; by_cases e : j = k
      ·subst e; exact hw
      ·exact hall j hj (by omega)
     ·have hw : wiB (byte s k) = false := by rw [wi_eq, h2, h3]; simp at h4 h5; simp [h4, h5]
      obtain ⟨e1, e2⟩ := span_from wiB s a k hik hk hall (.inr hw); refine Sz ?_; have hcut : cut s a k = spanL wiB (s.drop a) := by rw [cut_mid, e1]
      refine LW.call0 (vs := [str (spanL wiB (s.drop a))]) (by rw [← hcut]; rfl) rfl (ReadRef_ret _ (by have := span_le wiB (s.drop a); simp at this; omega) _) ?_; rintro v w5 ⟨rfl, hx5⟩; replace hC := hC.ext hx5; replace hx2 := hx2.trans hx5; have hz5 := hC.lt
      cases hr : okRead (spanL wiB (s.drop a)) with
      | true =>
       rw [readV, if_pos hr]; refine Sa ?_; refine Lwa fun F w6 hbF hx6 hF => ?_; replace hC := hC.ext hx6; replace hx2 := hx2.trans hx6; have hzz := hx.size; refine Sa ?_; refine Lws fun w7 hc7 hF => ?_; replace hF : Blk w7 F (refL (candV (spanL wiB (s.drop a)))) 98 := hF; replace hC := hC.chg hc7 (by simp; omega); replace hx2 := hx2.step hc7 (by simp; omega); refine Sa ?_; refine Lws fun w8 hc8 hC => ?_; replace hC : Blk w8 C (tokL ⟨4, [], 0, candV (spanL wiB (s.drop a)), a⟩) 100 := hC; replace hx2 := hx2.step hc8 (by simp; omega); refine Sa ?_; refine QW.body_ct Tryz.results127 rfl hC rfl rfl rfl rfl ⟨?_, hx2⟩; rw [wordO]; simp only [hr, if_true]; show _ = Value.tuple #[_, .int .i64 (((spanL wiB (s.drop a)).length : Nat) : Int)]
       rw [show (k : Int) - a = (((spanL wiB (s.drop a)).length : Nat) : Int) by omega]
      | false =>
       rw [no_at hr]; refine Sa ?_; refine Lwa fun F w6 hbF hx6 hF => ?_; replace hC := hC.ext hx6; replace hx2 := hx2.trans hx6; have hzz := hx.size; refine Sa ?_; refine Lws fun w7 hc7 hF => ?_; replace hC := hC.chg hc7 (by simp; omega); replace hx2 := hx2.step hc7 (by simp; omega); refine Sz ?_; refine LW.call0 (vs := [str (spanL wiB (s.drop a))]) (by rw [← hcut]; rfl) rfl (rcalled_ret _ (by have := span_le wiB (s.drop a); simp at this; omega) _) ?_; rintro v w9 ⟨rfl, hx9⟩; replace hC := hC.ext hx9; replace hx2 := hx2.trans hx9; refine Sa ?_; refine Cwc (fun hf => ?_) fun hf => ?_
       ·have hf : fnB (spanL wiB (s.drop a)) = true := hf; refine Sz ?_; refine Lws fun w8 hc8 hC => ?_; replace hC : Blk w8 C (tokL ⟨3, cut s a k, 0, refN, a⟩) 100 := hC; replace hx2 := hx2.step hc8 (by simp; omega); refine Sa ?_; refine QW.body_ct Tryz.results127 rfl hC rfl rfl rfl rfl ⟨?_, hx2⟩; rw [wordO]; simp only [hr, hf, if_true, Bool.false_eq_true, if_false]; show _ = Value.tuple #[_, .int .i64 (((spanL wiB (s.drop a)).length : Nat) : Int)]; rw [show (k : Int) - a = (((spanL wiB (s.drop a)).length : Nat) : Int) by omega, hcut]
       ·have hf : fnB (spanL wiB (s.drop a)) = false := hf; refine Sa ?_; refine Lws fun w8 hc8 hC => ?_; replace hC : Blk w8 C (tokL ⟨0, [], 0, refN, 0⟩) 100 := hC; replace hx2 := hx2.step hc8 (by simp; omega); refine Sa ?_; refine QW.body_ct Tryz.results127 rfl hC rfl rfl rfl rfl ⟨?_, hx2⟩; rw [wordO]; simp only [hr, hf, Bool.false_eq_true, if_false]; exact ⟨_, rfl⟩
 ·have h1 : k = s.length := by simp at h1; omega
  obtain ⟨e1, e2⟩ := span_from wiB s a k hik hk hall (.inl h1); refine Sz ?_; have hcut : cut s a k = spanL wiB (s.drop a) := by rw [cut_mid, e1]
  refine LW.call0 (vs := [str (spanL wiB (s.drop a))]) (by rw [← hcut]; rfl) rfl (ReadRef_ret _ (by have := span_le wiB (s.drop a); simp at this; omega) _) ?_; rintro v w5 ⟨rfl, hx5⟩; replace hC := hC.ext hx5; replace hx2 := hx2.trans hx5; have hz5 := hC.lt
  cases hr : okRead (spanL wiB (s.drop a)) with
  | true =>
   rw [readV, if_pos hr]; refine Sa ?_; refine Lwa fun F w6 hbF hx6 hF => ?_; replace hC := hC.ext hx6; replace hx2 := hx2.trans hx6; have hzz := hx.size; refine Sa ?_; refine Lws fun w7 hc7 hF => ?_; replace hF : Blk w7 F (refL (candV (spanL wiB (s.drop a)))) 98 := hF; replace hC := hC.chg hc7 (by simp; omega); replace hx2 := hx2.step hc7 (by simp; omega); refine Sa ?_; refine Lws fun w8 hc8 hC => ?_; replace hC : Blk w8 C (tokL ⟨4, [], 0, candV (spanL wiB (s.drop a)), a⟩) 100 := hC; replace hx2 := hx2.step hc8 (by simp; omega); refine Sa ?_; refine QW.body_ct Tryz.results127 rfl hC rfl rfl rfl rfl ⟨?_, hx2⟩; rw [wordO]; simp only [hr, if_true]; show _ = Value.tuple #[_, .int .i64 (((spanL wiB (s.drop a)).length : Nat) : Int)]
   rw [show (k : Int) - a = (((spanL wiB (s.drop a)).length : Nat) : Int) by omega]
  | false =>
   rw [no_at hr]; refine Sa ?_; refine Lwa fun F w6 hbF hx6 hF => ?_; replace hC := hC.ext hx6; replace hx2 := hx2.trans hx6; have hzz := hx.size; refine Sa ?_; refine Lws fun w7 hc7 hF => ?_; replace hC := hC.chg hc7 (by simp; omega); replace hx2 := hx2.step hc7 (by simp; omega); refine Sz ?_; refine LW.call0 (vs := [str (spanL wiB (s.drop a))]) (by rw [← hcut]; rfl) rfl (rcalled_ret _ (by have := span_le wiB (s.drop a); simp at this; omega) _) ?_; rintro v w9 ⟨rfl, hx9⟩; replace hC := hC.ext hx9; replace hx2 := hx2.trans hx9; refine Sa ?_; refine Cwc (fun hf => ?_) fun hf => ?_
   ·have hf : fnB (spanL wiB (s.drop a)) = true := hf; refine Sz ?_; refine Lws fun w8 hc8 hC => ?_; replace hC : Blk w8 C (tokL ⟨3, cut s a k, 0, refN, a⟩) 100 := hC; replace hx2 := hx2.step hc8 (by simp; omega); refine Sa ?_; refine QW.body_ct Tryz.results127 rfl hC rfl rfl rfl rfl ⟨?_, hx2⟩; rw [wordO]; simp only [hr, hf, if_true, Bool.false_eq_true, if_false]; show _ = Value.tuple #[_, .int .i64 (((spanL wiB (s.drop a)).length : Nat) : Int)]; rw [show (k : Int) - a = (((spanL wiB (s.drop a)).length : Nat) : Int) by omega, hcut]
   ·have hf : fnB (spanL wiB (s.drop a)) = false := hf; refine Sa ?_; refine Lws fun w8 hc8 hC => ?_; replace hC : Blk w8 C (tokL ⟨0, [], 0, refN, 0⟩) 100 := hC; replace hx2 := hx2.step hc8 (by simp; omega); refine Sa ?_; refine QW.body_ct Tryz.results127 rfl hC rfl rfl rfl rfl ⟨?_, hx2⟩; rw [wordO]; simp only [hr, hf, Bool.false_eq_true, if_false]; exact ⟨_, rfl⟩
def pairsT : List (List UInt8) := [[60, 62], [60, 61], [62, 61]]
def sgT : List UInt8 := [43, 45, 42, 47, 38, 61, 60, 62, 40, 41, 44, 58]
def sgB (z : Int) : Bool := decide (z = 43 ∨ z = 45 ∨ z = 42 ∨ z = 47 ∨ z = 38 ∨ z = 61 ∨ z = 60 ∨ z = 62 ∨ z = 40 ∨ z = 41 ∨ z = 44 ∨ z = 58)
theorem sg_all : ∀ n : Fin 256, decide (UInt8.ofNat n.val ∈ sgT) = sgB (n.val : Int) := by decide +kernel
theorem sg_is (c : UInt8) : decide (c ∈ sgT) = sgB (c.toNat : Int) := by
 have := sg_all ⟨c.toNat, c.toNat_lt⟩
 simpa using this
theorem signs_split : signsT = pairsT ++ sgT.map fun c => [c] := rfl
theorem find_self (c : UInt8) : ∀ l : List UInt8, l.find? (fun x => x == c) = if c ∈ l then some c else none
 | [] => rfl
 | d :: r => by
  have ih := find_self c r; by_cases h : d = c
  ·subst h; simp [List.find?]
  ·have h' : ¬ c = d := fun e => h e.symm; have hb : (d == c) = false := by simpa using h
   simp only [List.find?, hb, ih, List.mem_cons, h', false_or]
theorem sign_pair {l : List UInt8} (h : (l.take 2) ∈ pairsT) : signsT.find? (fun s => Lib.hasPrefix l s) = some (l.take 2) := by
 match l, h with
 | [], h => simp [pairsT] at h
 | [_], h => simp [pairsT] at h
 | c :: d :: r, h =>
  simp only [List.take, pairsT, List.mem_cons, List.cons.injEq, and_true, List.not_mem_nil, or_false] at h; rcases h with ⟨rfl, rfl⟩ | ⟨rfl, rfl⟩ | ⟨rfl, rfl⟩ <;> rfl
theorem sign_single {l : List UInt8} (hl : l ≠ []) (hn : l.take 2 ∉ pairsT) : signsT.find? (fun s => Lib.hasPrefix l s) = if sgB (byte l 0) then some (l.take 1) else none := by
 cases l with
 | nil => exact absurd rfl hl
 | cons c r =>
  have h1 : pairsT.find? (fun s => Lib.hasPrefix (c :: r) s) = none := by
   rw [List.find?_eq_none]; intro p hp hh; have h2 : p.length = 2 := by
    have : ∀ p ∈ pairsT, p.length = 2 := by decide
    exact this p hp
   have h3 := List.prefix_iff_eq_take.1 (List.isPrefixOf_iff_prefix.1 hh); rw [h2] at h3; exact hn (h3 ▸ hp)
  have h2 : (fun s => Lib.hasPrefix (c :: r) s) ∘ (fun c : UInt8 => [c]) = fun x => x == c := by
   funext x
   simp [Lib.hasPrefix, List.isPrefixOf]
  rw [signs_split, List.find?_append, h1, List.find?_map, h2, find_self]; have h3 : sgB (byte (c :: r) 0) = decide (c ∈ sgT) := (sg_is c).symm; rw [h3]; by_cases hm : c ∈ sgT
  ·simp [hm]
  ·simp [hm]
theorem rsign_ret (s : List UInt8) (hs : s.length ≤ 1000) (a : Nat) (ha : a < s.length) (w : World) :
  Ret Tryz.prog 128 [str s, .int .i64 a] w (fun v w' => v = str ((signsT.find? fun p => Lib.hasPrefix (s.drop a) p).getD []) ∧ Ext w w') := by
 have hne : s.drop a ≠ [] := by intro hn; have := congrArg List.length hn; simp at this; omega
 refine Rte Tryz.func128 Tryz.ntmps128 ?_; apply CW.seq; apply CW.region; refine Sl ?_; apply LW.nil; apply QW.then_n; refine CW.seq_cut (ι := Unit) (fun _ w' => (s.drop a).take 2 ∉ pairsT ∧ Ext w w') (fun _ => [(0, str s), (1, .int .i64 a)]) ?_ ?_
 ·refine Sa ?_; refine Cwc (fun h1 => ?_) fun h1 => ?_
  ·have h1 : a + 1 < s.length := by simp at h1; omega
   have hcut : cut s a (a + 2) = (s.drop a).take 2 := by simp [cut]
   refine Sz ?_; refine Cwc (fun h2 => ?_) fun h2 => ?_
   ·have h2 : (s.drop a).take 2 = [60, 62] := by rw [← hcut]; exact of_decide_eq_true h2
    refine Sz ?_; refine CW.yes rfl (by assumption) ?_; refine Sz ?_; refine QW.body1 Tryz.results128 rfl ⟨?_, Chg.refl _ _⟩; rw [sign_pair (by simp [pairsT, *])]; exact congrArg str hcut
   have h2 : ¬ (s.drop a).take 2 = [60, 62] := by rw [← hcut]; exact of_decide_eq_false h2
   refine Sz ?_; refine Cwc (fun h3 => ?_) fun h3 => ?_
   ·have h3 : (s.drop a).take 2 = [60, 61] := by rw [← hcut]; exact of_decide_eq_true h3
    refine Sz ?_; refine CW.yes rfl (by assumption) ?_; refine Sz ?_; refine QW.body1 Tryz.results128 rfl ⟨?_, Chg.refl _ _⟩; rw [sign_pair (by simp [pairsT, *])]; exact congrArg str hcut
   have h3 : ¬ (s.drop a).take 2 = [60, 61] := by rw [← hcut]; exact of_decide_eq_false h3
   refine Sz ?_; refine Cwc (fun h4 => ?_) fun h4 => ?_
   ·have h4 : (s.drop a).take 2 = [62, 61] := by rw [← hcut]; exact of_decide_eq_true h4
    refine Sz ?_; refine QW.body1 Tryz.results128 rfl ⟨?_, Chg.refl _ _⟩; rw [sign_pair (by simp [pairsT, *])]; exact congrArg str hcut
   have h4 : ¬ (s.drop a).take 2 = [62, 61] := by rw [← hcut]; exact of_decide_eq_false h4
   refine Sz ?_; exact QW.head () ⟨by simp [pairsT, h2, h3, h4], Chg.refl _ _⟩ Sub2
  ·have h1 : ¬ a + 1 < s.length := by simp at h1; omega
   refine Sz ?_; refine QW.head () ⟨?_, Chg.refl _ _⟩ Sub2; intro hm; have : ∀ p ∈ pairsT, p.length = 2 := by decide
   have := this _ hm; simp at this; omega
 rintro _ w1 ⟨hnp, hx⟩; have hfind := sign_single hne hnp; have hb : byte (s.drop a) 0 = byte s a := by rw [byte_drop']; rfl
 rw [hb] at hfind; apply CW.seq; apply CW.seq; apply CW.region; refine Sl ?_; apply LW.nil; apply QW.then_n; apply CW.block; refine CW.seq_cut (ι := Bool) (fun b w' => b = sgB (byte s a) ∧ Ext w w') (fun b => [(0, str s), (1, .int .i64 a), (27, .bool b)]) ?_ ?_
 ·skip
  refine Sa ?_; refine Cwc (fun g0 => ?_) fun g0 => ?_
  ·refine Sa ?_; have e : byte s a = 43 := by simpa using g0
   exact QW.head (decide (byte s a = 43)) ⟨by rw [e]; rfl, hx⟩ Sub3
  have g0 : byte s a ≠ 43 := by simpa using g0
  refine Sa ?_; refine Cwc (fun g1 => ?_) fun g1 => ?_
  ·refine Sa ?_; have e : byte s a = 45 := by simpa using g1
   exact QW.head (decide (byte s a = 45)) ⟨by rw [e]; rfl, hx⟩ Sub3
  have g1 : byte s a ≠ 45 := by simpa using g1
  refine Sa ?_; refine Cwc (fun g2 => ?_) fun g2 => ?_
  ·refine Sa ?_; have e : byte s a = 42 := by simpa using g2
   exact QW.head (decide (byte s a = 42)) ⟨by rw [e]; rfl, hx⟩ Sub3
  have g2 : byte s a ≠ 42 := by simpa using g2
  refine Sa ?_; refine Cwc (fun g3 => ?_) fun g3 => ?_
  ·refine Sa ?_; have e : byte s a = 47 := by simpa using g3
   exact QW.head (decide (byte s a = 47)) ⟨by rw [e]; rfl, hx⟩ Sub3
  have g3 : byte s a ≠ 47 := by simpa using g3
  refine Sa ?_; refine Cwc (fun g4 => ?_) fun g4 => ?_
  ·refine Sa ?_; have e : byte s a = 38 := by simpa using g4
   exact QW.head (decide (byte s a = 38)) ⟨by rw [e]; rfl, hx⟩ Sub3
  have g4 : byte s a ≠ 38 := by simpa using g4
  refine Sa ?_; refine Cwc (fun g5 => ?_) fun g5 => ?_
  ·refine Sa ?_; have e : byte s a = 61 := by simpa using g5
   exact QW.head (decide (byte s a = 61)) ⟨by rw [e]; rfl, hx⟩ Sub3
  have g5 : byte s a ≠ 61 := by simpa using g5
  refine Sa ?_; refine Cwc (fun g6 => ?_) fun g6 => ?_
  ·refine Sa ?_; have e : byte s a = 60 := by simpa using g6
   exact QW.head (decide (byte s a = 60)) ⟨by rw [e]; rfl, hx⟩ Sub3
  have g6 : byte s a ≠ 60 := by simpa using g6
  refine Sa ?_; refine Cwc (fun g7 => ?_) fun g7 => ?_
  ·refine Sa ?_; have e : byte s a = 62 := by simpa using g7
   exact QW.head (decide (byte s a = 62)) ⟨by rw [e]; rfl, hx⟩ Sub3
  have g7 : byte s a ≠ 62 := by simpa using g7
  refine Sa ?_; refine Cwc (fun g8 => ?_) fun g8 => ?_
  ·refine Sa ?_; have e : byte s a = 40 := by simpa using g8
   exact QW.head (decide (byte s a = 40)) ⟨by rw [e]; rfl, hx⟩ Sub3
  have g8 : byte s a ≠ 40 := by simpa using g8
  refine Sa ?_; refine Cwc (fun g9 => ?_) fun g9 => ?_
  ·refine Sa ?_; have e : byte s a = 41 := by simpa using g9
   exact QW.head (decide (byte s a = 41)) ⟨by rw [e]; rfl, hx⟩ Sub3
  have g9 : byte s a ≠ 41 := by simpa using g9
  refine Sa ?_; refine Cwc (fun g10 => ?_) fun g10 => ?_
  ·refine Sa ?_; have e : byte s a = 44 := by simpa using g10
   exact QW.head (decide (byte s a = 44)) ⟨by rw [e]; rfl, hx⟩ Sub3
  have g10 : byte s a ≠ 44 := by simpa using g10
  refine Sa ?_; refine QW.head (decide (byte s a = 58)) ⟨?_, hx⟩ Sub3; simp [sgB, g0, g1, g2, g3, g4, g5, g6, g7, g8, g9, g10]
 rintro b w2 ⟨rfl, hx2⟩; refine Cwc (fun h1 => ?_) fun h1 => ?_
 ·have h1 : sgB (byte s a) = true := h1; refine Sz ?_; refine QW.body1 Tryz.results128 rfl ⟨?_, hx2⟩; have hcut : cut s a (a + 1) = (s.drop a).take 1 := by simp [cut]
  rw [hfind, if_pos h1]; exact congrArg str hcut
 ·have h1 : sgB (byte s a) = false := h1; refine Sz ?_; refine QW.body1 Tryz.results128 rfl ⟨?_, hx2⟩; rw [hfind, h1]; rfl
theorem dead_is (s : List UInt8) (a : Nat) : Lib.hasPrefix (s.drop a) deadT = decide (cut s a (a + 5) = deadT) := by
 have e : cut s a (a + 5) = (s.drop a).take 5 := by simp [cut]
 rw [Bool.eq_iff_iff, decide_eq_true_eq, e]; show List.isPrefixOf deadT (s.drop a) = true ↔ _; rw [List.isPrefixOf_iff_prefix, List.prefix_iff_eq_take]; exact eq_comm
theorem dead_short {s : List UInt8} {a : Nat} (h : s.length < a + 5) (ha : a < s.length) : Lib.hasPrefix (s.drop a) deadT = false := by
 cases hp : Lib.hasPrefix (s.drop a) deadT
 ·rfl
 ·have := pre_le hp; have h5 : deadT.length = 5 := rfl; simp at this; omega
theorem dead_first {l : List UInt8} (h : byte l 0 ≠ 35) : Lib.hasPrefix l deadT = false := by
 cases l with
 | nil => rfl
 | cons c r =>
  have hc : c ≠ 35 := by
   rintro rfl; exact h rfl
  simp [Lib.hasPrefix, deadT, List.isPrefixOf]; exact fun e => absurd e.symm hc
theorem sign_35 {l : List UInt8} (hl : l ≠ []) (h : byte l 0 = 35) : signsT.find? (fun s => Lib.hasPrefix l s) = none := by
 rw [sign_single hl, h]
 ·rfl
 ·cases l with
  | nil => exact absurd rfl hl
  | cons c r =>
   have hc : (c.toNat : Int) = 35 := h; have : c = 35 := UInt8.toNat_inj.1 (by simpa using (by omega : c.toNat = 35)); subst this; simp [pairsT]
theorem signO_is {l : List UInt8} (h : Lib.hasPrefix l deadT = false) : signO l = (signsT.find? fun s => Lib.hasPrefix l s).map fun s => (⟨5, s, 0, refN, 0⟩, s.length) := by
 rw [signO, h]; rfl
theorem RT_form {i : Nat} {w w' : World} {o : Option (TokD × Nat)} {v : Value} (h : RT i w o v w') : ∃ t k, v = .tuple #[.agg ⟨tokL t⟩, .int .i64 k] := by
 obtain ⟨h, _⟩ := h
 cases o with
 | none => obtain ⟨t, rfl⟩ := h; exact ⟨_, _, rfl⟩
 | some x =>
  obtain ⟨t, k⟩ := x; exact ⟨_, _, h⟩
theorem beg_eq (c : Int) : begB c = (letB c || decide (c = 36)) := rfl
theorem token_ret (s : List UInt8) (hs : s.length ≤ 1000) (a : Nat) (ha : a < s.length) (w : World) :
  Ret Tryz.prog 94 [str s, .int .i64 a] w (RT a w (oneO (s.drop a))) := by
 have hb : byte (s.drop a) 0 = byte s a := by rw [byte_drop']; rfl
 have hne : s.drop a ≠ [] := by intro hn; have := congrArg List.length hn; simp at this; omega
 refine Rte Tryz.func94 Tryz.ntmps94 ?_; refine Sa ?_; refine Lwa fun C w1 hbC hx hC => ?_; refine Sa ?_; refine Lc0 rfl rfl (rdigit_ret _ _) ?_; rintro v w2 ⟨rfl, hx2⟩; replace hC := hC.ext hx2; replace hx := hx.trans hx2; refine Sa ?_; refine Cwc (fun h1 => ?_) fun h1 => ?_
 ·have h1 : digB (byte s a) = true := h1; refine Sa ?_; refine Lc0 rfl rfl (rnumber_ret s hs a ha h1 _) ?_; have ho : oneO (s.drop a) = numO (s.drop a) := by rw [oneO, hb, h1]; rfl
  rintro v w3 hv; obtain ⟨t, k, rfl⟩ := RT_form hv; obtain ⟨hv, hx3⟩ := hv; replace hC := hC.ext hx3; replace hx := hx.trans hx3; refine Sa ?_; refine Lws fun w4 hc4 hC => ?_; replace hC : Blk w4 C (tokL t) 100 := hC; replace hx := hx.step hc4 (by simp; omega); refine Sa ?_; exact QW.body_ct Tryz.results94 rfl hC rfl rfl rfl rfl ⟨by rw [ho]; exact hv, hx⟩
 have h1 : digB (byte s a) = false := h1; refine Sa ?_; refine Cwc (fun h2 => ?_) fun h2 => ?_
 ·have h2 : byte s a = 34 := by simpa using h2
  refine Sa ?_; refine Lc0 rfl rfl (rquoted_ret s hs a ha _) ?_; have ho : oneO (s.drop a) = textO (s.drop a) := by rw [oneO, hb, h1, h2]; rfl
  rintro v w3 hv; obtain ⟨t, k, rfl⟩ := RT_form hv; obtain ⟨hv, hx3⟩ := hv; replace hC := hC.ext hx3; replace hx := hx.trans hx3; refine Sa ?_; refine Lws fun w4 hc4 hC => ?_; replace hC : Blk w4 C (tokL t) 100 := hC; replace hx := hx.step hc4 (by simp; omega); refine Sa ?_; exact QW.body_ct Tryz.results94 rfl hC rfl rfl rfl rfl ⟨by rw [ho]; exact hv, hx⟩
 have h2 : byte s a ≠ 34 := by simpa using h2
 refine Sa ?_; refine Cwc (fun h3 => ?_) fun h3 => ?_
 ·have h3 : byte s a = 35 := by simpa using h3
  have ho : oneO (s.drop a) = signO (s.drop a) := by
   rw [oneO, hb, h1, if_neg (by simp), if_neg h2, h3]; rfl
  refine Sz ?_; refine Lwp (fun h4 => ?_) fun h4 => ?_
  ·have h4 : a + 5 ≤ s.length := by simp at h4; omega
   refine Sz ?_; refine Cwc (fun h5 => ?_) fun h5 => ?_
   ·have h5 : Lib.hasPrefix (s.drop a) deadT = true := by rw [dead_is]; exact h5
    refine Sa ?_; refine Lws fun w4 hc4 hC => ?_; replace hC : Blk w4 C (tokL ⟨6, [], 0, refN, a⟩) 100 := hC; replace hx := hx.step hc4 (by simp; omega); refine Sa ?_; refine QW.body_ct Tryz.results94 rfl hC rfl rfl rfl rfl ⟨?_, hx⟩; rw [ho, signO, h5]; rfl
   ·have h5 : Lib.hasPrefix (s.drop a) deadT = false := by rw [dead_is]; exact h5
    refine Sa ?_; refine Lws fun w4 hc4 hC => ?_; replace hC : Blk w4 C (tokL ⟨0, [], 0, refN, 0⟩) 100 := hC; replace hx := hx.step hc4 (by simp; omega); refine Sa ?_; refine QW.body_ct Tryz.results94 rfl hC rfl rfl rfl rfl ⟨?_, hx⟩; rw [ho, signO_is h5, sign_35 hne (by rw [hb]; exact h3)]; exact ⟨_, rfl⟩
  ·have h4 : s.length < a + 5 := by simp at h4; omega
   have h5 := dead_short h4 ha; refine Sa ?_; refine Lws fun w4 hc4 hC => ?_; replace hC : Blk w4 C (tokL ⟨0, [], 0, refN, 0⟩) 100 := hC; replace hx := hx.step hc4 (by simp; omega); refine Sa ?_; refine QW.body_ct Tryz.results94 rfl hC rfl rfl rfl rfl ⟨?_, hx⟩; rw [ho, signO_is h5, sign_35 hne (by rw [hb]; exact h3)]; exact ⟨_, rfl⟩
 have h3 : byte s a ≠ 35 := by simpa using h3
 have hdead : Lib.hasPrefix (s.drop a) deadT = false := dead_first (by rw [hb]; exact h3); refine Sa ?_; refine Lc0 rfl rfl (rletter_ret _ _) ?_; rintro v w3 ⟨rfl, hx3⟩; replace hC := hC.ext hx3; replace hx := hx.trans hx3; refine Sa ?_; refine Lwp (fun h4 => ?_) fun h4 => ?_
 ·have h4 : letB (byte s a) = true := h4; have ho : oneO (s.drop a) = wordO (s.drop a) := by
   rw [oneO, hb, h1, if_neg (by simp), if_neg h2, beg_eq, h4]; rfl
  refine Sa ?_; refine Lc0 rfl rfl (rword_ret s hs a ha _) ?_; rintro v w3 hv; obtain ⟨t, k, rfl⟩ := RT_form hv; obtain ⟨hv, hx3⟩ := hv; replace hC := hC.ext hx3; replace hx := hx.trans hx3; refine Sa ?_; refine Lws fun w4 hc4 hC => ?_; replace hC : Blk w4 C (tokL t) 100 := hC; replace hx := hx.step hc4 (by simp; omega); refine Sa ?_; exact QW.body_ct Tryz.results94 rfl hC rfl rfl rfl rfl ⟨by rw [ho]; exact hv, hx⟩
 have h4 : letB (byte s a) = false := h4; refine Sa ?_; refine Cwc (fun h5 => ?_) fun h5 => ?_
 ·have ho : oneO (s.drop a) = wordO (s.drop a) := by
   rw [oneO, hb, h1, if_neg (by simp), if_neg h2, beg_eq, h4]; simp only [decide_eq_true_eq] at h5; have h5 : byte s a = 36 := h5; rw [h5]; rfl
  refine Sa ?_; refine Lc0 rfl rfl (rword_ret s hs a ha _) ?_; rintro v w3 hv; obtain ⟨t, k, rfl⟩ := RT_form hv; obtain ⟨hv, hx3⟩ := hv; replace hC := hC.ext hx3; replace hx := hx.trans hx3; refine Sa ?_; refine Lws fun w4 hc4 hC => ?_; replace hC : Blk w4 C (tokL t) 100 := hC; replace hx := hx.step hc4 (by simp; omega); refine Sa ?_; exact QW.body_ct Tryz.results94 rfl hC rfl rfl rfl rfl ⟨by rw [ho]; exact hv, hx⟩
 have ho : oneO (s.drop a) = signO (s.drop a) := by
  rw [oneO, hb, h1, if_neg (by simp), if_neg h2, beg_eq, h4]; simp only [decide_eq_false_iff_not] at h5; have h5 : byte s a ≠ 36 := h5; simp [h5]
 refine Sa ?_; refine Lc0 rfl rfl (rsign_ret s hs a ha _) ?_; rintro v w5 ⟨rfl, hx5⟩; replace hC := hC.ext hx5; replace hx := hx.trans hx5; refine Sa ?_; refine Lws fun w4 hc4 hC => ?_; replace hx := hx.step hc4 (by simp; omega); refine Sa ?_; refine QW.body_ct Tryz.results94 rfl hC rfl rfl rfl rfl ⟨?_, hx⟩; rw [ho, signO_is hdead]
 cases signsT.find? fun p => Lib.hasPrefix (s.drop a) p with
 | none => exact ⟨⟨5, [], 0, refN, a⟩, rfl⟩
 | some p => rfl
def RLexV (s : List UInt8) (v : Value) (w : World) (lo : Nat) : Prop :=
 if 300 < s.length then v = .agg ⟨[.slice none 0 0, .int .i64 4]⟩
 else match lexT s with
  | none => v = .agg ⟨[.slice none 0 0, .int .i64 5]⟩
  | some l => ∃ sv, v = .agg ⟨[sv, .int .i64 0]⟩ ∧ Own w lo 100 9 sv l.length (l.flatMap tokL)
theorem rLex_ret (s : List UInt8) (hs : s.length ≤ 9223372036854775807) (w : World) : Ret Tryz.prog 73 [str s] w (fun v w' => RLexV s v w' w.heap.size ∧ Ext w w') := by
 refine Rte Tryz.func73 Tryz.ntmps73 ?_; refine Sa ?_; refine Lwa fun R w1 hbR hx hR => ?_; have hz1 : R < w1.heap.size := hR.lt; refine Sa ?_; refine Cwc (fun h1 => ?_) fun h1 => ?_
 ·have h1 : 300 < s.length := by simp at h1; omega
  refine Sa ?_; refine Lws fun w2 hc2 hR => ?_; replace hx := hx.step hc2 (by simp; omega); refine Sa ?_; refine QW.body_c Tryz.results73 rfl hR rfl rfl rfl ⟨?_, hx⟩; rw [RLexV, if_pos h1]; rfl
 have h1 : ¬ 300 < s.length := by simp at h1; omega
 refine Sa ?_; refine CW.loop (ι := Nat × List TokD × Value) (fun k w' => k.1 ≤ s.length ∧ k.2.1.length ≤ k.1 ∧ Ext w1 w' ∧ Own w' w1.heap.size 100 9 k.2.2 k.2.1.length (k.2.1.flatMap tokL) ∧ LexAt s k.1 k.2.1) (fun k => [(0, str s), (2, .pointer (some ⟨R, 0, none⟩)), (3, k.2.2), (4, .int .i64 k.1)]) (fun k => s.length - k.1) (0, [], .slice none 0 0) ⟨by simp, by simp, Chg.refl _ _, Own.nil _ _ _ _, LexAt.start _⟩ Sub4 ?_; rintro ⟨a, out, v⟩ w2 ⟨ha, ho, hx2, hown, hla⟩; simp only at ha ho hown hla; show CW _ _ _ _ _ [(0, str s), (2, .pointer (some ⟨R, 0, none⟩)), (3, v), (4, .int .i64 a)] _; have hrv : R ∉ vblk v := hown.old hz1; have hz2 := hx2.size; replace hR := hR.ext hx2; refine Sa ?_; refine Cwc (fun h2 => ?_) fun h2 => ?_
 ·have h2 : a < s.length := by simp at h2; omega
  have hsp : ∀ (c : Nat), byte s a ≠ 32 → (spanL spB (s.drop a)).length = 0 := fun _ hb => by
   obtain ⟨c, e, hc⟩ := drop_at h2; rw [e]; have : spB (c.toNat : Int) = false := by simp [spB]; omega
   simp [spanL, this]
  refine Sa ?_; refine Cwc (fun h3 => ?_) fun h3 => ?_
  ·have h3 : byte s a = 32 := by simpa using h3
   refine Sa ?_; exact QW.again (a + 1, out, v) ⟨by show a + 1 ≤ _; omega, by show out.length ≤ a + 1; omega, hx2, hown, hla.blank h2 h3⟩ Sub4 (by show s.length - (a + 1) < s.length - a; omega)
  have h3 : byte s a ≠ 32 := by simpa using h3
  have hc : a + (spanL spB (s.drop a)).length = a := by rw [hsp 0 h3]; rfl
  refine Sa ?_; refine Lc0 rfl rfl (token_ret s (by omega) a h2 _) ?_; rintro u w3 ⟨hv, hx3⟩; replace hR := hR.ext hx3; have hz3 := hx3.size; have hown3 := hown.ext hx3
  cases ho3 : oneO (s.drop a) with
  | none =>
   rw [ho3] at hv; obtain ⟨t, rfl⟩ := hv; refine Sa ?_; refine Lwa fun C w6 hbC hx6 hC => ?_; replace hR := hR.ext hx6; have hz6 := hx6.size; refine Sa ?_; refine Lws fun w7 hc7 hC => ?_; replace hR := hR.chg hc7 (by simp; omega); have hx7 := ((hx2.trans hx3).trans hx6).step hc7 (by simp; omega); refine Sa ?_; refine Lws fun w8 hc8 hR => ?_; have hx8 := (hx.trans hx7).step hc8 (by simp; omega); refine Sa ?_; refine QW.body_c Tryz.results73 rfl hR rfl rfl rfl ⟨?_, hx8⟩; rw [RLexV, if_neg h1, hla.bad hc h2 ho3]
   rfl
  | some x =>
   obtain ⟨t, k⟩ := x; rw [ho3] at hv; simp only at hv; subst hv; have hpos := oneO_pos (by intro hn; have := congrArg List.length hn; simp at this; omega) ho3; have hle := oneO_le ho3; simp at hle; refine Sa ?_; refine Lwa fun C w6 hbC hx6 hC => ?_; replace hR := hR.ext hx6; have hz6 := hx6.size; have hown6 := hown3.ext hx6; refine Sa ?_; refine Lws fun w7 hc7 hC => ?_; replace hC : Blk w7 C (tokL { t with at_ := (a : Int) }) 100 := hC; replace hR := hR.chg hc7 (by simp; omega); have hx7 := ((hx2.trans hx3).trans hx6).step hc7 (by simp; omega); have hz7 := hc7.size; have hown7 := hown6.chg hc7 (fun j hj hb => by
    simp at hb; have := (hown3.lt hj).2; omega)
   refine Sa ?_; refine CW.no rfl (by simp; omega) ?_; refine Sa ?_; refine Lwl fun A w9 hbA hx9 hA => ?_; replace hA : Blk w9 A (tokL { t with at_ := (a : Int) }) 100 := hA; replace hR := hR.ext hx9; have hz9 := hx9.size; refine Sa ?_; refine LW.append rfl rfl rfl rfl rfl rfl (hown7.ext hx9) (by omega) hA rfl rfl rfl (by show (out.length + 1) * 81 ≤ 140737488355328; omega) rfl ?_; intro v' w10 hc10 hown10 _; have hz10 := hc10.size; refine Sa ?_; refine QW.again (a + k, out ++ [{ t with at_ := (a : Int) }], v') ⟨by show a + k ≤ _; omega, by show (out ++ _).length ≤ a + k; simp; omega, ?_, own_tok hown10, hla.go hc h2 ho3⟩ Sub4 (by show s.length - (a + k) < s.length - a; omega); exact (hx7.trans hx9).step hc10 (fun k hk => (hown.lt hk).1)
 ·have h2 : a = s.length := by simp at h2; omega
  have he : a + (spanL spB (s.drop a)).length = s.length := by
   have := span_le spB (s.drop a); simp at this; omega
  refine Sa ?_; refine Lwl fun A w4 hbA hx4 hA => ?_; replace hA : Blk w4 A (tokL ⟨0, [], 0, refN, (s.length : Int)⟩) 100 := hA; have hz4 := hx4.size; replace hR := hR.ext hx4; refine Sa ?_; refine LW.append rfl rfl rfl rfl rfl rfl (hown.ext hx4) (by omega) hA rfl rfl rfl (by show (out.length + 1) * 81 ≤ 140737488355328; omega) rfl ?_; intro v' w5 hc5 hown5 hnew; replace hR := hR.chg hc5 hrv; have hR5 : R ∉ vblk v' := fun hm => by
   rcases hnew _ hm with hm | hm
   ·exact hrv hm
   ·omega
  have hx5 := (hx2.trans hx4).step hc5 (fun k hk => (hown.lt hk).1); have hone5 : v'.oneCell' = true := by
   obtain ⟨p, q, rfl⟩ := hown5.slice; rfl
  obtain ⟨p5, q5, e5⟩ := hown5.slice; subst e5; refine Sa ?_; refine Lws fun w6 hc6 hR => ?_; have hx6 := (hx.trans hx5).step hc6 (by simp; omega); have hown6 := hown5.chg hc6 (fun j hj hb => hR5 (by simp at hb; subst hb; exact hj)); refine Sa ?_; refine QW.body_c Tryz.results73 rfl hR rfl rfl rfl ⟨?_, hx6⟩; rw [RLexV, if_neg h1, hla.end he]; refine ⟨_, rfl, ?_⟩; obtain ⟨hl, hh⟩ := own_tok hown6; refine ⟨hl, ?_⟩; rcases hh with hh | ⟨gg, cap, sp, e1, e2, e3, e4, e5⟩
  ·exact .inl hh
  ·exact .inr ⟨gg, cap, sp, e1, e2, e3, e4, by have := hx.size; omega⟩
theorem tok_len (x : TokD) : (tokL x).length = 9 := rfl
theorem eqg_ref4 : Tryz.prog.eqGuardType Tryz.prog.depth 98 = false := by kernel_rfl
theorem eqr_ref (x y : RefD) (d : Nat) (w : World) : (Op.equalIn (d + 2) 98 (.agg ⟨refL x⟩) (.agg ⟨refL y⟩)).run Tryz.prog w = .ok (decide (x = y)) w := by
 obtain ⟨s1, c1, r1, a1, b1⟩ := x; obtain ⟨s2, c2, r2, a2, b2⟩ := y; have ht : Tryz.prog.underlying 98 = some (.struct (Tryz.prog.fieldsOf 98)) := by simp [Program.fieldsOf, Tryz.underlying98]
 have hp : Tryz.prog.stoodInHeld 98 = false := by kernel_rfl
 simp only [refL]; rw [run_equalIn_agg w (d + 1) _ _ _ ht hp]; simp only [Program.fieldsOf, Tryz.underlying98]; refine (eqf_step (by decide) (run_part_one (v := str s1) rfl rfl rfl w) (run_part_one (v := str s2) rfl rfl rfl w) (eq_str rfl rfl _ _ w)
  (eqf_step (by decide) (run_part_one (v := .int .i64 c1) rfl rfl rfl w) (run_part_one (v := .int .i64 c2) rfl rfl rfl w) (eq_int rfl rfl _ _ w)
  (eqf_step (by decide) (run_part_one (v := .int .i64 r1) rfl rfl rfl w) (run_part_one (v := .int .i64 r2) rfl rfl rfl w) (eq_int rfl rfl _ _ w)
  (eqf_step (by decide) (run_part_one (v := .bool a1) rfl rfl rfl w) (run_part_one (v := .bool a2) rfl rfl rfl w) (eq_bool rfl rfl _ _ w)
  (eqf_step (by decide) (run_part_one (v := .bool b1) rfl rfl rfl w) (run_part_one (v := .bool b2) rfl rfl rfl w) (eq_bool rfl rfl _ _ w)
  (eqf_nil _ _ _ w)))))).trans ?_
 refine congrArg (fun b => Result.ok b w) ?_; rw [Bool.eq_iff_iff]; simp only [Bool.and_eq_true, decide_eq_true_eq, RefD.mk.injEq, and_true]
theorem dec_facts : ∀ (n u : Nat), u ≤ n → (∀ c ∈ Lib.decDigits u, digB (c.toNat : Int) = true) ∧ Lib.decDigits u ≠ [] ∧ numT 0 (Lib.decDigits u) = u ∧ (u ≠ 0 → byte (Lib.decDigits u) 0 ≠ 48) ∧ (u = 0 → (Lib.decDigits u).length = 1)
 | n, u, hn => by
  by_cases h : u < 10
  ·rw [decDigits_small' h]; have e : ((ch (48 + (u : Int))).toNat : Int) = 48 + u := ch_toNat (by omega) (by omega); refine ⟨?_, by simp, ?_, fun h0 => ?_, fun _ => rfl⟩
   ·intro c hc; simp only [List.mem_singleton] at hc; subst hc; rw [e]; simp [digB]; omega
   ·have := numT_byte 0 [] (z := 48 + (u : Int)) (by omega) (by omega); rw [List.nil_append] at this; rw [this]; have : numT 0 [] = 0 := rfl; omega
   ·have : byte [ch (48 + (u : Int))] 0 = 48 + u := e; omega
  ·rw [decDigits_big' (by omega)]
   match n with
   | 0 => omega
   | n + 1 =>
    obtain ⟨a1, a2, a3, a4, _⟩ := dec_facts n (u / 10) (by omega); have hr : (48 + (u : Int) % 10) ≤ 57 ∧ 48 ≤ (48 + (u : Int) % 10) := by omega
    have e : ((ch (48 + (u : Int) % 10)).toNat : Int) = 48 + (u : Int) % 10 := ch_toNat (by omega) (by omega); refine ⟨?_, by simp, ?_, fun _ => ?_, fun h0 => by omega⟩
    ·intro c hc; rw [List.mem_append] at hc; rcases hc with hc | hc
     ·exact a1 c hc
     ·simp only [List.mem_singleton] at hc; subst hc; rw [e]; simp [digB]; omega
    ·rw [numT_byte _ _ (by omega) (by omega), a3]; omega
    ·rw [byte_append_left (List.length_pos_iff.2 a2)]; exact a4 (by omega)
theorem itoa_nat {k : Int} (h : 0 ≤ k) : Lib.itoa k = Lib.decDigits k.toNat := by
 unfold Lib.itoa; rw [if_neg (by omega)]
theorem dig_ne32 {l : List UInt8} (hl : l ≠ []) (hd : ∀ c ∈ l, digB (c.toNat : Int) = true) : byte l 0 ≠ 32 := by
 obtain ⟨c, hm, e⟩ := byte_mem (List.length_pos_iff.2 hl); have := hd c hm; rw [← e] at this; simp [digB] at this; omega
theorem scan_q {R : List UInt8} (h : R.head? ≠ some 34) : scanT (34 :: R) = some ([], 1) := by
 cases R with
 | nil => rfl
 | cons d r =>
  have : d ≠ 34 := fun e => h (by rw [e]; rfl); simp [scanT, this]
theorem scan_qq (R : List UInt8) : scanT (34 :: 34 :: R) = (scanT R).map fun x => (34 :: x.1, x.2 + 2) := by simp [scanT]
theorem scan_c {c : UInt8} (h1 : c ≠ 34) (h2 : ¬ c < 32) (R : List UInt8) : scanT (c :: R) = (scanT R).map fun x => (c :: x.1, x.2 + 1) := by
 cases R with
 | nil => simp [scanT, h1]
 | cons d r => simp [scanT, h1, h2]
theorem scan_low' {c : UInt8} (h1 : c ≠ 34) (h2 : c < 32) (R : List UInt8) : scanT (c :: R) = none := by
 cases R with
 | nil => simp [scanT, h1]
 | cons d r => simp [scanT, h1, h2]
theorem sign_len {s : List UInt8} (h : s ∈ signsT) : s.length = 1 ∨ s ∈ pairsT := by
 have : ∀ s ∈ signsT, s.length = 1 ∨ s ∈ pairsT := by decide
 exact this s h
theorem byte_head {tok : List UInt8} (h : tok ≠ []) (R : List UInt8) : byte (tok ++ R) 0 = byte tok 0 := byte_append_left (List.length_pos_iff.2 h)
def InS (k : IntKind) (w : World) (v : Value) (zs : List Int) : Prop :=
 zs.length ≤ 9223372036854775807 ∧ (v = .slice none 0 0 ∧ zs = [] ∨ ∃ a cap, v = .slice (some a) zs.length cap ∧ ∀ i z, zs[i]? = some z → w.cell? (a.add i) = some (.int k z))
structure NodeD where
 kind : Int
 num : Int := 0
 text : List UInt8 := []
 ref : RefD := refN
 to : RefD := refN
 kids : List Int := []
deriving DecidableEq
structure PSt where
 at_ : Nat
 out : List NodeD
 deep : Nat
inductive PRes where
 | ok (s : PSt) (p : Nat)
 | err (e : Int)
inductive PMode where
 | lev (n : Nat)
 | loop (n : Nat) (a : Nat)
 | unary
 | prim
 | args (name : List UInt8) (ks : List Int)
def tokZ : TokD := ⟨0, [], 0, refN, 0⟩
def tokAt (T : List TokD) (s : PSt) : TokD := T.getD s.at_ tokZ
def isS (T : List TokD) (s : PSt) (x : List UInt8) : Bool := decide ((tokAt T s).kind = 5) && decide ((tokAt T s).text = x)
def adv (s : PSt) : PSt := { s with at_ := s.at_ + 1 }
def deeper (s : PSt) : PSt := { s with deep := s.deep + 1 }
def upper (s : PSt) : PSt := { s with deep := s.deep - 1 }
def putS (s : PSt) (n : NodeD) : PSt := { s with out := s.out ++ [n] }
def signsN : Nat → List (List UInt8)
 | 0 => [[61], [60, 62], [60], [60, 61], [62], [62, 61]]
 | 1 => [[38]]
 | 2 => [[43], [45]]
 | _ => [[42], [47]]
def kindsN : Nat → List Int
 | 0 => [9, 10, 11, 12, 13, 14]
 | 1 => [15]
 | 2 => [16, 17]
 | _ => [18, 19]
def opIx (T : List TokD) (s : PSt) (n : Nat) : Option Nat := if (tokAt T s).kind = 5 then (signsN n).findIdx? (fun x => decide (x = (tokAt T s).text)) else none
def below (n : Nat) : PMode := if n < 3 then .lev (n + 1) else .unary
def rangesB (a b : RefD) : Bool := decide (b.sheet = []) && decide (a.col ≤ b.col) && decide (a.row ≤ b.row)
def trueT : List UInt8 := [84, 82, 85, 69]
def falseT : List UInt8 := [70, 65, 76, 83, 69]
inductive PE (T : List TokD) : PMode → PSt → PRes → Prop
 | lev_err {n s e} : PE T (below n) s (.err e) → PE T (.lev n) s (.err e)
 | lev_ok {n s s1 a r} : PE T (below n) s (.ok s1 a) → PE T (.loop n a) s1 r → PE T (.lev n) s r
 | loop_end {n s a} : opIx T s n = none → PE T (.loop n a) s (.ok s a)
 | loop_err {n s a i e} : opIx T s n = some i → PE T (below n) (adv s) (.err e) → PE T (.loop n a) s (.err e)
 | loop_go {n : Nat} {s : PSt} {a i : Nat} {s1 : PSt} {b : Nat} {r : PRes} : opIx T s n = some i → PE T (below n) (adv s) (.ok s1 b) → PE T (.loop n s1.out.length) (putS s1 { kind := (kindsN n).getD i 0, kids := [(a : Int), (b : Int)] }) r → PE T (.loop n a) s r
 | un_prim {s r} : isS T s [45] = false → PE T .prim s r → PE T .unary s r
 | un_deep {s} : isS T s [45] = true → 12 ≤ s.deep → PE T .unary s (.err 6)
 | un_err {s e} : isS T s [45] = true → s.deep < 12 → PE T .unary (deeper (adv s)) (.err e) → PE T .unary s (.err e)
 | un_ok {s s1 : PSt} {a : Nat} : isS T s [45] = true → s.deep < 12 → PE T .unary (deeper (adv s)) (.ok s1 a) → PE T .unary s (.ok (putS (upper s1) { kind := 8, kids := [(a : Int)] }) s1.out.length)
 | pr_sign {s} : (tokAt T s).kind = 5 → (tokAt T s).text ≠ [40] → PE T .prim s (.err 5)
 | pr_deep {s} : isS T s [40] = true → 12 ≤ s.deep → PE T .prim s (.err 6)
 | pr_err {s e} : isS T s [40] = true → s.deep < 12 → PE T (.lev 0) (deeper (adv s)) (.err e) → PE T .prim s (.err e)
 | pr_open {s s1 a} : isS T s [40] = true → s.deep < 12 → PE T (.lev 0) (deeper (adv s)) (.ok s1 a) → isS T s1 [41] = false → PE T .prim s (.err 5)
 | pr_ok {s s1 a} : isS T s [40] = true → s.deep < 12 → PE T (.lev 0) (deeper (adv s)) (.ok s1 a) → isS T s1 [41] = true → PE T .prim s (.ok (upper (adv s1)) a)
 | pr_end {s} : (tokAt T s).kind = 0 → PE T .prim s (.err 5)
 | pr_num {s} : (tokAt T s).kind = 1 → PE T .prim s (.ok (putS (adv s) { kind := 1, num := (tokAt T s).num }) s.out.length)
 | pr_text {s} : (tokAt T s).kind = 2 → PE T .prim s (.ok (putS (adv s) { kind := 2, text := (tokAt T s).text }) s.out.length)
 | pr_dead {s} : (tokAt T s).kind = 6 → PE T .prim s (.ok (putS (adv s) { kind := 4 }) s.out.length)
 | pr_ref {s} : (tokAt T s).kind = 4 → isS T (adv s) [58] = false → PE T .prim s (.ok (putS (adv s) { kind := 5, ref := (tokAt T s).ref }) s.out.length)
 | pr_range {s} : (tokAt T s).kind = 4 → isS T (adv s) [58] = true → (tokAt T (adv (adv s))).kind = 4 → rangesB (tokAt T s).ref (tokAt T (adv (adv s))).ref = true →
   PE T .prim s (.ok (putS (adv (adv (adv s))) { kind := 6, ref := (tokAt T s).ref, to := (tokAt T (adv (adv s))).ref }) s.out.length)
 | pr_norange {s} : (tokAt T s).kind = 4 → isS T (adv s) [58] = true → ((tokAt T (adv (adv s))).kind ≠ 4 ∨ rangesB (tokAt T s).ref (tokAt T (adv (adv s))).ref = false) → PE T .prim s (.err 5)
 | pr_true {s} : (tokAt T s).kind = 3 → (tokAt T s).text = trueT → PE T .prim s (.ok (putS (adv s) { kind := 3, num := 1 }) s.out.length)
 | pr_false {s} : (tokAt T s).kind = 3 → (tokAt T s).text = falseT → PE T .prim s (.ok (putS (adv s) { kind := 3 }) s.out.length)
 | pr_nocall {s} : (tokAt T s).kind = 3 → (tokAt T s).text ≠ trueT → (tokAt T s).text ≠ falseT → isS T (adv s) [40] = false → PE T .prim s (.err 5)
 | pr_calldeep {s} : (tokAt T s).kind = 3 → (tokAt T s).text ≠ trueT → (tokAt T s).text ≠ falseT → isS T (adv s) [40] = true → 12 ≤ s.deep → PE T .prim s (.err 6)
 | pr_call0 {s} : (tokAt T s).kind = 3 → (tokAt T s).text ≠ trueT → (tokAt T s).text ≠ falseT → isS T (adv s) [40] = true → s.deep < 12 → isS T (deeper (adv (adv s))) [41] = true →
   PE T .prim s (.ok (putS (upper (adv (deeper (adv (adv s))))) { kind := 7, text := (tokAt T s).text }) s.out.length)
 | pr_call {s r} : (tokAt T s).kind = 3 → (tokAt T s).text ≠ trueT → (tokAt T s).text ≠ falseT → isS T (adv s) [40] = true → s.deep < 12 → isS T (deeper (adv (adv s))) [41] = false →
   PE T (.args (tokAt T s).text []) (deeper (adv (adv s))) r → PE T .prim s r
 | ar_err {x ks s e} : PE T (.lev 0) s (.err e) → PE T (.args x ks) s (.err e)
 | ar_go {x ks s s1} {a : Nat} {r} : PE T (.lev 0) s (.ok s1 a) → isS T s1 [44] = true → PE T (.args x (ks ++ [(a : Int)])) (adv s1) r → PE T (.args x ks) s r
 | ar_open {x ks s s1 a} : PE T (.lev 0) s (.ok s1 a) → isS T s1 [44] = false → isS T s1 [41] = false → PE T (.args x ks) s (.err 5)
 | ar_end {x ks s s1} {a : Nat} : PE T (.lev 0) s (.ok s1 a) → isS T s1 [44] = false → isS T s1 [41] = true → PE T (.args x ks) s (.ok (putS (upper (adv s1)) { kind := 7, text := x, kids := ks ++ [(a : Int)] }) s1.out.length)
def Parsed (T : List TokD) (o : Except Int (List NodeD)) : Prop :=
 match o with
 | .error e => PE T (.lev 0) ⟨0, [], 0⟩ (.err e) ∨ e = 5 ∧ ∃ s a, PE T (.lev 0) ⟨0, [], 0⟩ (.ok s a) ∧ (tokAt T s).kind ≠ 0
 | .ok l => ∃ s a, PE T (.lev 0) ⟨0, [], 0⟩ (.ok s a) ∧ (tokAt T s).kind = 0 ∧ s.out = l
def icells (ks : List Int) : List Value := ks.map fun k => .int .i64 k
def KidsOk (w : World) (kv : Value) (ks : List Int) : Prop := kv = .slice none 0 0 ∧ ks = [] ∨ ∃ b cap sp, kv = .slice (some ⟨b, 0, none⟩) ks.length cap ∧ Blk w b (icells ks ++ sp) 3
structure NV where
 node : NodeD
 kv : Value
def nvL (x : NV) : List Value := [.int .i64 x.node.kind, .int .i64 x.node.num, str x.node.text, str x.node.ref.sheet, .int .i64 x.node.ref.col, .int .i64 x.node.ref.row, .bool x.node.ref.ac, .bool x.node.ref.ar, str x.node.to.sheet, .int .i64 x.node.to.col, .int .i64 x.node.to.row, .bool x.node.to.ac, .bool x.node.to.ar, x.kv]
theorem nv_len (x : NV) : (nvL x).length = 14 := rfl
structure Fr (w w' : World) : Prop where
 size : w.heap.size ≤ w'.heap.size
 blk : ∀ b l T, Blk w b l T → T ≠ 116 → T ≠ 133 → Blk w' b l T
theorem Fr.trans {a b c : World} (h : Fr a b) (k : Fr b c) : Fr a c := ⟨Nat.le_trans h.size k.size, fun x l T hx h1 h2 => k.blk x l T (h.blk x l T hx h1 h2) h1 h2⟩
theorem Fr.ext {a b : World} (h : Ext a b) : Fr a b := ⟨h.size, fun _ _ _ hx _ _ => hx.ext h⟩
theorem _root_.Go.E.Blk.inj {w : World} {b : Nat} {l l' : List Value} {T T' : TypeId} (h : Blk w b l T) (k : Blk w b l' T') : T = T' := by
 have := h.symm.trans k; simp only [Option.some.injEq, Obj.cells.injEq] at this; exact this.2.1
theorem Fr.chg {S : List Nat} {a b : World} (h : Chg S a b) (hs : ∀ k ∈ S, ∀ l T, Blk a k l T → T = 116 ∨ T = 133) : Fr a b :=
 ⟨h.size, fun x l T hx h1 h2 => hx.chg h (fun hm => by rcases hs x hm l T hx with e | e <;> contradiction)⟩
theorem KidsOk.fr {w w' : World} {kv : Value} {ks : List Int} (h : KidsOk w kv ks) (f : Fr w w') : KidsOk w' kv ks := by
 rcases h with h | ⟨b, cap, sp, e, hb⟩
 ·exact .inl h
 ·exact .inr ⟨b, cap, sp, e, f.blk _ _ _ hb (by decide) (by decide)⟩
structure PCtx where
 T : List TokD
 tb : Nat
 tcap : Nat
 tsp : List Value
 rb : Nat
 w0 : World
def PCtx.tokv (c : PCtx) : Value := .slice (some ⟨c.tb, 0, none⟩) c.T.length c.tcap
structure PCtx.Ok (c : PCtx) : Prop where
 tok : Blk c.w0 c.tb (c.T.flatMap tokL ++ c.tsp) 100
 len : c.T.length ≤ 301
 last : ∀ i, i < c.T.length → (c.T.getD i tokZ).kind ≠ 0 → i + 1 < c.T.length
 kinds : ∀ t ∈ c.T, 0 ≤ t.kind ∧ t.kind ≤ 6
 new : c.w0.heap.size ≤ c.rb
def Rd (c : PCtx) (X : List Nat) (w : World) (s : PSt) : Prop :=
 Ext c.w0 w ∧ s.at_ < c.T.length ∧ s.deep ≤ 12 ∧ s.out.length ≤ s.at_ ∧ ∃ (outv : Value) (nvs : List NV), Blk w c.rb [c.tokv, .int .i64 s.at_, outv, .int .i64 s.deep] 116 ∧
  Own w c.w0.heap.size 133 14 outv nvs.length (nvs.flatMap nvL) ∧ nvs.map NV.node = s.out ∧ ∀ x ∈ nvs, KidsOk w x.kv x.node.kids ∧ ∀ b ∈ vblk x.kv, b ∉ X
theorem Rd.ext {c : PCtx} {X : List Nat} {w w' : World} {s : PSt} (h : Rd c X w s) (x : Ext w w') : Rd c X w' s := by
 obtain ⟨h0, h1, h2, h3, outv, nvs, hB, ho, hm, hk⟩ := h; exact ⟨h0.trans x, h1, h2, h3, outv, nvs, hB.ext x, ho.ext x, hm, fun y hy => ⟨(hk y hy).1.fr (.ext x), (hk y hy).2⟩⟩
theorem Rd.set {c : PCtx} {X : List Nat} (hc : c.Ok) {w w' : World} {s s' : PSt} {outv : Value} {nvs : List NV} (h0 : Ext c.w0 w) (ho : Own w c.w0.heap.size 133 14 outv nvs.length (nvs.flatMap nvL)) (hm : nvs.map NV.node = s.out) (hk : ∀ x ∈ nvs, KidsOk w x.kv x.node.kids ∧ ∀ b ∈ vblk x.kv, b ∉ X)
  (hB0 : Blk w c.rb [c.tokv, .int .i64 s.at_, outv, .int .i64 s.deep] 116) (hch : Chg [c.rb] w w') (hB : Blk w' c.rb [c.tokv, .int .i64 s'.at_, outv, .int .i64 s'.deep] 116)
  (hso : s'.out = s.out) (h1 : s'.at_ < c.T.length) (h2 : s'.deep ≤ 12) (h3 : s'.out.length ≤ s'.at_) : Rd c X w' s' ∧ Fr w w' := by
 have hf : Fr w w' := Fr.chg hch (fun k hk l T hb => by simp at hk; subst hk; exact .inl (hb.inj hB0)); refine ⟨⟨h0.step hch (by simpa using hc.new), h1, h2, h3, outv, nvs, hB, ho.chg hch (fun j hj hb => ?_), by rw [hm, hso], fun x hx => ⟨(hk x hx).1.fr hf, (hk x hx).2⟩⟩, hf⟩; simp only [List.mem_singleton] at hb; subst hb; obtain ⟨hl, ⟨rfl, _⟩ | ⟨g, cap, sp, rfl, hg, _⟩⟩ := ho
 ·simp [vblk] at hj
 ·simp [vblk] at hj; have e := hg.inj (hj ▸ hB0); exact absurd e (by decide)
theorem now_ret {c : PCtx} {X : List Nat} (hc : c.Ok) {w : World} {s : PSt} (h : Rd c X w s) : Ret Tryz.prog 88 [.pointer (some ⟨c.rb, 0, none⟩)] w (fun v w' => v = .agg ⟨tokL (tokAt c.T s)⟩ ∧ Ext w w') := by
 obtain ⟨h0, h1, h2, h3, outv, nvs, hB, ho, hm, hk⟩ := h; have hT := hc.tok.ext h0; have hg : c.T[s.at_]? = some (tokAt c.T s) := by simp [tokAt, List.getD_eq_getElem?_getD, List.getElem?_eq_getElem h1]
 refine Rte Tryz.func88 Tryz.ntmps88 ?_; refine Sa ?_; refine Lwa fun R w1 hbR hx hR => ?_; replace hB := hB.ext hx; replace hT := hT.ext hx; refine Sa ?_; refine CW.drawTail 10 (by kernel_rfl) (by kernel_rfl) fun w2 hx2 => ?_; replace hB := hB.ext hx2; replace hT := hT.ext hx2; replace hR := hR.ext hx2; unfold PCtx.tokv at hB; refine Stz ?_; refine TL.yields rfl rfl rfl (Y.load_agg (cs := tokL (tokAt c.T s)) (i := 0 + s.at_ * 9) rfl hT rfl rfl rfl (by rw [Nat.zero_add]; exact flat_agg tok_len hg)) ?_; refine TL.nil ?_; show LW _ _ _ [_] _ _ _ _; refine Lws fun w3 hc3 hR => ?_; replace hR : Blk w3 R (tokL (tokAt c.T s)) 100 := hR; refine Sa ?_; exact QW.body_c Tryz.results88 rfl hR rfl rfl rfl ⟨rfl, (hx.trans hx2).step hc3 (by simp; omega)⟩
abbrev pv (e : Int) : Value := .iface 112 (.int .i64 e)
theorem fail_ret (b : Nat) (e : Int) (w : World) : RetP Tryz.prog 89 [.pointer (some ⟨b, 0, none⟩), .int .i64 e] w (fun _ _ => False) (fun v w' => v = pv e ∧ Ext w w') := by
 refine RetP.enter Tryz.func89 rfl Tryz.ntmps89 (by kernel_rfl) rfl ?_; refine Sa ?_; refine LW.mkIface rfl rfl rfl rfl ?_; refine Sa ?_; refine LW.panic rfl ?_
 (repeat (first | apply QW.then_panic | apply QW.blk_panic))
 exact QW.panicP ⟨rfl, Chg.refl _ _⟩
theorem rd_next {c : PCtx} (hc : c.Ok) {s : PSt} (h1 : s.at_ < c.T.length) (hk : (tokAt c.T s).kind ≠ 0) : s.at_ + 1 < c.T.length := hc.last _ h1 hk
theorem isS_kind {T : List TokD} {s : PSt} {x : List UInt8} (h : isS T s x = true) : (tokAt T s).kind = 5 ∧ (tokAt T s).text = x := by
 simpa [isS] using h
def mayS (T : List TokD) (s : PSt) (x : List UInt8) : PSt := if isS T s x then adv s else s
theorem may_ret {c : PCtx} {X : List Nat} (hc : c.Ok) {w : World} {s : PSt} (h : Rd c X w s) (x : List UInt8) : Ret Tryz.prog 224 [.pointer (some ⟨c.rb, 0, none⟩), str x] w
  (fun v w' => v = .bool (isS c.T s x) ∧ Rd c X w' (mayS c.T s x) ∧ Fr w w') := by
 refine Rte Tryz.func224 Tryz.ntmps224 ?_; refine Sa ?_; refine Lc0 rfl rfl (now_ret hc h) ?_; rintro v w1 ⟨rfl, hx1⟩; replace h := h.ext hx1; refine Sa ?_; refine Lwa fun C w2 hbC hx2 hC => ?_; refine Sa ?_; refine Lws fun w3 hc3 hC => ?_; replace hC : Blk w3 C (tokL (tokAt c.T s)) 100 := hC; have hx3 : Ext w w3 := (hx1.trans hx2).step hc3 (by simp; have := hx1.size; omega); have hx3' : Ext w1 w3 := hx2.step hc3 (by simp; omega); replace h := h.ext hx3'; have hlen := hc.len; refine Sa ?_; refine Lwp (fun h1 => ?_) fun h1 => ?_
 ·have h1 : (tokAt c.T s).kind ≠ 5 := by simpa using h1
  have hi : isS c.T s x = false := by simp [isS, h1]
  refine Sa ?_; exact QW.body1 Tryz.results224 rfl ⟨by rw [hi], by rw [mayS, hi]; exact h, .ext hx3⟩
 have h1 : (tokAt c.T s).kind = 5 := by simpa using h1
 refine Sa ?_; refine Cwc (fun h2 => ?_) fun h2 => ?_
 ·have h2 : (tokAt c.T s).text ≠ x := by simpa using h2
  have hi : isS c.T s x = false := by simp [isS, h2]
  refine Sa ?_; exact QW.body1 Tryz.results224 rfl ⟨by rw [hi], by rw [mayS, hi]; exact h, .ext hx3⟩
 have h2 : (tokAt c.T s).text = x := by simpa using h2
 have hi : isS c.T s x = true := by simp [isS, h1, h2]
 obtain ⟨a0, a1, a2, a3, outv, nvs, hB, ho, hm, hk⟩ := h; have hnx := rd_next hc a1 (by omega); have hB0 := hB; refine Sa ?_; refine Lwt fun w4 hc4 hB => ?_; replace hB : Blk w4 c.rb [c.tokv, .int .i64 ((s.at_ + 1 : Nat) : Int), outv, .int .i64 s.deep] 116 := hB; obtain ⟨hr, hf⟩ := Rd.set hc (s := s) (s' := adv s) a0 ho hm hk hB0 hc4 hB rfl hnx a2 (by show s.out.length ≤ s.at_ + 1; omega); refine Sa ?_; exact QW.body1 Tryz.results224 rfl ⟨by rw [hi], by rw [mayS, hi]; exact hr, (Fr.ext hx3).trans hf⟩
theorem need_ret {c : PCtx} {X : List Nat} (hc : c.Ok) {w : World} {s : PSt} (h : Rd c X w s) (x : List UInt8) : RetP Tryz.prog 215 [.pointer (some ⟨c.rb, 0, none⟩), str x] w
  (fun v w' => v = .tuple #[] ∧ isS c.T s x = true ∧ Rd c X w' (adv s) ∧ Fr w w') (fun v w' => v = pv 5 ∧ isS c.T s x = false ∧ Ext c.w0 w') := by
 refine RetP.enter Tryz.func215 rfl Tryz.ntmps215 (by kernel_rfl) rfl ?_; refine Sa ?_; refine Lc0 rfl rfl (may_ret hc h x) ?_; rintro v w1 ⟨rfl, hr, hf⟩; refine Sa ?_; refine Cwc (fun h1 => ?_) fun h1 => ?_
 ·have h1 : isS c.T s x = false := by simpa using h1
  rw [mayS, h1, if_neg (by simp)] at hr; refine Sa ?_; refine LW.callP0 rfl rfl (fail_ret c.rb 5 w1) ?_ (fun _ _ hh => hh.elim); rintro v w2 ⟨rfl, hx2⟩
  (repeat (first | apply QW.then_panic | apply QW.blk_panic))
  exact QW.panicP ⟨rfl, h1, hr.1.trans hx2⟩
 ·have h1 : isS c.T s x = true := by simpa using h1
  rw [mayS, if_pos h1] at hr; refine Sa ?_; exact QW.bodyP0n Tryz.results215 ⟨rfl, h1, hr, hf⟩
theorem open_ret {c : PCtx} {X : List Nat} (hc : c.Ok) {w : World} {s : PSt} (h : Rd c X w s) (x : List UInt8) : RetP Tryz.prog 207 [.pointer (some ⟨c.rb, 0, none⟩), str x] w
  (fun v w' => v = .tuple #[] ∧ isS c.T s x = true ∧ s.deep < 12 ∧ Rd c X w' (deeper (adv s)) ∧ Fr w w')
  (fun v w' => Ext c.w0 w' ∧ (v = pv 6 ∧ isS c.T s x = true ∧ 12 ≤ s.deep ∨ v = pv 5 ∧ isS c.T s x = false)) := by
 have hd12 := h.2.2.1; have hlen := hc.len; refine RetP.enter Tryz.func207 rfl Tryz.ntmps207 (by kernel_rfl) rfl ?_; refine Sa ?_; refine Lc0 rfl rfl (now_ret hc h) ?_; rintro v w1 ⟨rfl, hx1⟩; replace h := h.ext hx1; refine Sa ?_; refine Lwa fun C w2 hbC hx2 hC => ?_; refine Sa ?_; refine Lws fun w3 hc3 hC => ?_; replace hC : Blk w3 C (tokL (tokAt c.T s)) 100 := hC; have hx3 : Ext w w3 := (hx1.trans hx2).step hc3 (by simp; have := hx1.size; omega); have hx3' : Ext w1 w3 := hx2.step hc3 (by simp; omega); replace h := h.ext hx3'; refine Sa ?_; refine Lwp (fun h1 => ?_) fun h1 => ?_
 ·have h1 : (tokAt c.T s).kind = 5 := by simpa using h1
  refine Sa ?_; refine Lwp (fun h2 => ?_) fun h2 => ?_
  ·have h2 : (tokAt c.T s).text = x := by simpa using h2
   have hi : isS c.T s x = true := by simp [isS, h1, h2]
   have hh := h; obtain ⟨a0, a1, a2, a3, outv, nvs, hB, ho, hm, hk⟩ := hh; refine Sa ?_; refine Cwc (fun h3 => ?_) fun h3 => ?_
   ·have h3 : 12 ≤ s.deep := by simp at h3; omega
    refine Sa ?_; refine LW.callP0 rfl rfl (fail_ret c.rb 6 w3) ?_ (fun _ _ hh => hh.elim); rintro v w4 ⟨rfl, hx4⟩
    (repeat (first | apply QW.then_panic | apply QW.blk_panic))
    exact QW.panicP ⟨h.1.trans hx4, .inl ⟨rfl, hi, h3⟩⟩
   ·have h3 : s.deep < 12 := by simp at h3; omega
    clear hB ho hm hk; refine Sa ?_; refine LW.callP0 rfl rfl (need_ret hc h x) ?_ ?_
    ·rintro v w4 ⟨rfl, hi2, hx4⟩
     (repeat (first | apply QW.then_panic | apply QW.blk_panic))
     exact QW.panicP ⟨hx4, .inr ⟨rfl, hi2⟩⟩
    rintro v w4 ⟨rfl, hi2, hr, hf⟩; have hh2 := hr; obtain ⟨a0, a1, a2, a3, outv, nvs, hB, ho, hm, hk⟩ := hh2; have hB0 := hB; simp only [adv] at hB; refine Sa ?_; refine Lwt fun w5 hc5 hB => ?_; replace hB : Blk w5 c.rb [c.tokv, .int .i64 (adv s).at_, outv, .int .i64 ((s.deep + 1 : Nat) : Int)] 116 := hB; obtain ⟨hr5, hf5⟩ := Rd.set hc (s := adv s) (s' := deeper (adv s)) a0 ho hm hk hB0 hc5 hB rfl a1 (by show s.deep + 1 ≤ 12; omega) a3; refine Sa ?_; exact QW.bodyP0n Tryz.results207 ⟨rfl, hi2, h3, hr5, ((Fr.ext hx3).trans hf).trans hf5⟩
  ·have h2 : (tokAt c.T s).text ≠ x := by simpa using h2
   have hi : isS c.T s x = false := by simp [isS, h2]
   refine Sa ?_; refine Sa ?_; refine LW.callP0 rfl rfl (need_ret hc h x) ?_ ?_
   ·rintro v w4 ⟨rfl, hi2, hx4⟩
    (repeat (first | apply QW.then_panic | apply QW.blk_panic))
    exact QW.panicP ⟨hx4, .inr ⟨rfl, hi2⟩⟩
   rintro v w4 ⟨rfl, hi2, hr, hf⟩; rw [hi] at hi2; cases hi2
 ·have h1 : (tokAt c.T s).kind ≠ 5 := by simpa using h1
  have hi : isS c.T s x = false := by simp [isS, h1]
  refine Sa ?_; refine Sa ?_; refine LW.callP0 rfl rfl (need_ret hc h x) ?_ ?_
  ·rintro v w4 ⟨rfl, hi2, hx4⟩
   (repeat (first | apply QW.then_panic | apply QW.blk_panic))
   exact QW.panicP ⟨hx4, .inr ⟨rfl, hi2⟩⟩
  rintro v w4 ⟨rfl, hi2, hr, hf⟩; rw [hi] at hi2; cases hi2
theorem KidsOk.one {w : World} {kv : Value} {ks : List Int} (h : KidsOk w kv ks) : kv.oneCell' = true := by
 rcases h with ⟨rfl, _⟩ | ⟨b, cap, sp, rfl, _⟩ <;> rfl
theorem put_ret {c : PCtx} {X : List Nat} (hc : c.Ok) {w : World} {s : PSt} (h : Rd c X w s) (x : NV) (hx : KidsOk w x.kv x.node.kids) (hxX : ∀ b ∈ vblk x.kv, b ∉ X) (hs : s.out.length + 1 ≤ s.at_) : Ret Tryz.prog 146 [.pointer (some ⟨c.rb, 0, none⟩), .agg ⟨nvL x⟩] w
  (fun v w' => v = .int .i64 s.out.length ∧ Rd c X w' (putS s x.node) ∧ Fr w w') := by
 have hlen := hc.len; obtain ⟨a0, a1, a2, a3, outv, nvs, hB, ho, hm, hk⟩ := h; have hnl : nvs.length = s.out.length := by rw [← hm]; simp
 obtain ⟨p1, q1, e1⟩ := ho.slice; subst e1; have hkv : x.kv.oneCell' = true := hx.one; have hnv : (nvL x).all (·.oneCell') = true := by
  simp only [nvL, List.all_cons, hkv]; rfl
 refine Rte Tryz.func146 Tryz.ntmps146 ?_; refine Sa ?_; refine Lwb fun C w1 hbC hx1 hC => ?_; replace hC : Blk w1 C (nvL x) 133 := hC; replace hB := hB.ext hx1; refine Sa ?_; refine CW.drawAny (by kernel_rfl) fun w2 hx2 => ?_; replace hB := hB.ext hx2; replace hC := hC.ext hx2; have hx2' := hx1.trans hx2; have hz2 := hx2'.size; refine AW.take 0 rfl rfl rfl rfl (fun w => Y.pure rfl) rfl rfl (by kernel_rfl) (by kernel_rfl) (by kernel_rfl) (fun _ _ _ h => h) ?_; refine AW.take 1 rfl rfl rfl rfl (fun w => Y.pure rfl) rfl rfl (by kernel_rfl) (by kernel_rfl) (by kernel_rfl) (fun _ _ _ h => h) ?_; refine AW.take 2 rfl rfl rfl rfl (fun w => Y.pure rfl) rfl rfl (by kernel_rfl) (by kernel_rfl) (by kernel_rfl) (fun _ _ _ h => h) ?_; refine AW.take 3 rfl rfl rfl rfl (fun w => Y.pure rfl) rfl rfl (by kernel_rfl) (by kernel_rfl) (by kernel_rfl) (fun _ _ _ h => h) ?_; refine AW.two 4 5 (by kernel_rfl) rfl rfl rfl rfl ?_ ?_
 ·refine Sa ?_; apply QW.any; refine AW.one 5 (by kernel_rfl) rfl rfl ?_; refine Sa ?_; apply QW.any; refine AW.one 6 (by kernel_rfl) rfl rfl ?_; refine Lwl fun A w3 hbA hx3 hA => ?_; replace hA : Blk w3 A (nvL x) 133 := hA; have hB3 := hB.ext hx3; have hx3' := hx2'.trans hx3; have hz3 := hx3'.size; have ho3 := ho.ext hx3'; refine Sa ?_; apply QW.any; refine AW.one 7 (by kernel_rfl) rfl rfl ?_; refine LW.append rfl rfl rfl rfl rfl rfl ho3 (by have := a0.size; omega) hA rfl hnv rfl (by show (nvs.length + 1) * 137 ≤ 140737488355328; omega) rfl ?_; intro v' w4 hc4 ho4 hnew; have hrb : c.rb ∉ vblk (Value.slice p1 nvs.length q1) := fun hm => by
   obtain ⟨_, ⟨e, _⟩ | ⟨g, cap, sp, e, hg, _⟩⟩ := ho3
   ·rw [e] at hm; simp [vblk] at hm
   ·rw [e] at hm; simp [vblk] at hm; exact absurd (hg.inj (hm ▸ hB3)) (by decide)
  have hf4 : Fr w3 w4 := Fr.chg hc4 (fun k hk l T hb => by
   obtain ⟨_, ⟨e, _⟩ | ⟨g, cap, sp, e, hg, _⟩⟩ := ho3
   ·rw [e] at hk; simp [vblk] at hk
   ·rw [e] at hk; simp [vblk] at hk; subst hk; exact .inr (hb.inj hg))
  have hB4 := hB3.chg hc4 hrb; have hx4 : Ext c.w0 w4 := (a0.trans hx3').step hc4 (fun k hk => (ho3.lt hk).1); obtain ⟨p2, q2, e2⟩ := ho4.slice; subst e2; refine Sa ?_; apply QW.any; refine AW.one 8 (by kernel_rfl) rfl rfl ?_; refine Sa ?_; apply QW.any; refine AW.one 9 (by kernel_rfl) rfl rfl ?_; refine Sa ?_; apply QW.any; refine AW.one 10 (by kernel_rfl) rfl rfl ?_; have hB0 := hB4; refine Lwt fun w5 hc5 hB4 => ?_; replace hB4 : Blk w5 c.rb [c.tokv, .int .i64 s.at_, .slice p2 (nvs.length + 1) q2, .int .i64 s.deep] 116 := hB4; have hrb2 : ∀ j, j ∈ vblk (Value.slice p2 (nvs.length + 1) q2) → j ∉ [c.rb] := fun j hj hb => by
   simp only [List.mem_singleton] at hb; subst hb; obtain ⟨_, ⟨e, _⟩ | ⟨g, cap, sp, e, hg, _⟩⟩ := ho4
   ·rw [e] at hj; simp [vblk] at hj
   ·rw [e] at hj; simp [vblk] at hj; exact absurd (hg.inj (hj ▸ hB0)) (by decide)
  have hf5 : Fr w4 w5 := Fr.chg hc5 (fun k hk l T hb => by simp at hk; subst hk; exact .inl (hb.inj hB0)); have hff : Fr w w5 := ((Fr.ext hx3').trans hf4).trans hf5; have ho5 := ho4.chg hc5 hrb2; apply LW.nil; apply QW.any; refine AW.done (by kernel_rfl) ?_; refine Sa ?_; refine QW.body1 Tryz.results146 rfl ⟨by rw [← hnl]; congr 1; omega, ⟨hx4.step hc5 (by simpa using hc.new), a1, a2, by simp [putS]; omega, .slice p2 (nvs.length + 1) q2, nvs ++ [x], hB4, by simpa using ho5, by simp [putS, hm], ?_⟩, hff⟩; intro y hy; rw [List.mem_append] at hy; rcases hy with hy | hy
  ·exact ⟨(hk y hy).1.fr hff, (hk y hy).2⟩
  ·simp only [List.mem_singleton] at hy; subst hy; exact ⟨hx.fr hff, hxX⟩
 ·refine Sa ?_; apply QW.any; refine AW.two 4 6 (by kernel_rfl) rfl rfl rfl rfl ?_ ?_
  ·refine Sa ?_; apply QW.any; refine AW.one 6 (by kernel_rfl) rfl rfl ?_; refine Lwl fun A w3 hbA hx3 hA => ?_; replace hA : Blk w3 A (nvL x) 133 := hA; have hB3 := hB.ext hx3; have hx3' := hx2'.trans hx3; have hz3 := hx3'.size; have ho3 := ho.ext hx3'; refine Sa ?_; apply QW.any; refine AW.one 7 (by kernel_rfl) rfl rfl ?_; refine LW.append rfl rfl rfl rfl rfl rfl ho3 (by have := a0.size; omega) hA rfl hnv rfl (by show (nvs.length + 1) * 137 ≤ 140737488355328; omega) rfl ?_; intro v' w4 hc4 ho4 hnew; have hrb : c.rb ∉ vblk (Value.slice p1 nvs.length q1) := fun hm => by
    obtain ⟨_, ⟨e, _⟩ | ⟨g, cap, sp, e, hg, _⟩⟩ := ho3
    ·rw [e] at hm; simp [vblk] at hm
    ·rw [e] at hm; simp [vblk] at hm; exact absurd (hg.inj (hm ▸ hB3)) (by decide)
   have hf4 : Fr w3 w4 := Fr.chg hc4 (fun k hk l T hb => by
    obtain ⟨_, ⟨e, _⟩ | ⟨g, cap, sp, e, hg, _⟩⟩ := ho3
    ·rw [e] at hk; simp [vblk] at hk
    ·rw [e] at hk; simp [vblk] at hk; subst hk; exact .inr (hb.inj hg))
   have hB4 := hB3.chg hc4 hrb; have hx4 : Ext c.w0 w4 := (a0.trans hx3').step hc4 (fun k hk => (ho3.lt hk).1); obtain ⟨p2, q2, e2⟩ := ho4.slice; subst e2; refine Sa ?_; apply QW.any; refine AW.one 8 (by kernel_rfl) rfl rfl ?_; refine Sa ?_; apply QW.any; refine AW.one 9 (by kernel_rfl) rfl rfl ?_; refine Sa ?_; apply QW.any; refine AW.one 10 (by kernel_rfl) rfl rfl ?_; have hB0 := hB4; refine Lwt fun w5 hc5 hB4 => ?_; replace hB4 : Blk w5 c.rb [c.tokv, .int .i64 s.at_, .slice p2 (nvs.length + 1) q2, .int .i64 s.deep] 116 := hB4; have hrb2 : ∀ j, j ∈ vblk (Value.slice p2 (nvs.length + 1) q2) → j ∉ [c.rb] := fun j hj hb => by
    simp only [List.mem_singleton] at hb; subst hb; obtain ⟨_, ⟨e, _⟩ | ⟨g, cap, sp, e, hg, _⟩⟩ := ho4
    ·rw [e] at hj; simp [vblk] at hj
    ·rw [e] at hj; simp [vblk] at hj; exact absurd (hg.inj (hj ▸ hB0)) (by decide)
   have hf5 : Fr w4 w5 := Fr.chg hc5 (fun k hk l T hb => by simp at hk; subst hk; exact .inl (hb.inj hB0)); have hff : Fr w w5 := ((Fr.ext hx3').trans hf4).trans hf5; have ho5 := ho4.chg hc5 hrb2; apply LW.nil; apply QW.any; refine AW.done (by kernel_rfl) ?_; refine Sa ?_; refine QW.body1 Tryz.results146 rfl ⟨by rw [← hnl]; congr 1; omega, ⟨hx4.step hc5 (by simpa using hc.new), a1, a2, by simp [putS]; omega, .slice p2 (nvs.length + 1) q2, nvs ++ [x], hB4, by simpa using ho5, by simp [putS, hm], ?_⟩, hff⟩; intro y hy; rw [List.mem_append] at hy; rcases hy with hy | hy
   ·exact ⟨(hk y hy).1.fr hff, (hk y hy).2⟩
   ·simp only [List.mem_singleton] at hy; subst hy; exact ⟨hx.fr hff, hxX⟩
  ·refine Lwl fun A w3 hbA hx3 hA => ?_; replace hA : Blk w3 A (nvL x) 133 := hA; have hB3 := hB.ext hx3; have hx3' := hx2'.trans hx3; have hz3 := hx3'.size; have ho3 := ho.ext hx3'; refine Sa ?_; apply QW.any; refine AW.one 4 (by kernel_rfl) rfl rfl ?_; refine Sa ?_; apply QW.any; refine AW.one 7 (by kernel_rfl) rfl rfl ?_; refine LW.append rfl rfl rfl rfl rfl rfl ho3 (by have := a0.size; omega) hA rfl hnv rfl (by show (nvs.length + 1) * 137 ≤ 140737488355328; omega) rfl ?_; intro v' w4 hc4 ho4 hnew; have hrb : c.rb ∉ vblk (Value.slice p1 nvs.length q1) := fun hm => by
    obtain ⟨_, ⟨e, _⟩ | ⟨g, cap, sp, e, hg, _⟩⟩ := ho3
    ·rw [e] at hm; simp [vblk] at hm
    ·rw [e] at hm; simp [vblk] at hm; exact absurd (hg.inj (hm ▸ hB3)) (by decide)
   have hf4 : Fr w3 w4 := Fr.chg hc4 (fun k hk l T hb => by
    obtain ⟨_, ⟨e, _⟩ | ⟨g, cap, sp, e, hg, _⟩⟩ := ho3
    ·rw [e] at hk; simp [vblk] at hk
    ·rw [e] at hk; simp [vblk] at hk; subst hk; exact .inr (hb.inj hg))
   have hB4 := hB3.chg hc4 hrb; have hx4 : Ext c.w0 w4 := (a0.trans hx3').step hc4 (fun k hk => (ho3.lt hk).1); obtain ⟨p2, q2, e2⟩ := ho4.slice; subst e2; refine Sa ?_; apply QW.any; refine AW.one 8 (by kernel_rfl) rfl rfl ?_; refine Sa ?_; apply QW.any; refine AW.one 9 (by kernel_rfl) rfl rfl ?_; refine Sa ?_; apply QW.any; refine AW.one 10 (by kernel_rfl) rfl rfl ?_; have hB0 := hB4; refine Lwt fun w5 hc5 hB4 => ?_; replace hB4 : Blk w5 c.rb [c.tokv, .int .i64 s.at_, .slice p2 (nvs.length + 1) q2, .int .i64 s.deep] 116 := hB4; have hrb2 : ∀ j, j ∈ vblk (Value.slice p2 (nvs.length + 1) q2) → j ∉ [c.rb] := fun j hj hb => by
    simp only [List.mem_singleton] at hb; subst hb; obtain ⟨_, ⟨e, _⟩ | ⟨g, cap, sp, e, hg, _⟩⟩ := ho4
    ·rw [e] at hj; simp [vblk] at hj
    ·rw [e] at hj; simp [vblk] at hj; exact absurd (hg.inj (hj ▸ hB0)) (by decide)
   have hf5 : Fr w4 w5 := Fr.chg hc5 (fun k hk l T hb => by simp at hk; subst hk; exact .inl (hb.inj hB0)); have hff : Fr w w5 := ((Fr.ext hx3').trans hf4).trans hf5; have ho5 := ho4.chg hc5 hrb2; apply LW.nil; apply QW.any; refine AW.done (by kernel_rfl) ?_; refine Sa ?_; refine QW.body1 Tryz.results146 rfl ⟨by rw [← hnl]; congr 1; omega, ⟨hx4.step hc5 (by simpa using hc.new), a1, a2, by simp [putS]; omega, .slice p2 (nvs.length + 1) q2, nvs ++ [x], hB4, by simpa using ho5, by simp [putS, hm], ?_⟩, hff⟩; intro y hy; rw [List.mem_append] at hy; rcases hy with hy | hy
   ·exact ⟨(hk y hy).1.fr hff, (hk y hy).2⟩
   ·simp only [List.mem_singleton] at hy; subst hy; exact ⟨hx.fr hff, hxX⟩
theorem findIdx_first {α : Type} (p : α → Bool) (d : α) : ∀ (l : List α) (k : Nat), k < l.length → (∀ j, j < k → p (l.getD j d) = false) → p (l.getD k d) = true → l.findIdx? p = some k
 | [], k, hk, _, _ => by simp at hk
 | x :: r, 0, _, _, h => by
  have h : p x = true := h
  simp [List.findIdx?_cons, h]
 | x :: r, k + 1, hk, hn, h => by
  have h0 : p x = false := hn 0 (by omega); have ih := findIdx_first p d r k (by simpa using hk) (fun j hj => hn (j + 1) (by omega)) h; simp [List.findIdx?_cons, h0, ih]
theorem findIdx_none {α : Type} (p : α → Bool) (d : α) : ∀ (l : List α), (∀ j, j < l.length → p (l.getD j d) = false) → l.findIdx? p = none
 | [], _ => rfl
 | x :: r, hn => by
  have h0 : p x = false := hn 0 (by simp); have ih := findIdx_none p d r (fun j hj => hn (j + 1) (by simp; omega)); simp [List.findIdx?_cons, h0, ih]
def ixZ : Option Nat → Int
 | some i => i
 | none => -1
theorem index_ret (xs : List (List UInt8)) (hl : xs.length ≤ 100) (s : List UInt8) (b cap : Nat) (w : World) (hB : Blk w b (xs.map str) 9) : Ret Tryz.prog 145 [.slice (some ⟨b, 0, none⟩) xs.length cap, str s] w
  (fun v w' => v = .int .i64 (ixZ (xs.findIdx? (fun x => decide (x = s)))) ∧ Ext w w') := by
 refine Rte Tryz.func145 Tryz.ntmps145 ?_; refine Sa ?_; refine CW.loop (ι := Nat) (fun k w' => k ≤ xs.length ∧ Ext w w' ∧ ∀ j, j < k → decide (xs.getD j [] = s) = false) (fun k => [(0, .slice (some ⟨b, 0, none⟩) xs.length cap), (1, str s), (7, .int .i64 xs.length), (8, .int .i64 k)]) (fun k => xs.length - k) 0 ⟨by omega, Chg.refl _ _, by omega⟩ Sub4 ?_; rintro k w1 ⟨hk, hx, hall⟩; replace hB := hB.ext hx; refine Sa ?_; refine Cwc (fun h1 => ?_) fun h1 => ?_
 ·have h1 : k < xs.length := by simp at h1; omega
  have hv : (xs.map str)[k]? = some (str (xs.getD k [])) := by simp [List.getD_eq_getElem?_getD, List.getElem?_eq_getElem h1]
  refine Sa ?_; refine LW.idx_slice (j := k) rfl rfl rfl rfl rfl (by omega) (by omega) (by show 0 + _ * 1 = _; omega) rfl ?_; refine LW.load rfl hB hv rfl rfl rfl ?_; refine Sa ?_; refine Cwc (fun h2 => ?_) fun h2 => ?_
  ·have h2 : decide (xs.getD k [] = s) = true := by simpa using (by simpa using h2 : s = xs.getD k []).symm
   refine Sa ?_; refine QW.body1 Tryz.results145 rfl ⟨?_, hx⟩; rw [findIdx_first (fun x => decide (x = s)) [] xs k h1 hall h2]; rfl
  ·have h2 : decide (xs.getD k [] = s) = false := by
    have h2 : ¬ s = xs.getD k [] := by simpa using h2
    simpa using fun e => h2 e.symm
   refine Sa ?_; refine QW.again (k + 1) ⟨by omega, hx, fun j hj => ?_⟩ Sub4 (by omega); by_cases e : j = k
   ·subst e; exact h2
   ·exact hall j (by omega)
 ·have h1 : k = xs.length := by simp at h1; omega
  subst h1; refine Sa ?_; refine QW.body1 Tryz.results145 rfl ⟨?_, hx⟩; rw [findIdx_none (fun x => decide (x = s)) [] xs hall]; rfl
theorem ranges_ret (a b : RefD) (w : World) : Ret Tryz.prog 151 [.agg ⟨refL a⟩, .agg ⟨refL b⟩] w (fun v w' => v = .bool (rangesB a b) ∧ Ext w w') := by
 refine Rte Tryz.func151 Tryz.ntmps151 ?_; refine Sa ?_; refine Lwb fun A w1 hbA hx1 hA => ?_; replace hA : Blk w1 A (refL a) 98 := hA; refine Sa ?_; refine Lwb fun B w2 hbB hx2 hB => ?_; replace hB : Blk w2 B (refL b) 98 := hB; replace hA := hA.ext hx2; have hx := hx1.trans hx2; refine Sa ?_; refine Lwp (fun h1 => ?_) fun h1 => ?_
 ·refine Sa ?_; refine Lwp (fun h2 => ?_) fun h2 => ?_
  all_goals
   refine Sa ?_; refine QW.body1 Tryz.results151 rfl ⟨?_, hx⟩; simp [rangesB, h1, h2]
 ·refine Sa ?_; refine QW.body1 Tryz.results151 rfl ⟨?_, hx⟩; simp [rangesB, h1]
def POk (c : PCtx) (X : List Nat) (m : PMode) (s : PSt) (w : World) (v : Value) (w' : World) : Prop :=
 ∃ (s' : PSt) (p : Nat), v = .int .i64 (p : Int) ∧ PE c.T m s (.ok s' p) ∧ Rd c X w' s' ∧ Fr w w' ∧ s.at_ < s'.at_ ∧ s'.deep = s.deep ∧ s.at_ + s'.out.length ≤ s'.at_ + s.out.length
def PBad (c : PCtx) (m : PMode) (s : PSt) (v : Value) (w' : World) : Prop := ∃ e, v = pv e ∧ PE c.T m s (.err e) ∧ Ext c.w0 w'
def PC (c : PCtx) (f : Nat) (m : PMode) (s : PSt) : Prop := ∀ w X, (∀ b ∈ X, b < w.heap.size) → Rd c X w s → RetP Tryz.prog f [.pointer (some ⟨c.rb, 0, none⟩)] w (POk c X m s w) (PBad c m s)
theorem lens (n : Nat) : (signsN n).length = (kindsN n).length ∧ (signsN n).length ≤ 6 := by
 match n with
 | 0 | 1 | 2 | n + 3 => exact ⟨rfl, by simp [signsN]⟩
theorem findIdx_lt {α : Type} {p : α → Bool} {l : List α} {i : Nat} (h : l.findIdx? p = some i) : i < l.length := (List.findIdx?_eq_some_iff_findIdx_eq.1 h).1
theorem Rd.len {c : PCtx} {X : List Nat} {w : World} {s : PSt} (h : Rd c X w s) : s.at_ < c.T.length ∧ s.deep ≤ 12 ∧ s.out.length ≤ s.at_ := ⟨h.2.1, h.2.2.1, h.2.2.2.1⟩
theorem chain_ret {c : PCtx} {X : List Nat} (hc : c.Ok) (n fB sb kb : Nat) (s : PSt) (w : World) (hX : ∀ b ∈ X, b < w.heap.size) (h : Rd c X w s) (hsb : Blk w sb ((signsN n).map str) 9) (hkb : Blk w kb (icells (kindsN n)) 3)
  (h1 : PC c fB (below n) s) (h2 : ∀ s', s.at_ < s'.at_ → s'.deep = s.deep → PC c fB (below n) s') :
  RetP Tryz.prog 113 [.pointer (some ⟨c.rb, 0, none⟩), .agg ⟨[.func (.func fB) #[.pointer (some ⟨c.rb, 0, none⟩)] #[], .slice (some ⟨sb, 0, none⟩) (signsN n).length (signsN n).length, .slice (some ⟨kb, 0, none⟩) (kindsN n).length (kindsN n).length]⟩] w
   (POk c X (.lev n) s w) (PBad c (.lev n) s) := by
 have hlen := hc.len; obtain ⟨hl1, hl2⟩ := lens n; refine RetP.enter Tryz.func113 rfl Tryz.ntmps113 (by kernel_rfl) rfl ?_; refine Sa ?_; refine Lwb fun L w1 hbL hx1 hL => ?_; replace hsb := hsb.ext hx1; replace hkb := hkb.ext hx1; replace h := h.ext hx1; have hf1 := Fr.ext hx1; refine Sa ?_; refine LW.callP rfl rfl rfl (h1 w1 X (fun b hb => Nat.lt_of_lt_of_le (hX b hb) hx1.size) h) ?_ ?_
 ·rintro v w2 ⟨e, rfl, hp, hx⟩
  (repeat (first | apply QW.then_panic | apply QW.blk_panic))
  exact QW.panicP ⟨e, rfl, .lev_err hp, hx⟩
 rintro v w2 ⟨s1, a, rfl, hp, hr, hf, g1, g2, g3⟩; refine Sa ?_; refine CW.loop (ι := PSt × Nat) (fun k w' => s.at_ < k.1.at_ ∧ k.1.deep = s.deep ∧ s.at_ + k.1.out.length ≤ k.1.at_ + s.out.length ∧ Rd c X w' k.1 ∧ Fr w1 w' ∧ ∀ r, PE c.T (.loop n k.2) k.1 r → PE c.T (.lev n) s r) (fun k => [(0, .pointer (some ⟨c.rb, 0, none⟩)), (3, .pointer (some ⟨L, 0, none⟩)), (5, .int .i64 (k.2 : Int))]) (fun k => c.T.length - k.1.at_) (s1, a)
  ⟨g1, g2, g3, hr, hf, fun r hl => .lev_ok hp hl⟩ Sub3 ?_
 clear hr hp g1 g2 g3 hf a s1 w2; rintro ⟨t, a⟩ w2 ⟨g1, g2, g3, hr, hf, hcont⟩; simp only at g1 g2 g3 hr hcont; show CW _ _ _ _ _ [(0, .pointer (some ⟨c.rb, 0, none⟩)), (3, .pointer (some ⟨L, 0, none⟩)), (5, .int .i64 (a : Int))] _; have hL2 := hf.blk _ _ _ hL (by decide) (by decide); have hsb2 := hf.blk _ _ _ hsb (by decide) (by decide); have hkb2 := hf.blk _ _ _ hkb (by decide) (by decide); obtain ⟨q1, q2, q3⟩ := hr.len; obtain ⟨r1, r2, r3⟩ := h.len; refine Sa ?_; refine Lc0 rfl rfl (now_ret hc hr) ?_; rintro v w3 ⟨rfl, hx3⟩; refine Sa ?_; refine Lwa fun C w4 hbC hx4 hC => ?_; refine Sa ?_; refine Lws fun w5 hc5 hC => ?_; replace hC : Blk w5 C (tokL (tokAt c.T t)) 100 := hC; have hx5 : Ext w2 w5 := (hx3.trans hx4).step hc5 (by simp; have := hx3.size; omega); replace hL2 := hL2.ext hx5; replace hsb2 := hsb2.ext hx5; replace hkb2 := hkb2.ext hx5; replace hr := hr.ext hx5; replace hf := hf.trans (.ext hx5); refine Sa ?_; refine Cwc (fun hk => ?_) fun hk => ?_
 ·have hk : (tokAt c.T t).kind = 5 := by simpa using hk
  refine Sa ?_; refine Lc0 rfl rfl (index_ret (signsN n) (by omega) (tokAt c.T t).text sb _ _ hsb2) ?_; rintro v w6 ⟨rfl, hx6⟩; replace hL2 := hL2.ext hx6; replace hkb2 := hkb2.ext hx6; replace hr := hr.ext hx6; replace hf := hf.trans (.ext hx6); have hop : opIx c.T t n = (signsN n).findIdx? (fun x => decide (x = (tokAt c.T t).text)) := by rw [opIx, if_pos hk]
  cases hi : (signsN n).findIdx? (fun x => decide (x = (tokAt c.T t).text)) with
  | none =>
   rw [hi] at hop; simp only [ixZ]; refine Sa ?_
   exact QW.bodyP1 Tryz.results113 rfl ⟨t, a, rfl, hcont _ (.loop_end hop), hr, hf1.trans hf, g1, g2, g3⟩
  | some i =>
   rw [hi] at hop; have hil := findIdx_lt hi; simp only [ixZ]; refine Sa ?_; obtain ⟨a0, a1, a2, a3, outv, nvs, hB, ho, hm, hkids⟩ := hr; have hnx := rd_next hc a1 (by omega); have hB0 := hB; refine Sa ?_; refine Lwt fun w7 hc7 hB => ?_; replace hB : Blk w7 c.rb [c.tokv, .int .i64 (adv t).at_, outv, .int .i64 t.deep] 116 := hB; obtain ⟨hr, hf7⟩ := Rd.set hc (s := t) (s' := adv t) a0 ho hm hkids hB0 hc7 hB rfl hnx a2 (by show t.out.length ≤ t.at_ + 1; omega); replace hf := hf.trans hf7; replace hL2 := hf7.blk _ _ _ hL2 (by decide) (by decide); replace hkb2 := hf7.blk _ _ _ hkb2 (by decide) (by decide); refine Sa ?_; refine LW.callP rfl rfl rfl (h2 (adv t) (by show s.at_ < t.at_ + 1; omega) g2 w7 X (fun b hb => Nat.lt_of_lt_of_le (hX b hb) (hf1.trans hf).size) hr) ?_ ?_
   ·rintro v w8 ⟨e, rfl, hp, hx⟩
    (repeat (first | apply QW.then_panic | apply QW.blk_panic))
    exact QW.panicP ⟨e, rfl, hcont _ (.loop_err hop hp), hx⟩
   rintro v w8 ⟨s1, b, rfl, hp, hr8, hf8, k1, k2, k3⟩; have k1' : t.at_ + 1 < s1.at_ := k1; have k3' : t.at_ + 1 + s1.out.length ≤ s1.at_ + t.out.length := k3; replace hf := hf.trans hf8; have hz8 := (hf1.trans hf).size; replace hL2 := hf8.blk _ _ _ hL2 (by decide) (by decide); replace hkb2 := hf8.blk _ _ _ hkb2 (by decide) (by decide); have hkv : (icells (kindsN n))[i]? = some (.int .i64 ((kindsN n).getD i 0)) := by simp [icells, List.getD_eq_getElem?_getD, List.getElem?_eq_getElem (show i < (kindsN n).length by omega)]
   refine Sa ?_; refine LW.idx_slice (j := i) rfl rfl rfl rfl rfl (by omega) (by omega) (by show 0 + _ * 1 = _; omega) rfl ?_; refine LW.load rfl hkb2 hkv rfl rfl rfl ?_; refine Sa ?_; refine Lwl fun K w9 hbK hx9 hK => ?_; replace hK : Blk w9 K (icells [(a : Int), (b : Int)]) 3 := hK; replace hr8 := hr8.ext hx9; replace hf := hf.trans (.ext hx9); refine Sa ?_; refine LW.call0 (vs := [.pointer (some ⟨c.rb, 0, none⟩), .agg ⟨nvL ⟨{ kind := (kindsN n).getD i 0, kids := [(a : Int), (b : Int)] }, .slice (some ⟨K, 0, none⟩) 2 2⟩⟩]) rfl rfl (put_ret hc hr8 ⟨{ kind := (kindsN n).getD i 0, kids := [(a : Int), (b : Int)] }, .slice (some ⟨K, 0, none⟩) 2 2⟩ (.inr ⟨K, 2, [], rfl, by rw [List.append_nil]; exact hK⟩) (fun b hb hbX => by
    have h3 := hX b hbX; simp [vblk] at hb; omega) (by omega)) ?_
   rintro v w10 ⟨rfl, hr10, hf10⟩; refine Sa ?_; refine QW.again (putS s1 { kind := (kindsN n).getD i 0, kids := [(a : Int), (b : Int)] }, s1.out.length) ⟨by show s.at_ < s1.at_; omega, k2.trans g2, by simp [putS]; omega, hr10, hf.trans hf10, fun r hl => hcont r (.loop_go hop hp hl)⟩ Sub3 (by show c.T.length - s1.at_ < c.T.length - t.at_; omega)
 ·have hk : (tokAt c.T t).kind ≠ 5 := by simpa using hk
  have hop : opIx c.T t n = none := by rw [opIx, if_neg hk]
  refine Sa ?_; exact QW.bodyP1 Tryz.results113 rfl ⟨t, a, rfl, hcont _ (.loop_end hop), hr, hf1.trans hf, g1, g2, g3⟩
theorem expr_ret {c : PCtx} (hc : c.Ok) (s : PSt) (h1 : PC c 114 (below 0) s) (h2 : ∀ s', s.at_ < s'.at_ → s'.deep = s.deep → PC c 114 (below 0) s') :
  PC c 87 (.lev 0) s := by
 intro w X hX h; refine RetP.enter Tryz.func87 rfl Tryz.ntmps87 (by kernel_rfl) rfl ?_; refine Sa ?_; refine Lwl fun A w1 hbA hx1 hA => ?_; replace hA : Blk w1 A ((signsN 0).map str) 9 := hA; refine Sa ?_; refine Lwl fun B w2 hbB hx2 hB => ?_; replace hB : Blk w2 B (icells (kindsN 0)) 3 := hB; have hx := hx1.trans hx2; refine Sa ?_; refine LW.callP0 (vs := [.pointer (some ⟨c.rb, 0, none⟩), .agg ⟨[.func (.func 114) #[.pointer (some ⟨c.rb, 0, none⟩)] #[], .slice (some ⟨A, 0, none⟩) 6 6, .slice (some ⟨B, 0, none⟩) 6 6]⟩]) rfl rfl
  (chain_ret hc 0 114 A B s w2 (fun b hb => Nat.lt_of_lt_of_le (hX b hb) hx.size) (h.ext hx) (hA.ext hx2) hB h1 h2) ?_ ?_
 ·rintro v w3 hp
  (repeat (first | apply QW.then_panic | apply QW.blk_panic))
  exact QW.panicP hp
 rintro v w3 ⟨s', p, rfl, hp, hr, hf, g1, g2, g3⟩; refine Sa ?_; exact QW.bodyP1 Tryz.results87 rfl ⟨s', p, rfl, hp, hr, (Fr.ext hx).trans hf, g1, g2, g3⟩
theorem cat_ret {c : PCtx} (hc : c.Ok) (s : PSt) (h1 : PC c 147 (below 1) s) (h2 : ∀ s', s.at_ < s'.at_ → s'.deep = s.deep → PC c 147 (below 1) s') :
  PC c 114 (.lev 1) s := by
 intro w X hX h; refine RetP.enter Tryz.func114 rfl Tryz.ntmps114 (by kernel_rfl) rfl ?_; refine Sa ?_; refine Lwl fun A w1 hbA hx1 hA => ?_; replace hA : Blk w1 A ((signsN 1).map str) 9 := hA; refine Sa ?_; refine Lwl fun B w2 hbB hx2 hB => ?_; replace hB : Blk w2 B (icells (kindsN 1)) 3 := hB; have hx := hx1.trans hx2; refine Sa ?_; refine LW.callP0 (vs := [.pointer (some ⟨c.rb, 0, none⟩), .agg ⟨[.func (.func 147) #[.pointer (some ⟨c.rb, 0, none⟩)] #[], .slice (some ⟨A, 0, none⟩) 1 1, .slice (some ⟨B, 0, none⟩) 1 1]⟩]) rfl rfl
  (chain_ret hc 1 147 A B s w2 (fun b hb => Nat.lt_of_lt_of_le (hX b hb) hx.size) (h.ext hx) (hA.ext hx2) hB h1 h2) ?_ ?_
 ·rintro v w3 hp
  (repeat (first | apply QW.then_panic | apply QW.blk_panic))
  exact QW.panicP hp
 rintro v w3 ⟨s', p, rfl, hp, hr, hf, g1, g2, g3⟩; refine Sa ?_; exact QW.bodyP1 Tryz.results114 rfl ⟨s', p, rfl, hp, hr, (Fr.ext hx).trans hf, g1, g2, g3⟩
theorem sum_ret {c : PCtx} (hc : c.Ok) (s : PSt) (h1 : PC c 176 (below 2) s) (h2 : ∀ s', s.at_ < s'.at_ → s'.deep = s.deep → PC c 176 (below 2) s') :
  PC c 147 (.lev 2) s := by
 intro w X hX h; refine RetP.enter Tryz.func147 rfl Tryz.ntmps147 (by kernel_rfl) rfl ?_; refine Sa ?_; refine Lwl fun A w1 hbA hx1 hA => ?_; replace hA : Blk w1 A ((signsN 2).map str) 9 := hA; refine Sa ?_; refine Lwl fun B w2 hbB hx2 hB => ?_; replace hB : Blk w2 B (icells (kindsN 2)) 3 := hB; have hx := hx1.trans hx2; refine Sa ?_; refine LW.callP0 (vs := [.pointer (some ⟨c.rb, 0, none⟩), .agg ⟨[.func (.func 176) #[.pointer (some ⟨c.rb, 0, none⟩)] #[], .slice (some ⟨A, 0, none⟩) 2 2, .slice (some ⟨B, 0, none⟩) 2 2]⟩]) rfl rfl
  (chain_ret hc 2 176 A B s w2 (fun b hb => Nat.lt_of_lt_of_le (hX b hb) hx.size) (h.ext hx) (hA.ext hx2) hB h1 h2) ?_ ?_
 ·rintro v w3 hp
  (repeat (first | apply QW.then_panic | apply QW.blk_panic))
  exact QW.panicP hp
 rintro v w3 ⟨s', p, rfl, hp, hr, hf, g1, g2, g3⟩; refine Sa ?_; exact QW.bodyP1 Tryz.results147 rfl ⟨s', p, rfl, hp, hr, (Fr.ext hx).trans hf, g1, g2, g3⟩
theorem term_ret {c : PCtx} (hc : c.Ok) (s : PSt) (h1 : PC c 193 (below 3) s) (h2 : ∀ s', s.at_ < s'.at_ → s'.deep = s.deep → PC c 193 (below 3) s') :
  PC c 176 (.lev 3) s := by
 intro w X hX h; refine RetP.enter Tryz.func176 rfl Tryz.ntmps176 (by kernel_rfl) rfl ?_; refine Sa ?_; refine Lwl fun A w1 hbA hx1 hA => ?_; replace hA : Blk w1 A ((signsN 3).map str) 9 := hA; refine Sa ?_; refine Lwl fun B w2 hbB hx2 hB => ?_; replace hB : Blk w2 B (icells (kindsN 3)) 3 := hB; have hx := hx1.trans hx2; refine Sa ?_; refine LW.callP0 (vs := [.pointer (some ⟨c.rb, 0, none⟩), .agg ⟨[.func (.func 193) #[.pointer (some ⟨c.rb, 0, none⟩)] #[], .slice (some ⟨A, 0, none⟩) 2 2, .slice (some ⟨B, 0, none⟩) 2 2]⟩]) rfl rfl
  (chain_ret hc 3 193 A B s w2 (fun b hb => Nat.lt_of_lt_of_le (hX b hb) hx.size) (h.ext hx) (hA.ext hx2) hB h1 h2) ?_ ?_
 ·rintro v w3 hp
  (repeat (first | apply QW.then_panic | apply QW.blk_panic))
  exact QW.panicP hp
 rintro v w3 ⟨s', p, rfl, hp, hr, hf, g1, g2, g3⟩; refine Sa ?_; exact QW.bodyP1 Tryz.results176 rfl ⟨s', p, rfl, hp, hr, (Fr.ext hx).trans hf, g1, g2, g3⟩
theorem unary_ret {c : PCtx} (hc : c.Ok) (s : PSt) (h1 : PC c 206 .prim s) (h2 : ∀ s', s.at_ < s'.at_ → PC c 193 .unary s') :
  PC c 193 .unary s := by
 intro w X hX h; have hlen := hc.len; refine RetP.enter Tryz.func193 rfl Tryz.ntmps193 (by kernel_rfl) rfl ?_; refine Sa ?_; refine Lc0 rfl rfl (now_ret hc h) ?_; rintro v w1 ⟨rfl, hx1⟩; replace h := h.ext hx1; refine Sa ?_; refine Lwa fun C w2 hbC hx2 hC => ?_; refine Sa ?_; refine Lws fun w3 hc3 hC => ?_; replace hC : Blk w3 C (tokL (tokAt c.T s)) 100 := hC; have hx3 : Ext w w3 := (hx1.trans hx2).step hc3 (by simp; have := hx1.size; omega); have hx3' : Ext w1 w3 := hx2.step hc3 (by simp; omega); replace h := h.ext hx3'; replace hX : ∀ b ∈ X, b < w3.heap.size := fun b hb => Nat.lt_of_lt_of_le (hX b hb) hx3.size; refine Sa ?_; refine Lwp (fun hk => ?_) fun hk => ?_
 ·have hk : (tokAt c.T s).kind ≠ 5 := by simpa using hk
  have hi : isS c.T s [45] = false := by simp [isS, hk]
  refine Sa ?_; refine LW.callP0 rfl rfl (h1 w3 X hX h) ?_ ?_
  ·rintro v w4 ⟨e, rfl, hp, hx4⟩
   (repeat (first | apply QW.then_panic | apply QW.blk_panic))
   exact QW.panicP ⟨e, rfl, .un_prim hi hp, hx4⟩
  rintro v w4 ⟨s', p, rfl, hp, hr, hf, g1, g2, g3⟩; refine Sa ?_; exact QW.bodyP1 Tryz.results193 rfl ⟨s', p, rfl, .un_prim hi hp, hr, (Fr.ext hx3).trans hf, g1, g2, g3⟩
 have hk : (tokAt c.T s).kind = 5 := by simpa using hk
 refine Sa ?_; refine Cwc (fun ht => ?_) fun ht => ?_
 ·have ht : (tokAt c.T s).text ≠ [45] := by simpa using ht
  have hi : isS c.T s [45] = false := by simp [isS, ht]
  refine Sa ?_; refine LW.callP0 rfl rfl (h1 w3 X hX h) ?_ ?_
  ·rintro v w4 ⟨e, rfl, hp, hx4⟩
   (repeat (first | apply QW.then_panic | apply QW.blk_panic))
   exact QW.panicP ⟨e, rfl, .un_prim hi hp, hx4⟩
  rintro v w4 ⟨s', p, rfl, hp, hr, hf, g1, g2, g3⟩; refine Sa ?_; exact QW.bodyP1 Tryz.results193 rfl ⟨s', p, rfl, .un_prim hi hp, hr, (Fr.ext hx3).trans hf, g1, g2, g3⟩
 have ht : (tokAt c.T s).text = [45] := by simpa using ht
 have hi : isS c.T s [45] = true := by simp [isS, hk, ht]
 refine Sa ?_; refine LW.callP0 rfl rfl (open_ret hc h [45]) ?_ ?_
 ·rintro v w4 ⟨hx4, ⟨rfl, _, hd⟩ | ⟨rfl, hn⟩⟩
  ·(repeat (first | apply QW.then_panic | apply QW.blk_panic))
   exact QW.panicP ⟨6, rfl, .un_deep hi hd, hx4⟩
  ·rw [hi] at hn; cases hn
 rintro v w4 ⟨rfl, _, hd, hr, hf⟩; refine Sa ?_; refine LW.callP0 rfl rfl (h2 (deeper (adv s)) (by show s.at_ < s.at_ + 1; omega) w4 X (fun b hb => Nat.lt_of_lt_of_le (hX b hb) hf.size) hr) ?_ ?_
 ·rintro v w5 ⟨e, rfl, hp, hx5⟩
  (repeat (first | apply QW.then_panic | apply QW.blk_panic))
  exact QW.panicP ⟨e, rfl, .un_err hi hd hp, hx5⟩
 rintro v w5 ⟨s1, a, rfl, hp, hr5, hf5, g1, g2, g3⟩; have g1' : s.at_ + 1 < s1.at_ := g1; have g2' : s1.deep = s.deep + 1 := g2; have g3' : s.at_ + 1 + s1.out.length ≤ s1.at_ + s.out.length := g3; have hl := h.len; obtain ⟨a0, a1, a2, a3, outv, nvs, hB, ho, hm, hkids⟩ := hr5; have hB0 := hB; refine Sa ?_; refine Lwt fun w6 hc6 hB => ?_; have e6 : (s1.deep : Int) - 1 = (((upper s1).deep : Nat) : Int) := by show (s1.deep : Int) - 1 = ((s1.deep - 1 : Nat) : Int); omega
 replace hB : Blk w6 c.rb [c.tokv, .int .i64 s1.at_, outv, .int .i64 ((s1.deep : Int) - 1)] 116 := hB; rw [e6] at hB; obtain ⟨hr6, hf6⟩ := Rd.set hc (s := s1) (s' := upper s1) a0 ho hm hkids hB0 hc6 hB rfl a1 (by show s1.deep - 1 ≤ 12; omega) a3; have hff := (((Fr.ext hx3).trans hf).trans hf5).trans hf6; have hz6 := ((hf.trans hf5).trans hf6).size; refine Sa ?_; refine Lwl fun K w7 hbK hx7 hK => ?_; replace hK : Blk w7 K (icells [(a : Int)]) 3 := hK; replace hr6 := hr6.ext hx7; replace hff := hff.trans (.ext hx7); refine Sa ?_; refine LW.call0 (vs := [.pointer (some ⟨c.rb, 0, none⟩), .agg ⟨nvL ⟨{ kind := 8, kids := [(a : Int)] }, .slice (some ⟨K, 0, none⟩) 1 1⟩⟩]) rfl rfl (put_ret hc hr6 ⟨{ kind := 8, kids := [(a : Int)] }, .slice (some ⟨K, 0, none⟩) 1 1⟩ (.inr ⟨K, 1, [], rfl, by rw [List.append_nil]; exact hK⟩) (fun b hb hbX => by
  have h3 := hX b hbX; simp [vblk] at hb; omega) (by show s1.out.length + 1 ≤ s1.at_; omega)) ?_
 rintro v w8 ⟨rfl, hr8, hf8⟩; refine Sa ?_; exact QW.bodyP1 Tryz.results193 rfl ⟨putS (upper s1) { kind := 8, kids := [(a : Int)] }, s1.out.length, rfl, .un_ok hi hd hp, hr8, hff.trans hf8, by show s.at_ < s1.at_; omega, by show s1.deep - 1 = s.deep; omega, by simp [putS, upper]; omega⟩
theorem put0_ret {c : PCtx} {X : List Nat} (hc : c.Ok) {w : World} {s : PSt} (h : Rd c X w s) (n : NodeD) (hn : n.kids = []) (hs : s.out.length + 1 ≤ s.at_) : Ret Tryz.prog 146 [.pointer (some ⟨c.rb, 0, none⟩), .agg ⟨nvL ⟨n, .slice none 0 0⟩⟩] w
  (fun v w' => v = .int .i64 s.out.length ∧ Rd c X w' (putS s n) ∧ Fr w w') := put_ret hc h ⟨n, .slice none 0 0⟩ (.inl ⟨rfl, hn⟩) (by simp [vblk]) hs
theorem ref_ret {c : PCtx} {X : List Nat} (hc : c.Ok) (s : PSt) (a : RefD) (w : World) (h : Rd c X w s) (hs : s.out.length + 1 ≤ s.at_) : RetP Tryz.prog 216 [.pointer (some ⟨c.rb, 0, none⟩), .agg ⟨refL a⟩] w
  (fun v w' => v = .int .i64 s.out.length ∧ Fr w w' ∧ (isS c.T s [58] = false ∧ Rd c X w' (putS s { kind := 5, ref := a }) ∨
   isS c.T s [58] = true ∧ (tokAt c.T (adv s)).kind = 4 ∧ rangesB a (tokAt c.T (adv s)).ref = true ∧ Rd c X w' (putS (adv (adv s)) { kind := 6, ref := a, to := (tokAt c.T (adv s)).ref })))
  (fun v w' => v = pv 5 ∧ Ext c.w0 w' ∧ isS c.T s [58] = true ∧ ((tokAt c.T (adv s)).kind ≠ 4 ∨ rangesB a (tokAt c.T (adv s)).ref = false)) := by
 have hlen := hc.len; refine RetP.enter Tryz.func216 rfl Tryz.ntmps216 (by kernel_rfl) rfl ?_; refine Sa ?_; refine Lwb fun A w1 hbA hx1 hA => ?_; replace hA : Blk w1 A (refL a) 98 := hA; replace h := h.ext hx1; refine Sa ?_; refine Lc0 rfl rfl (may_ret hc h [58]) ?_; rintro v w2 ⟨rfl, hr, hf⟩; replace hA := hf.blk _ _ _ hA (by decide) (by decide); replace hf := (Fr.ext hx1).trans hf; refine Sa ?_; refine Cwc (fun h1 => ?_) fun h1 => ?_
 ·have h1 : isS c.T s [58] = false := by simpa using h1
  rw [mayS, h1, if_neg (by simp)] at hr; refine Sa ?_; refine LW.call0 (vs := [.pointer (some ⟨c.rb, 0, none⟩), .agg ⟨nvL ⟨{ kind := 5, ref := a }, .slice none 0 0⟩⟩]) rfl rfl (put0_ret hc hr { kind := 5, ref := a } rfl hs) ?_; rintro v w3 ⟨rfl, hr3, hf3⟩; refine Sa ?_; exact QW.bodyP1 Tryz.results216 rfl ⟨rfl, hf.trans hf3, .inl ⟨h1, hr3⟩⟩
 have h1 : isS c.T s [58] = true := by simpa using h1
 rw [mayS, if_pos h1] at hr; refine Sa ?_; refine Lc0 rfl rfl (now_ret hc hr) ?_; rintro v w3 ⟨rfl, hx3⟩; refine Sa ?_; refine Lwa fun C w4 hbC hx4 hC => ?_; refine Sa ?_; refine Lws fun w5 hc5 hC => ?_; replace hC : Blk w5 C (tokL (tokAt c.T (adv s))) 100 := hC; have hx5 : Ext w2 w5 := (hx3.trans hx4).step hc5 (by simp; have := hx3.size; omega); replace hA := hA.ext hx5; replace hr := hr.ext hx5; replace hf := hf.trans (.ext hx5); refine Sa ?_; refine Lwp (fun h2 => ?_) fun h2 => ?_
 ·have h2 : (tokAt c.T (adv s)).kind ≠ 4 := by simpa using h2
  refine Sa ?_; refine LW.callP0 rfl rfl (fail_ret c.rb 5 w5) ?_ (fun _ _ hh => hh.elim); rintro v w6 ⟨rfl, hx6⟩
  (repeat (first | apply QW.then_panic | apply QW.blk_panic))
  exact QW.panicP ⟨rfl, hr.1.trans hx6, h1, .inl h2⟩
 have h2 : (tokAt c.T (adv s)).kind = 4 := by simpa using h2
 refine Sa ?_; refine LW.load_agg (cs := refL (tokAt c.T (adv s)).ref) rfl hC rfl rfl rfl ⟨rfl, rfl, rfl, rfl, rfl, trivial⟩ rfl ?_; refine Sa ?_; refine Lc0 rfl rfl (ranges_ret a (tokAt c.T (adv s)).ref w5) ?_; rintro v w6 ⟨rfl, hx6⟩; replace hA := hA.ext hx6; replace hC := hC.ext hx6; replace hr := hr.ext hx6; replace hf := hf.trans (.ext hx6); refine Sa ?_; refine Cwc (fun h3 => ?_) fun h3 => ?_
 ·have h3 : rangesB a (tokAt c.T (adv s)).ref = false := by simpa using h3
  refine Sa ?_; refine LW.callP0 rfl rfl (fail_ret c.rb 5 w6) ?_ (fun _ _ hh => hh.elim); rintro v w7 ⟨rfl, hx7⟩
  (repeat (first | apply QW.then_panic | apply QW.blk_panic))
  exact QW.panicP ⟨rfl, hr.1.trans hx7, h1, .inr h3⟩
 have h3 : rangesB a (tokAt c.T (adv s)).ref = true := by simpa using h3
 obtain ⟨a0, a1, a2, a3, outv, nvs, hB, ho, hm, hkids⟩ := hr; have hnx := rd_next hc a1 (by omega); have hB0 := hB; have a1' : s.at_ + 1 < c.T.length := a1; simp only [adv] at hB; refine Sa ?_; refine Lwt fun w7 hc7 hB => ?_; replace hB : Blk w7 c.rb [c.tokv, .int .i64 (adv (adv s)).at_, outv, .int .i64 s.deep] 116 := hB; obtain ⟨hr7, hf7⟩ := Rd.set hc (s := adv s) (s' := adv (adv s)) a0 ho hm hkids hB0 hc7 hB rfl hnx a2 (by show s.out.length ≤ s.at_ + 1 + 1; omega); replace hA := hf7.blk _ _ _ hA (by decide) (by decide); replace hC := hf7.blk _ _ _ hC (by decide) (by decide); refine Sa ?_; refine LW.load_agg (cs := refL (tokAt c.T (adv s)).ref) rfl hC rfl rfl rfl ⟨rfl, rfl, rfl, rfl, rfl, trivial⟩ rfl ?_; refine Sa ?_; refine LW.call0 (vs := [.pointer (some ⟨c.rb, 0, none⟩), .agg ⟨nvL ⟨{ kind := 6, ref := a, to := (tokAt c.T (adv s)).ref }, .slice none 0 0⟩⟩]) rfl rfl (put0_ret hc hr7 { kind := 6, ref := a, to := (tokAt c.T (adv s)).ref } rfl (by show s.out.length + 1 ≤ s.at_ + 1 + 1; omega)) ?_; rintro v w8 ⟨rfl, hr8, hf8⟩; refine Sa ?_; exact QW.bodyP1 Tryz.results216 rfl ⟨rfl, (hf.trans hf7).trans hf8, .inr ⟨h1, h2, h3, hr8⟩⟩
theorem Own.fr {w w' : World} {lo e size n : Nat} {v : Value} {xs : List Value} (h : Own w lo e size v n xs) (f : Fr w w') (h1 : e ≠ 116) (h2 : e ≠ 133) : Own w' lo e size v n xs := by
 obtain ⟨hl, h | ⟨g, cap, sp, rfl, hB, a1, a2, a3⟩⟩ := h
 ·exact ⟨hl, .inl h⟩
 ·exact ⟨hl, .inr ⟨g, cap, sp, rfl, f.blk _ _ _ hB h1 h2, a1, a2, a3⟩⟩
theorem own_kids {w : World} {lo : Nat} {kv : Value} {ks : List Int} (h : Own w lo 3 1 kv ks.length (icells ks)) : KidsOk w kv ks := by
 obtain ⟨hl, ⟨h1, h2⟩ | ⟨g, cap, sp, rfl, hB, a1, a2, a3⟩⟩ := h
 ·exact .inl ⟨h1, List.eq_nil_of_length_eq_zero h2⟩
 ·exact .inr ⟨g, cap, sp, rfl, hB⟩
theorem own_int {w : World} {lo : Nat} {kv : Value} {ks : List Int} {a : Nat} (h : Own w lo 3 1 kv (ks.length + 1) (icells ks ++ [.int .i64 (a : Int)])) : Own w lo 3 1 kv (ks ++ [(a : Int)]).length (icells (ks ++ [(a : Int)])) := by
 simpa [icells] using h
theorem Own.type {w : World} {lo e size n : Nat} {v : Value} {xs : List Value} (h : Own w lo e size v n xs) {b : Nat} (hb : b ∈ vblk v) {l : List Value} {T : TypeId} (k : Blk w b l T) : T = e := by
 obtain ⟨hl, ⟨rfl, _⟩ | ⟨g, cap, sp, rfl, hB, a1, a2, a3⟩⟩ := h
 ·simp [vblk] at hb
 ·simp [vblk] at hb; subst hb; exact k.inj hB
theorem Rd.grow {c : PCtx} {X X' : List Nat} {w : World} {s : PSt} (h : Rd c X w s) (hX : ∀ b ∈ X', b ∈ X ∨ w.heap.size ≤ b) : Rd c X' w s := by
 obtain ⟨h0, h1, h2, h3, outv, nvs, hB, ho, hm, hk⟩ := h; refine ⟨h0, h1, h2, h3, outv, nvs, hB, ho, hm, fun y hy => ⟨(hk y hy).1, fun b hb hbX => ?_⟩⟩; rcases hX b hbX with hx | hx
 ·exact (hk y hy).2 b hb hx
 ·rcases (hk y hy).1 with ⟨e, _⟩ | ⟨g, cap, sp, e, hg⟩
  ·rw [e] at hb; simp [vblk] at hb
  ·rw [e] at hb; simp [vblk] at hb; have := hg.lt; omega
theorem Rd.other {c : PCtx} {X S : List Nat} {w w' : World} {s : PSt} (h : Rd c X w s) (k : Chg S w w') (hS : ∀ b ∈ S, c.w0.heap.size ≤ b ∧ b ∈ X ∧ ∀ l T, Blk w b l T → T = 3) : Rd c X w' s := by
 obtain ⟨h0, h1, h2, h3, outv, nvs, hB, ho, hm, hk⟩ := h; refine ⟨h0.step k (fun b hb => (hS b hb).1), h1, h2, h3, outv, nvs, hB.chg k (fun hb => absurd ((hS _ hb).2.2 _ _ hB) (by decide)), ho.chg k (fun b hb hbS => ?_), hm, fun y hy => ⟨?_, (hk y hy).2⟩⟩
 ·obtain ⟨_, ⟨e, _⟩ | ⟨g, cap, sp, e, hg, _⟩⟩ := ho
  ·rw [e] at hb; simp [vblk] at hb
  ·rw [e] at hb; simp [vblk] at hb; subst hb; exact absurd ((hS _ hbS).2.2 _ _ hg) (by decide)
 ·rcases (hk y hy).1 with e | ⟨g, cap, sp, e, hg⟩
  ·exact .inl e
  ·exact .inr ⟨g, cap, sp, e, hg.chg k (fun hb => (hk y hy).2 g (by rw [e]; simp [vblk]) (hS _ hb).2.1)⟩
theorem pword_ret {c : PCtx} (hc : c.Ok) (s : PSt) (hk : (tokAt c.T s).kind = 3) (hE : ∀ s', s.at_ < s'.at_ → PC c 87 (.lev 0) s') (w : World) (X : List Nat) (hX : ∀ b ∈ X, b < w.heap.size) (h : Rd c X w (adv s)) (hs : s.out.length ≤ s.at_) :
  RetP Tryz.prog 217 [.pointer (some ⟨c.rb, 0, none⟩), str (tokAt c.T s).text] w (POk c X .prim s w) (PBad c .prim s) := by
 have hlen := hc.len; have hw0 := h.1.size; refine RetP.enter Tryz.func217 rfl Tryz.ntmps217 (by kernel_rfl) rfl ?_; refine Sa ?_; refine Cwc (fun h1 => ?_) fun h1 => ?_
 ·have h1 : (tokAt c.T s).text = trueT := of_decide_eq_true h1; refine Sa ?_; refine LW.call0 (vs := [.pointer (some ⟨c.rb, 0, none⟩), .agg ⟨nvL ⟨{ kind := 3, num := 1 }, .slice none 0 0⟩⟩]) rfl rfl (put0_ret hc h { kind := 3, num := 1 } rfl (by show s.out.length + 1 ≤ s.at_ + 1; omega)) ?_; rintro v w1 ⟨rfl, hr, hf⟩; refine Sa ?_; exact QW.bodyP1 Tryz.results217 rfl ⟨_, _, rfl, .pr_true hk h1, hr, hf, by show s.at_ < s.at_ + 1; omega, rfl, by simp [putS, adv]; omega⟩
 have h1 : (tokAt c.T s).text ≠ trueT := of_decide_eq_false h1; refine Sa ?_; refine Cwc (fun h2 => ?_) fun h2 => ?_
 ·have h2 : (tokAt c.T s).text = falseT := of_decide_eq_true h2; refine Sa ?_; refine LW.call0 (vs := [.pointer (some ⟨c.rb, 0, none⟩), .agg ⟨nvL ⟨{ kind := 3 }, .slice none 0 0⟩⟩]) rfl rfl (put0_ret hc h { kind := 3 } rfl (by show s.out.length + 1 ≤ s.at_ + 1; omega)) ?_; rintro v w1 ⟨rfl, hr, hf⟩; refine Sa ?_; exact QW.bodyP1 Tryz.results217 rfl ⟨_, _, rfl, .pr_false hk h2, hr, hf, by show s.at_ < s.at_ + 1; omega, rfl, by simp [putS, adv]; omega⟩
 have h2 : (tokAt c.T s).text ≠ falseT := of_decide_eq_false h2; refine Sa ?_; refine LW.callP0 rfl rfl (open_ret hc h [40]) ?_ ?_
 ·rintro v w1 ⟨hx1, ⟨rfl, hi, hd⟩ | ⟨rfl, hn⟩⟩
  ·(repeat (first | apply QW.then_panic | apply QW.blk_panic))
   exact QW.panicP ⟨6, rfl, .pr_calldeep hk h1 h2 hi hd, hx1⟩
  ·(repeat (first | apply QW.then_panic | apply QW.blk_panic))
   exact QW.panicP ⟨5, rfl, .pr_nocall hk h1 h2 hn, hx1⟩
 rintro v w1 ⟨rfl, hi, hd, hr, hf⟩; have hd : s.deep < 12 := hd; refine Sa ?_; refine Lc0 rfl rfl (may_ret hc hr [41]) ?_; rintro v w2 ⟨rfl, hr2, hf2⟩; replace hf := hf.trans hf2; refine Sa ?_; refine Cwc (fun h3 => ?_) fun h3 => ?_; rotate_left
 ·have h3 : isS c.T (deeper (adv (adv s))) [41] = true := by simpa using h3
  rw [mayS, if_pos h3] at hr2; obtain ⟨a0, a1, a2, a3, outv, nvs, hB, ho, hm, hkids⟩ := hr2; have hB0 := hB; refine Sa ?_; refine Lwt fun w3 hc3 hB => ?_; have e3 : ((adv (deeper (adv (adv s)))).deep : Int) - 1 = ((s.deep : Nat) : Int) := by show ((s.deep + 1 : Nat) : Int) - 1 = _; omega
  replace hB : Blk w3 c.rb [c.tokv, .int .i64 (adv (deeper (adv (adv s)))).at_, outv, .int .i64 (((adv (deeper (adv (adv s)))).deep : Int) - 1)] 116 := hB; rw [e3] at hB; obtain ⟨hr3, hf3⟩ := Rd.set hc (s := adv (deeper (adv (adv s)))) (s' := upper (adv (deeper (adv (adv s))))) a0 ho hm hkids hB0 hc3 hB rfl a1 (by show s.deep + 1 - 1 ≤ 12; omega) a3; refine Sa ?_; refine LW.call0 (vs := [.pointer (some ⟨c.rb, 0, none⟩), .agg ⟨nvL ⟨{ kind := 7, text := (tokAt c.T s).text }, .slice none 0 0⟩⟩]) rfl rfl (put0_ret hc hr3 { kind := 7, text := (tokAt c.T s).text } rfl (by show s.out.length + 1 ≤ s.at_ + 1 + 1 + 1; omega)) ?_; rintro v w4 ⟨rfl, hr4, hf4⟩; refine Sa ?_; exact QW.bodyP1 Tryz.results217 rfl ⟨_, _, rfl, .pr_call0 hk h1 h2 hi hd h3, hr4, (hf.trans hf3).trans hf4, by show s.at_ < s.at_ + 1 + 1 + 1; omega, rfl, by show s.at_ + (s.out ++ [_]).length ≤ s.at_ + 1 + 1 + 1 + s.out.length; simp; omega⟩
 have h3 : isS c.T (deeper (adv (adv s))) [41] = false := by simpa using h3
 rw [mayS, h3, if_neg (by simp)] at hr2; refine Sa ?_; refine LW.callP0 rfl rfl (hE (deeper (adv (adv s))) (by show s.at_ < s.at_ + 1 + 1; omega) w2 X (fun b hb => Nat.lt_of_lt_of_le (hX b hb) hf.size) hr2) ?_ ?_
 ·rintro v w3 ⟨e, rfl, hp, hx3⟩
  (repeat (first | apply QW.then_panic | apply QW.blk_panic))
  exact QW.panicP ⟨e, rfl, .pr_call hk h1 h2 hi hd h3 (.ar_err hp), hx3⟩
 rintro v w3 ⟨t, a, rfl, hp, hr3, hf3, g1, g2, g3⟩; have g1 : s.at_ + 1 + 1 < t.at_ := g1; have g2 : t.deep = s.deep + 1 := g2; have g3 : s.at_ + 1 + 1 + t.out.length ≤ t.at_ + s.out.length := g3; replace hf := hf.trans hf3; refine Sa ?_; refine Lwl fun A w4 hbA hx4 hA => ?_; replace hA : Blk w4 A [.int .i64 (a : Int)] 3 := hA; replace hr3 := hr3.ext hx4; replace hf := hf.trans (.ext hx4); have hz4 := hf.size; refine Sa ?_; refine LW.append rfl rfl rfl rfl rfl rfl (Own.nil w4 c.w0.heap.size 3 1) (by omega) hA rfl rfl rfl (by decide) rfl ?_; intro kv w5 hc5 ho5 hnew; replace hr3 := (hr3.grow (X' := vblk kv ++ X) (fun b hb => by
  rw [List.mem_append] at hb; rcases hb with hb | hb
  ·rcases hnew b hb with hh | hh
   ·simp [vblk] at hh
   ·exact .inr hh
  ·exact .inl hb)).ext hc5
 replace hf := hf.trans (.ext hc5); have hz5 := hf.size; refine Sa ?_; refine CW.loop (ι := PSt × List Int × Value) (fun k w' => s.at_ + 1 + 1 < k.1.at_ ∧ k.1.deep = s.deep + 1 ∧ s.at_ + 1 + 1 + k.1.out.length ≤ k.1.at_ + s.out.length ∧ k.2.1.length ≤ k.1.at_ ∧ Rd c (vblk k.2.2 ++ X) w' k.1 ∧ Fr w w' ∧ Own w' c.w0.heap.size 3 1 k.2.2 k.2.1.length (icells k.2.1) ∧ (∀ b ∈ vblk k.2.2, w.heap.size ≤ b) ∧
   ∃ u ks0 a, k.2.1 = ks0 ++ [((a : Nat) : Int)] ∧ PE c.T (.lev 0) u (.ok k.1 a) ∧ ∀ r, PE c.T (.args (tokAt c.T s).text ks0) u r → PE c.T .prim s r) (fun k => [(0, .pointer (some ⟨c.rb, 0, none⟩)), (1, str (tokAt c.T s).text), (5, k.2.2)]) (fun k => c.T.length - k.1.at_) (t, [(a : Int)], kv)
  ⟨g1, g2, g3, by simp; omega, hr3, hf, ho5, fun b hb => by
   rcases hnew b hb with hh | hh
   ·simp [vblk] at hh
   ·omega, _, [], a, rfl, hp, fun r hr => .pr_call hk h1 h2 hi hd h3 hr⟩ Sub3 ?_
 clear hr3 hp g1 g2 g3 hf ho5 hnew hc5 hA hx4 hbA hz4 hz5 hf3 hr2 hr hf2; rintro ⟨t, ks, kv⟩ w6 ⟨g1, g2, g3, g4, hr, hf, ho, hfresh, u, ks0, a, hks, hp, hcont⟩; simp only at g1 g2 g3 g4 hr ho hfresh hks hp; show CW _ _ _ _ _ [(0, .pointer (some ⟨c.rb, 0, none⟩)), (1, str (tokAt c.T s).text), (5, kv)] _; have htl := hr.len; have hz6 := hf.size; refine Sa ?_; refine Lc0 rfl rfl (may_ret hc hr [44]) ?_; rintro v w7 ⟨rfl, hr7, hf7⟩; have ho7 := Own.fr ho hf7 (by decide) (by decide); replace hf := hf.trans hf7; have hz7 := hf.size; refine Sa ?_; refine Cwc (fun h4 => ?_) fun h4 => ?_
 ·have h4 : isS c.T t [44] = true := h4; rw [mayS, if_pos h4] at hr7; refine Sa ?_; refine LW.callP0 rfl rfl (hE (adv t) (by show s.at_ < t.at_ + 1; omega) w7 (vblk kv ++ X) (fun b hb => by
   rw [List.mem_append] at hb; rcases hb with hb | hb
   ·exact (ho7.lt hb).2
   ·exact Nat.lt_of_lt_of_le (hX b hb) hz7) hr7) ?_ ?_
  ·rintro v w8 ⟨e, rfl, hp', hx8⟩
   (repeat (first | apply QW.then_panic | apply QW.blk_panic))
   exact QW.panicP ⟨e, rfl, hcont _ (.ar_go hp h4 (.ar_err hp')), hx8⟩
  rintro v w8 ⟨t', a', rfl, hp', hr8, hf8, k1, k2, k3⟩; have k1 : t.at_ + 1 < t'.at_ := k1; have k2 : t'.deep = t.deep := k2; have k3 : t.at_ + 1 + t'.out.length ≤ t'.at_ + t.out.length := k3; have ho8 := Own.fr ho7 hf8 (by decide) (by decide); replace hf := hf.trans hf8; refine Sa ?_; refine Lwl fun A w9 hbA hx9 hA => ?_; replace hA : Blk w9 A [.int .i64 (a' : Int)] 3 := hA; replace hr8 := hr8.ext hx9; replace hf := hf.trans (.ext hx9); have ho9 := ho8.ext hx9; have hz9 := hf.size; refine Sa ?_; refine LW.append rfl rfl rfl rfl rfl rfl ho9 (by omega) hA rfl rfl rfl (by show (ks.length + 1) * 9 ≤ 140737488355328; omega) rfl ?_; intro kv' w10 hc10 ho10 hnew; have hr10 : Rd c (vblk kv' ++ X) w10 t' := by
   have h5 := hr8.grow (X' := vblk kv ++ (vblk kv' ++ X)) (fun b hb => by
    simp only [List.mem_append] at hb ⊢; rcases hb with hb | hb | hb
    ·exact .inl (.inl hb)
    ·rcases hnew b hb with hh | hh
     ·exact .inl (.inl hh)
     ·exact .inr hh
    ·exact .inl (.inr hb))
   have h6 := h5.other hc10 (fun b hb => ⟨(ho9.lt hb).1, List.mem_append_left _ hb, fun l T k => Own.type ho9 hb k⟩); exact h6.grow (fun b hb => .inl (List.mem_append_right _ hb))
  have hf10 : Fr w w10 := ⟨Nat.le_trans hz9 hc10.size, fun b l T hb n1 n2 => (hf.blk b l T hb n1 n2).chg hc10 (fun hm => by
   have := hfresh b hm; have := hb.lt; omega)⟩
  refine Sa ?_; refine QW.again (t', ks ++ [(a' : Int)], kv') ⟨by show s.at_ + 1 + 1 < t'.at_; omega, k2.trans g2, by show s.at_ + 1 + 1 + t'.out.length ≤ t'.at_ + s.out.length; omega, by show (ks ++ [_]).length ≤ t'.at_; simp; omega, hr10, hf10, own_int ho10, fun b hb => ?_, adv t, ks, a', rfl, hp', fun r hr => hcont r (.ar_go hp h4 (by rw [← hks]; exact hr))⟩ Sub3 (by show c.T.length - t'.at_ < c.T.length - t.at_; omega); rcases hnew b hb with hh | hh
  ·exact hfresh b hh
  ·omega
 have h4 : isS c.T t [44] = false := h4; rw [mayS, h4, if_neg (by simp)] at hr7; refine Sa ?_; refine LW.callP0 rfl rfl (need_ret hc hr7 [41]) ?_ ?_
 ·rintro v w8 ⟨rfl, hn, hx8⟩
  (repeat (first | apply QW.then_panic | apply QW.blk_panic))
  exact QW.panicP ⟨5, rfl, hcont _ (.ar_open hp h4 hn), hx8⟩
 rintro v w8 ⟨rfl, h5, hr8, hf8⟩; have ho8 := Own.fr ho7 hf8 (by decide) (by decide); replace hf := hf.trans hf8; obtain ⟨a0, a1, a2, a3, outv, nvs, hB, hoo, hm, hkids⟩ := hr8; have hB0 := hB; refine Sa ?_; refine Lwt fun w9 hc9 hB => ?_; have e9 : (t.deep : Int) - 1 = ((s.deep : Nat) : Int) := by omega
 replace hB : Blk w9 c.rb [c.tokv, .int .i64 (adv t).at_, outv, .int .i64 ((t.deep : Int) - 1)] 116 := hB; rw [e9] at hB; have hud : (upper (adv t)).deep = s.deep := by show t.deep - 1 = s.deep; omega
 rw [← hud] at hB; obtain ⟨hr9, hf9⟩ := Rd.set hc (s := adv t) (s' := upper (adv t)) a0 hoo hm hkids hB0 hc9 hB rfl a1 (by rw [hud]; omega) a3; have ho9 := Own.fr ho8 hf9 (by decide) (by decide); replace hf := hf.trans hf9; have hr9' : Rd c X w9 (upper (adv t)) := hr9.grow (fun b hb => .inl (List.mem_append_right _ hb)); obtain ⟨kp, kq, rfl⟩ := ho9.slice; refine Sa ?_; refine LW.call0 (vs := [.pointer (some ⟨c.rb, 0, none⟩), .agg ⟨nvL ⟨{ kind := 7, text := (tokAt c.T s).text, kids := ks }, .slice kp ks.length kq⟩⟩]) rfl rfl (put_ret hc hr9' ⟨{ kind := 7, text := (tokAt c.T s).text, kids := ks }, .slice kp ks.length kq⟩ (own_kids ho9) (fun b hb hbX => by
  have := hfresh b hb; have := hX b hbX; omega) (by show t.out.length + 1 ≤ t.at_ + 1; omega)) ?_
 rintro v w10 ⟨rfl, hr10, hf10⟩; refine Sa ?_; refine QW.bodyP1 Tryz.results217 rfl ⟨putS (upper (adv t)) { kind := 7, text := (tokAt c.T s).text, kids := ks }, t.out.length, rfl, hcont _ ?_, hr10, hf.trans hf10, by show s.at_ < t.at_ + 1; omega, hud, by show s.at_ + (t.out ++ [_]).length ≤ t.at_ + 1 + s.out.length; simp; omega⟩; rw [hks]; exact .ar_end hp h4 h5
theorem tok_kinds {c : PCtx} (hc : c.Ok) {s : PSt} (h : s.at_ < c.T.length) : 0 ≤ (tokAt c.T s).kind ∧ (tokAt c.T s).kind ≤ 6 := by
 have : tokAt c.T s = c.T[s.at_] := by simp [tokAt, List.getD_eq_getElem?_getD, List.getElem?_eq_getElem h]
 rw [this]; exact hc.kinds _ (List.getElem_mem h)
theorem prim_ret {c : PCtx} (hc : c.Ok) (s : PSt) (hE : ∀ s', s.at_ < s'.at_ → PC c 87 (.lev 0) s') : PC c 206 .prim s := by
 intro w X hX h; have hlen := hc.len; have hrange := tok_kinds hc h.2.1; refine RetP.enter Tryz.func206 rfl Tryz.ntmps206 (by kernel_rfl) rfl ?_; refine Sa ?_; refine Lc0 rfl rfl (now_ret hc h) ?_; rintro v w1 ⟨rfl, hx1⟩; replace h := h.ext hx1; refine Sa ?_; refine Lwa fun C w2 hbC hx2 hC => ?_; refine Sa ?_; refine Lws fun w3 hc3 hC => ?_; replace hC : Blk w3 C (tokL (tokAt c.T s)) 100 := hC; have hx3 : Ext w w3 := (hx1.trans hx2).step hc3 (by simp; have := hx1.size; omega); have hx3' : Ext w1 w3 := hx2.step hc3 (by simp; omega); replace h := h.ext hx3'; replace hX : ∀ b ∈ X, b < w3.heap.size := fun b hb => Nat.lt_of_lt_of_le (hX b hb) hx3.size; have hf := Fr.ext hx3; have hl := h.len; refine Sa ?_; refine Cwc (fun h5 => ?_) fun h5 => ?_
 ·have h5 : (tokAt c.T s).kind = 5 := by simpa using h5
  refine Sa ?_; refine LW.callP0 rfl rfl (open_ret hc h [40]) ?_ ?_
  ·rintro v w4 ⟨hx4, ⟨rfl, hi, hd⟩ | ⟨rfl, hn⟩⟩
   ·(repeat (first | apply QW.then_panic | apply QW.blk_panic))
    exact QW.panicP ⟨6, rfl, .pr_deep hi hd, hx4⟩
   ·(repeat (first | apply QW.then_panic | apply QW.blk_panic))
    exact QW.panicP ⟨5, rfl, .pr_sign h5 (by simpa [isS, h5] using hn), hx4⟩
  rintro v w4 ⟨rfl, hi, hd, hr, hf4⟩; replace hf := hf.trans hf4; refine Sa ?_; refine LW.callP0 rfl rfl (hE (deeper (adv s)) (by show s.at_ < s.at_ + 1; omega) w4 X (fun b hb => Nat.lt_of_lt_of_le (hX b hb) hf4.size) hr) ?_ ?_
  ·rintro v w5 ⟨e, rfl, hp, hx5⟩
   (repeat (first | apply QW.then_panic | apply QW.blk_panic))
   exact QW.panicP ⟨e, rfl, .pr_err hi hd hp, hx5⟩
  rintro v w5 ⟨s1, a, rfl, hp, hr5, hf5, g1, g2, g3⟩; have g1' : s.at_ + 1 < s1.at_ := g1; have g2' : s1.deep = s.deep + 1 := g2; have g3' : s.at_ + 1 + s1.out.length ≤ s1.at_ + s.out.length := g3; replace hf := hf.trans hf5; refine Sa ?_; refine LW.callP0 rfl rfl (need_ret hc hr5 [41]) ?_ ?_
  ·rintro v w6 ⟨rfl, hn, hx6⟩
   (repeat (first | apply QW.then_panic | apply QW.blk_panic))
   exact QW.panicP ⟨5, rfl, .pr_open hi hd hp hn, hx6⟩
  rintro v w6 ⟨rfl, h6, hr6, hf6⟩; replace hf := hf.trans hf6; obtain ⟨a0, a1, a2, a3, outv, nvs, hB, ho, hm, hkids⟩ := hr6; have hB0 := hB; refine Sa ?_; refine Lwt fun w7 hc7 hB => ?_; replace hB : Blk w7 c.rb [c.tokv, .int .i64 (adv s1).at_, outv, .int .i64 ((s1.deep : Int) - 1)] 116 := hB; have e7 : (s1.deep : Int) - 1 = (((upper (adv s1)).deep : Nat) : Int) := by show (s1.deep : Int) - 1 = ((s1.deep - 1 : Nat) : Int); omega
  rw [e7] at hB; obtain ⟨hr7, hf7⟩ := Rd.set hc (s := adv s1) (s' := upper (adv s1)) a0 ho hm hkids hB0 hc7 hB rfl a1 (by show s1.deep - 1 ≤ 12; omega) a3; refine Sa ?_; exact QW.bodyP1 Tryz.results206 rfl ⟨upper (adv s1), a, rfl, .pr_ok hi hd hp h6, hr7, hf.trans hf7, by show s.at_ < s1.at_ + 1; omega, by show s1.deep - 1 = s.deep; omega, by show s.at_ + s1.out.length ≤ s1.at_ + 1 + s.out.length; omega⟩
 have h5 : (tokAt c.T s).kind ≠ 5 := by simpa using h5
 refine Sa ?_; refine Cwc (fun h0 => ?_) fun h0 => ?_
 ·have h0 : (tokAt c.T s).kind = 0 := by simpa using h0
  refine Sa ?_; refine LW.callP0 rfl rfl (fail_ret c.rb 5 w3) ?_ (fun _ _ hh => hh.elim); rintro v w4 ⟨rfl, hx4⟩
  (repeat (first | apply QW.then_panic | apply QW.blk_panic))
  exact QW.panicP ⟨5, rfl, .pr_end h0, h.1.trans hx4⟩
 have h0 : (tokAt c.T s).kind ≠ 0 := by simpa using h0
 obtain ⟨a0, a1, a2, a3, outv, nvs, hB, ho, hm, hkids⟩ := h; have hnx := rd_next hc a1 h0; have hB0 := hB; refine Sa ?_; refine Lwt fun w4 hc4 hB => ?_; replace hB : Blk w4 c.rb [c.tokv, .int .i64 (adv s).at_, outv, .int .i64 s.deep] 116 := hB; obtain ⟨h, hf4⟩ := Rd.set hc (s := s) (s' := adv s) a0 ho hm hkids hB0 hc4 hB rfl hnx a2 (by show s.out.length ≤ s.at_ + 1; omega); clear hB0 hB ho hm hkids; replace hf := hf.trans hf4; replace hC := hf4.blk _ _ _ hC (by decide) (by decide); replace hX : ∀ b ∈ X, b < w4.heap.size := fun b hb => Nat.lt_of_lt_of_le (hX b hb) hf4.size; have hsl : (adv s).out.length + 1 ≤ (adv s).at_ := by show s.out.length + 1 ≤ s.at_ + 1; omega
 have q1 : s.at_ < s.at_ + 1 := by omega
 have q3 : ∀ n : NodeD, s.at_ + (s.out ++ [n]).length ≤ s.at_ + 1 + s.out.length := fun n => by simp; omega
 refine Sa ?_; refine Cwc (fun h1 => ?_) fun h1 => ?_
 ·have h1 : (tokAt c.T s).kind = 1 := by simpa using h1
  refine Sa ?_; refine LW.call0 (vs := [.pointer (some ⟨c.rb, 0, none⟩), .agg ⟨nvL ⟨{ kind := 1, num := (tokAt c.T s).num }, .slice none 0 0⟩⟩]) rfl rfl (put0_ret hc h { kind := 1, num := (tokAt c.T s).num } rfl hsl) ?_; rintro v w5 ⟨rfl, hr, hf5⟩; refine Sa ?_; exact QW.bodyP1 Tryz.results206 rfl ⟨_, _, rfl, .pr_num h1, hr, hf.trans hf5, q1, rfl, q3 _⟩
 have h1 : (tokAt c.T s).kind ≠ 1 := by simpa using h1
 refine Sa ?_; refine Cwc (fun h2 => ?_) fun h2 => ?_
 ·have h2 : (tokAt c.T s).kind = 2 := by simpa using h2
  refine Sa ?_; refine LW.call0 (vs := [.pointer (some ⟨c.rb, 0, none⟩), .agg ⟨nvL ⟨{ kind := 2, text := (tokAt c.T s).text }, .slice none 0 0⟩⟩]) rfl rfl (put0_ret hc h { kind := 2, text := (tokAt c.T s).text } rfl hsl) ?_; rintro v w5 ⟨rfl, hr, hf5⟩; refine Sa ?_; exact QW.bodyP1 Tryz.results206 rfl ⟨_, _, rfl, .pr_text h2, hr, hf.trans hf5, q1, rfl, q3 _⟩
 have h2 : (tokAt c.T s).kind ≠ 2 := by simpa using h2
 refine Sa ?_; refine Cwc (fun h6 => ?_) fun h6 => ?_
 ·have h6 : (tokAt c.T s).kind = 6 := by simpa using h6
  refine Sa ?_; refine LW.call0 (vs := [.pointer (some ⟨c.rb, 0, none⟩), .agg ⟨nvL ⟨{ kind := 4 }, .slice none 0 0⟩⟩]) rfl rfl (put0_ret hc h { kind := 4 } rfl hsl) ?_; rintro v w5 ⟨rfl, hr, hf5⟩; refine Sa ?_; exact QW.bodyP1 Tryz.results206 rfl ⟨_, _, rfl, .pr_dead h6, hr, hf.trans hf5, q1, rfl, q3 _⟩
 have h6 : (tokAt c.T s).kind ≠ 6 := by simpa using h6
 refine Sa ?_; refine Cwc (fun h4 => ?_) fun h4 => ?_
 ·have h4 : (tokAt c.T s).kind = 4 := by simpa using h4
  refine Sa ?_; refine LW.load_agg (cs := refL (tokAt c.T s).ref) rfl hC rfl rfl rfl ⟨rfl, rfl, rfl, rfl, rfl, trivial⟩ rfl ?_; refine Sa ?_; refine LW.callP0 rfl rfl (ref_ret hc (adv s) (tokAt c.T s).ref w4 h hsl) ?_ ?_
  ·rintro v w5 ⟨rfl, hx5, hi, hn⟩
   (repeat (first | apply QW.then_panic | apply QW.blk_panic))
   exact QW.panicP ⟨5, rfl, .pr_norange h4 hi hn, hx5⟩
  rintro v w5 ⟨rfl, hf5, ⟨hi, hr⟩ | ⟨hi, hk2, hr2, hr⟩⟩
  ·refine Sa ?_; exact QW.bodyP1 Tryz.results206 rfl ⟨_, _, rfl, .pr_ref h4 hi, hr, hf.trans hf5, q1, rfl, q3 _⟩
  ·refine Sa ?_; exact QW.bodyP1 Tryz.results206 rfl ⟨_, _, rfl, .pr_range h4 hi hk2 hr2, hr, hf.trans hf5, by show s.at_ < s.at_ + 1 + 1 + 1; omega, rfl, by show s.at_ + (s.out ++ [_]).length ≤ s.at_ + 1 + 1 + 1 + s.out.length; simp; omega⟩
 have h4 : (tokAt c.T s).kind ≠ 4 := by simpa using h4
 have h3 : (tokAt c.T s).kind = 3 := by omega
 refine Sa ?_; refine LW.callP0 rfl rfl (pword_ret hc s h3 hE w4 X hX h a3) ?_ ?_
 ·rintro v w5 hp
  (repeat (first | apply QW.then_panic | apply QW.blk_panic))
  exact QW.panicP hp
 rintro v w5 ⟨s', p, rfl, hp, hr, hf5, k1, k2, k3⟩; refine Sa ?_; exact QW.bodyP1 Tryz.results206 rfl ⟨s', p, rfl, hp, hr, hf.trans hf5, k1, k2, k3⟩
theorem readers {c : PCtx} (hc : c.Ok) : ∀ (m : Nat) (s : PSt), c.T.length - s.at_ ≤ m →
  PC c 87 (.lev 0) s ∧ PC c 114 (.lev 1) s ∧ PC c 147 (.lev 2) s ∧ PC c 176 (.lev 3) s ∧ PC c 193 .unary s ∧ PC c 206 .prim s
 | 0, s, hm => by
  have key : ∀ f m, PC c f m s := fun f m w X hX h => absurd h.2.1 (by omega)
  exact ⟨key _ _, key _ _, key _ _, key _ _, key _ _, key _ _⟩
 | m + 1, s, hm => by
  by_cases hs : s.at_ < c.T.length
  ·have ih := fun (s' : PSt) (h : s.at_ < s'.at_) => readers hc m s' (by omega); have hp := prim_ret hc s (fun s' h => (ih s' h).1); have hu := unary_ret hc s hp (fun s' h => (ih s' h).2.2.2.2.1); have ht := term_ret hc s hu (fun s' h _ => (ih s' h).2.2.2.2.1); have hsu := sum_ret hc s ht (fun s' h _ => (ih s' h).2.2.2.1); have hca := cat_ret hc s hsu (fun s' h _ => (ih s' h).2.2.1); exact ⟨expr_ret hc s hca (fun s' h _ => (ih s' h).2.1), hca, hsu, ht, hu, hp⟩
  ·have key : ∀ f m, PC c f m s := fun f m w X hX h => absurd h.2.1 hs; exact ⟨key _ _, key _ _, key _ _, key _ _, key _ _, key _ _⟩
theorem oneO_kind {l : List UInt8} {t : TokD} {k : Nat} (h : oneO l = some (t, k)) : 1 ≤ t.kind ∧ t.kind ≤ 6 := by
 unfold oneO at h
 split at h
 ·rw [(numO_len h).2]; decide
 ·split at h
  ·unfold textO at h
   cases e : scanT (l.drop 1) with
   | none => rw [e] at h; cases h
   | some x =>
    rw [e] at h; simp only [Option.map_some, Option.some.injEq, Prod.mk.injEq] at h; rw [← h.1]; simp
  ·split at h
   ·unfold wordO at h; simp only at h
    split at h
    ·simp only [Option.some.injEq, Prod.mk.injEq] at h; rw [← h.1]; simp
    ·split at h
     ·simp only [Option.some.injEq, Prod.mk.injEq] at h; rw [← h.1]; simp
     ·cases h
   ·unfold signO at h
    split at h
    ·simp only [Option.some.injEq, Prod.mk.injEq] at h; rw [← h.1]; simp
    ·cases e : signsT.find? fun s => Lib.hasPrefix l s with
     | none => rw [e] at h; cases h
     | some x =>
      rw [e] at h; simp only [Option.map_some, Option.some.injEq, Prod.mk.injEq] at h; rw [← h.1]; simp
theorem lexF_kinds : ∀ (n : Nat) (l : List UInt8) (a : Nat) {out : List TokD}, l.length ≤ n → lexF l a = some out →
  out ≠ [] ∧ (∀ t ∈ out, 0 ≤ t.kind ∧ t.kind ≤ 6) ∧ ∀ i, i < out.length → (out.getD i tokZ).kind ≠ 0 → i + 1 < out.length
 | n, l, a, out, hn, h => by
  cases e : l.drop (spanL spB l).length with
  | nil =>
   rw [lexF_end e] at h; simp only [Option.some.injEq] at h; subst h; refine ⟨by simp, by simp, fun i hi hk => ?_⟩; simp at hi; subst hi
   simp at hk
  | cons c r =>
   have hl := congrArg List.length e; simp at hl
   cases ho : oneO (c :: r) with
   | none => rw [lexF_bad e (by simp) ho] at h; cases h
   | some x =>
    obtain ⟨t, k⟩ := x; have hk := oneO_pos (by simp) ho; have hkind := oneO_kind ho; rw [lexF_go e (by simp) ho hk] at h
    cases hr : lexF ((c :: r).drop k) (a + (spanL spB l).length + k) with
    | none => rw [hr] at h; cases h
    | some y =>
     rw [hr] at h; simp only [Option.map_some, Option.some.injEq] at h; subst h
     match n with
     | 0 => omega
     | n + 1 =>
      have hd : ((c :: r).drop k).length = r.length + 1 - k := by simp
      obtain ⟨y0, y1, y2⟩ := lexF_kinds n ((c :: r).drop k) _ (by rw [hd]; omega) hr; refine ⟨by simp, fun t' ht' => ?_, fun i hi hki => ?_⟩
      ·simp only [List.mem_cons] at ht'; rcases ht' with rfl | ht'
       ·exact ⟨by show 0 ≤ t.kind; omega, hkind.2⟩
       ·exact y1 t' ht'
      ·have hyl := List.length_pos_iff.2 y0
       cases i with
       | zero => simp; omega
       | succ i =>
        have := y2 i (by simpa using hi) (by simpa using hki)
        simpa using this
theorem catch_panic (L E : Nat) (e : Int) (x y : Value) (w : World) (hL : Blk w L [x] 74) (hE : Blk w E [y] 86) :
  CallsD Tryz.prog 86 ⟨[.pointer (some ⟨L, 0, none⟩), .pointer (some ⟨E, 0, none⟩)]⟩ (.panicking [{ v := pv e, recovered := false }]) w
   (fun r u w' => r = .returned (.tuple #[]) ∧ u = .panicking [{ v := pv e, recovered := true }] ∧ Blk w' L [.slice none 0 0] 74 ∧ Blk w' E [.int .i64 e] 86 ∧ Chg [L, E] w w') := by
 have hne : L ≠ E := fun h => by subst h; exact absurd (hL.inj hE) (by decide)
 refine recover_calls (u' := .panicking [{ v := pv e, recovered := true }]) (v := pv e) Tryz.func86 rfl Tryz.ntmps86 rfl rfl rfl (fun c₀ cs hu => by simp [recoverD, hu]) (fun c₀ cs => ?_); refine Sa ?_; refine LW.typeAssert rfl rfl rfl rfl ?_; refine Sa ?_; refine Lwt fun w1 hc1 hL => ?_; replace hE := hE.chg hc1 (by simpa using hne.symm); refine Sa ?_; refine Lwt fun w2 hc2 hE => ?_; replace hL := hL.chg hc2 (by simpa using hne); refine Sa ?_; exact QW.bodyS Tryz.results86 ⟨rfl, rfl, hL, hE, (Chg.trans hc1 hc2).mono (by simp)⟩
theorem catch_idle (L E : Nat) (w : World) :
  CallsD Tryz.prog 86 ⟨[.pointer (some ⟨L, 0, none⟩), .pointer (some ⟨E, 0, none⟩)]⟩ .returning w (fun r u w' => r = .returned (.tuple #[]) ∧ u = .returning ∧ w' = w) := by
 refine recover_calls (u' := .returning) (v := .nilIface) Tryz.func86 rfl Tryz.ntmps86 rfl rfl rfl (fun c₀ cs hu => by
  have : recoverD (c₀ :: cs) = none := by simp [recoverD, hu]
  rw [this]; cases c₀; simp_all) (fun c₀ cs => ?_)
 refine Sa ?_; exact QW.bodyS Tryz.results86 ⟨rfl, rfl, rfl⟩
def Nodes (w : World) (lo : Nat) (sv : Value) (l : List NodeD) : Prop :=
 ∃ nvs : List NV, Own w lo 133 14 sv nvs.length (nvs.flatMap nvL) ∧ nvs.map NV.node = l ∧ ∀ x ∈ nvs, KidsOk w x.kv x.node.kids
abbrev ResV (w : World) (lo : Nat) (v : Value) (o : Except Int (List NodeD)) : Prop := match o with
 | .error e => v = .tuple #[.slice none 0 0, .int .i64 e]
 | .ok l => ∃ sv, v = .tuple #[sv, .int .i64 0] ∧ Nodes w lo sv l
def ParseV (s : List UInt8) (v : Value) (w : World) (lo : Nat) : Prop :=
 if 300 < s.length then v = .tuple #[.slice none 0 0, .int .i64 4]
 else match lexT s with
  | none => v = .tuple #[.slice none 0 0, .int .i64 5]
  | some T => ∃ o, Parsed T o ∧ ResV w lo v o
theorem Parse_ret (s : List UInt8) (hs : s.length ≤ 9223372036854775807) (w : World) (g : Glob w) : Ret Tryz.prog 68 [str s] w (fun v w' => ParseV s v w' w.heap.size ∧ Ext w w') := by
 have hpc : callable Tryz.prog 86 = true := by kernel_rfl
 refine Ret.enterD Tryz.func68 rfl Tryz.ntmps68 (by kernel_rfl) rfl ?_; refine Sa ?_; refine Lwa fun L w1 hbL hx1 hL => ?_; have hL1 := hL.lt; refine Sa ?_; refine Lwa fun E w2 hbE hx2 hE => ?_; replace hL := hL.ext hx2; have hLE : L ≠ E := by omega
 have hx2' := hx1.trans hx2; refine Sa ?_; refine Lc0 rfl rfl (Lex_ret s hs w2 (g.ext hx2')) ?_; rintro v w3 ⟨hv, hx3⟩; replace hL := hL.ext hx3; replace hE := hE.ext hx3; have hx3' := hx2'.trans hx3; by_cases hbig : 300 < s.length
 ·rw [LexV, if_pos hbig] at hv; subst hv; have hpv : ∀ w', ParseV s (.tuple #[.slice none 0 0, .int .i64 4]) w' w.heap.size := fun w' => by rw [ParseV, if_pos hbig]
  refine Sa ?_; refine Lwt fun w4 hc4 hE => ?_; replace hL := hL.chg hc4 (by simpa using hLE); have hx4 : Ext w w4 := hx3'.step hc4 (by simp; have := hx1.size; omega); refine Sa ?_; refine CW.drawAny (by kernel_rfl) fun w5 hx5 => ?_; replace hL := hL.ext hx5; replace hE := hE.ext hx5; refine AW.two 0 1 (by kernel_rfl) rfl rfl rfl rfl ?_ ?_
  ·refine Sa ?_; apply QW.any; refine AW.one 1 (by kernel_rfl) rfl rfl ?_; refine Lwt fun w6 hc6 hL => ?_; replace hE := hE.chg hc6 (by simpa using hLE.symm); apply LW.nil; apply QW.any; refine AW.one 2 (by kernel_rfl) rfl rfl ?_; refine Lwt fun w7 hc7 hE => ?_; replace hL := hL.chg hc7 (by simpa using hLE); have hx7 : Ext w w7 := ((hx4.trans hx5).step hc6 (by simp; omega)).step hc7 (by simp; have := hx1.size; omega); apply LW.nil; apply QW.any; refine AW.done (by kernel_rfl) ?_; refine Sa ?_; refine QW.bodyD0 (rs := [.cell 2 74, .cell 3 86]) (vs := [.slice none 0 0, _]) Tryz.results68 ⟨⟨L, rfl, run_load_one rfl rfl hL rfl⟩, ⟨E, rfl, run_load_one rfl rfl hE rfl⟩, trivial⟩ rfl ⟨hpv w7, hx7⟩
  ·refine Lwt fun w6 hc6 hL => ?_; replace hE := hE.chg hc6 (by simpa using hLE.symm); apply LW.nil; apply QW.any; refine AW.one 0 (by kernel_rfl) rfl rfl ?_; refine Sa ?_; apply QW.any; refine AW.one 2 (by kernel_rfl) rfl rfl ?_; refine Lwt fun w7 hc7 hE => ?_; replace hL := hL.chg hc7 (by simpa using hLE); have hx7 : Ext w w7 := ((hx4.trans hx5).step hc6 (by simp; omega)).step hc7 (by simp; have := hx1.size; omega); apply LW.nil; apply QW.any; refine AW.done (by kernel_rfl) ?_; refine Sa ?_; refine QW.bodyD0 (rs := [.cell 2 74, .cell 3 86]) (vs := [.slice none 0 0, _]) Tryz.results68 ⟨⟨L, rfl, run_load_one rfl rfl hL rfl⟩, ⟨E, rfl, run_load_one rfl rfl hE rfl⟩, trivial⟩ rfl ⟨hpv w7, hx7⟩
 cases hlex : lexT s with
 | none =>
  rw [LexV, if_neg hbig, hlex] at hv; subst hv; have hpv : ∀ w', ParseV s (.tuple #[.slice none 0 0, .int .i64 5]) w' w.heap.size := fun w' => by rw [ParseV, if_neg hbig, hlex]
  refine Sa ?_; refine Lwt fun w4 hc4 hE => ?_; replace hL := hL.chg hc4 (by simpa using hLE); have hx4 : Ext w w4 := hx3'.step hc4 (by simp; have := hx1.size; omega); refine Sa ?_; refine CW.drawAny (by kernel_rfl) fun w5 hx5 => ?_; replace hL := hL.ext hx5; replace hE := hE.ext hx5; refine AW.two 0 1 (by kernel_rfl) rfl rfl rfl rfl ?_ ?_
  ·refine Sa ?_; apply QW.any; refine AW.one 1 (by kernel_rfl) rfl rfl ?_; refine Lwt fun w6 hc6 hL => ?_; replace hE := hE.chg hc6 (by simpa using hLE.symm); apply LW.nil; apply QW.any; refine AW.one 2 (by kernel_rfl) rfl rfl ?_; refine Lwt fun w7 hc7 hE => ?_; replace hL := hL.chg hc7 (by simpa using hLE); have hx7 : Ext w w7 := ((hx4.trans hx5).step hc6 (by simp; omega)).step hc7 (by simp; have := hx1.size; omega); apply LW.nil; apply QW.any; refine AW.done (by kernel_rfl) ?_; refine Sa ?_; refine QW.bodyD0 (rs := [.cell 2 74, .cell 3 86]) (vs := [.slice none 0 0, _]) Tryz.results68 ⟨⟨L, rfl, run_load_one rfl rfl hL rfl⟩, ⟨E, rfl, run_load_one rfl rfl hE rfl⟩, trivial⟩ rfl ⟨hpv w7, hx7⟩
  ·refine Lwt fun w6 hc6 hL => ?_; replace hE := hE.chg hc6 (by simpa using hLE.symm); apply LW.nil; apply QW.any; refine AW.one 0 (by kernel_rfl) rfl rfl ?_; refine Sa ?_; apply QW.any; refine AW.one 2 (by kernel_rfl) rfl rfl ?_; refine Lwt fun w7 hc7 hE => ?_; replace hL := hL.chg hc7 (by simpa using hLE); have hx7 : Ext w w7 := ((hx4.trans hx5).step hc6 (by simp; omega)).step hc7 (by simp; have := hx1.size; omega); apply LW.nil; apply QW.any; refine AW.done (by kernel_rfl) ?_; refine Sa ?_
   refine QW.bodyD0 (rs := [.cell 2 74, .cell 3 86]) (vs := [.slice none 0 0, _]) Tryz.results68 ⟨⟨L, rfl, run_load_one rfl rfl hL rfl⟩, ⟨E, rfl, run_load_one rfl rfl hE rfl⟩, trivial⟩ rfl ⟨hpv w7, hx7⟩
 | some T =>
 rw [LexV, if_neg hbig, hlex] at hv; obtain ⟨sv, rfl, hown⟩ := hv; obtain ⟨k0, k1, k2⟩ := lexF_kinds _ s 0 (Nat.le_refl _) hlex; have htl := lexT_len hlex; obtain ⟨tb, tcap, tsp, rfl, hT, _⟩ := hown.get (List.length_pos_iff.2 k0); have hz3 := hx3'.size; refine Sa ?_; refine Lwt fun w4 hc4 hE => ?_; have hEtb : tb ≠ E := fun h => by subst h; exact absurd (hT.inj (by assumption : Blk w3 tb [_] 86)) (by decide)
 replace hL := hL.chg hc4 (by simpa using hLE); replace hT := hT.chg hc4 (by simpa using hEtb); have hx4 : Ext w w4 := hx3'.step hc4 (by simp; have := hx1.size; omega); refine Sa ?_; refine LW.defer rfl rfl ?_; refine Sa ?_; have hL4 := hL.lt; have hE4 := hE.lt; have hw4 : w.heap.size ≤ L ∧ w.heap.size ≤ E := by have := hx1.size; omega
 refine Lwb fun R w5 hbR hx5 hR => ?_; obtain ⟨c, hc0⟩ : ∃ c : PCtx, c = ⟨T, tb, tcap, tsp, R, w4⟩ := ⟨_, rfl⟩; have hc : c.Ok := by
  subst hc0; exact ⟨hT, by show T.length ≤ 301; omega, k2, k1, by show w4.heap.size ≤ R; omega⟩
 have hcT : c.T = T := by rw [hc0]
 have hcR : c.rb = R := by rw [hc0]
 have hcw : c.w0 = w4 := by rw [hc0]
 have hrd : Rd c [] w5 ⟨0, [], 0⟩ := by
  refine ⟨by rw [hcw]; exact hx5, by rw [hcT]; exact List.length_pos_iff.2 k0, by simp, by simp, .slice none 0 0, [], ?_, Own.nil _ _ _ _, rfl, by simp⟩; rw [hcR, PCtx.tokv, hc0]; exact hR
 have hexpr := (readers hc _ ⟨0, [], 0⟩ (Nat.le_refl _)).1 w5 [] (by simp) hrd; rw [hcR] at hexpr; refine Sa ?_; refine LW.callP0 rfl rfl hexpr ?_ ?_
 ·rintro v w6 ⟨e, rfl, hp, hx6⟩; rw [hcw] at hx6; have hpd : Parsed T (.error e) := .inl (by rw [← hcT]; exact hp)
  (repeat (first | apply QW.then_panic | apply QW.blk_panic))
  refine QW.panicD1 (rs := [.cell 2 74, .cell 3 86]) Tryz.results68 hpc ?_; refine (catch_panic L E _ _ _ _ (hL.ext hx6) (hE.ext hx6)).mono ?_; rintro e' u w' ⟨rfl, rfl, hL', hE', hcc⟩; refine ⟨rfl, rfl, [.slice none 0 0, _], ⟨⟨L, rfl, run_load_one rfl rfl hL' rfl⟩, ⟨E, rfl, run_load_one rfl rfl hE' rfl⟩, trivial⟩, ?_, (hx4.trans hx6).step hcc (by simp; omega)⟩; rw [ParseV, if_neg hbig, hlex]; exact ⟨_, hpd, rfl⟩
 rintro v w6 ⟨s1, p, rfl, hp, hr, hf, _, _, _⟩; have hx6 : Ext w4 w6 := by have := hr.1; rwa [hcw] at this
 have hnow := now_ret hc hr; rw [hcR] at hnow; refine Sa ?_; refine Lc0 rfl rfl hnow ?_; rintro v w7 ⟨rfl, hx7⟩; replace hr := hr.ext hx7; replace hx6 := hx6.trans hx7; refine Sa ?_; refine LW.field1 (v := .int .i64 (tokAt c.T s1).kind) rfl rfl rfl rfl rfl rfl rfl rfl ?_; refine Sa ?_; refine Cwc (fun hk => ?_) fun hk => ?_
 ·have hk : (tokAt c.T s1).kind ≠ 0 := by simpa using hk
  have hpd : Parsed T (.error 5) := .inr ⟨rfl, s1, p, by rw [← hcT]; exact hp, by rw [← hcT]; exact hk⟩; refine Sa ?_; refine LW.callP0 rfl rfl (fail_ret R 5 w7) ?_ (fun _ _ hh => hh.elim); rintro v w8 ⟨rfl, hx8⟩; replace hx6 := hx6.trans hx8
  (repeat (first | apply QW.then_panic | apply QW.blk_panic))
  refine QW.panicD1 (rs := [.cell 2 74, .cell 3 86]) Tryz.results68 hpc ?_; refine (catch_panic L E _ _ _ _ (hL.ext hx6) (hE.ext hx6)).mono ?_; rintro e' u w' ⟨rfl, rfl, hL', hE', hcc⟩; refine ⟨rfl, rfl, [.slice none 0 0, _], ⟨⟨L, rfl, run_load_one rfl rfl hL' rfl⟩, ⟨E, rfl, run_load_one rfl rfl hE' rfl⟩, trivial⟩, ?_, (hx4.trans hx6).step hcc (by simp; omega)⟩; rw [ParseV, if_neg hbig, hlex]; exact ⟨_, hpd, rfl⟩
 ·have hk : (tokAt c.T s1).kind = 0 := by simpa using hk
  obtain ⟨a0, a1, a2, a3, outv, nvs, hB, ho, hm, hkids⟩ := hr; rw [hcR] at hB; rw [hcw] at ho; replace hL := hL.ext hx6; replace hE := hE.ext hx6; obtain ⟨q1, q2, rfl⟩ := ho.slice; refine Sa ?_; have hoL : ∀ b, b ∈ vblk (Value.slice q1 nvs.length q2) → b ∉ [L] := fun b hb h => by
   simp only [List.mem_singleton] at h; subst h; exact absurd (Own.type ho hb hL) (by decide)
  have hkL : ∀ x ∈ nvs, KidsOk w7 x.kv x.node.kids := fun x hx => (hkids x hx).1; have hL0 := hL; refine Lwt fun w8 hc8 hL => ?_; have hf8 : ∀ b l T', Blk w7 b l T' → T' ≠ 74 → Blk w8 b l T' := fun b l T' hb h => hb.chg hc8 (fun hm => by simp at hm; subst hm; exact h (hb.inj hL0)); replace hE := hE.chg hc8 (by simpa using hLE.symm); replace ho := ho.chg hc8 hoL; have hoE : ∀ b, b ∈ vblk (Value.slice q1 nvs.length q2) → b ∉ [E] := fun b hb h => by
   simp only [List.mem_singleton] at h; subst h; exact absurd (Own.type ho hb hE) (by decide)
  have hE0 := hE; refine Sa ?_; refine Lwt fun w9 hc9 hE => ?_; have hf9 : ∀ b l T', Blk w8 b l T' → T' ≠ 86 → Blk w9 b l T' := fun b l T' hb h => hb.chg hc9 (fun hm => by simp at hm; subst hm; exact h (hb.inj hE0)); replace hL := hL.chg hc9 (by simpa using hLE); replace ho := ho.chg hc9 hoE; have hx9 : Ext w w9 := ((hx4.trans hx6).step hc8 (by simp; omega)).step hc9 (by simp; omega); refine Sa ?_; refine QW.bodyD1 (rs := [.cell 2 74, .cell 3 86]) Tryz.results68 hpc ?_; refine (catch_idle L E w9).mono ?_; rintro e u w' ⟨rfl, rfl, rfl⟩; refine ⟨rfl, rfl, [.slice q1 nvs.length q2, .int .i64 0], ⟨⟨L, rfl, run_load_one rfl rfl hL rfl⟩, ⟨E, rfl, run_load_one rfl rfl hE rfl⟩, trivial⟩, ?_, hx9⟩; rw [ParseV, if_neg hbig, hlex]; refine ⟨.ok s1.out, ⟨s1, p, by rw [← hcT]; exact hp, by rw [← hcT]; exact hk, rfl⟩, .slice q1 nvs.length q2, rfl, nvs, ?_, hm, fun x hx => ?_⟩
  ·exact ho.low (by have := hx4.size; omega)
  ·rcases hkL x hx with h | ⟨b, cap, sp, e1, hb⟩
   ·exact .inl h
   ·exact .inr ⟨b, cap, sp, e1, hf9 _ _ _ (hf8 _ _ _ hb (by decide)) (by decide)⟩
def prB (l : List UInt8) : Bool := decide (∀ j, j < l.length → 32 ≤ byte l j)
theorem printed_ret (s : List UInt8) (hs : s.length ≤ 1000000) (w : World) : Ret Tryz.prog 148 [str s] w (fun v w' => v = .bool (prB s) ∧ Ext w w') := by
 refine Rte Tryz.func148 Tryz.ntmps148 ?_; refine Sa ?_; refine CW.loop (ι := Nat) (fun k w' => k ≤ s.length ∧ Ext w w' ∧ ∀ j, j < k → 32 ≤ byte s j) (fun k => [(0, str s), (5, .int .i64 s.length), (6, .int .i64 k)]) (fun k => s.length - k) 0 ⟨by omega, Chg.refl _ _, by omega⟩ Sub3 ?_; rintro k w1 ⟨hk, hx, hall⟩; refine Sa ?_; refine Cwc (fun h1 => ?_) fun h1 => ?_
 ·have h1 : k < s.length := by simp at h1; omega
  refine Sa ?_; refine Cwc (fun h2 => ?_) fun h2 => ?_
  ·have h2 : byte s k < 32 := by simpa using h2
   refine Sa ?_; refine QW.body1 Tryz.results148 rfl ⟨?_, hx⟩; have : prB s = false := by
    simp only [prB, decide_eq_false_iff_not]; intro hh; have := hh k h1; omega
   rw [this]
  ·have h2 : ¬ byte s k < 32 := by simpa using h2
   refine Sa ?_; refine QW.again (k + 1) ⟨by omega, hx, fun j hj => ?_⟩ Sub3 (by omega); by_cases e : j = k
   ·subst e; omega
   ·exact hall j (by omega)
 ·have h1 : k = s.length := by simp at h1; omega
  subst h1; refine Sa ?_; refine QW.body1 Tryz.results148 rfl ⟨?_, hx⟩; have : prB s = true := by simp only [prB, decide_eq_true_eq]; exact hall
  rw [this]
def nameF (s : List UInt8) : Bool := fnB s && !okRead s && !decide (s = trueT) && !decide (s = falseT)
theorem readV_form (s : List UInt8) : ∃ x, readV s = .tuple #[refV x, .bool (okRead s)] := by
 unfold readV; cases okRead s
 ·exact ⟨refZ, rfl⟩
 ·exact ⟨candV s, rfl⟩
theorem tword_ret (s : List UInt8) (hs : s.length ≤ 1000) (w : World) (g : Glob w) : Ret Tryz.prog 149 [str s] w (fun v w' => v = .bool (nameF s) ∧ Ext w w') := by
 refine Rte Tryz.func149 Tryz.ntmps149 ?_; refine Sa ?_; refine Lc0 rfl rfl (Read_ret s hs w g) ?_; rintro v w1 ⟨rfl, hx⟩; obtain ⟨x, hx0⟩ := readV_form s; rw [hx0]; refine Sa ?_; refine Lwa fun F w2 hbF hx2 hF => ?_; have hz := hx.size; refine Sa ?_; refine Lws fun w3 hc3 hF => ?_; have hx3 : Ext w w3 := (hx.trans hx2).step hc3 (by simp; omega); refine Sa ?_; refine Lc0 rfl rfl (lName_ret s w3 (by omega)) ?_; rintro v w4 ⟨rfl, hx4⟩; replace hx4 := hx3.trans hx4; refine Sa ?_; refine Lwp (fun h1 => ?_) fun h1 => ?_
 ·have h1 : fnB s = true := h1; refine Sa ?_; refine Lwp (fun h2 => ?_) fun h2 => ?_
  ·have h2 : okRead s = false := by simpa using h2
   refine Sa ?_; refine Lwp (fun h3 => ?_) fun h3 => ?_
   ·refine Sa ?_; refine QW.body1 Tryz.results149 rfl ⟨?_, hx4⟩; have h3 : ¬ s = trueT := by simpa [trueT] using h3
    by_cases h4 : s = [70, 65, 76, 83, 69] <;> simp [nameF, h1, h2, h3, falseT, h4]
   ·refine Sa ?_; refine QW.body1 Tryz.results149 rfl ⟨?_, hx4⟩; have h3 : s = trueT := by simpa [trueT] using h3
    simp [nameF, h3]
  ·have h2 : okRead s = true := by simpa using h2
   refine Sa ?_; refine QW.body1 Tryz.results149 rfl ⟨?_, hx4⟩; simp [nameF, h2]
 ·have h1 : fnB s = false := h1; refine Sa ?_; refine QW.body1 Tryz.results149 rfl ⟨?_, hx4⟩; simp [nameF, h1]
def countI (k : Int) : Int := if k < 1 ∨ 19 < k then -2 else if k = 7 then -1 else if k = 8 then 1 else if 8 < k then 2 else 0
theorem Count_ret (k : Int) (w : World) : Ret Tryz.prog 115 [.int .i64 k] w (fun v w' => v = .int .i64 (countI k) ∧ Ext w w') := by
 refine Rte Tryz.func115 Tryz.ntmps115 ?_; refine Sa ?_; refine Lwp (fun h1 => ?_) fun h1 => ?_
 ·have h1 : k < 1 := by simpa using h1
  refine Sa ?_; exact QW.body1 Tryz.results115 rfl ⟨by rw [countI, if_pos (.inl h1)], Chg.refl _ _⟩
 have h1 : ¬ k < 1 := by simpa using h1
 refine Sa ?_; refine Cwc (fun h2 => ?_) fun h2 => ?_
 ·have h2 : 19 < k := by simpa using h2
  refine Sa ?_; exact QW.body1 Tryz.results115 rfl ⟨by rw [countI, if_pos (.inr h2)], Chg.refl _ _⟩
 have h2 : ¬ 19 < k := by simpa using h2
 have hn : ¬ (k < 1 ∨ 19 < k) := by omega
 refine Sa ?_; refine Cwc (fun h3 => ?_) fun h3 => ?_
 ·have h3 : k = 7 := by simpa using h3
  refine Sa ?_; exact QW.body1 Tryz.results115 rfl ⟨by rw [countI, if_neg hn, if_pos h3], Chg.refl _ _⟩
 have h3 : ¬ k = 7 := by simpa using h3
 refine Sa ?_; refine Cwc (fun h4 => ?_) fun h4 => ?_
 ·have h4 : k = 8 := by simpa using h4
  refine Sa ?_; exact QW.body1 Tryz.results115 rfl ⟨by rw [countI, if_neg hn, if_neg h3, if_pos h4], Chg.refl _ _⟩
 have h4 : ¬ k = 8 := by simpa using h4
 refine Sa ?_; refine Cwc (fun h5 => ?_) fun h5 => ?_
 ·have h5 : 8 < k := by simpa using h5
  refine Sa ?_; exact QW.body1 Tryz.results115 rfl ⟨by rw [countI, if_neg hn, if_neg h3, if_neg h4, if_pos h5], Chg.refl _ _⟩
 ·have h5 : ¬ 8 < k := by simpa using h5
  refine Sa ?_; exact QW.body1 Tryz.results115 rfl ⟨by rw [countI, if_neg hn, if_neg h3, if_neg h4, if_neg h5], Chg.refl _ _⟩
def IntsR (w : World) (v : Value) (zs : List Int) : Prop :=
 zs.length ≤ 9223372036854775806 ∧ (v = .slice none 0 0 ∧ zs = [] ∨ ∃ a cap, v = .slice (some a) zs.length cap ∧ ∀ i z, zs[i]? = some z → w.cell? (a.add i) = some (.int .i64 z))
theorem IntsR.ext {w w' : World} {v : Value} {zs : List Int} (h : IntsR w v zs) (x : Ext w w') : IntsR w' v zs := by
 obtain ⟨h0, h | ⟨a, cap, e, h⟩⟩ := h
 ·exact ⟨h0, .inl h⟩
 ·exact ⟨h0, .inr ⟨a, cap, e, fun i z hz => cell_ext x (h i z hz)⟩⟩
theorem IntsR.slice {w : World} {v : Value} {zs : List Int} (h : IntsR w v zs) : ∃ p c, v = .slice p zs.length c := by
 obtain ⟨h0, ⟨rfl, rfl⟩ | ⟨a, cap, e, h⟩⟩ := h
 ·exact ⟨_, _, rfl⟩
 ·exact ⟨_, _, e⟩
theorem IntsR.at {w : World} {p : Option Addr} {c : Nat} {zs : List Int} (h : IntsR w (.slice p zs.length c) zs) {i : Nat} (hi : i < zs.length) : ∃ a, p = some a ∧ w.cell? (a.add i) = some (.int .i64 (zs.getD i 0)) := by
 obtain ⟨h0, ⟨e, e2⟩ | ⟨a, cap, e, h⟩⟩ := h
 ·rw [e2] at hi; simp at hi
 ·simp only [Value.slice.injEq] at e; exact ⟨a, e.1, h i _ (by simp [List.getD_eq_getElem?_getD, List.getElem?_eq_getElem hi])⟩
theorem take_eq_step {a b : List Int} {k : Nat} (ha : k < a.length) (hb : k < b.length) (h : a.take k = b.take k) (hk : a.getD k 0 = b.getD k 0) : a.take (k + 1) = b.take (k + 1) := by
 rw [List.take_add_one, List.take_add_one, h, List.getElem?_eq_getElem ha, List.getElem?_eq_getElem hb]; simp [List.getD_eq_getElem?_getD, List.getElem?_eq_getElem ha, List.getElem?_eq_getElem hb] at hk; rw [hk]
theorem equal_ret (a b : List Int) (va vb : Value) (w : World) (ha : IntsR w va a) (hb : IntsR w vb b) : Ret Tryz.prog 116 [va, vb] w (fun v w' => v = .bool (decide (a = b)) ∧ Ext w w') := by
 obtain ⟨pa, ca, rfl⟩ := ha.slice; obtain ⟨pb, cb, rfl⟩ := hb.slice; have hal := ha.1; have hbl := hb.1; refine Rte Tryz.func116 Tryz.ntmps116 ?_; refine Sa ?_; refine Cwc (fun h1 => ?_) fun h1 => ?_
 ·have h1 : a.length ≠ b.length := by simp at h1; omega
  refine Sa ?_; refine QW.body1 Tryz.results116 rfl ⟨?_, Chg.refl _ _⟩; have : a ≠ b := fun e => h1 (by rw [e]); simp [this]
 have h1 : a.length = b.length := by simp at h1; omega
 refine Sa ?_; refine CW.loop (ι := Nat) (fun k w' => k ≤ a.length ∧ Ext w w' ∧ a.take k = b.take k) (fun k => [(0, .slice pa a.length ca), (1, .slice pb b.length cb), (12, .int .i64 a.length), (13, .int .i64 k)]) (fun k => a.length - k) 0 ⟨by omega, Chg.refl _ _, rfl⟩ Sub4 ?_; rintro k w1 ⟨hk, hx, heq⟩; replace ha := ha.ext hx; replace hb := hb.ext hx; refine Sa ?_; refine Cwc (fun h2 => ?_) fun h2 => ?_
 ·have h2 : k < a.length := by simp at h2; omega
  obtain ⟨aa, rfl, hca⟩ := ha.at h2; obtain ⟨ab, rfl, hcb⟩ := hb.at (show k < b.length by omega); refine Sa ?_; refine Cwd ?_; refine Sq ?_; refine QL.yields rfl rfl rfl (fun _ _ => Y.idx_addr rfl rfl rfl rfl rfl (by omega) (by omega)) ?_; refine QL.yields rfl rfl rfl (fun w' hw => Y.load_cell rfl (by show w'.cell? (aa.add (k * 1)) = _; rw [Nat.mul_one]; exact cell_ext hw hca) rfl rfl) ?_; refine Sq ?_; refine QL.yields rfl rfl rfl (fun _ _ => Y.idx_addr rfl rfl rfl rfl rfl (by omega) (by omega)) ?_; refine QL.yields rfl rfl rfl (fun w' hw => Y.load_cell rfl (by show w'.cell? (ab.add (k * 1)) = _; rw [Nat.mul_one]; exact cell_ext hw hcb) rfl rfl) ?_; refine Sq ?_; refine QL.nil fun w2 hx2 => ?_; replace hx := hx.trans hx2; refine Sa ?_; refine Cwc (fun h3 => ?_) fun h3 => ?_
  ·have h3 : a.getD k 0 ≠ b.getD k 0 := by simpa using h3
   refine Sa ?_; refine QW.body1 Tryz.results116 rfl ⟨?_, hx⟩; have : a ≠ b := fun e => h3 (by rw [e]); simp [this]
  ·have h3 : a.getD k 0 = b.getD k 0 := by simpa using h3
   refine Sa ?_; exact QW.again (k + 1) ⟨by omega, hx, take_eq_step h2 (by omega) heq h3⟩ Sub4 (by omega)
 ·have h2 : k = a.length := by simp at h2; omega
  subst h2; refine Sa ?_; refine QW.body1 Tryz.results116 rfl ⟨?_, hx⟩; have : a = b := by rwa [List.take_length, h1, List.take_length] at heq
  simp [this]
def okK (n : NodeD) : Bool :=
 if n.kind = 1 then decide (0 ≤ n.num) else if n.kind = 3 then decide (n.num = 0) || decide (n.num = 1) else if n.kind = 2 then prB n.text else if n.kind = 7 then nameF n.text
 else if n.kind = 5 then mayB n.ref else if n.kind = 6 then mayB n.ref && (mayB n.to && rangesB n.ref n.to) else true
def bareN (n : NodeD) : NodeD :=
 if n.kind = 1 then { n with num := 0 } else if n.kind = 3 then { n with num := 0 } else if n.kind = 2 then { n with text := [] } else if n.kind = 7 then { n with text := [] }
 else if n.kind = 5 then { n with ref := refN } else if n.kind = 6 then { n with ref := refN, to := refN } else n
def plainB (n : NodeD) : Bool := okK n && (decide ((bareN n).num = 0) && (decide ((bareN n).text = []) && (decide ((bareN n).ref = refN) && decide ((bareN n).to = refN))))
theorem plain_ret (n : NodeD) (p : Option Addr) (k c : Nat) (w : World) (g : Glob w) (ht : n.text.length ≤ 1000) (hr : n.ref.sheet.length ≤ 9223372036854775807) (hto : n.to.sheet.length ≤ 9223372036854775807) : Ret Tryz.prog 117 [.agg ⟨nvL ⟨n, .slice p k c⟩⟩] w (fun v w' => v = .bool (plainB n) ∧ Ext w w') := by
 refine Rte Tryz.func117 Tryz.ntmps117 ?_; apply CW.seq; apply CW.region; refine Sl ?_; refine Lwb fun A w1 hbA hx1 hA => ?_; replace hA : Blk w1 A (nvL ⟨n, .slice p k c⟩) 133 := hA; refine Sl ?_; apply LW.nil; apply QW.then_n; apply CW.seq; apply CW.region; refine Sl ?_; refine Lwa fun C w2 hbC hx2 hC => ?_; have hz1 := hx1.size; have hAC : A ≠ C := by have := hA.lt; omega
 replace hA := hA.ext hx2; refine Sl ?_; refine Lws fun w3 hc3 hC => ?_; replace hC : Blk w3 C (nvL ⟨n, .slice p k c⟩) 133 := hC; replace hA := hA.chg hc3 (by simpa using hAC); have hx : Ext w w3 := (hx1.trans hx2).step hc3 (by simp; omega); apply LW.nil; apply QW.then_n; apply CW.seq; apply CW.region; refine Sl ?_; apply LW.nil; apply QW.then_n; have hCw : w.heap.size ≤ C := by omega
 refine CW.seq_cut (ι := Unit) (fun _ w' => Ext w w' ∧ Blk w' C (nvL ⟨bareN n, .slice p k c⟩) 133) (fun _ => [(3, .pointer (some ⟨C, 0, none⟩)), (4, .bool (okK n))]) ?_ ?_
 ·refine Sa ?_; refine Cwc (fun h1 => ?_) fun h1 => ?_
  ·have h1 : n.kind = 1 := by simpa using h1
   have hb : bareN n = { n with num := 0 } := by simp [bareN, h1]
   have ho : okK n = decide (0 ≤ n.num) := by simp [okK, h1]
   refine CW.drawHeld (fun w' => Blk w' A (nvL ⟨n, .slice p k c⟩) 133) (fun w' h => hA.ext h) (by kernel_rfl) fun w4 hx4 => ?_; refine HW.take 0 rfl rfl rfl rfl (fun w _ => Y.pure rfl) rfl (by kernel_rfl) (by kernel_rfl) (by kernel_rfl) (fun _ _ _ h => h) ?_; refine HW.take 1 rfl rfl rfl rfl (fun w hw => Y.load rfl hw rfl rfl rfl) rfl (by kernel_rfl) (by kernel_rfl) (by kernel_rfl) (fun _ _ _ h => h) ?_; refine HW.take 2 rfl rfl rfl rfl (fun w _ => Y.pure rfl) rfl (by kernel_rfl) (by kernel_rfl) (by kernel_rfl) (fun _ _ _ h => h) ?_; refine HW.take 3 rfl rfl rfl rfl (fun w _ => Y.pure rfl) rfl (by kernel_rfl) (by kernel_rfl) (by kernel_rfl) (fun _ _ _ h => h) ?_; replace hC := hC.ext hx4; refine HW.one 4 (by kernel_rfl) rfl rfl (fun hS => ?_); refine Lwt fun w5 hc5 hC => ?_; apply LW.nil; refine QW.held (hS.chg hc5 (by simpa using hAC)) ?_; refine HW.one 5 (by kernel_rfl) rfl rfl (fun hS => ?_); refine Sl ?_; apply LW.nil; refine QW.held hS ?_; refine HW.done (by kernel_rfl) ?_; refine Sa ?_; exact QW.head () ⟨(hx.trans hx4).step hc5 (by simpa using hCw), by rw [hb]; exact hC⟩ (Sub.cons rfl (Sub.cons (by rw [ho]; rfl) Sub.nil))
  have h1 : n.kind ≠ 1 := by simpa using h1
  refine Sa ?_; refine Cwc (fun h3 => ?_) fun h3 => ?_
  ·have h3 : n.kind = 3 := by simpa using h3
   have hb : bareN n = { n with num := 0 } := by simp [bareN, h3]
   have ho : okK n = (decide (n.num = 0) || decide (n.num = 1)) := by simp [okK, h3]
   refine CW.drawHeld (fun w' => Blk w' A (nvL ⟨n, .slice p k c⟩) 133) (fun w' h => hA.ext h) (by kernel_rfl) fun w4 hx4 => ?_; replace hC := hC.ext hx4; refine HW.take 0 rfl rfl rfl rfl (fun w _ => Y.pure rfl) rfl (by kernel_rfl) (by kernel_rfl) (by kernel_rfl) (fun _ _ _ h => h) ?_; refine HW.take 1 rfl rfl rfl rfl (fun w hw => Y.load rfl hw rfl rfl rfl) rfl (by kernel_rfl) (by kernel_rfl) (by kernel_rfl) (fun _ _ _ h => h) ?_; refine HW.take 2 rfl rfl rfl rfl (fun w _ => Y.pure rfl) rfl (by kernel_rfl) (by kernel_rfl) (by kernel_rfl) (fun _ _ _ h => h) ?_; refine HW.take 3 rfl rfl rfl rfl (fun w _ => Y.pure rfl) rfl (by kernel_rfl) (by kernel_rfl) (by kernel_rfl) (fun _ _ _ h => h) ?_; by_cases hz : n.num = 0
   ·refine HW.know (t := 19) (c := true) rfl (by simpa using hz) ?_; refine HW.skip 4 rfl rfl rfl rfl rfl rfl rfl rfl (by kernel_rfl) (by kernel_rfl) (by kernel_rfl) (fun _ _ _ h => h) ?_; refine HW.skip 5 rfl rfl rfl rfl rfl rfl rfl rfl (by kernel_rfl) (by kernel_rfl) (by kernel_rfl) (fun _ _ _ h => h) ?_; refine HW.skip 6 rfl rfl rfl rfl rfl rfl rfl rfl (by kernel_rfl) (by kernel_rfl) (by kernel_rfl) (fun _ _ _ h => h) ?_; refine HW.take 7 rfl rfl rfl rfl (fun w _ => Y.pure rfl) rfl (by kernel_rfl) (by kernel_rfl) (by kernel_rfl) (fun _ _ _ h => h) ?_; refine HW.take 8 rfl rfl rfl rfl (fun w _ => Y.pure rfl) rfl (by kernel_rfl) (by kernel_rfl) (by kernel_rfl) (fun _ _ _ h => h) ?_; refine HW.one 9 (by kernel_rfl) rfl rfl (fun hS => ?_); refine Lwt fun w5 hc5 hC => ?_; apply LW.nil; refine QW.held (hS.chg hc5 (by simpa using hAC)) ?_; refine HW.one 10 (by kernel_rfl) rfl rfl (fun hS => ?_); refine Sl ?_; apply LW.nil; refine QW.held hS ?_; refine HW.done (by kernel_rfl) ?_; refine Sa ?_; exact QW.head () ⟨(hx.trans hx4).step hc5 (by simpa using hCw), by rw [hb]; exact hC⟩ (Sub.cons rfl (Sub.cons (by rw [ho, hz]; rfl) Sub.nil))
   ·refine HW.know (t := 19) (c := false) rfl (by simpa using hz) ?_; refine HW.takeW 4 rfl rfl rfl rfl (fun w _ => Y.pure rfl) rfl (by kernel_rfl) (by kernel_rfl) (by kernel_rfl) (fun _ _ _ h => h) ?_; refine HW.takeW 5 rfl rfl rfl rfl (fun w hw => Y.load rfl hw rfl rfl rfl) rfl (by kernel_rfl) (by kernel_rfl) (by kernel_rfl) (fun _ _ _ h => h) ?_; refine HW.takeW 6 rfl rfl rfl rfl (fun w _ => Y.pure rfl) rfl (by kernel_rfl) (by kernel_rfl) (by kernel_rfl) (fun _ _ _ h => h) ?_; refine HW.take 7 rfl rfl rfl rfl (fun w _ => Y.pure rfl) rfl (by kernel_rfl) (by kernel_rfl) (by kernel_rfl) (fun _ _ _ h => h) ?_; refine HW.take 8 rfl rfl rfl rfl (fun w _ => Y.pure rfl) rfl (by kernel_rfl) (by kernel_rfl) (by kernel_rfl) (fun _ _ _ h => h) ?_; refine HW.one 9 (by kernel_rfl) rfl rfl (fun hS => ?_); refine Lwt fun w5 hc5 hC => ?_; apply LW.nil; refine QW.held (hS.chg hc5 (by simpa using hAC)) ?_; refine HW.one 10 (by kernel_rfl) rfl rfl (fun hS => ?_); refine Sl ?_; apply LW.nil; refine QW.held hS ?_; refine HW.done (by kernel_rfl) ?_; refine Sa ?_; exact QW.head () ⟨(hx.trans hx4).step hc5 (by simpa using hCw), by rw [hb]; exact hC⟩ (Sub.cons rfl (Sub.cons (by rw [ho]; simp [hz]; rfl) Sub.nil))
  have h3 : n.kind ≠ 3 := by simpa using h3
  refine Sa ?_; refine Cwc (fun h2 => ?_) fun h2 => ?_
  ·have h2 : n.kind = 2 := by simpa using h2
   have hb : bareN n = { n with text := [] } := by simp [bareN, h2]
   have ho : okK n = prB n.text := by simp [okK, h2]
   refine Sa ?_; refine Lc0 rfl rfl (printed_ret n.text (by omega) w3) ?_; rintro v w4 ⟨rfl, hx4⟩; replace hC := hC.ext hx4; refine Sa ?_; refine Lwt fun w5 hc5 hC => ?_; refine Sa ?_; exact QW.head () ⟨(hx.trans hx4).step hc5 (by simpa using hCw), by rw [hb]; exact hC⟩ (Sub.cons rfl (Sub.cons (by rw [ho]; rfl) Sub.nil))
  have h2 : n.kind ≠ 2 := by simpa using h2
  refine Sa ?_; refine Cwc (fun h7 => ?_) fun h7 => ?_
  ·have h7 : n.kind = 7 := by simpa using h7
   have hb : bareN n = { n with text := [] } := by simp [bareN, h7]
   have ho : okK n = nameF n.text := by simp [okK, h7]
   refine Sa ?_; refine Lc0 rfl rfl (tword_ret n.text ht w3 (g.ext hx)) ?_; rintro v w4 ⟨rfl, hx4⟩; replace hC := hC.ext hx4; refine Sa ?_; refine Lwt fun w5 hc5 hC => ?_; refine Sa ?_; exact QW.head () ⟨(hx.trans hx4).step hc5 (by simpa using hCw), by rw [hb]; exact hC⟩ (Sub.cons rfl (Sub.cons (by rw [ho]; rfl) Sub.nil))
  have h7 : n.kind ≠ 7 := by simpa using h7
  refine Sa ?_; refine Cwc (fun h5 => ?_) fun h5 => ?_
  ·have h5 : n.kind = 5 := by simpa using h5
   have hb : bareN n = { n with ref := refN } := by simp [bareN, h5]
   have ho : okK n = mayB n.ref := by simp [okK, h5]
   refine Sa ?_; refine LW.load_agg (cs := refL n.ref) rfl hA rfl rfl rfl ⟨rfl, rfl, rfl, rfl, rfl, trivial⟩ rfl ?_; refine Sa ?_; refine LW.call0 (vs := [refV n.ref]) rfl rfl (May_ret n.ref (by omega) w3) ?_; rintro v w4 ⟨rfl, hx4⟩; replace hC := hC.ext hx4; refine Sa ?_; refine LW.store_agg (cs := refL refN) rfl rfl rfl hC (Nat.le_of_ble_eq_true rfl) rfl rfl fun w5 hc5 hC => ?_; refine Sa ?_; exact QW.head () ⟨(hx.trans hx4).step hc5 (by simpa using hCw), by rw [hb]; exact hC⟩ (Sub.cons rfl (Sub.cons (by rw [ho]; rfl) Sub.nil))
  have h5 : n.kind ≠ 5 := by simpa using h5
  refine Sa ?_; refine Cwc (fun h6 => ?_) fun h6 => ?_
  ·have h6 : n.kind = 6 := by simpa using h6
   have hb : bareN n = { n with ref := refN, to := refN } := by simp [bareN, h6]
   have ho : okK n = (mayB n.ref && (mayB n.to && rangesB n.ref n.to)) := by simp [okK, h6]
   refine Sa ?_; refine LW.store_agg (cs := refL refN) rfl rfl rfl hC (Nat.le_of_ble_eq_true rfl) rfl rfl fun w4 hc4 hC => ?_; replace hA := hA.chg hc4 (by simpa using hAC); refine Sa ?_; refine LW.store_agg (cs := refL refN) rfl rfl rfl hC (Nat.le_of_ble_eq_true rfl) rfl rfl fun w5 hc5 hC => ?_; replace hA := hA.chg hc5 (by simpa using hAC); replace hC : Blk w5 C (nvL ⟨{ n with ref := refN, to := refN }, .slice p k c⟩) 133 := hC; have hx5 : Ext w w5 := (hx.step hc4 (by simpa using hCw)).step hc5 (by simpa using hCw); refine Sa ?_; refine LW.load_agg (cs := refL n.ref) rfl hA rfl rfl rfl ⟨rfl, rfl, rfl, rfl, rfl, trivial⟩ rfl ?_; refine Sa ?_; refine LW.call0 (vs := [refV n.ref]) rfl rfl (May_ret n.ref (by omega) w5) ?_; rintro v w6 ⟨rfl, hx6⟩; replace hA := hA.ext hx6; replace hC := hC.ext hx6; replace hx6 := hx5.trans hx6; refine Sa ?_; refine Lwp (fun k1 => ?_) fun k1 => ?_
   ·have k1 : mayB n.ref = true := k1; refine Sa ?_; refine LW.load_agg (cs := refL n.to) rfl hA rfl rfl rfl ⟨rfl, rfl, rfl, rfl, rfl, trivial⟩ rfl ?_; refine Sa ?_; refine LW.call0 (vs := [refV n.to]) rfl rfl (May_ret n.to (by omega) w6) ?_; rintro v w7 ⟨rfl, hx7⟩; replace hA := hA.ext hx7; replace hC := hC.ext hx7; replace hx7 := hx6.trans hx7; refine Sa ?_; refine Lwp (fun k2 => ?_) fun k2 => ?_
    ·have k2 : mayB n.to = true := k2; refine Sa ?_; refine LW.load_agg (cs := refL n.ref) rfl hA rfl rfl rfl ⟨rfl, rfl, rfl, rfl, rfl, trivial⟩ rfl ?_; refine Sa ?_; refine LW.load_agg (cs := refL n.to) rfl hA rfl rfl rfl ⟨rfl, rfl, rfl, rfl, rfl, trivial⟩ rfl ?_; refine Sa ?_; refine Lc0 rfl rfl (ranges_ret n.ref n.to w7) ?_; rintro v w8 ⟨rfl, hx8⟩; replace hC := hC.ext hx8; refine Sa ?_; exact QW.head () ⟨hx7.trans hx8, by rw [hb]; exact hC⟩ (Sub.cons rfl (Sub.cons (by rw [ho, k1, k2]; rfl) Sub.nil))
    ·have k2 : mayB n.to = false := k2; refine Sa ?_; exact QW.head () ⟨hx7, by rw [hb]; exact hC⟩ (Sub.cons rfl (Sub.cons (by rw [ho, k1, k2]; rfl) Sub.nil))
   ·have k1 : mayB n.ref = false := k1; refine Sa ?_; exact QW.head () ⟨hx6, by rw [hb]; exact hC⟩ (Sub.cons rfl (Sub.cons (by rw [ho, k1]; rfl) Sub.nil))
  have h6 : n.kind ≠ 6 := by simpa using h6
  have hb : bareN n = n := by simp [bareN, h1, h2, h3, h5, h6, h7]
  have ho : okK n = true := by simp [okK, h1, h2, h3, h5, h6, h7]
  refine Sa ?_; exact QW.head () ⟨hx, by rw [hb]; exact hC⟩ (Sub.cons rfl (Sub.cons (by rw [ho]; rfl) Sub.nil))
 rintro _ w4 ⟨hx4, hC4⟩; clear hA hC; refine Sa ?_; refine Lwp (fun q1 => ?_) fun q1 => ?_
 ·have q1 : okK n = true := q1; refine Sa ?_; refine Lwp (fun q2 => ?_) fun q2 => ?_
  ·have q2 : (bareN n).num = 0 := by simpa using q2
   refine Sa ?_; refine Lwp (fun q3 => ?_) fun q3 => ?_
   ·have q3 : (bareN n).text = [] := by simpa using q3
    refine Sa ?_; refine LW.load_agg (cs := refL (bareN n).ref) rfl hC4 rfl rfl rfl ⟨rfl, rfl, rfl, rfl, rfl, trivial⟩ rfl ?_; refine Sa ?_; refine LW.eql_agg (ys := refL refN) rfl rfl eqg_ref4 (fun w' => eqr_ref (bareN n).ref refN 9998 w') rfl ?_; refine Sa ?_; refine Lwp (fun q4 => ?_) fun q4 => ?_
    ·have q4 : (bareN n).ref = refN := by simpa using q4
     refine Sa ?_; refine LW.load_agg (cs := refL (bareN n).to) rfl hC4 rfl rfl rfl ⟨rfl, rfl, rfl, rfl, rfl, trivial⟩ rfl ?_; refine Sa ?_; refine LW.eql_agg (ys := refL refN) rfl rfl eqg_ref4 (fun w' => eqr_ref (bareN n).to refN 9998 w') rfl ?_; refine Sa ?_; refine QW.body1 Tryz.results117 rfl ⟨?_, hx4⟩; simp [plainB, q1, q2, q3, q4]
    ·have q4 : ¬ (bareN n).ref = refN := by simpa using q4
     refine Sa ?_; refine QW.body1 Tryz.results117 rfl ⟨?_, hx4⟩; simp [plainB, q4]
   ·have q3 : ¬ (bareN n).text = [] := by simpa using q3
    refine Sa ?_; refine QW.body1 Tryz.results117 rfl ⟨?_, hx4⟩; simp [plainB, q3]
  ·have q2 : ¬ (bareN n).num = 0 := by simpa using q2
   refine Sa ?_; refine QW.body1 Tryz.results117 rfl ⟨?_, hx4⟩; simp [plainB, q2]
 ·have q1 : okK n = false := q1; refine Sa ?_; refine QW.body1 Tryz.results117 rfl ⟨?_, hx4⟩; simp [plainB, q1]
def NodesR (w : World) (v : Value) (l : List NodeD) : Prop :=
 l.length ≤ 100000 ∧ (v = .slice none 0 0 ∧ l = [] ∨ ∃ a cap, v = .slice (some a) l.length cap ∧ ∀ i nd, l[i]? = some nd → ∃ kv, IntsR w kv nd.kids ∧ ∀ j u, (nvL ⟨nd, kv⟩)[j]? = some u → w.cell? ((a.add (i * 14)).add j) = some u)
theorem NodesR.ext {w w' : World} {v : Value} {l : List NodeD} (h : NodesR w v l) (x : Ext w w') : NodesR w' v l := by
 obtain ⟨h0, h | ⟨a, cap, e, h⟩⟩ := h
 ·exact ⟨h0, .inl h⟩
 ·exact ⟨h0, .inr ⟨a, cap, e, fun i nd hi => let ⟨kv, hk, hc⟩ := h i nd hi; ⟨kv, hk.ext x, fun j u hj => cell_ext x (hc j u hj)⟩⟩⟩
theorem NodesR.slice {w : World} {v : Value} {l : List NodeD} (h : NodesR w v l) : ∃ p c, v = .slice p l.length c := by
 obtain ⟨h0, ⟨rfl, rfl⟩ | ⟨a, cap, e, h⟩⟩ := h
 ·exact ⟨_, _, rfl⟩
 ·exact ⟨_, _, e⟩
theorem NodesR.at {w : World} {p : Option Addr} {c : Nat} {l : List NodeD} (h : NodesR w (.slice p l.length c) l) {i : Nat} {nd : NodeD} (hi : l[i]? = some nd) :
  ∃ a kp kc, p = some a ∧ IntsR w (.slice kp nd.kids.length kc) nd.kids ∧ ∀ j u, (nvL ⟨nd, .slice kp nd.kids.length kc⟩)[j]? = some u → w.cell? ((a.add (i * 14)).add j) = some u := by
 obtain ⟨h0, ⟨e, e2⟩ | ⟨a, cap, e, h⟩⟩ := h
 ·rw [e2] at hi; simp at hi
 ·simp only [Value.slice.injEq] at e; obtain ⟨kv, hk, hc⟩ := h i nd hi; obtain ⟨kp, kc, rfl⟩ := hk.slice; exact ⟨a, kp, kc, e.1, hk, hc⟩
theorem icells_len (l : List Int) : (icells l).length = l.length := by simp [icells]
theorem icells_get {l : List Int} {i : Nat} {z : Int} (h : l[i]? = some z) : (icells l)[i]? = some (.int .i64 z) := by simp [icells, h]
theorem Own.from_ {w : World} {lo n c : Nat} {p : Option Addr} {zs : List Int} (h : Own w lo 3 1 (.slice p n c) n (icells zs)) (hb : zs.length ≤ 100000) {i : Nat} (hi : i ≤ n) : IntsR w (.slice (if c = i then p else p.map (·.add (i * 1))) (n - i) (c - i)) (zs.drop i) := by
 obtain ⟨hl, ⟨e, hn⟩ | ⟨g, cap, sp, e, hB, h1, h2, h3⟩⟩ := h
 ·simp only [Value.slice.injEq] at e; obtain ⟨rfl, e2, rfl⟩ := e; subst hn; have : i = 0 := by omega
  subst this; have : zs = [] := by simpa [icells] using hl
  subst this; exact ⟨by simp, .inl ⟨by simp, rfl⟩⟩
 ·simp only [Value.slice.injEq] at e; obtain ⟨rfl, _, rfl⟩ := e; rw [icells_len] at hl; have hzn : zs.length = n := by omega
  refine ⟨by simp; omega, .inr ⟨if c = i then ⟨g, 0, none⟩ else (⟨g, 0, none⟩ : Addr).add (i * 1), c - i, ?_, fun j z hz => ?_⟩⟩
  ·rw [List.length_drop, hzn]
   split <;> rfl
  ·rw [List.getElem?_drop] at hz; have hj : i + j < zs.length := by
    rcases Nat.lt_or_ge (i + j) zs.length with h | h
    ·exact h
    ·rw [List.getElem?_eq_none h] at hz; cases hz
   have hci : c ≠ i := by omega
   rw [if_neg hci, Addr.add_add]; refine hB.getElem _ _ ?_; rw [List.getElem?_append_left (by rw [icells_len]; omega), Nat.mul_one]; exact icells_get hz
theorem Own.cells {w : World} {lo n c : Nat} {p : Option Addr} {zs : List Int} (h : Own w lo 3 1 (.slice p n c) n (icells zs)) {i : Nat} (hi : i ≤ n) : p = none ∧ i = 0 ∨ ∃ a, p = some a ∧ ∀ j u, (icells (zs.take i))[j]? = some u → w.cell? (a.add j) = some u := by
 obtain ⟨hl, ⟨e, hn⟩ | ⟨g, cap, sp, e, hB, h1, h2, h3⟩⟩ := h
 ·simp only [Value.slice.injEq] at e; exact .inl ⟨e.1, by omega⟩
 ·simp only [Value.slice.injEq] at e; refine .inr ⟨_, e.1, fun j u hu => hB.getElem _ _ ?_⟩; have e1 : icells (zs.take i) = (icells zs).take i := by simp [icells, List.map_take]
  rw [e1] at hu; have hj : j < i := by
   rcases Nat.lt_or_ge j i with h | h
   ·exact h
   ·rw [List.getElem?_take_eq_none h] at hu; cases hu
  rw [List.getElem?_take_of_lt hj] at hu; have hj2 : j < (icells zs).length := by
   rcases Nat.lt_or_ge j (icells zs).length with h | h
   ·exact h
   ·rw [List.getElem?_eq_none h] at hu; cases hu
  rw [List.getElem?_append_left hj2]; exact hu
theorem Own.cap_ {w : World} {lo n c : Nat} {p : Option Addr} {zs : List Value} (h : Own w lo 3 1 (.slice p n c) n zs) : n ≤ c := by
 obtain ⟨hl, ⟨e, hn⟩ | ⟨g, cap, sp, e, hB, h1, h2, h3⟩⟩ := h
 ·omega
 ·simp only [Value.slice.injEq] at e; omega
def kidN (n : NodeD) : Int := if countI n.kind = -1 then n.kids.length else countI n.kind
def treeStep (i : Nat) (st : List Int) (n : NodeD) : Option (List Int) :=
 if kidN n = n.kids.length ∧ n.kids.length ≤ st.length ∧ st.drop (st.length - n.kids.length) = n.kids ∧ plainB n = true then some (st.take (st.length - n.kids.length) ++ [(i : Int)]) else none
def treeGo : Nat → List Int → List NodeD → Option (List Int)
 | _, st, [] => some st
 | i, st, n :: t => match treeStep i st n with
  | some st' => treeGo (i + 1) st' t
  | none => none
def treeB (l : List NodeD) : Bool := match treeGo 0 [] l with
 | some st => decide (st.length = 1)
 | none => false
def Short (l : List NodeD) : Prop := ∀ nd ∈ l, nd.text.length ≤ 1000 ∧ nd.ref.sheet.length ≤ 1000 ∧ nd.to.sheet.length ≤ 1000
def ShortT (l : List NodeD) : Prop := ∀ nd ∈ l, nd.text.length ≤ 1000 ∧ nd.ref.sheet.length ≤ 9223372036854775807 ∧ nd.to.sheet.length ≤ 9223372036854775807
theorem Short.t {l : List NodeD} (h : Short l) : ShortT l := fun nd hn => by
 obtain ⟨h1, h2, h3⟩ := h nd hn; exact ⟨h1, by omega, by omega⟩
theorem Tree_any (l : List NodeD) (v : Value) (w : World) (g : Glob w) (hN : NodesR w v l) (hs : ShortT l) : Ret Tryz.prog 90 [v] w (fun v' w' => v' = .bool (treeB l) ∧ Ext w w') := by
 obtain ⟨p, c, rfl⟩ := hN.slice; have hl := hN.1; refine Rte Tryz.func90 Tryz.ntmps90 ?_; refine Sa ?_; refine CW.loop (ι := Nat × List Int × Option Addr × Nat) (fun x w' => x.1 ≤ l.length ∧ x.2.1.length ≤ x.1 ∧ Ext w w' ∧ treeGo 0 [] l = treeGo x.1 x.2.1 (l.drop x.1) ∧ Own w' w.heap.size 3 1 (.slice x.2.2.1 x.2.1.length x.2.2.2) x.2.1.length (icells x.2.1))
  (fun x => [(3, .slice x.2.2.1 x.2.1.length x.2.2.2), (8, .slice p l.length c), (9, .int .i64 l.length), (10, .int .i64 x.1)]) (fun x => l.length - x.1) (0, [], none, 0) ⟨by omega, by simp, Chg.refl _ _, rfl, Own.nil _ _ _ _⟩ Sub4 ?_
 rintro ⟨i, st, sp, sc⟩ w1 ⟨hi, hst, hx, heq, ho⟩; dsimp only at hi hst heq ho ⊢; replace hN := hN.ext hx; refine Sa ?_; refine Cwc (fun h1 => ?_) fun h1 => ?_
 ·have h1 : i < l.length := by simp at h1; omega
  obtain ⟨nd, hnd⟩ : ∃ nd, l[i]? = some nd := ⟨_, List.getElem?_eq_getElem h1⟩; obtain ⟨a, kp, kc, rfl, hk, hcell⟩ := hN.at hnd; obtain ⟨hs1, hs2, hs3⟩ := hs nd (List.mem_of_getElem? hnd); refine Sa ?_; refine LW.idx_addr rfl rfl rfl rfl rfl (by omega) (by omega) rfl ?_; refine LW.load_cells (cs := nvL ⟨nd, .slice kp nd.kids.length kc⟩) rfl hcell rfl rfl rfl rfl ?_; refine Sa ?_; refine Lwa fun C w2 hbC hx2 hC => ?_; refine Sa ?_; refine Lws fun w3 hc3 hC => ?_; replace hC : Blk w3 C (nvL ⟨nd, .slice kp nd.kids.length kc⟩) 133 := hC; refine Sa ?_; refine Lc0 rfl rfl (Count_ret nd.kind w3) ?_; rintro v w4 ⟨rfl, hx4⟩; replace hC := hC.ext hx4; have hsz1 := hx.size; have hsz2 := hx2.size; have hx04 : Ext w1 w4 := (hx2.step hc3 (by simp; omega)).trans hx4; replace hk := hk.ext hx04; replace ho := ho.ext hx04; replace hx := hx.trans hx04; refine Sl ?_; apply LW.nil; apply QW.then_n; refine CW.seq_cut (ι := Unit) (fun _ w' => w' = w4) (fun _ => [(3, .slice sp st.length sc), (4, .int .i64 i), (5, .pointer (some ⟨C, 0, none⟩)), (6, .int .i64 (kidN nd)), (8, .slice (some a) l.length c), (9, .int .i64 l.length), (10, .int .i64 i)]) ?_ ?_
  ·refine Sa ?_; refine Cwc (fun h2 => ?_) fun h2 => ?_
   ·have h2 : countI nd.kind = -1 := by simpa using h2
    refine Sa ?_; exact QW.head () rfl (by have : kidN nd = nd.kids.length := if_pos h2; rw [this]; exact (Sub.cons rfl (Sub.cons rfl (Sub.cons rfl (Sub.cons rfl (Sub.cons rfl (Sub.cons rfl (Sub.cons rfl (Sub.nil)))))))))
   ·have h2 : ¬ countI nd.kind = -1 := by simpa using h2
    refine Sa ?_; exact QW.head () rfl (by have : kidN nd = countI nd.kind := if_neg h2; rw [this]; exact (Sub.cons rfl (Sub.cons rfl (Sub.cons rfl (Sub.cons rfl (Sub.cons rfl (Sub.cons rfl (Sub.cons rfl (Sub.nil)))))))))
  rintro _ w5 rfl; have hk0 := hk.1; refine Sa ?_; refine CW.drawHeld (fun w' => Blk w' C (nvL ⟨nd, .slice kp nd.kids.length kc⟩) 133) (fun w' h => hC.ext h) (by kernel_rfl) fun w6 hx6 => ?_; replace hC := hC.ext hx6; replace hk := hk.ext hx6; replace ho := ho.ext hx6; replace hx := hx.trans hx6; refine Sh ?_; have hdrop : l.drop i = nd :: l.drop (i + 1) := by rw [List.drop_eq_getElem_cons h1]; congr 1; rw [List.getElem?_eq_getElem h1] at hnd; exact Option.some.inj hnd
  have hstep : ¬ (kidN nd = nd.kids.length ∧ nd.kids.length ≤ st.length ∧ st.drop (st.length - nd.kids.length) = nd.kids ∧ plainB nd = true) → treeGo i st (l.drop i) = none := fun h => by rw [hdrop, treeGo, treeStep, if_neg h]
  by_cases n1 : kidN nd = nd.kids.length
  case neg =>
   refine HW.know (t := 34) (c := true) rfl (by simpa using n1) ?_; refine Sh ?_; refine HW.done (by kernel_rfl) ?_; refine Sa ?_; refine QW.body1 Tryz.results90 rfl ⟨?_, hx⟩; rw [treeB, heq, hstep (fun h => n1 h.1)]
  by_cases n2 : nd.kids.length ≤ st.length
  case neg =>
   refine HW.know (t := 34) (c := false) rfl (by simpa using n1) ?_; refine Sh ?_; refine HW.know (t := 38) (c := true) rfl (by simp; omega) ?_; refine Sh ?_; refine HW.done (by kernel_rfl) ?_; refine Sa ?_; refine QW.body1 Tryz.results90 rfl ⟨?_, hx⟩; rw [treeB, heq, hstep (fun h => n2 h.2.1)]
  refine HW.know (t := 34) (c := false) rfl (by simpa using n1) ?_; refine Sh ?_; refine HW.know (t := 38) (c := false) rfl (by simp; omega) ?_; refine Sh ?_; refine HW.takeW 12 rfl rfl rfl rfl (fun w _ => Y.slice_from (i := st.length - nd.kids.length) rfl (by show some (Value.int .i64 _) = some (Value.int .i64 _); congr 2; omega) rfl rfl rfl (by omega)) rfl (by kernel_rfl) (by kernel_rfl) (by kernel_rfl) (fun _ _ _ h => h) ?_; refine Sh ?_; refine HW.one 15 (by kernel_rfl) rfl rfl (fun hS => ?_); refine Sl ?_; refine Lc0 rfl rfl (equal_ret (st.drop (st.length - nd.kids.length)) nd.kids _ _ w6 (Own.from_ ho (by omega) (by omega)) hk) ?_; rintro v w7 ⟨rfl, hx7⟩; refine Sl ?_; apply LW.nil; replace hC := hC.ext hx7; replace hk := hk.ext hx7; replace ho := ho.ext hx7; replace hx := hx.trans hx7; refine QW.held hC ?_; by_cases n3 : st.drop (st.length - nd.kids.length) = nd.kids
  case neg =>
   refine HW.know (t := 44) (c := false) rfl (by simpa using n3) ?_; refine Sh ?_; refine HW.done (by kernel_rfl) ?_; refine Sa ?_; refine QW.body1 Tryz.results90 rfl ⟨?_, hx⟩; rw [treeB, heq, hstep (fun h => n3 h.2.2.1)]
  refine HW.know (t := 44) (c := true) rfl (by simpa using n3) ?_; refine Sh ?_; refine HW.one 20 (by kernel_rfl) rfl rfl (fun hS => ?_); refine Sl ?_; refine Lc0 rfl rfl (plain_ret nd kp nd.kids.length kc w7 (g.ext hx) hs1 hs2 hs3) ?_; rintro v w8 ⟨rfl, hx8⟩; refine Sl ?_; apply LW.nil; replace hC := hC.ext hx8; replace ho := ho.ext hx8; replace hx := hx.trans hx8; refine QW.held hC ?_; by_cases n4 : plainB nd = true
  case neg =>
   refine HW.know (t := 49) (c := false) rfl (by simpa using n4) ?_; refine Sh ?_; refine HW.done (by kernel_rfl) ?_; refine Sa ?_; refine QW.body1 Tryz.results90 rfl ⟨?_, hx⟩; rw [treeB, heq, hstep (fun h => n4 h.2.2.2)]
  refine HW.know (t := 49) (c := true) rfl n4 ?_; refine Sh ?_; refine HW.done (by kernel_rfl) ?_; refine Sa ?_; refine LW.slice_to (i := st.length - nd.kids.length) rfl (by show some (Value.int .i64 _) = some (Value.int .i64 _); congr 2; omega) (by show some (Value.int .i64 _) = some (Value.int .i64 _); congr 2; omega) rfl rfl rfl ?_ rfl ?_
  ·have := Own.cap_ ho; omega
  refine Sa ?_; refine Lwl fun B w9 hbB hx9 hB => ?_; replace ho := ho.ext hx9; replace hx := hx.trans hx9; refine LW.append_full (xs := icells (st.take (st.length - nd.kids.length))) (lo := w.heap.size) rfl rfl rfl rfl rfl (by exact rfl) ?_ (Own.cells ho (by omega)) hx.size hB (by exact rfl) (by exact rfl) (by exact rfl) ?_ rfl fun v' w10 hx10 ho10 => ?_
  ·rw [icells_len, List.length_take]; show _ = (st.length - nd.kids.length) * 1; omega
  ·show (st.length - nd.kids.length + 1) * (8 + 1) ≤ _; omega
  refine Sa ?_; obtain ⟨p', c', rfl⟩ := ho10.slice; have e1 : icells (st.take (st.length - nd.kids.length)) ++ [.int .i64 (i : Int)] = icells (st.take (st.length - nd.kids.length) ++ [(i : Int)]) := by simp [icells]
  have e2 : (st.take (st.length - nd.kids.length) ++ [(i : Int)]).length = st.length - nd.kids.length + 1 := by simp [List.length_take]
  refine QW.again (i + 1, st.take (st.length - nd.kids.length) ++ [(i : Int)], p', c') ⟨by omega, by rw [e2]; omega, hx.trans hx10, ?_, ?_⟩ ?_ (by omega)
  ·rw [heq, hdrop, treeGo, treeStep, if_pos ⟨n1, n2, n3, n4⟩]
  ·dsimp only; rw [e2, ← e1]; exact ho10
  ·dsimp only; rw [e2]; exact Sub4
 ·have h1 : i = l.length := by simp at h1; omega
  subst h1; refine Sa ?_; refine QW.body1 Tryz.results90 rfl ⟨?_, hx⟩; rw [List.drop_length] at heq; rw [treeB, heq]; have : decide ((st.length : Int) = 1) = decide (st.length = 1) := decide_eq_decide.mpr (by omega); exact congrArg Value.bool this
theorem Tree_ret (l : List NodeD) (v : Value) (w : World) (g : Glob w) (hN : NodesR w v l) (hs : Short l) : Ret Tryz.prog 90 [v] w (fun v' w' => v' = .bool (treeB l) ∧ Ext w w') := Tree_any l v w g hN hs.t
end Go.Proofs.YtgdohpcnpgjpaaaGreatDoor
