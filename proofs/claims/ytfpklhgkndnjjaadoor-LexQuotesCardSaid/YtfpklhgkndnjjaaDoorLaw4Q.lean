/-
  The laws of layer 4: texts between signs.
-/
import Derived.Test.YtfpklhgkndnjjaaDoorLaw4
namespace Go.Proofs.YtfpklhgkndnjjaaDoor
open Go Go.E

/-- A text with each of its signs twice. -/
def dblL : List UInt8 → List UInt8
  | [] => []
  | c :: r => if c = 34 then c :: c :: dblL r else c :: dblL r
def lowB (l : List UInt8) : Bool := l.any fun c => decide ((c.toNat : Int) < 32)

theorem dbl_append : ∀ a b : List UInt8, dblL (a ++ b) = dblL a ++ dblL b
  | [], b => rfl
  | c :: a, b => by
    simp only [List.cons_append, dblL, dbl_append a b]
    split <;> simp
theorem dbl_len : ∀ l : List UInt8, (dblL l).length ≤ 2 * l.length
  | [] => by simp [dblL]
  | c :: r => by
    have := dbl_len r
    simp only [dblL]
    split <;> simp <;> omega
theorem dbl_take {s : List UInt8} {i : Nat} (h : i < s.length) : dblL (s.take (i + 1)) = dblL (s.take i) ++ (if byte s i = 34 then [34, 34] else [ch (byte s i)]) := by
  rw [take_byte h, dbl_append]
  congr 1
  have e : ((ch (byte s i)).toNat : Int) = byte s i := ch_toNat (byte_lt s i).1 (by have := byte_lt s i; omega)
  by_cases hb : byte s i = 34
  · rw [if_pos hb, hb]; rfl
  · have : ch (byte s i) ≠ 34 := fun hh => hb (by rw [← e, hh]; rfl)
    rw [if_neg hb]
    simp [dblL, this]
theorem low_take {s : List UInt8} {i : Nat} (h : i < s.length) : lowB (s.take (i + 1)) = (lowB (s.take i) || decide (byte s i < 32)) := by
  rw [take_byte h, lowB, List.any_append]
  have e : ((ch (byte s i)).toNat : Int) = byte s i := ch_toNat (byte_lt s i).1 (by have := byte_lt s i; omega)
  simp [e, lowB]

theorem scan_dbl : ∀ l : List UInt8, scanT (dblL l ++ [34]) = if lowB l then none else some (l, (dblL l).length + 1)
  | [] => rfl
  | c :: r => by
    have ih := scan_dbl r
    by_cases hc : c = 34
    · subst hc
      have hl : lowB (34 :: r) = lowB r := by simp [lowB]
      have e : dblL (34 :: r) ++ [34] = 34 :: 34 :: (dblL r ++ [34]) := by simp [dblL]
      rw [e, hl]
      simp only [scanT, if_true, ih]
      cases lowB r <;> simp [dblL]
    · have e : dblL (c :: r) = c :: dblL r := by simp [dblL, hc]
      rw [e]
      have hl : lowB (c :: r) = (decide (c < 32) || lowB r) := by
        have : decide ((c.toNat : Int) < 32) = decide (c < 32) := by
          rw [decide_eq_decide, UInt8.lt_iff_toNat_lt]
          simp
          omega
        simp [lowB, this]
      rw [hl]
      cases hX : dblL r ++ [34] with
      | nil => simp at hX
      | cons d x =>
        rw [hX] at ih
        simp only [List.cons_append, hX, scanT, hc, if_false]
        by_cases h32 : c < 32
        · simp [h32]
        · rw [ih]
          cases hlr : lowB r <;> simp [h32]
theorem lex_dbl (s : List UInt8) : lexT ([34] ++ dblL s ++ [34]) = if lowB s then none else some [⟨2, s, 0, refN, 0⟩, ⟨0, [], 0, refN, ((dblL s).length + 2 : Nat)⟩] := by
  have h0 := LexAt.start ([34] ++ dblL s ++ [34])
  have hs := scan_dbl s
  have ho : oneO ((([34] ++ dblL s ++ [34]).drop 0)) = if lowB s then none else some (⟨2, s, 0, refN, 0⟩, (dblL s).length + 2) := by
    show textO _ = _
    have e : (([34] ++ dblL s ++ [34]).drop 0).drop 1 = dblL s ++ [34] := by simp
    rw [textO, e, hs]
    cases lowB s <;> simp
  have hl : ([34] ++ dblL s ++ [34]).length = (dblL s).length + 2 := by simp
  have hsp : 0 + (spanL spB (([34] ++ dblL s ++ [34]).drop 0)).length = 0 := by rfl
  cases h : lowB s with
  | true =>
    rw [h] at ho
    exact h0.bad hsp (by rw [hl]; omega) ho
  | false =>
    rw [h] at ho
    have h1 := h0.go hsp (by rw [hl]; omega) ho
    have := h1.end (by
      rw [List.drop_eq_nil_of_le (by rw [hl]; omega), hl]
      simp [spanL])
    rw [this, hl]
    rfl

theorem LexQuotes_ret (s : List UInt8) (hs : s.length ≤ 9223372036854775807) (w : World) (g : Glob w) : Ret Tryd.prog 8 [str s] w (fun v w' => v = .bool true ∧ Ext w w') := by
  refine Ret.enter Tryd.func8 rfl Tryd.ntmps8 (by kernel_rfl) rfl ?_
  (repeat (first | refine La ?_ | refine Lb ?_ | refine Lc ?_ | refine Ld ?_ | refine Le ?_ | refine Lf ?_ | refine Lg ?_ | apply LW.nil | apply QW.then_n | apply QW.round | apply RW.succ | apply CW.seq | apply CW.region | apply CW.skip | apply CW.block | apply CW.ret | apply CW.exit | apply QW.then_ret | apply QW.then_exit | apply QW.blk_n | apply QW.blk_ret | apply QW.blk_exit | refine Ca ?_ | refine Cb ?_ | refine Cc ?_ | refine Lh ?_ | refine Li ?_ | refine Lj ?_ | refine Lk ?_ | refine Ll ?_))
  refine CW.cond rfl (fun ha => ?_) (fun ha => ?_)
  · (repeat (first | refine La ?_ | refine Lb ?_ | refine Lc ?_ | refine Ld ?_ | refine Le ?_ | refine Lf ?_ | refine Lg ?_ | apply LW.nil | apply QW.then_n | apply QW.round | apply RW.succ | apply CW.seq | apply CW.region | apply CW.skip | apply CW.block | apply CW.ret | apply CW.exit | apply QW.then_ret | apply QW.then_exit | apply QW.blk_n | apply QW.blk_ret | apply QW.blk_exit | refine Ca ?_ | refine Cb ?_ | refine Cc ?_ | refine Lh ?_ | refine Li ?_ | refine Lj ?_ | refine Lk ?_ | refine Ll ?_))
    refine LW.call0 rfl rfl (awake4_ret w g) ?_
    rintro v w2 ⟨rfl, hx2⟩
    (repeat (first | refine La ?_ | refine Lb ?_ | refine Lc ?_ | refine Ld ?_ | refine Le ?_ | refine Lf ?_ | refine Lg ?_ | apply LW.nil | apply QW.then_n | apply QW.round | apply RW.succ | apply CW.seq | apply CW.region | apply CW.skip | apply CW.block | apply CW.ret | apply CW.exit | apply QW.then_ret | apply QW.then_exit | apply QW.blk_n | apply QW.blk_ret | apply QW.blk_exit | refine Ca ?_ | refine Cb ?_ | refine Cc ?_ | refine Lh ?_ | refine Li ?_ | refine Lj ?_ | refine Lk ?_ | refine Ll ?_))
    exact QW.body1 Tryd.results8 rfl ⟨rfl, hx2⟩
  have ha : s.length ≤ 100 := by simp at ha; omega
  (repeat (first | refine La ?_ | refine Lb ?_ | refine Lc ?_ | refine Ld ?_ | refine Le ?_ | refine Lf ?_ | refine Lg ?_ | apply LW.nil | apply QW.then_n | apply QW.round | apply RW.succ | apply CW.seq | apply CW.region | apply CW.skip | apply CW.block | apply CW.ret | apply CW.exit | apply QW.then_ret | apply QW.then_exit | apply QW.blk_n | apply QW.blk_ret | apply QW.blk_exit | refine Ca ?_ | refine Cb ?_ | refine Cc ?_ | refine Lh ?_ | refine Li ?_ | refine Lj ?_ | refine Lk ?_ | refine Ll ?_))
  refine CW.loop (ι := Nat) (fun k w' => k ≤ s.length ∧ w' = w) (fun k => [(0, str s), (3, str (dblL (s.take k))), (4, .bool (lowB (s.take k))), (5, .int .i64 k)]) (fun k => s.length - k) 0 ⟨by omega, rfl⟩ (Sub.cons rfl (Sub.cons rfl (Sub.cons rfl (Sub.cons rfl (Sub.nil))))) ?_
  rintro k w' ⟨hk, rfl⟩
  have hdl := dbl_len (s.take k)
  have hlt : (s.take k).length ≤ k := by simp; omega
  (repeat (first | refine La ?_ | refine Lb ?_ | refine Lc ?_ | refine Ld ?_ | refine Le ?_ | refine Lf ?_ | refine Lg ?_ | apply LW.nil | apply QW.then_n | apply QW.round | apply RW.succ | apply CW.seq | apply CW.region | apply CW.skip | apply CW.block | apply CW.ret | apply CW.exit | apply QW.then_ret | apply QW.then_exit | apply QW.blk_n | apply QW.blk_ret | apply QW.blk_exit | refine Ca ?_ | refine Cb ?_ | refine Cc ?_ | refine Lh ?_ | refine Li ?_ | refine Lj ?_ | refine Lk ?_ | refine Ll ?_))
  refine CW.cond rfl (fun h1 => ?_) (fun h1 => ?_)
  · have h1 : k < s.length := by simpa using h1
    have hnx := dbl_take h1
    have hlx := low_take h1
    have hc1 : cut s k (k + 1) = [ch (byte s k)] := by
      rw [cut_mid, take_byte h1, List.drop_append_of_le_length (by simp; omega), take_drop_self]
      rfl
    (repeat (first | refine La ?_ | refine Lb ?_ | refine Lc ?_ | refine Ld ?_ | refine Le ?_ | refine Lf ?_ | refine Lg ?_ | apply LW.nil | apply QW.then_n | apply QW.round | apply RW.succ | apply CW.seq | apply CW.region | apply CW.skip | apply CW.block | apply CW.ret | apply CW.exit | apply QW.then_ret | apply QW.then_exit | apply QW.blk_n | apply QW.blk_ret | apply QW.blk_exit | refine Ca ?_ | refine Cb ?_ | refine Cc ?_ | refine Lh ?_ | refine Li ?_ | refine Lj ?_ | refine Lk ?_ | refine Ll ?_))
    refine LW.part rfl rfl rfl (fun h2 => ?_) (fun h2 => ?_)
    · have h2 : lowB (s.take k) = true := h2
      rw [h2, Bool.true_or] at hlx
      (repeat (first | refine La ?_ | refine Lb ?_ | refine Lc ?_ | refine Ld ?_ | refine Le ?_ | refine Lf ?_ | refine Lg ?_ | apply LW.nil | apply QW.then_n | apply QW.round | apply RW.succ | apply CW.seq | apply CW.region | apply CW.skip | apply CW.block | apply CW.ret | apply CW.exit | apply QW.then_ret | apply QW.then_exit | apply QW.blk_n | apply QW.blk_ret | apply QW.blk_exit | refine Ca ?_ | refine Cb ?_ | refine Cc ?_ | refine Lh ?_ | refine Li ?_ | refine Lj ?_ | refine Lk ?_ | refine Ll ?_ | refine Lm ?_))
      refine CW.cond rfl (fun h3 => ?_) (fun h3 => ?_)
      · have h3 : byte s k = 34 := by simpa using h3
        rw [if_pos h3] at hnx
        (repeat (first | refine La ?_ | refine Lb ?_ | refine Lc ?_ | refine Ld ?_ | refine Le ?_ | refine Lf ?_ | refine Lg ?_ | apply LW.nil | apply QW.then_n | apply QW.round | apply RW.succ | apply CW.seq | apply CW.region | apply CW.skip | apply CW.block | apply CW.ret | apply CW.exit | apply QW.then_ret | apply QW.then_exit | apply QW.blk_n | apply QW.blk_ret | apply QW.blk_exit | refine Ca ?_ | refine Cb ?_ | refine Cc ?_ | refine Lh ?_ | refine Li ?_ | refine Lj ?_ | refine Lk ?_ | refine Ll ?_ | refine Lm ?_))
        refine LW.go rfl rfl (by show _ + (cut s k (k + 1)).length ≤ _; rw [hc1]; simp; omega) ?_
        (repeat (first | refine La ?_ | refine Lb ?_ | refine Lc ?_ | refine Ld ?_ | refine Le ?_ | refine Lf ?_ | refine Lg ?_ | apply LW.nil | apply QW.then_n | apply QW.round | apply RW.succ | apply CW.seq | apply CW.region | apply CW.skip | apply CW.block | apply CW.ret | apply CW.exit | apply QW.then_ret | apply QW.then_exit | apply QW.blk_n | apply QW.blk_ret | apply QW.blk_exit | refine Ca ?_ | refine Cb ?_ | refine Cc ?_ | refine Lh ?_ | refine Li ?_ | refine Lj ?_ | refine Lk ?_ | refine Ll ?_ | refine Lm ?_))
        refine QW.again (k + 1) ⟨by omega, rfl⟩ (Sub.cons rfl (Sub.cons ?_ (Sub.cons ?_ (Sub.cons rfl Sub.nil)))) (by omega)
        · rw [hnx]
          show some (str ((dblL (s.take k) ++ [34]) ++ cut s k (k + 1))) = _
          rw [hc1, h3, List.append_assoc]
          rfl
        · rw [hlx]
          rfl
      · have h3 : byte s k ≠ 34 := by simpa using h3
        rw [if_neg h3] at hnx
        (repeat (first | refine La ?_ | refine Lb ?_ | refine Lc ?_ | refine Ld ?_ | refine Le ?_ | refine Lf ?_ | refine Lg ?_ | apply LW.nil | apply QW.then_n | apply QW.round | apply RW.succ | apply CW.seq | apply CW.region | apply CW.skip | apply CW.block | apply CW.ret | apply CW.exit | apply QW.then_ret | apply QW.then_exit | apply QW.blk_n | apply QW.blk_ret | apply QW.blk_exit | refine Ca ?_ | refine Cb ?_ | refine Cc ?_ | refine Lh ?_ | refine Li ?_ | refine Lj ?_ | refine Lk ?_ | refine Ll ?_ | refine Lm ?_))
        refine LW.go rfl rfl (by show _ + (cut s k (k + 1)).length ≤ _; rw [hc1]; simp; omega) ?_
        (repeat (first | refine La ?_ | refine Lb ?_ | refine Lc ?_ | refine Ld ?_ | refine Le ?_ | refine Lf ?_ | refine Lg ?_ | apply LW.nil | apply QW.then_n | apply QW.round | apply RW.succ | apply CW.seq | apply CW.region | apply CW.skip | apply CW.block | apply CW.ret | apply CW.exit | apply QW.then_ret | apply QW.then_exit | apply QW.blk_n | apply QW.blk_ret | apply QW.blk_exit | refine Ca ?_ | refine Cb ?_ | refine Cc ?_ | refine Lh ?_ | refine Li ?_ | refine Lj ?_ | refine Lk ?_ | refine Ll ?_ | refine Lm ?_))
        refine QW.again (k + 1) ⟨by omega, rfl⟩ (Sub.cons rfl (Sub.cons ?_ (Sub.cons ?_ (Sub.cons rfl Sub.nil)))) (by omega)
        · rw [hnx]
          show some (str (dblL (s.take k) ++ cut s k (k + 1))) = _
          rw [hc1]
        · rw [hlx]
          rfl
    · have h2 : lowB (s.take k) = false := h2
      rw [h2, Bool.false_or] at hlx
      (repeat (first | refine La ?_ | refine Lb ?_ | refine Lc ?_ | refine Ld ?_ | refine Le ?_ | refine Lf ?_ | refine Lg ?_ | apply LW.nil | apply QW.then_n | apply QW.round | apply RW.succ | apply CW.seq | apply CW.region | apply CW.skip | apply CW.block | apply CW.ret | apply CW.exit | apply QW.then_ret | apply QW.then_exit | apply QW.blk_n | apply QW.blk_ret | apply QW.blk_exit | refine Ca ?_ | refine Cb ?_ | refine Cc ?_ | refine Lh ?_ | refine Li ?_ | refine Lj ?_ | refine Lk ?_ | refine Ll ?_ | refine Lm ?_))
      refine CW.cond rfl (fun h3 => ?_) (fun h3 => ?_)
      · have h3 : byte s k = 34 := by simpa using h3
        rw [if_pos h3] at hnx
        (repeat (first | refine La ?_ | refine Lb ?_ | refine Lc ?_ | refine Ld ?_ | refine Le ?_ | refine Lf ?_ | refine Lg ?_ | apply LW.nil | apply QW.then_n | apply QW.round | apply RW.succ | apply CW.seq | apply CW.region | apply CW.skip | apply CW.block | apply CW.ret | apply CW.exit | apply QW.then_ret | apply QW.then_exit | apply QW.blk_n | apply QW.blk_ret | apply QW.blk_exit | refine Ca ?_ | refine Cb ?_ | refine Cc ?_ | refine Lh ?_ | refine Li ?_ | refine Lj ?_ | refine Lk ?_ | refine Ll ?_ | refine Lm ?_))
        refine LW.go rfl rfl (by show _ + (cut s k (k + 1)).length ≤ _; rw [hc1]; simp; omega) ?_
        (repeat (first | refine La ?_ | refine Lb ?_ | refine Lc ?_ | refine Ld ?_ | refine Le ?_ | refine Lf ?_ | refine Lg ?_ | apply LW.nil | apply QW.then_n | apply QW.round | apply RW.succ | apply CW.seq | apply CW.region | apply CW.skip | apply CW.block | apply CW.ret | apply CW.exit | apply QW.then_ret | apply QW.then_exit | apply QW.blk_n | apply QW.blk_ret | apply QW.blk_exit | refine Ca ?_ | refine Cb ?_ | refine Cc ?_ | refine Lh ?_ | refine Li ?_ | refine Lj ?_ | refine Lk ?_ | refine Ll ?_ | refine Lm ?_))
        refine QW.again (k + 1) ⟨by omega, rfl⟩ (Sub.cons rfl (Sub.cons ?_ (Sub.cons ?_ (Sub.cons rfl Sub.nil)))) (by omega)
        · rw [hnx]
          show some (str ((dblL (s.take k) ++ [34]) ++ cut s k (k + 1))) = _
          rw [hc1, h3, List.append_assoc]
          rfl
        · rw [hlx]
          rfl
      · have h3 : byte s k ≠ 34 := by simpa using h3
        rw [if_neg h3] at hnx
        (repeat (first | refine La ?_ | refine Lb ?_ | refine Lc ?_ | refine Ld ?_ | refine Le ?_ | refine Lf ?_ | refine Lg ?_ | apply LW.nil | apply QW.then_n | apply QW.round | apply RW.succ | apply CW.seq | apply CW.region | apply CW.skip | apply CW.block | apply CW.ret | apply CW.exit | apply QW.then_ret | apply QW.then_exit | apply QW.blk_n | apply QW.blk_ret | apply QW.blk_exit | refine Ca ?_ | refine Cb ?_ | refine Cc ?_ | refine Lh ?_ | refine Li ?_ | refine Lj ?_ | refine Lk ?_ | refine Ll ?_ | refine Lm ?_))
        refine LW.go rfl rfl (by show _ + (cut s k (k + 1)).length ≤ _; rw [hc1]; simp; omega) ?_
        (repeat (first | refine La ?_ | refine Lb ?_ | refine Lc ?_ | refine Ld ?_ | refine Le ?_ | refine Lf ?_ | refine Lg ?_ | apply LW.nil | apply QW.then_n | apply QW.round | apply RW.succ | apply CW.seq | apply CW.region | apply CW.skip | apply CW.block | apply CW.ret | apply CW.exit | apply QW.then_ret | apply QW.then_exit | apply QW.blk_n | apply QW.blk_ret | apply QW.blk_exit | refine Ca ?_ | refine Cb ?_ | refine Cc ?_ | refine Lh ?_ | refine Li ?_ | refine Lj ?_ | refine Lk ?_ | refine Ll ?_ | refine Lm ?_))
        refine QW.again (k + 1) ⟨by omega, rfl⟩ (Sub.cons rfl (Sub.cons ?_ (Sub.cons ?_ (Sub.cons rfl Sub.nil)))) (by omega)
        · rw [hnx]
          show some (str (dblL (s.take k) ++ cut s k (k + 1))) = _
          rw [hc1]
        · rw [hlx]
          rfl
  have h1 : k = s.length := by simp at h1; omega
  subst h1
  rw [List.take_length] at hdl ⊢
  have hl2 : ([34] ++ dblL s ++ [34]).length = (dblL s).length + 2 := by simp
  (repeat (first | refine La ?_ | refine Lb ?_ | refine Lc ?_ | refine Ld ?_ | refine Le ?_ | refine Lf ?_ | refine Lg ?_ | apply LW.nil | apply QW.then_n | apply QW.round | apply RW.succ | apply CW.seq | apply CW.region | apply CW.skip | apply CW.block | apply CW.ret | apply CW.exit | apply QW.then_ret | apply QW.then_exit | apply QW.blk_n | apply QW.blk_ret | apply QW.blk_exit | refine Ca ?_ | refine Cb ?_ | refine Cc ?_ | refine Lh ?_ | refine Li ?_ | refine Lj ?_ | refine Lk ?_ | refine Ll ?_ | refine Lm ?_))
  refine LW.call0 rfl rfl (Lex_ret ([34] ++ dblL s ++ [34]) (by omega) w' g) ?_
  rintro v w1 ⟨hv, hx⟩
  rw [LexV, if_neg (by omega), lex_dbl] at hv
  cases hlow : lowB s with
  | true =>
    rw [hlow] at hv
    subst hv
    (repeat (first | refine La ?_ | refine Lb ?_ | refine Lc ?_ | refine Ld ?_ | refine Le ?_ | refine Lf ?_ | refine Lg ?_ | apply LW.nil | apply QW.then_n | apply QW.round | apply RW.succ | apply CW.seq | apply CW.region | apply CW.skip | apply CW.block | apply CW.ret | apply CW.exit | apply QW.then_ret | apply QW.then_exit | apply QW.blk_n | apply QW.blk_ret | apply QW.blk_exit | refine Ca ?_ | refine Cb ?_ | refine Cc ?_ | refine Lh ?_ | refine Li ?_ | refine Lj ?_ | refine Lk ?_ | refine Ll ?_ | refine Lm ?_))
    refine LW.call0 rfl rfl (Num_ret 5 w1) ?_
    rintro v w2 ⟨rfl, hx2⟩
    (repeat (first | refine La ?_ | refine Lb ?_ | refine Lc ?_ | refine Ld ?_ | refine Le ?_ | refine Lf ?_ | refine Lg ?_ | apply LW.nil | apply QW.then_n | apply QW.round | apply RW.succ | apply CW.seq | apply CW.region | apply CW.skip | apply CW.block | apply CW.ret | apply CW.exit | apply QW.then_ret | apply QW.then_exit | apply QW.blk_n | apply QW.blk_ret | apply QW.blk_exit | refine Ca ?_ | refine Cb ?_ | refine Cc ?_ | refine Lh ?_ | refine Li ?_ | refine Lj ?_ | refine Lk ?_ | refine Ll ?_))
    refine LW.call0 rfl rfl (awake4_ret w2 (g.ext (hx.trans hx2))) ?_
    rintro v w3 ⟨rfl, hx3⟩
    (repeat (first | refine La ?_ | refine Lb ?_ | refine Lc ?_ | refine Ld ?_ | refine Le ?_ | refine Lf ?_ | refine Lg ?_ | apply LW.nil | apply QW.then_n | apply QW.round | apply RW.succ | apply CW.seq | apply CW.region | apply CW.skip | apply CW.block | apply CW.ret | apply CW.exit | apply QW.then_ret | apply QW.then_exit | apply QW.blk_n | apply QW.blk_ret | apply QW.blk_exit | refine Ca ?_ | refine Cb ?_ | refine Cc ?_ | refine Lh ?_ | refine Li ?_ | refine Lj ?_ | refine Lk ?_ | refine Ll ?_))
    exact QW.body1 Tryd.results8 rfl ⟨rfl, (hx.trans hx2).trans hx3⟩
  | false =>
    rw [hlow] at hv
    obtain ⟨sv, rfl, hown⟩ := hv
    obtain ⟨b, cap, sp, rfl, hB, hlo⟩ := hown.get (by simp)
    (repeat (first | refine La ?_ | refine Lb ?_ | refine Lc ?_ | refine Ld ?_ | refine Le ?_ | refine Lf ?_ | refine Lg ?_ | apply LW.nil | apply QW.then_n | apply QW.round | apply RW.succ | apply CW.seq | apply CW.region | apply CW.skip | apply CW.block | apply CW.ret | apply CW.exit | apply QW.then_ret | apply QW.then_exit | apply QW.blk_n | apply QW.blk_ret | apply QW.blk_exit | refine Ca ?_ | refine Cb ?_ | refine Cc ?_ | refine Lh ?_ | refine Li ?_ | refine Lj ?_ | refine Lk ?_ | refine Ll ?_ | refine Lm ?_))
    refine LW.call0 rfl rfl (Num_ret 0 w1) ?_
    rintro v w2 ⟨rfl, hx2⟩
    replace hB := hB.ext hx2
    (repeat (first | refine La ?_ | refine Lb ?_ | refine Lc ?_ | refine Ld ?_ | refine Le ?_ | refine Lf ?_ | refine Lg ?_ | apply LW.nil | apply QW.then_n | apply QW.round | apply RW.succ | apply CW.seq | apply CW.region | apply CW.skip | apply CW.block | apply CW.ret | apply CW.exit | apply QW.then_ret | apply QW.then_exit | apply QW.blk_n | apply QW.blk_ret | apply QW.blk_exit | refine Ca ?_ | refine Cb ?_ | refine Cc ?_ | refine Lh ?_ | refine Li ?_ | refine Lj ?_ | refine Lk ?_ | refine Ll ?_ | refine Lm ?_))
    refine LW.know (t := 75) (c := true) rfl (by simp) ?_
    (repeat (first | refine La ?_ | refine Lb ?_ | refine Lc ?_ | refine Ld ?_ | refine Le ?_ | refine Lf ?_ | refine Lg ?_ | apply LW.nil | apply QW.then_n | apply QW.round | apply RW.succ | apply CW.seq | apply CW.region | apply CW.skip | apply CW.block | apply CW.ret | apply CW.exit | apply QW.then_ret | apply QW.then_exit | apply QW.blk_n | apply QW.blk_ret | apply QW.blk_exit | refine Ca ?_ | refine Cb ?_ | refine Cc ?_ | refine Lh ?_ | refine Li ?_ | refine Lj ?_ | refine Lk ?_ | refine Ll ?_ | refine Lm ?_))
    refine LW.call0 rfl rfl (awake4_ret w2 (g.ext (hx.trans hx2))) ?_
    rintro v w3 ⟨rfl, hx3⟩
    (repeat (first | refine La ?_ | refine Lb ?_ | refine Lc ?_ | refine Ld ?_ | refine Le ?_ | refine Lf ?_ | refine Lg ?_ | apply LW.nil | apply QW.then_n | apply QW.round | apply RW.succ | apply CW.seq | apply CW.region | apply CW.skip | apply CW.block | apply CW.ret | apply CW.exit | apply QW.then_ret | apply QW.then_exit | apply QW.blk_n | apply QW.blk_ret | apply QW.blk_exit | refine Ca ?_ | refine Cb ?_ | refine Cc ?_ | refine Lh ?_ | refine Li ?_ | refine Lj ?_ | refine Lk ?_ | refine Ll ?_))
    exact QW.body1 Tryd.results8 rfl ⟨rfl, (hx.trans hx2).trans hx3⟩
end Go.Proofs.YtfpklhgkndnjjaaDoor
