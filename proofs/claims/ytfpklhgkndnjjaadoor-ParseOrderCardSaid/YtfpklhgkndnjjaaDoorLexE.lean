/-
  Walks: the tokens of a text (lex).
-/
import Derived.Test.YtfpklhgkndnjjaaDoorLexD
import Derived.Test.YtfpklhgkndnjjaaDoorLexQ
namespace Go.Proofs.YtfpklhgkndnjjaaDoor
open Go Go.E

def byF (c : Int) : Nat := if digB c then 63 else if c = 34 then 64 else if begB c then 66 else 67
theorem by_ret (c : Int) (w : World) : Ret Tryd.prog 48 [.int .u8 c] w (fun v w' => v = .func (.func (byF c)) #[] #[] ∧ Ext w w') := by
  refine Ret.enter Tryd.func48 rfl Tryd.ntmps48 (by kernel_rfl) rfl ?_
  (repeat (first | refine La ?_ | refine Lb ?_ | refine Lc ?_ | refine Ld ?_ | refine Le ?_ | refine Lf ?_ | refine Lg ?_ | apply LW.nil | apply QW.then_n | apply QW.round | apply RW.succ | apply CW.seq | apply CW.region | apply CW.skip | apply CW.block | apply CW.ret | apply CW.exit | apply QW.then_ret | apply QW.then_exit | apply QW.blk_n | apply QW.blk_ret | apply QW.blk_exit | refine Ca ?_ | refine Cb ?_ | refine Cc ?_ | refine Lh ?_ | refine Li ?_ | refine Lj ?_ | refine Lk ?_ | refine Ll ?_))
  refine LW.call0 rfl rfl (ldigit_ret _ _) ?_
  rintro v w1 ⟨rfl, hx⟩
  (repeat (first | refine La ?_ | refine Lb ?_ | refine Lc ?_ | refine Ld ?_ | refine Le ?_ | refine Lf ?_ | refine Lg ?_ | apply LW.nil | apply QW.then_n | apply QW.round | apply RW.succ | apply CW.seq | apply CW.region | apply CW.skip | apply CW.block | apply CW.ret | apply CW.exit | apply QW.then_ret | apply QW.then_exit | apply QW.blk_n | apply QW.blk_ret | apply QW.blk_exit | refine Ca ?_ | refine Cb ?_ | refine Cc ?_ | refine Lh ?_ | refine Li ?_ | refine Lj ?_ | refine Lk ?_ | refine Ll ?_))
  refine CW.cond rfl (fun h1 => ?_) (fun h1 => ?_)
  · (repeat (first | refine La ?_ | refine Lb ?_ | refine Lc ?_ | refine Ld ?_ | refine Le ?_ | refine Lf ?_ | refine Lg ?_ | apply LW.nil | apply QW.then_n | apply QW.round | apply RW.succ | apply CW.seq | apply CW.region | apply CW.skip | apply CW.block | apply CW.ret | apply CW.exit | apply QW.then_ret | apply QW.then_exit | apply QW.blk_n | apply QW.blk_ret | apply QW.blk_exit | refine Ca ?_ | refine Cb ?_ | refine Cc ?_ | refine Lh ?_ | refine Li ?_ | refine Lj ?_ | refine Lk ?_ | refine Ll ?_))
    refine QW.body1 Tryd.results48 rfl ⟨?_, hx⟩
    simp [byF, h1]
  · (repeat (first | refine La ?_ | refine Lb ?_ | refine Lc ?_ | refine Ld ?_ | refine Le ?_ | refine Lf ?_ | refine Lg ?_ | apply LW.nil | apply QW.then_n | apply QW.round | apply RW.succ | apply CW.seq | apply CW.region | apply CW.skip | apply CW.block | apply CW.ret | apply CW.exit | apply QW.then_ret | apply QW.then_exit | apply QW.blk_n | apply QW.blk_ret | apply QW.blk_exit | refine Ca ?_ | refine Cb ?_ | refine Cc ?_ | refine Lh ?_ | refine Li ?_ | refine Lj ?_ | refine Lk ?_ | refine Ll ?_))
    refine CW.cond rfl (fun h2 => ?_) (fun h2 => ?_)
    · have h2 : c = 34 := by simpa using h2
      (repeat (first | refine La ?_ | refine Lb ?_ | refine Lc ?_ | refine Ld ?_ | refine Le ?_ | refine Lf ?_ | refine Lg ?_ | apply LW.nil | apply QW.then_n | apply QW.round | apply RW.succ | apply CW.seq | apply CW.region | apply CW.skip | apply CW.block | apply CW.ret | apply CW.exit | apply QW.then_ret | apply QW.then_exit | apply QW.blk_n | apply QW.blk_ret | apply QW.blk_exit | refine Ca ?_ | refine Cb ?_ | refine Cc ?_ | refine Lh ?_ | refine Li ?_ | refine Lj ?_ | refine Lk ?_ | refine Ll ?_))
      refine QW.body1 Tryd.results48 rfl ⟨?_, hx⟩
      rw [byF, h1, if_neg (by simp), if_pos h2]
    · have h2 : c ≠ 34 := by simpa using h2
      (repeat (first | refine La ?_ | refine Lb ?_ | refine Lc ?_ | refine Ld ?_ | refine Le ?_ | refine Lf ?_ | refine Lg ?_ | apply LW.nil | apply QW.then_n | apply QW.round | apply RW.succ | apply CW.seq | apply CW.region | apply CW.skip | apply CW.block | apply CW.ret | apply CW.exit | apply QW.then_ret | apply QW.then_exit | apply QW.blk_n | apply QW.blk_ret | apply QW.blk_exit | refine Ca ?_ | refine Cb ?_ | refine Cc ?_ | refine Lh ?_ | refine Li ?_ | refine Lj ?_ | refine Lk ?_ | refine Ll ?_))
      refine LW.call0 rfl rfl (begins_ret _ _) ?_
      rintro v w2 ⟨rfl, hx2⟩
      replace hx := hx.trans hx2
      (repeat (first | refine La ?_ | refine Lb ?_ | refine Lc ?_ | refine Ld ?_ | refine Le ?_ | refine Lf ?_ | refine Lg ?_ | apply LW.nil | apply QW.then_n | apply QW.round | apply RW.succ | apply CW.seq | apply CW.region | apply CW.skip | apply CW.block | apply CW.ret | apply CW.exit | apply QW.then_ret | apply QW.then_exit | apply QW.blk_n | apply QW.blk_ret | apply QW.blk_exit | refine Ca ?_ | refine Cb ?_ | refine Cc ?_ | refine Lh ?_ | refine Li ?_ | refine Lj ?_ | refine Lk ?_ | refine Ll ?_))
      refine CW.cond rfl (fun h3 => ?_) (fun h3 => ?_)
      all_goals
        (repeat (first | refine La ?_ | refine Lb ?_ | refine Lc ?_ | refine Ld ?_ | refine Le ?_ | refine Lf ?_ | refine Lg ?_ | apply LW.nil | apply QW.then_n | apply QW.round | apply RW.succ | apply CW.seq | apply CW.region | apply CW.skip | apply CW.block | apply CW.ret | apply CW.exit | apply QW.then_ret | apply QW.then_exit | apply QW.blk_n | apply QW.blk_ret | apply QW.blk_exit | refine Ca ?_ | refine Cb ?_ | refine Cc ?_ | refine Lh ?_ | refine Li ?_ | refine Lj ?_ | refine Lk ?_ | refine Ll ?_))
        refine QW.body1 Tryd.results48 rfl ⟨?_, hx⟩
        simp [byF, h1, h2, h3]

theorem one_ret (s : List UInt8) (hs : s.length ≤ 1000) (a : Nat) (ha : a < s.length) (b : Nat) (w0 w : World) (g : Glob w0) (h0 : Ext w0 w) (hb0 : w0.heap.size ≤ b) (hB : Blk w b [str s, .int .i64 a] 76) :
    Ret Tryd.prog (byF (byte s a)) [.pointer (some ⟨b, 0, none⟩)] w (TokR s a b w (oneO (s.drop a))) := by
  have e : byte (s.drop a) 0 = byte s a := by rw [byte_drop']; rfl
  unfold byF oneO
  rw [e]
  cases h1 : digB (byte s a)
  · by_cases h2 : byte s a = 34
    · simp only [Bool.false_eq_true, if_false, h2, if_true]
      exact textQ_ret s hs a ha b w hB
    · cases h3 : begB (byte s a)
      · simp only [Bool.false_eq_true, if_false, h2]
        exact signL_ret s hs a ha b w hB
      · simp only [Bool.false_eq_true, if_false, h2, if_true]
        exact word_ret s hs a ha b w0 w g h0 hb0 hB
  · simp only [if_true]
    exact number_ret s hs a ha h1 b w0 w g h0 hb0 hB

/-- What the tokens of a text are told as. -/
def LexV (s : List UInt8) (v : Value) (w : World) (lo : Nat) : Prop :=
  if 300 < s.length then v = .tuple #[.slice none 0 0, .int .i64 4]
  else match lexT s with
    | none => v = .tuple #[.slice none 0 0, .int .i64 5]
    | some l => ∃ sv, v = .tuple #[sv, .int .i64 0] ∧ Own w lo 47 9 sv l.length (l.flatMap tokL)

theorem own_tok {w : World} {lo : Nat} {e : TypeId} {v : Value} {out : List TokD} {t : TokD} (h : Own w lo e 9 v (out.length + 1) (out.flatMap tokL ++ tokL t)) : Own w lo e 9 v (out ++ [t]).length ((out ++ [t]).flatMap tokL) := by
  simpa using h

theorem Lex_ret (s : List UInt8) (hs : s.length ≤ 9223372036854775807) (w : World) (g : Glob w) : Ret Tryd.prog 27 [str s] w (fun v w' => LexV s v w' w.heap.size ∧ Ext w w') := by
  refine Ret.enter Tryd.func27 rfl Tryd.ntmps27 (by kernel_rfl) rfl ?_
  (repeat (first | refine La ?_ | refine Lb ?_ | refine Lc ?_ | refine Ld ?_ | refine Le ?_ | refine Lf ?_ | refine Lg ?_ | apply LW.nil | apply QW.then_n | apply QW.round | apply RW.succ | apply CW.seq | apply CW.region | apply CW.skip | apply CW.block | apply CW.ret | apply CW.exit | apply QW.then_ret | apply QW.then_exit | apply QW.blk_n | apply QW.blk_ret | apply QW.blk_exit | refine Ca ?_ | refine Cb ?_ | refine Cc ?_ | refine Lh ?_ | refine Li ?_ | refine Lj ?_ | refine Lk ?_ | refine Ll ?_))
  refine CW.cond rfl (fun h1 => ?_) (fun h1 => ?_)
  · have h1 : 300 < s.length := by simp at h1; omega
    (repeat (first | refine La ?_ | refine Lb ?_ | refine Lc ?_ | refine Ld ?_ | refine Le ?_ | refine Lf ?_ | refine Lg ?_ | apply LW.nil | apply QW.then_n | apply QW.round | apply RW.succ | apply CW.seq | apply CW.region | apply CW.skip | apply CW.block | apply CW.ret | apply CW.exit | apply QW.then_ret | apply QW.then_exit | apply QW.blk_n | apply QW.blk_ret | apply QW.blk_exit | refine Ca ?_ | refine Cb ?_ | refine Cc ?_ | refine Lh ?_ | refine Li ?_ | refine Lj ?_ | refine Lk ?_ | refine Ll ?_))
    refine QW.body2 Tryd.results27 rfl rfl ⟨?_, Chg.refl _ _⟩
    rw [LexV, if_pos h1]
  have h1 : ¬ 300 < s.length := by simp at h1; omega
  (repeat (first | refine La ?_ | refine Lb ?_ | refine Lc ?_ | refine Ld ?_ | refine Le ?_ | refine Lf ?_ | refine Lg ?_ | apply LW.nil | apply QW.then_n | apply QW.round | apply RW.succ | apply CW.seq | apply CW.region | apply CW.skip | apply CW.block | apply CW.ret | apply CW.exit | apply QW.then_ret | apply QW.then_exit | apply QW.blk_n | apply QW.blk_ret | apply QW.blk_exit | refine Ca ?_ | refine Cb ?_ | refine Cc ?_ | refine Lh ?_ | refine Li ?_ | refine Lj ?_ | refine Lk ?_ | refine Ll ?_))
  (apply LW.box; exact rfl; exact rfl; exact rfl; intro b w1 hbb hx hB)
  replace hB : Blk w1 b [str s, .int .i64 ((0 : Nat) : Int)] 76 := hB
  have hz1 : b < w1.heap.size := hB.lt
  (repeat (first | refine La ?_ | refine Lb ?_ | refine Lc ?_ | refine Ld ?_ | refine Le ?_ | refine Lf ?_ | refine Lg ?_ | apply LW.nil | apply QW.then_n | apply QW.round | apply RW.succ | apply CW.seq | apply CW.region | apply CW.skip | apply CW.block | apply CW.ret | apply CW.exit | apply QW.then_ret | apply QW.then_exit | apply QW.blk_n | apply QW.blk_ret | apply QW.blk_exit | refine Ca ?_ | refine Cb ?_ | refine Cc ?_ | refine Lh ?_ | refine Li ?_ | refine Lj ?_ | refine Lk ?_ | refine Ll ?_))
  refine CW.loop (ι := Nat × List TokD × Value) (fun k w' => k.1 ≤ s.length ∧ k.2.1.length ≤ k.1 ∧ Ext w w' ∧ w1.heap.size ≤ w'.heap.size ∧ Blk w' b [str s, .int .i64 k.1] 76 ∧ Own w' w1.heap.size 47 9 k.2.2 k.2.1.length (k.2.1.flatMap tokL) ∧ LexAt s k.1 k.2.1) (fun k => [(0, str s), (4, .pointer (some ⟨b, 0, none⟩)), (5, k.2.2)]) (fun k => s.length - k.1) (0, [], .slice none 0 0) ⟨by simp, by simp, hx, Nat.le_refl _, hB, Own.nil _ _ _ _, LexAt.start _⟩ (Sub.cons rfl (Sub.cons rfl (Sub.cons rfl (Sub.nil)))) ?_
  rintro ⟨a, out, v⟩ w2 ⟨ha, ho, hx2, hz2, hB2, hown, hla⟩
  clear hB
  simp only at ha ho hB2 hown hla
  show CW _ _ _ _ _ [(0, str s), (4, .pointer (some ⟨b, 0, none⟩)), (5, v)] _
  have hbv : b ∉ vblk v := hown.old hz1
  (repeat (first | refine La ?_ | refine Lb ?_ | refine Lc ?_ | refine Ld ?_ | refine Le ?_ | refine Lf ?_ | refine Lg ?_ | apply LW.nil | apply QW.then_n | apply QW.round | apply RW.succ | apply CW.seq | apply CW.region | apply CW.skip | apply CW.block | apply CW.ret | apply CW.exit | apply QW.then_ret | apply QW.then_exit | apply QW.blk_n | apply QW.blk_ret | apply QW.blk_exit | refine Ca ?_ | refine Cb ?_ | refine Cc ?_ | refine Lh ?_ | refine Li ?_ | refine Lj ?_ | refine Lk ?_ | refine Ll ?_))
  refine LW.call0 rfl rfl (lwhile_ret spB _ space_ret s (by omega) a (by omega) b w2 hB2) ?_
  rintro u w3 ⟨rfl, hc3, hB3⟩
  have hx3 := hx2.step hc3 (by simp; omega)
  have hz3 := hc3.size
  have hown3 := hown.chg hc3 (fun j hj hb => hbv (by simp at hb; subst hb; exact hj))
  generalize hc : a + (spanL spB (s.drop a)).length = c at hB3
  have hcl : c ≤ s.length := by
    have := span_le spB (s.drop a)
    simp at this
    omega
  (repeat (first | refine La ?_ | refine Lb ?_ | refine Lc ?_ | refine Ld ?_ | refine Le ?_ | refine Lf ?_ | refine Lg ?_ | apply LW.nil | apply QW.then_n | apply QW.round | apply RW.succ | apply CW.seq | apply CW.region | apply CW.skip | apply CW.block | apply CW.ret | apply CW.exit | apply QW.then_ret | apply QW.then_exit | apply QW.blk_n | apply QW.blk_ret | apply QW.blk_exit | refine Ca ?_ | refine Cb ?_ | refine Cc ?_ | refine Lh ?_ | refine Li ?_ | refine Lj ?_ | refine Lk ?_ | refine Ll ?_))
  refine CW.cond rfl (fun h2 => ?_) (fun h2 => ?_)
  · have h2 : c = s.length := by simp at h2; omega
    (repeat (first | refine La ?_ | refine Lb ?_ | refine Lc ?_ | refine Ld ?_ | refine Le ?_ | refine Lf ?_ | refine Lg ?_ | apply LW.nil | apply QW.then_n | apply QW.round | apply RW.succ | apply CW.seq | apply CW.region | apply CW.skip | apply CW.block | apply CW.ret | apply CW.exit | apply QW.then_ret | apply QW.then_exit | apply QW.blk_n | apply QW.blk_ret | apply QW.blk_exit | refine Ca ?_ | refine Cb ?_ | refine Cc ?_ | refine Lh ?_ | refine Li ?_ | refine Lj ?_ | refine Lk ?_ | refine Ll ?_))
    (apply LW.buildSlice; exact rfl; exact rfl; exact rfl; exact rfl; exact rfl; exact rfl; exact rfl; exact rfl; exact rfl; intro A w4 hbA hx4 hA)
    replace hA : Blk w4 A (tokL ⟨0, [], 0, refN, (s.length : Int)⟩) 47 := by rw [← h2]; exact hA
    have hz4 := hx4.size
    (repeat (first | refine La ?_ | refine Lb ?_ | refine Lc ?_ | refine Ld ?_ | refine Le ?_ | refine Lf ?_ | refine Lg ?_ | apply LW.nil | apply QW.then_n | apply QW.round | apply RW.succ | apply CW.seq | apply CW.region | apply CW.skip | apply CW.block | apply CW.ret | apply CW.exit | apply QW.then_ret | apply QW.then_exit | apply QW.blk_n | apply QW.blk_ret | apply QW.blk_exit | refine Ca ?_ | refine Cb ?_ | refine Cc ?_ | refine Lh ?_ | refine Li ?_ | refine Lj ?_ | refine Lk ?_ | refine Ll ?_))
    refine LW.append rfl rfl rfl rfl rfl rfl (hown3.ext hx4) (by omega) hA rfl rfl rfl (by show (out.length + 1) * 81 ≤ 140737488355328; omega) rfl ?_
    intro v' w5 hc5 hown5 _
    (repeat (first | refine La ?_ | refine Lb ?_ | refine Lc ?_ | refine Ld ?_ | refine Le ?_ | refine Lf ?_ | refine Lg ?_ | apply LW.nil | apply QW.then_n | apply QW.round | apply RW.succ | apply CW.seq | apply CW.region | apply CW.skip | apply CW.block | apply CW.ret | apply CW.exit | apply QW.then_ret | apply QW.then_exit | apply QW.blk_n | apply QW.blk_ret | apply QW.blk_exit | refine Ca ?_ | refine Cb ?_ | refine Cc ?_ | refine Lh ?_ | refine Li ?_ | refine Lj ?_ | refine Lk ?_ | refine Ll ?_))
    refine QW.body2 Tryd.results27 rfl rfl ⟨?_, (hx3.trans hx4).step hc5 (fun k hk => ?_)⟩
    · rw [LexV, if_neg h1, hla.end (by omega)]
      refine ⟨_, rfl, ?_⟩
      obtain ⟨hl, hh⟩ := own_tok hown5
      refine ⟨hl, ?_⟩
      rcases hh with hh | ⟨gg, cap, sp, e1, e2, e3, e4, e5⟩
      · exact .inl hh
      · exact .inr ⟨gg, cap, sp, e1, e2, e3, e4, by have := hx.size; omega⟩
    · have := (hown.lt hk).1
      have := hx.size
      omega
  have h2 : c < s.length := by simp at h2; omega
  (repeat (first | refine La ?_ | refine Lb ?_ | refine Lc ?_ | refine Ld ?_ | refine Le ?_ | refine Lf ?_ | refine Lg ?_ | apply LW.nil | apply QW.then_n | apply QW.round | apply RW.succ | apply CW.seq | apply CW.region | apply CW.skip | apply CW.block | apply CW.ret | apply CW.exit | apply QW.then_ret | apply QW.then_exit | apply QW.blk_n | apply QW.blk_ret | apply QW.blk_exit | refine Ca ?_ | refine Cb ?_ | refine Cc ?_ | refine Lh ?_ | refine Li ?_ | refine Lj ?_ | refine Lk ?_ | refine Ll ?_))
  refine LW.call0 rfl rfl (by_ret _ _) ?_
  rintro u w4 ⟨rfl, hx4⟩
  have hz4 := hx4.size
  (repeat (first | refine La ?_ | refine Lb ?_ | refine Lc ?_ | refine Ld ?_ | refine Le ?_ | refine Lf ?_ | refine Lg ?_ | apply LW.nil | apply QW.then_n | apply QW.round | apply RW.succ | apply CW.seq | apply CW.region | apply CW.skip | apply CW.block | apply CW.ret | apply CW.exit | apply QW.then_ret | apply QW.then_exit | apply QW.blk_n | apply QW.blk_ret | apply QW.blk_exit | refine Ca ?_ | refine Cb ?_ | refine Cc ?_ | refine Lh ?_ | refine Li ?_ | refine Lj ?_ | refine Lk ?_ | refine Ll ?_))
  refine LW.call (fs := []) (cs := []) rfl rfl rfl (one_ret s (by omega) c h2 b w w4 g (hx3.trans hx4) (by omega) (hB3.ext hx4)) ?_
  rintro u w5 ⟨t, ok, a', rfl, hc5, hB5, hal, hca, ho5⟩
  have hx5 := (hx3.trans hx4).step hc5 (by simp; omega)
  have hz5 := hc5.size
  have hown5 := (hown3.ext hx4).chg hc5 (fun j hj hb => hbv (by simp at hb; subst hb; exact hj))
  (repeat (first | refine La ?_ | refine Lb ?_ | refine Lc ?_ | refine Ld ?_ | refine Le ?_ | refine Lf ?_ | refine Lg ?_ | apply LW.nil | apply QW.then_n | apply QW.round | apply RW.succ | apply CW.seq | apply CW.region | apply CW.skip | apply CW.block | apply CW.ret | apply CW.exit | apply QW.then_ret | apply QW.then_exit | apply QW.blk_n | apply QW.blk_ret | apply QW.blk_exit | refine Ca ?_ | refine Cb ?_ | refine Cc ?_ | refine Lh ?_ | refine Li ?_ | refine Lj ?_ | refine Lk ?_ | refine Ll ?_))
  (apply LW.alloc; exact rfl; exact rfl; exact rfl; intro C w6 hbC hx6 hC)
  have hz6 := hx6.size
  (repeat (first | refine La ?_ | refine Lb ?_ | refine Lc ?_ | refine Ld ?_ | refine Le ?_ | refine Lf ?_ | refine Lg ?_ | apply LW.nil | apply QW.then_n | apply QW.round | apply RW.succ | apply CW.seq | apply CW.region | apply CW.skip | apply CW.block | apply CW.ret | apply CW.exit | apply QW.then_ret | apply QW.then_exit | apply QW.blk_n | apply QW.blk_ret | apply QW.blk_exit | refine Ca ?_ | refine Cb ?_ | refine Cc ?_ | refine Lh ?_ | refine Li ?_ | refine Lj ?_ | refine Lk ?_ | refine Ll ?_))
  (apply LW.store_all; exact rfl; exact rfl; exact rfl; assumption; exact rfl; exact rfl; exact rfl; intro w7 hc7 hC)
  replace hC : Blk w7 C (tokL t) 47 := hC
  have hx7 := (hx5.trans hx6).step hc7 (by simp; omega)
  have hz7 := hc7.size
  have hB7 := (hB5.ext hx6).chg hc7 (by simp; omega)
  have hown7 := (hown5.ext hx6).chg hc7 (fun j hj hb => by
    simp at hb
    have := (hown5.lt hj).2
    omega)
  (repeat (first | refine La ?_ | refine Lb ?_ | refine Lc ?_ | refine Ld ?_ | refine Le ?_ | refine Lf ?_ | refine Lg ?_ | apply LW.nil | apply QW.then_n | apply QW.round | apply RW.succ | apply CW.seq | apply CW.region | apply CW.skip | apply CW.block | apply CW.ret | apply CW.exit | apply QW.then_ret | apply QW.then_exit | apply QW.blk_n | apply QW.blk_ret | apply QW.blk_exit | refine Ca ?_ | refine Cb ?_ | refine Cc ?_ | refine Lh ?_ | refine Li ?_ | refine Lj ?_ | refine Lk ?_ | refine Ll ?_))
  cases ok with
  | false =>
    (repeat (first | refine La ?_ | refine Lb ?_ | refine Lc ?_ | refine Ld ?_ | refine Le ?_ | refine Lf ?_ | refine Lg ?_ | apply LW.nil | apply QW.then_n | apply QW.round | apply RW.succ | apply CW.seq | apply CW.region | apply CW.skip | apply CW.block | apply CW.ret | apply CW.exit | apply QW.then_ret | apply QW.then_exit | apply QW.blk_n | apply QW.blk_ret | apply QW.blk_exit | refine Ca ?_ | refine Cb ?_ | refine Cc ?_ | refine Lh ?_ | refine Li ?_ | refine Lj ?_ | refine Lk ?_ | refine Ll ?_))
    refine QW.body2 Tryd.results27 rfl rfl ⟨?_, hx7⟩
    rw [LexV, if_neg h1, hla.bad hc h2 (by simpa using ho5)]
  | true =>
    have ho5 : oneO (s.drop c) = some (t, a' - c) := by simpa using ho5
    have hpos := oneO_pos (by intro hn; have := congrArg List.length hn; simp at this; omega) ho5
    (repeat (first | refine La ?_ | refine Lb ?_ | refine Lc ?_ | refine Ld ?_ | refine Le ?_ | refine Lf ?_ | refine Lg ?_ | apply LW.nil | apply QW.then_n | apply QW.round | apply RW.succ | apply CW.seq | apply CW.region | apply CW.skip | apply CW.block | apply CW.ret | apply CW.exit | apply QW.then_ret | apply QW.then_exit | apply QW.blk_n | apply QW.blk_ret | apply QW.blk_exit | refine Ca ?_ | refine Cb ?_ | refine Cc ?_ | refine Lh ?_ | refine Li ?_ | refine Lj ?_ | refine Lk ?_ | refine Ll ?_))
    (apply LW.store; exact rfl; exact rfl; exact rfl; assumption; exact rfl; exact rfl; exact rfl; intro w8 hc8 hC)
    replace hC : Blk w8 C (tokL { t with at_ := (c : Int) }) 47 := hC
    have hx8 := hx7.step hc8 (by simp; omega)
    have hz8 := hc8.size
    have hB8 := hB7.chg hc8 (by simp; omega)
    have hown8 := hown7.chg hc8 (fun j hj hb => by
      simp at hb
      have := (hown5.lt hj).2
      omega)
    (repeat (first | refine La ?_ | refine Lb ?_ | refine Lc ?_ | refine Ld ?_ | refine Le ?_ | refine Lf ?_ | refine Lg ?_ | apply LW.nil | apply QW.then_n | apply QW.round | apply RW.succ | apply CW.seq | apply CW.region | apply CW.skip | apply CW.block | apply CW.ret | apply CW.exit | apply QW.then_ret | apply QW.then_exit | apply QW.blk_n | apply QW.blk_ret | apply QW.blk_exit | refine Ca ?_ | refine Cb ?_ | refine Cc ?_ | refine Lh ?_ | refine Li ?_ | refine Lj ?_ | refine Lk ?_ | refine Ll ?_))
    (apply LW.buildSlice; exact rfl; exact rfl; exact rfl; exact rfl; exact rfl; exact rfl; exact rfl; exact rfl; exact rfl; intro A w9 hbA hx9 hA)
    replace hA : Blk w9 A (tokL { t with at_ := (c : Int) }) 47 := hA
    have hz9 := hx9.size
    (repeat (first | refine La ?_ | refine Lb ?_ | refine Lc ?_ | refine Ld ?_ | refine Le ?_ | refine Lf ?_ | refine Lg ?_ | apply LW.nil | apply QW.then_n | apply QW.round | apply RW.succ | apply CW.seq | apply CW.region | apply CW.skip | apply CW.block | apply CW.ret | apply CW.exit | apply QW.then_ret | apply QW.then_exit | apply QW.blk_n | apply QW.blk_ret | apply QW.blk_exit | refine Ca ?_ | refine Cb ?_ | refine Cc ?_ | refine Lh ?_ | refine Li ?_ | refine Lj ?_ | refine Lk ?_ | refine Ll ?_))
    refine LW.append rfl rfl rfl rfl rfl rfl (hown8.ext hx9) (by omega) hA rfl rfl rfl (by show (out.length + 1) * 81 ≤ 140737488355328; omega) rfl ?_
    intro v' w10 hc10 hown10 _
    have hz10 := hc10.size
    (repeat (first | refine La ?_ | refine Lb ?_ | refine Lc ?_ | refine Ld ?_ | refine Le ?_ | refine Lf ?_ | refine Lg ?_ | apply LW.nil | apply QW.then_n | apply QW.round | apply RW.succ | apply CW.seq | apply CW.region | apply CW.skip | apply CW.block | apply CW.ret | apply CW.exit | apply QW.then_ret | apply QW.then_exit | apply QW.blk_n | apply QW.blk_ret | apply QW.blk_exit | refine Ca ?_ | refine Cb ?_ | refine Cc ?_ | refine Lh ?_ | refine Li ?_ | refine Lj ?_ | refine Lk ?_ | refine Ll ?_))
    refine QW.again (a', out ++ [{ t with at_ := (c : Int) }], v') ⟨hal, by simp; omega, ?_, by omega, ?_, own_tok hown10, ?_⟩ (Sub.cons rfl (Sub.cons rfl (Sub.cons rfl (Sub.nil)))) (by show s.length - a' < s.length - a; omega)
    · refine (hx8.trans hx9).step hc10 (fun k hk => ?_)
      have := (hown.lt hk).1
      omega
    · exact (hB8.ext hx9).chg hc10 hbv
    · have := hla.go hc h2 ho5
      rwa [show c + (a' - c) = a' by omega] at this
end Go.Proofs.YtfpklhgkndnjjaaDoor
