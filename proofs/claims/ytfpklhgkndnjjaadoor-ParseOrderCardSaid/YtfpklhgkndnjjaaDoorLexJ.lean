/-
  Walks: the document's tokens of a text.
-/
import Derived.Test.YtfpklhgkndnjjaaDoorLexI
namespace Go.Proofs.YtfpklhgkndnjjaaDoor
open Go Go.E

theorem dead_is (s : List UInt8) (a : Nat) : Lib.hasPrefix (s.drop a) deadT = decide (cut s a (a + 5) = deadT) := by
  have e : cut s a (a + 5) = (s.drop a).take 5 := by simp [cut]
  rw [Bool.eq_iff_iff, decide_eq_true_eq, e]
  show List.isPrefixOf deadT (s.drop a) = true ↔ _
  rw [List.isPrefixOf_iff_prefix, List.prefix_iff_eq_take]
  exact eq_comm
theorem dead_short {s : List UInt8} {a : Nat} (h : s.length < a + 5) (ha : a < s.length) : Lib.hasPrefix (s.drop a) deadT = false := by
  cases hp : Lib.hasPrefix (s.drop a) deadT
  · rfl
  · have := pre_le hp
    have h5 : deadT.length = 5 := rfl
    simp at this
    omega
theorem dead_first {l : List UInt8} (h : byte l 0 ≠ 35) : Lib.hasPrefix l deadT = false := by
  cases l with
  | nil => rfl
  | cons c r =>
    have hc : c ≠ 35 := by
      rintro rfl
      exact h rfl
    simp [Lib.hasPrefix, deadT, List.isPrefixOf]
    exact fun e => absurd e.symm hc
theorem sign_35 {l : List UInt8} (hl : l ≠ []) (h : byte l 0 = 35) : signsT.find? (fun s => Lib.hasPrefix l s) = none := by
  rw [sign_single hl, h]
  · rfl
  · cases l with
    | nil => exact absurd rfl hl
    | cons c r =>
      have hc : (c.toNat : Int) = 35 := h
      have : c = 35 := UInt8.toNat_inj.1 (by simpa using (by omega : c.toNat = 35))
      subst this
      simp [pairsT]
theorem signO_is {l : List UInt8} (h : Lib.hasPrefix l deadT = false) : signO l = (signsT.find? fun s => Lib.hasPrefix l s).map fun s => (⟨5, s, 0, refN, 0⟩, s.length) := by
  rw [signO, h]
  rfl
theorem RT_form {i : Nat} {w w' : World} {o : Option (TokD × Nat)} {v : Value} (h : RT i w o v w') : ∃ t k, v = .tuple #[.agg ⟨tokL t⟩, .int .i64 k] := by
  obtain ⟨h, _⟩ := h
  cases o with
  | none => obtain ⟨t, rfl⟩ := h; exact ⟨_, _, rfl⟩
  | some x =>
    obtain ⟨t, k⟩ := x
    exact ⟨_, _, h⟩
theorem beg_eq (c : Int) : begB c = (letB c || decide (c = 36)) := rfl

theorem token_ret (s : List UInt8) (hs : s.length ≤ 1000) (a : Nat) (ha : a < s.length) (w : World) :
    Ret Tryd.prog 49 [str s, .int .i64 a] w (RT a w (oneO (s.drop a))) := by
  have hb : byte (s.drop a) 0 = byte s a := by rw [byte_drop']; rfl
  have hne : s.drop a ≠ [] := by intro hn; have := congrArg List.length hn; simp at this; omega
  refine Ret.enter Tryd.func49 rfl Tryd.ntmps49 (by kernel_rfl) rfl ?_
  (repeat (first | refine La ?_ | refine Lb ?_ | refine Lc ?_ | refine Ld ?_ | refine Le ?_ | refine Lf ?_ | refine Lg ?_ | apply LW.nil | apply QW.then_n | apply QW.round | apply RW.succ | apply CW.seq | apply CW.region | apply CW.skip | apply CW.block | apply CW.ret | apply CW.exit | apply QW.then_ret | apply QW.then_exit | apply QW.blk_n | apply QW.blk_ret | apply QW.blk_exit | refine Ca ?_ | refine Cb ?_ | refine Cc ?_ | refine Lh ?_ | refine Li ?_ | refine Lj ?_ | refine Lk ?_ | refine Ll ?_))
  (apply LW.alloc; exact rfl; exact rfl; exact rfl; intro C w1 hbC hx hC)
  (repeat (first | refine La ?_ | refine Lb ?_ | refine Lc ?_ | refine Ld ?_ | refine Le ?_ | refine Lf ?_ | refine Lg ?_ | apply LW.nil | apply QW.then_n | apply QW.round | apply RW.succ | apply CW.seq | apply CW.region | apply CW.skip | apply CW.block | apply CW.ret | apply CW.exit | apply QW.then_ret | apply QW.then_exit | apply QW.blk_n | apply QW.blk_ret | apply QW.blk_exit | refine Ca ?_ | refine Cb ?_ | refine Cc ?_ | refine Lh ?_ | refine Li ?_ | refine Lj ?_ | refine Lk ?_ | refine Ll ?_))
  refine LW.call0 rfl rfl (rdigit_ret _ _) ?_
  rintro v w2 ⟨rfl, hx2⟩
  replace hC := hC.ext hx2
  replace hx := hx.trans hx2
  (repeat (first | refine La ?_ | refine Lb ?_ | refine Lc ?_ | refine Ld ?_ | refine Le ?_ | refine Lf ?_ | refine Lg ?_ | apply LW.nil | apply QW.then_n | apply QW.round | apply RW.succ | apply CW.seq | apply CW.region | apply CW.skip | apply CW.block | apply CW.ret | apply CW.exit | apply QW.then_ret | apply QW.then_exit | apply QW.blk_n | apply QW.blk_ret | apply QW.blk_exit | refine Ca ?_ | refine Cb ?_ | refine Cc ?_ | refine Lh ?_ | refine Li ?_ | refine Lj ?_ | refine Lk ?_ | refine Ll ?_))
  refine CW.cond rfl (fun h1 => ?_) (fun h1 => ?_)
  · have h1 : digB (byte s a) = true := h1
    (repeat (first | refine La ?_ | refine Lb ?_ | refine Lc ?_ | refine Ld ?_ | refine Le ?_ | refine Lf ?_ | refine Lg ?_ | apply LW.nil | apply QW.then_n | apply QW.round | apply RW.succ | apply CW.seq | apply CW.region | apply CW.skip | apply CW.block | apply CW.ret | apply CW.exit | apply QW.then_ret | apply QW.then_exit | apply QW.blk_n | apply QW.blk_ret | apply QW.blk_exit | refine Ca ?_ | refine Cb ?_ | refine Cc ?_ | refine Lh ?_ | refine Li ?_ | refine Lj ?_ | refine Lk ?_ | refine Ll ?_))
    refine LW.call0 rfl rfl (rnumber_ret s hs a ha h1 _) ?_
    have ho : oneO (s.drop a) = numO (s.drop a) := by rw [oneO, hb, h1]; rfl
    rintro v w3 hv
    obtain ⟨t, k, rfl⟩ := RT_form hv
    obtain ⟨hv, hx3⟩ := hv
    replace hC := hC.ext hx3
    replace hx := hx.trans hx3
    (repeat (first | refine La ?_ | refine Lb ?_ | refine Lc ?_ | refine Ld ?_ | refine Le ?_ | refine Lf ?_ | refine Lg ?_ | apply LW.nil | apply QW.then_n | apply QW.round | apply RW.succ | apply CW.seq | apply CW.region | apply CW.skip | apply CW.block | apply CW.ret | apply CW.exit | apply QW.then_ret | apply QW.then_exit | apply QW.blk_n | apply QW.blk_ret | apply QW.blk_exit | refine Ca ?_ | refine Cb ?_ | refine Cc ?_ | refine Lh ?_ | refine Li ?_ | refine Lj ?_ | refine Lk ?_ | refine Ll ?_))
    (apply LW.store_all; exact rfl; exact rfl; exact rfl; assumption; exact rfl; exact rfl; exact rfl; intro w4 hc4 hC)
    replace hC : Blk w4 C (tokL t) 47 := hC
    replace hx := hx.step hc4 (by simp; omega)
    (repeat (first | refine La ?_ | refine Lb ?_ | refine Lc ?_ | refine Ld ?_ | refine Le ?_ | refine Lf ?_ | refine Lg ?_ | apply LW.nil | apply QW.then_n | apply QW.round | apply RW.succ | apply CW.seq | apply CW.region | apply CW.skip | apply CW.block | apply CW.ret | apply CW.exit | apply QW.then_ret | apply QW.then_exit | apply QW.blk_n | apply QW.blk_ret | apply QW.blk_exit | refine Ca ?_ | refine Cb ?_ | refine Cc ?_ | refine Lh ?_ | refine Li ?_ | refine Lj ?_ | refine Lk ?_ | refine Ll ?_))
    exact QW.body_ct Tryd.results49 rfl hC rfl rfl rfl rfl ⟨by rw [ho]; exact hv, hx⟩
  have h1 : digB (byte s a) = false := h1
  (repeat (first | refine La ?_ | refine Lb ?_ | refine Lc ?_ | refine Ld ?_ | refine Le ?_ | refine Lf ?_ | refine Lg ?_ | apply LW.nil | apply QW.then_n | apply QW.round | apply RW.succ | apply CW.seq | apply CW.region | apply CW.skip | apply CW.block | apply CW.ret | apply CW.exit | apply QW.then_ret | apply QW.then_exit | apply QW.blk_n | apply QW.blk_ret | apply QW.blk_exit | refine Ca ?_ | refine Cb ?_ | refine Cc ?_ | refine Lh ?_ | refine Li ?_ | refine Lj ?_ | refine Lk ?_ | refine Ll ?_))
  refine CW.cond rfl (fun h2 => ?_) (fun h2 => ?_)
  · have h2 : byte s a = 34 := by simpa using h2
    (repeat (first | refine La ?_ | refine Lb ?_ | refine Lc ?_ | refine Ld ?_ | refine Le ?_ | refine Lf ?_ | refine Lg ?_ | apply LW.nil | apply QW.then_n | apply QW.round | apply RW.succ | apply CW.seq | apply CW.region | apply CW.skip | apply CW.block | apply CW.ret | apply CW.exit | apply QW.then_ret | apply QW.then_exit | apply QW.blk_n | apply QW.blk_ret | apply QW.blk_exit | refine Ca ?_ | refine Cb ?_ | refine Cc ?_ | refine Lh ?_ | refine Li ?_ | refine Lj ?_ | refine Lk ?_ | refine Ll ?_))
    refine LW.call0 rfl rfl (rquoted_ret s hs a ha _) ?_
    have ho : oneO (s.drop a) = textO (s.drop a) := by rw [oneO, hb, h1, h2]; rfl
    rintro v w3 hv
    obtain ⟨t, k, rfl⟩ := RT_form hv
    obtain ⟨hv, hx3⟩ := hv
    replace hC := hC.ext hx3
    replace hx := hx.trans hx3
    (repeat (first | refine La ?_ | refine Lb ?_ | refine Lc ?_ | refine Ld ?_ | refine Le ?_ | refine Lf ?_ | refine Lg ?_ | apply LW.nil | apply QW.then_n | apply QW.round | apply RW.succ | apply CW.seq | apply CW.region | apply CW.skip | apply CW.block | apply CW.ret | apply CW.exit | apply QW.then_ret | apply QW.then_exit | apply QW.blk_n | apply QW.blk_ret | apply QW.blk_exit | refine Ca ?_ | refine Cb ?_ | refine Cc ?_ | refine Lh ?_ | refine Li ?_ | refine Lj ?_ | refine Lk ?_ | refine Ll ?_))
    (apply LW.store_all; exact rfl; exact rfl; exact rfl; assumption; exact rfl; exact rfl; exact rfl; intro w4 hc4 hC)
    replace hC : Blk w4 C (tokL t) 47 := hC
    replace hx := hx.step hc4 (by simp; omega)
    (repeat (first | refine La ?_ | refine Lb ?_ | refine Lc ?_ | refine Ld ?_ | refine Le ?_ | refine Lf ?_ | refine Lg ?_ | apply LW.nil | apply QW.then_n | apply QW.round | apply RW.succ | apply CW.seq | apply CW.region | apply CW.skip | apply CW.block | apply CW.ret | apply CW.exit | apply QW.then_ret | apply QW.then_exit | apply QW.blk_n | apply QW.blk_ret | apply QW.blk_exit | refine Ca ?_ | refine Cb ?_ | refine Cc ?_ | refine Lh ?_ | refine Li ?_ | refine Lj ?_ | refine Lk ?_ | refine Ll ?_))
    exact QW.body_ct Tryd.results49 rfl hC rfl rfl rfl rfl ⟨by rw [ho]; exact hv, hx⟩
  have h2 : byte s a ≠ 34 := by simpa using h2
  (repeat (first | refine La ?_ | refine Lb ?_ | refine Lc ?_ | refine Ld ?_ | refine Le ?_ | refine Lf ?_ | refine Lg ?_ | apply LW.nil | apply QW.then_n | apply QW.round | apply RW.succ | apply CW.seq | apply CW.region | apply CW.skip | apply CW.block | apply CW.ret | apply CW.exit | apply QW.then_ret | apply QW.then_exit | apply QW.blk_n | apply QW.blk_ret | apply QW.blk_exit | refine Ca ?_ | refine Cb ?_ | refine Cc ?_ | refine Lh ?_ | refine Li ?_ | refine Lj ?_ | refine Lk ?_ | refine Ll ?_))
  refine CW.cond rfl (fun h3 => ?_) (fun h3 => ?_)
  · have h3 : byte s a = 35 := by simpa using h3
    have ho : oneO (s.drop a) = signO (s.drop a) := by
      rw [oneO, hb, h1, if_neg (by simp), if_neg h2, h3]
      rfl
    (repeat (first | refine La ?_ | refine Lb ?_ | refine Lc ?_ | refine Ld ?_ | refine Le ?_ | refine Lf ?_ | refine Lg ?_ | apply LW.nil | apply QW.then_n | apply QW.round | apply RW.succ | apply CW.seq | apply CW.region | apply CW.skip | apply CW.block | apply CW.ret | apply CW.exit | apply QW.then_ret | apply QW.then_exit | apply QW.blk_n | apply QW.blk_ret | apply QW.blk_exit | refine Ca ?_ | refine Cb ?_ | refine Cc ?_ | refine Lh ?_ | refine Li ?_ | refine Lj ?_ | refine Lk ?_ | refine Ll ?_ | refine Lm ?_))
    refine LW.part rfl rfl rfl (fun h4 => ?_) (fun h4 => ?_)
    · have h4 : a + 5 ≤ s.length := by simp at h4; omega
      (repeat (first | refine La ?_ | refine Lb ?_ | refine Lc ?_ | refine Ld ?_ | refine Le ?_ | refine Lf ?_ | refine Lg ?_ | apply LW.nil | apply QW.then_n | apply QW.round | apply RW.succ | apply CW.seq | apply CW.region | apply CW.skip | apply CW.block | apply CW.ret | apply CW.exit | apply QW.then_ret | apply QW.then_exit | apply QW.blk_n | apply QW.blk_ret | apply QW.blk_exit | refine Ca ?_ | refine Cb ?_ | refine Cc ?_ | refine Lh ?_ | refine Li ?_ | refine Lj ?_ | refine Lk ?_ | refine Ll ?_ | refine Lm ?_))
      refine CW.cond rfl (fun h5 => ?_) (fun h5 => ?_)
      · have h5 : Lib.hasPrefix (s.drop a) deadT = true := by rw [dead_is]; exact h5
        (repeat (first | refine La ?_ | refine Lb ?_ | refine Lc ?_ | refine Ld ?_ | refine Le ?_ | refine Lf ?_ | refine Lg ?_ | apply LW.nil | apply QW.then_n | apply QW.round | apply RW.succ | apply CW.seq | apply CW.region | apply CW.skip | apply CW.block | apply CW.ret | apply CW.exit | apply QW.then_ret | apply QW.then_exit | apply QW.blk_n | apply QW.blk_ret | apply QW.blk_exit | refine Ca ?_ | refine Cb ?_ | refine Cc ?_ | refine Lh ?_ | refine Li ?_ | refine Lj ?_ | refine Lk ?_ | refine Ll ?_))
        (apply LW.store_all; exact rfl; exact rfl; exact rfl; assumption; exact rfl; exact rfl; exact rfl; intro w4 hc4 hC)
        replace hC : Blk w4 C (tokL ⟨6, [], 0, refN, a⟩) 47 := hC
        replace hx := hx.step hc4 (by simp; omega)
        (repeat (first | refine La ?_ | refine Lb ?_ | refine Lc ?_ | refine Ld ?_ | refine Le ?_ | refine Lf ?_ | refine Lg ?_ | apply LW.nil | apply QW.then_n | apply QW.round | apply RW.succ | apply CW.seq | apply CW.region | apply CW.skip | apply CW.block | apply CW.ret | apply CW.exit | apply QW.then_ret | apply QW.then_exit | apply QW.blk_n | apply QW.blk_ret | apply QW.blk_exit | refine Ca ?_ | refine Cb ?_ | refine Cc ?_ | refine Lh ?_ | refine Li ?_ | refine Lj ?_ | refine Lk ?_ | refine Ll ?_))
        refine QW.body_ct Tryd.results49 rfl hC rfl rfl rfl rfl ⟨?_, hx⟩
        rw [ho, signO, h5]
        rfl
      · have h5 : Lib.hasPrefix (s.drop a) deadT = false := by rw [dead_is]; exact h5
        (repeat (first | refine La ?_ | refine Lb ?_ | refine Lc ?_ | refine Ld ?_ | refine Le ?_ | refine Lf ?_ | refine Lg ?_ | apply LW.nil | apply QW.then_n | apply QW.round | apply RW.succ | apply CW.seq | apply CW.region | apply CW.skip | apply CW.block | apply CW.ret | apply CW.exit | apply QW.then_ret | apply QW.then_exit | apply QW.blk_n | apply QW.blk_ret | apply QW.blk_exit | refine Ca ?_ | refine Cb ?_ | refine Cc ?_ | refine Lh ?_ | refine Li ?_ | refine Lj ?_ | refine Lk ?_ | refine Ll ?_))
        (apply LW.store_all; exact rfl; exact rfl; exact rfl; assumption; exact rfl; exact rfl; exact rfl; intro w4 hc4 hC)
        replace hC : Blk w4 C (tokL ⟨0, [], 0, refN, 0⟩) 47 := hC
        replace hx := hx.step hc4 (by simp; omega)
        (repeat (first | refine La ?_ | refine Lb ?_ | refine Lc ?_ | refine Ld ?_ | refine Le ?_ | refine Lf ?_ | refine Lg ?_ | apply LW.nil | apply QW.then_n | apply QW.round | apply RW.succ | apply CW.seq | apply CW.region | apply CW.skip | apply CW.block | apply CW.ret | apply CW.exit | apply QW.then_ret | apply QW.then_exit | apply QW.blk_n | apply QW.blk_ret | apply QW.blk_exit | refine Ca ?_ | refine Cb ?_ | refine Cc ?_ | refine Lh ?_ | refine Li ?_ | refine Lj ?_ | refine Lk ?_ | refine Ll ?_))
        refine QW.body_ct Tryd.results49 rfl hC rfl rfl rfl rfl ⟨?_, hx⟩
        rw [ho, signO_is h5, sign_35 hne (by rw [hb]; exact h3)]
        exact ⟨_, rfl⟩
    · have h4 : s.length < a + 5 := by simp at h4; omega
      have h5 := dead_short h4 ha
      (repeat (first | refine La ?_ | refine Lb ?_ | refine Lc ?_ | refine Ld ?_ | refine Le ?_ | refine Lf ?_ | refine Lg ?_ | apply LW.nil | apply QW.then_n | apply QW.round | apply RW.succ | apply CW.seq | apply CW.region | apply CW.skip | apply CW.block | apply CW.ret | apply CW.exit | apply QW.then_ret | apply QW.then_exit | apply QW.blk_n | apply QW.blk_ret | apply QW.blk_exit | refine Ca ?_ | refine Cb ?_ | refine Cc ?_ | refine Lh ?_ | refine Li ?_ | refine Lj ?_ | refine Lk ?_ | refine Ll ?_))
      (apply LW.store_all; exact rfl; exact rfl; exact rfl; assumption; exact rfl; exact rfl; exact rfl; intro w4 hc4 hC)
      replace hC : Blk w4 C (tokL ⟨0, [], 0, refN, 0⟩) 47 := hC
      replace hx := hx.step hc4 (by simp; omega)
      (repeat (first | refine La ?_ | refine Lb ?_ | refine Lc ?_ | refine Ld ?_ | refine Le ?_ | refine Lf ?_ | refine Lg ?_ | apply LW.nil | apply QW.then_n | apply QW.round | apply RW.succ | apply CW.seq | apply CW.region | apply CW.skip | apply CW.block | apply CW.ret | apply CW.exit | apply QW.then_ret | apply QW.then_exit | apply QW.blk_n | apply QW.blk_ret | apply QW.blk_exit | refine Ca ?_ | refine Cb ?_ | refine Cc ?_ | refine Lh ?_ | refine Li ?_ | refine Lj ?_ | refine Lk ?_ | refine Ll ?_))
      refine QW.body_ct Tryd.results49 rfl hC rfl rfl rfl rfl ⟨?_, hx⟩
      rw [ho, signO_is h5, sign_35 hne (by rw [hb]; exact h3)]
      exact ⟨_, rfl⟩
  have h3 : byte s a ≠ 35 := by simpa using h3
  have hdead : Lib.hasPrefix (s.drop a) deadT = false := dead_first (by rw [hb]; exact h3)
  (repeat (first | refine La ?_ | refine Lb ?_ | refine Lc ?_ | refine Ld ?_ | refine Le ?_ | refine Lf ?_ | refine Lg ?_ | apply LW.nil | apply QW.then_n | apply QW.round | apply RW.succ | apply CW.seq | apply CW.region | apply CW.skip | apply CW.block | apply CW.ret | apply CW.exit | apply QW.then_ret | apply QW.then_exit | apply QW.blk_n | apply QW.blk_ret | apply QW.blk_exit | refine Ca ?_ | refine Cb ?_ | refine Cc ?_ | refine Lh ?_ | refine Li ?_ | refine Lj ?_ | refine Lk ?_ | refine Ll ?_))
  refine LW.call0 rfl rfl (rletter_ret _ _) ?_
  rintro v w3 ⟨rfl, hx3⟩
  replace hC := hC.ext hx3
  replace hx := hx.trans hx3
  (repeat (first | refine La ?_ | refine Lb ?_ | refine Lc ?_ | refine Ld ?_ | refine Le ?_ | refine Lf ?_ | refine Lg ?_ | apply LW.nil | apply QW.then_n | apply QW.round | apply RW.succ | apply CW.seq | apply CW.region | apply CW.skip | apply CW.block | apply CW.ret | apply CW.exit | apply QW.then_ret | apply QW.then_exit | apply QW.blk_n | apply QW.blk_ret | apply QW.blk_exit | refine Ca ?_ | refine Cb ?_ | refine Cc ?_ | refine Lh ?_ | refine Li ?_ | refine Lj ?_ | refine Lk ?_ | refine Ll ?_))
  refine LW.part rfl rfl rfl (fun h4 => ?_) (fun h4 => ?_)
  · have h4 : letB (byte s a) = true := h4
    have ho : oneO (s.drop a) = wordO (s.drop a) := by
      rw [oneO, hb, h1, if_neg (by simp), if_neg h2, beg_eq, h4]
      rfl
    (repeat (first | refine La ?_ | refine Lb ?_ | refine Lc ?_ | refine Ld ?_ | refine Le ?_ | refine Lf ?_ | refine Lg ?_ | apply LW.nil | apply QW.then_n | apply QW.round | apply RW.succ | apply CW.seq | apply CW.region | apply CW.skip | apply CW.block | apply CW.ret | apply CW.exit | apply QW.then_ret | apply QW.then_exit | apply QW.blk_n | apply QW.blk_ret | apply QW.blk_exit | refine Ca ?_ | refine Cb ?_ | refine Cc ?_ | refine Lh ?_ | refine Li ?_ | refine Lj ?_ | refine Lk ?_ | refine Ll ?_))
    refine LW.call0 rfl rfl (rword_ret s hs a ha _) ?_
    rintro v w3 hv
    obtain ⟨t, k, rfl⟩ := RT_form hv
    obtain ⟨hv, hx3⟩ := hv
    replace hC := hC.ext hx3
    replace hx := hx.trans hx3
    (repeat (first | refine La ?_ | refine Lb ?_ | refine Lc ?_ | refine Ld ?_ | refine Le ?_ | refine Lf ?_ | refine Lg ?_ | apply LW.nil | apply QW.then_n | apply QW.round | apply RW.succ | apply CW.seq | apply CW.region | apply CW.skip | apply CW.block | apply CW.ret | apply CW.exit | apply QW.then_ret | apply QW.then_exit | apply QW.blk_n | apply QW.blk_ret | apply QW.blk_exit | refine Ca ?_ | refine Cb ?_ | refine Cc ?_ | refine Lh ?_ | refine Li ?_ | refine Lj ?_ | refine Lk ?_ | refine Ll ?_))
    (apply LW.store_all; exact rfl; exact rfl; exact rfl; assumption; exact rfl; exact rfl; exact rfl; intro w4 hc4 hC)
    replace hC : Blk w4 C (tokL t) 47 := hC
    replace hx := hx.step hc4 (by simp; omega)
    (repeat (first | refine La ?_ | refine Lb ?_ | refine Lc ?_ | refine Ld ?_ | refine Le ?_ | refine Lf ?_ | refine Lg ?_ | apply LW.nil | apply QW.then_n | apply QW.round | apply RW.succ | apply CW.seq | apply CW.region | apply CW.skip | apply CW.block | apply CW.ret | apply CW.exit | apply QW.then_ret | apply QW.then_exit | apply QW.blk_n | apply QW.blk_ret | apply QW.blk_exit | refine Ca ?_ | refine Cb ?_ | refine Cc ?_ | refine Lh ?_ | refine Li ?_ | refine Lj ?_ | refine Lk ?_ | refine Ll ?_))
    exact QW.body_ct Tryd.results49 rfl hC rfl rfl rfl rfl ⟨by rw [ho]; exact hv, hx⟩
  have h4 : letB (byte s a) = false := h4
  (repeat (first | refine La ?_ | refine Lb ?_ | refine Lc ?_ | refine Ld ?_ | refine Le ?_ | refine Lf ?_ | refine Lg ?_ | apply LW.nil | apply QW.then_n | apply QW.round | apply RW.succ | apply CW.seq | apply CW.region | apply CW.skip | apply CW.block | apply CW.ret | apply CW.exit | apply QW.then_ret | apply QW.then_exit | apply QW.blk_n | apply QW.blk_ret | apply QW.blk_exit | refine Ca ?_ | refine Cb ?_ | refine Cc ?_ | refine Lh ?_ | refine Li ?_ | refine Lj ?_ | refine Lk ?_ | refine Ll ?_))
  refine CW.cond rfl (fun h5 => ?_) (fun h5 => ?_)
  · have ho : oneO (s.drop a) = wordO (s.drop a) := by
      rw [oneO, hb, h1, if_neg (by simp), if_neg h2, beg_eq, h4]
      simp only [decide_eq_true_eq] at h5
      have h5 : byte s a = 36 := h5
      rw [h5]
      rfl
    (repeat (first | refine La ?_ | refine Lb ?_ | refine Lc ?_ | refine Ld ?_ | refine Le ?_ | refine Lf ?_ | refine Lg ?_ | apply LW.nil | apply QW.then_n | apply QW.round | apply RW.succ | apply CW.seq | apply CW.region | apply CW.skip | apply CW.block | apply CW.ret | apply CW.exit | apply QW.then_ret | apply QW.then_exit | apply QW.blk_n | apply QW.blk_ret | apply QW.blk_exit | refine Ca ?_ | refine Cb ?_ | refine Cc ?_ | refine Lh ?_ | refine Li ?_ | refine Lj ?_ | refine Lk ?_ | refine Ll ?_))
    refine LW.call0 rfl rfl (rword_ret s hs a ha _) ?_
    rintro v w3 hv
    obtain ⟨t, k, rfl⟩ := RT_form hv
    obtain ⟨hv, hx3⟩ := hv
    replace hC := hC.ext hx3
    replace hx := hx.trans hx3
    (repeat (first | refine La ?_ | refine Lb ?_ | refine Lc ?_ | refine Ld ?_ | refine Le ?_ | refine Lf ?_ | refine Lg ?_ | apply LW.nil | apply QW.then_n | apply QW.round | apply RW.succ | apply CW.seq | apply CW.region | apply CW.skip | apply CW.block | apply CW.ret | apply CW.exit | apply QW.then_ret | apply QW.then_exit | apply QW.blk_n | apply QW.blk_ret | apply QW.blk_exit | refine Ca ?_ | refine Cb ?_ | refine Cc ?_ | refine Lh ?_ | refine Li ?_ | refine Lj ?_ | refine Lk ?_ | refine Ll ?_))
    (apply LW.store_all; exact rfl; exact rfl; exact rfl; assumption; exact rfl; exact rfl; exact rfl; intro w4 hc4 hC)
    replace hC : Blk w4 C (tokL t) 47 := hC
    replace hx := hx.step hc4 (by simp; omega)
    (repeat (first | refine La ?_ | refine Lb ?_ | refine Lc ?_ | refine Ld ?_ | refine Le ?_ | refine Lf ?_ | refine Lg ?_ | apply LW.nil | apply QW.then_n | apply QW.round | apply RW.succ | apply CW.seq | apply CW.region | apply CW.skip | apply CW.block | apply CW.ret | apply CW.exit | apply QW.then_ret | apply QW.then_exit | apply QW.blk_n | apply QW.blk_ret | apply QW.blk_exit | refine Ca ?_ | refine Cb ?_ | refine Cc ?_ | refine Lh ?_ | refine Li ?_ | refine Lj ?_ | refine Lk ?_ | refine Ll ?_))
    exact QW.body_ct Tryd.results49 rfl hC rfl rfl rfl rfl ⟨by rw [ho]; exact hv, hx⟩
  have ho : oneO (s.drop a) = signO (s.drop a) := by
    rw [oneO, hb, h1, if_neg (by simp), if_neg h2, beg_eq, h4]
    simp only [decide_eq_false_iff_not] at h5
    have h5 : byte s a ≠ 36 := h5
    simp [h5]
  (repeat (first | refine La ?_ | refine Lb ?_ | refine Lc ?_ | refine Ld ?_ | refine Le ?_ | refine Lf ?_ | refine Lg ?_ | apply LW.nil | apply QW.then_n | apply QW.round | apply RW.succ | apply CW.seq | apply CW.region | apply CW.skip | apply CW.block | apply CW.ret | apply CW.exit | apply QW.then_ret | apply QW.then_exit | apply QW.blk_n | apply QW.blk_ret | apply QW.blk_exit | refine Ca ?_ | refine Cb ?_ | refine Cc ?_ | refine Lh ?_ | refine Li ?_ | refine Lj ?_ | refine Lk ?_ | refine Ll ?_))
  refine LW.call0 rfl rfl (rsign_ret s hs a ha _) ?_
  rintro v w5 ⟨rfl, hx5⟩
  replace hC := hC.ext hx5
  replace hx := hx.trans hx5
  (repeat (first | refine La ?_ | refine Lb ?_ | refine Lc ?_ | refine Ld ?_ | refine Le ?_ | refine Lf ?_ | refine Lg ?_ | apply LW.nil | apply QW.then_n | apply QW.round | apply RW.succ | apply CW.seq | apply CW.region | apply CW.skip | apply CW.block | apply CW.ret | apply CW.exit | apply QW.then_ret | apply QW.then_exit | apply QW.blk_n | apply QW.blk_ret | apply QW.blk_exit | refine Ca ?_ | refine Cb ?_ | refine Cc ?_ | refine Lh ?_ | refine Li ?_ | refine Lj ?_ | refine Lk ?_ | refine Ll ?_))
  (apply LW.store_all; exact rfl; exact rfl; exact rfl; assumption; exact rfl; exact rfl; exact rfl; intro w4 hc4 hC)
  replace hx := hx.step hc4 (by simp; omega)
  (repeat (first | refine La ?_ | refine Lb ?_ | refine Lc ?_ | refine Ld ?_ | refine Le ?_ | refine Lf ?_ | refine Lg ?_ | apply LW.nil | apply QW.then_n | apply QW.round | apply RW.succ | apply CW.seq | apply CW.region | apply CW.skip | apply CW.block | apply CW.ret | apply CW.exit | apply QW.then_ret | apply QW.then_exit | apply QW.blk_n | apply QW.blk_ret | apply QW.blk_exit | refine Ca ?_ | refine Cb ?_ | refine Cc ?_ | refine Lh ?_ | refine Li ?_ | refine Lj ?_ | refine Lk ?_ | refine Ll ?_))
  refine QW.body_ct Tryd.results49 rfl hC rfl rfl rfl rfl ⟨?_, hx⟩
  rw [ho, signO_is hdead]
  cases signsT.find? fun p => Lib.hasPrefix (s.drop a) p with
  | none => exact ⟨⟨5, [], 0, refN, a⟩, rfl⟩
  | some p => rfl

/-- What the document tells of a text. -/
def RLexV (s : List UInt8) (v : Value) (w : World) (lo : Nat) : Prop :=
  if 300 < s.length then v = .agg ⟨[.slice none 0 0, .int .i64 4]⟩
  else match lexT s with
    | none => v = .agg ⟨[.slice none 0 0, .int .i64 5]⟩
    | some l => ∃ sv, v = .agg ⟨[sv, .int .i64 0]⟩ ∧ Own w lo 47 9 sv l.length (l.flatMap tokL)

theorem rLex_ret (s : List UInt8) (hs : s.length ≤ 9223372036854775807) (w : World) : Ret Tryd.prog 28 [str s] w (fun v w' => RLexV s v w' w.heap.size ∧ Ext w w') := by
  refine Ret.enter Tryd.func28 rfl Tryd.ntmps28 (by kernel_rfl) rfl ?_
  (repeat (first | refine La ?_ | refine Lb ?_ | refine Lc ?_ | refine Ld ?_ | refine Le ?_ | refine Lf ?_ | refine Lg ?_ | apply LW.nil | apply QW.then_n | apply QW.round | apply RW.succ | apply CW.seq | apply CW.region | apply CW.skip | apply CW.block | apply CW.ret | apply CW.exit | apply QW.then_ret | apply QW.then_exit | apply QW.blk_n | apply QW.blk_ret | apply QW.blk_exit | refine Ca ?_ | refine Cb ?_ | refine Cc ?_ | refine Lh ?_ | refine Li ?_ | refine Lj ?_ | refine Lk ?_ | refine Ll ?_))
  (apply LW.alloc; exact rfl; exact rfl; exact rfl; intro R w1 hbR hx hR)
  have hz1 : R < w1.heap.size := hR.lt
  (repeat (first | refine La ?_ | refine Lb ?_ | refine Lc ?_ | refine Ld ?_ | refine Le ?_ | refine Lf ?_ | refine Lg ?_ | apply LW.nil | apply QW.then_n | apply QW.round | apply RW.succ | apply CW.seq | apply CW.region | apply CW.skip | apply CW.block | apply CW.ret | apply CW.exit | apply QW.then_ret | apply QW.then_exit | apply QW.blk_n | apply QW.blk_ret | apply QW.blk_exit | refine Ca ?_ | refine Cb ?_ | refine Cc ?_ | refine Lh ?_ | refine Li ?_ | refine Lj ?_ | refine Lk ?_ | refine Ll ?_))
  refine CW.cond rfl (fun h1 => ?_) (fun h1 => ?_)
  · have h1 : 300 < s.length := by simp at h1; omega
    (repeat (first | refine La ?_ | refine Lb ?_ | refine Lc ?_ | refine Ld ?_ | refine Le ?_ | refine Lf ?_ | refine Lg ?_ | apply LW.nil | apply QW.then_n | apply QW.round | apply RW.succ | apply CW.seq | apply CW.region | apply CW.skip | apply CW.block | apply CW.ret | apply CW.exit | apply QW.then_ret | apply QW.then_exit | apply QW.blk_n | apply QW.blk_ret | apply QW.blk_exit | refine Ca ?_ | refine Cb ?_ | refine Cc ?_ | refine Lh ?_ | refine Li ?_ | refine Lj ?_ | refine Lk ?_ | refine Ll ?_))
    (apply LW.store_all; exact rfl; exact rfl; exact rfl; assumption; exact rfl; exact rfl; exact rfl; intro w2 hc2 hR)
    replace hx := hx.step hc2 (by simp; omega)
    (repeat (first | refine La ?_ | refine Lb ?_ | refine Lc ?_ | refine Ld ?_ | refine Le ?_ | refine Lf ?_ | refine Lg ?_ | apply LW.nil | apply QW.then_n | apply QW.round | apply RW.succ | apply CW.seq | apply CW.region | apply CW.skip | apply CW.block | apply CW.ret | apply CW.exit | apply QW.then_ret | apply QW.then_exit | apply QW.blk_n | apply QW.blk_ret | apply QW.blk_exit | refine Ca ?_ | refine Cb ?_ | refine Cc ?_ | refine Lh ?_ | refine Li ?_ | refine Lj ?_ | refine Lk ?_ | refine Ll ?_))
    refine QW.body_c Tryd.results28 rfl hR rfl rfl rfl ⟨?_, hx⟩
    rw [RLexV, if_pos h1]
    rfl
  have h1 : ¬ 300 < s.length := by simp at h1; omega
  (repeat (first | refine La ?_ | refine Lb ?_ | refine Lc ?_ | refine Ld ?_ | refine Le ?_ | refine Lf ?_ | refine Lg ?_ | apply LW.nil | apply QW.then_n | apply QW.round | apply RW.succ | apply CW.seq | apply CW.region | apply CW.skip | apply CW.block | apply CW.ret | apply CW.exit | apply QW.then_ret | apply QW.then_exit | apply QW.blk_n | apply QW.blk_ret | apply QW.blk_exit | refine Ca ?_ | refine Cb ?_ | refine Cc ?_ | refine Lh ?_ | refine Li ?_ | refine Lj ?_ | refine Lk ?_ | refine Ll ?_))
  refine CW.loop (ι := Nat × List TokD × Value) (fun k w' => k.1 ≤ s.length ∧ k.2.1.length ≤ k.1 ∧ Ext w1 w' ∧ Own w' w1.heap.size 47 9 k.2.2 k.2.1.length (k.2.1.flatMap tokL) ∧ LexAt s k.1 k.2.1) (fun k => [(0, str s), (2, .pointer (some ⟨R, 0, none⟩)), (3, k.2.2), (4, .int .i64 k.1)]) (fun k => s.length - k.1) (0, [], .slice none 0 0) ⟨by simp, by simp, Chg.refl _ _, Own.nil _ _ _ _, LexAt.start _⟩ (Sub.cons rfl (Sub.cons rfl (Sub.cons rfl (Sub.cons rfl (Sub.nil))))) ?_
  rintro ⟨a, out, v⟩ w2 ⟨ha, ho, hx2, hown, hla⟩
  simp only at ha ho hown hla
  show CW _ _ _ _ _ [(0, str s), (2, .pointer (some ⟨R, 0, none⟩)), (3, v), (4, .int .i64 a)] _
  have hrv : R ∉ vblk v := hown.old hz1
  have hz2 := hx2.size
  replace hR := hR.ext hx2
  (repeat (first | refine La ?_ | refine Lb ?_ | refine Lc ?_ | refine Ld ?_ | refine Le ?_ | refine Lf ?_ | refine Lg ?_ | apply LW.nil | apply QW.then_n | apply QW.round | apply RW.succ | apply CW.seq | apply CW.region | apply CW.skip | apply CW.block | apply CW.ret | apply CW.exit | apply QW.then_ret | apply QW.then_exit | apply QW.blk_n | apply QW.blk_ret | apply QW.blk_exit | refine Ca ?_ | refine Cb ?_ | refine Cc ?_ | refine Lh ?_ | refine Li ?_ | refine Lj ?_ | refine Lk ?_ | refine Ll ?_))
  refine CW.cond rfl (fun h2 => ?_) (fun h2 => ?_)
  · have h2 : a < s.length := by simp at h2; omega
    have hsp : ∀ (c : Nat), byte s a ≠ 32 → (spanL spB (s.drop a)).length = 0 := fun _ hb => by
      obtain ⟨c, e, hc⟩ := drop_at h2
      rw [e]
      have : spB (c.toNat : Int) = false := by simp [spB]; omega
      simp [spanL, this]
    (repeat (first | refine La ?_ | refine Lb ?_ | refine Lc ?_ | refine Ld ?_ | refine Le ?_ | refine Lf ?_ | refine Lg ?_ | apply LW.nil | apply QW.then_n | apply QW.round | apply RW.succ | apply CW.seq | apply CW.region | apply CW.skip | apply CW.block | apply CW.ret | apply CW.exit | apply QW.then_ret | apply QW.then_exit | apply QW.blk_n | apply QW.blk_ret | apply QW.blk_exit | refine Ca ?_ | refine Cb ?_ | refine Cc ?_ | refine Lh ?_ | refine Li ?_ | refine Lj ?_ | refine Lk ?_ | refine Ll ?_))
    refine CW.cond rfl (fun h3 => ?_) (fun h3 => ?_)
    · have h3 : byte s a = 32 := by simpa using h3
      (repeat (first | refine La ?_ | refine Lb ?_ | refine Lc ?_ | refine Ld ?_ | refine Le ?_ | refine Lf ?_ | refine Lg ?_ | apply LW.nil | apply QW.then_n | apply QW.round | apply RW.succ | apply CW.seq | apply CW.region | apply CW.skip | apply CW.block | apply CW.ret | apply CW.exit | apply QW.then_ret | apply QW.then_exit | apply QW.blk_n | apply QW.blk_ret | apply QW.blk_exit | refine Ca ?_ | refine Cb ?_ | refine Cc ?_ | refine Lh ?_ | refine Li ?_ | refine Lj ?_ | refine Lk ?_ | refine Ll ?_))
      exact QW.again (a + 1, out, v) ⟨by show a + 1 ≤ _; omega, by show out.length ≤ a + 1; omega, hx2, hown, hla.blank h2 h3⟩ (Sub.cons rfl (Sub.cons rfl (Sub.cons rfl (Sub.cons rfl (Sub.nil))))) (by show s.length - (a + 1) < s.length - a; omega)
    have h3 : byte s a ≠ 32 := by simpa using h3
    have hc : a + (spanL spB (s.drop a)).length = a := by rw [hsp 0 h3]; rfl
    (repeat (first | refine La ?_ | refine Lb ?_ | refine Lc ?_ | refine Ld ?_ | refine Le ?_ | refine Lf ?_ | refine Lg ?_ | apply LW.nil | apply QW.then_n | apply QW.round | apply RW.succ | apply CW.seq | apply CW.region | apply CW.skip | apply CW.block | apply CW.ret | apply CW.exit | apply QW.then_ret | apply QW.then_exit | apply QW.blk_n | apply QW.blk_ret | apply QW.blk_exit | refine Ca ?_ | refine Cb ?_ | refine Cc ?_ | refine Lh ?_ | refine Li ?_ | refine Lj ?_ | refine Lk ?_ | refine Ll ?_))
    refine LW.call0 rfl rfl (token_ret s (by omega) a h2 _) ?_
    rintro u w3 ⟨hv, hx3⟩
    replace hR := hR.ext hx3
    have hz3 := hx3.size
    have hown3 := hown.ext hx3
    cases ho3 : oneO (s.drop a) with
    | none =>
      rw [ho3] at hv
      obtain ⟨t, rfl⟩ := hv
      (repeat (first | refine La ?_ | refine Lb ?_ | refine Lc ?_ | refine Ld ?_ | refine Le ?_ | refine Lf ?_ | refine Lg ?_ | apply LW.nil | apply QW.then_n | apply QW.round | apply RW.succ | apply CW.seq | apply CW.region | apply CW.skip | apply CW.block | apply CW.ret | apply CW.exit | apply QW.then_ret | apply QW.then_exit | apply QW.blk_n | apply QW.blk_ret | apply QW.blk_exit | refine Ca ?_ | refine Cb ?_ | refine Cc ?_ | refine Lh ?_ | refine Li ?_ | refine Lj ?_ | refine Lk ?_ | refine Ll ?_))
      (apply LW.alloc; exact rfl; exact rfl; exact rfl; intro C w6 hbC hx6 hC)
      replace hR := hR.ext hx6
      have hz6 := hx6.size
      (repeat (first | refine La ?_ | refine Lb ?_ | refine Lc ?_ | refine Ld ?_ | refine Le ?_ | refine Lf ?_ | refine Lg ?_ | apply LW.nil | apply QW.then_n | apply QW.round | apply RW.succ | apply CW.seq | apply CW.region | apply CW.skip | apply CW.block | apply CW.ret | apply CW.exit | apply QW.then_ret | apply QW.then_exit | apply QW.blk_n | apply QW.blk_ret | apply QW.blk_exit | refine Ca ?_ | refine Cb ?_ | refine Cc ?_ | refine Lh ?_ | refine Li ?_ | refine Lj ?_ | refine Lk ?_ | refine Ll ?_))
      (apply LW.store_all; exact rfl; exact rfl; exact rfl; assumption; exact rfl; exact rfl; exact rfl; intro w7 hc7 hC)
      replace hR := hR.chg hc7 (by simp; omega)
      have hx7 := ((hx2.trans hx3).trans hx6).step hc7 (by simp; omega)
      (repeat (first | refine La ?_ | refine Lb ?_ | refine Lc ?_ | refine Ld ?_ | refine Le ?_ | refine Lf ?_ | refine Lg ?_ | apply LW.nil | apply QW.then_n | apply QW.round | apply RW.succ | apply CW.seq | apply CW.region | apply CW.skip | apply CW.block | apply CW.ret | apply CW.exit | apply QW.then_ret | apply QW.then_exit | apply QW.blk_n | apply QW.blk_ret | apply QW.blk_exit | refine Ca ?_ | refine Cb ?_ | refine Cc ?_ | refine Lh ?_ | refine Li ?_ | refine Lj ?_ | refine Lk ?_ | refine Ll ?_))
      (apply LW.store_all; exact rfl; exact rfl; exact rfl; assumption; exact rfl; exact rfl; exact rfl; intro w8 hc8 hR)
      have hx8 := (hx.trans hx7).step hc8 (by simp; omega)
      (repeat (first | refine La ?_ | refine Lb ?_ | refine Lc ?_ | refine Ld ?_ | refine Le ?_ | refine Lf ?_ | refine Lg ?_ | apply LW.nil | apply QW.then_n | apply QW.round | apply RW.succ | apply CW.seq | apply CW.region | apply CW.skip | apply CW.block | apply CW.ret | apply CW.exit | apply QW.then_ret | apply QW.then_exit | apply QW.blk_n | apply QW.blk_ret | apply QW.blk_exit | refine Ca ?_ | refine Cb ?_ | refine Cc ?_ | refine Lh ?_ | refine Li ?_ | refine Lj ?_ | refine Lk ?_ | refine Ll ?_))
      refine QW.body_c Tryd.results28 rfl hR rfl rfl rfl ⟨?_, hx8⟩
      rw [RLexV, if_neg h1, hla.bad hc h2 ho3]
      rfl
    | some x =>
      obtain ⟨t, k⟩ := x
      rw [ho3] at hv
      simp only at hv
      subst hv
      have hpos := oneO_pos (by intro hn; have := congrArg List.length hn; simp at this; omega) ho3
      have hle := oneO_le ho3
      simp at hle
      (repeat (first | refine La ?_ | refine Lb ?_ | refine Lc ?_ | refine Ld ?_ | refine Le ?_ | refine Lf ?_ | refine Lg ?_ | apply LW.nil | apply QW.then_n | apply QW.round | apply RW.succ | apply CW.seq | apply CW.region | apply CW.skip | apply CW.block | apply CW.ret | apply CW.exit | apply QW.then_ret | apply QW.then_exit | apply QW.blk_n | apply QW.blk_ret | apply QW.blk_exit | refine Ca ?_ | refine Cb ?_ | refine Cc ?_ | refine Lh ?_ | refine Li ?_ | refine Lj ?_ | refine Lk ?_ | refine Ll ?_))
      (apply LW.alloc; exact rfl; exact rfl; exact rfl; intro C w6 hbC hx6 hC)
      replace hR := hR.ext hx6
      have hz6 := hx6.size
      have hown6 := hown3.ext hx6
      (repeat (first | refine La ?_ | refine Lb ?_ | refine Lc ?_ | refine Ld ?_ | refine Le ?_ | refine Lf ?_ | refine Lg ?_ | apply LW.nil | apply QW.then_n | apply QW.round | apply RW.succ | apply CW.seq | apply CW.region | apply CW.skip | apply CW.block | apply CW.ret | apply CW.exit | apply QW.then_ret | apply QW.then_exit | apply QW.blk_n | apply QW.blk_ret | apply QW.blk_exit | refine Ca ?_ | refine Cb ?_ | refine Cc ?_ | refine Lh ?_ | refine Li ?_ | refine Lj ?_ | refine Lk ?_ | refine Ll ?_))
      (apply LW.store_all; exact rfl; exact rfl; exact rfl; assumption; exact rfl; exact rfl; exact rfl; intro w7 hc7 hC)
      replace hC : Blk w7 C (tokL { t with at_ := (a : Int) }) 47 := hC
      replace hR := hR.chg hc7 (by simp; omega)
      have hx7 := ((hx2.trans hx3).trans hx6).step hc7 (by simp; omega)
      have hz7 := hc7.size
      have hown7 := hown6.chg hc7 (fun j hj hb => by
        simp at hb
        have := (hown3.lt hj).2
        omega)
      (repeat (first | refine La ?_ | refine Lb ?_ | refine Lc ?_ | refine Ld ?_ | refine Le ?_ | refine Lf ?_ | refine Lg ?_ | apply LW.nil | apply QW.then_n | apply QW.round | apply RW.succ | apply CW.seq | apply CW.region | apply CW.skip | apply CW.block | apply CW.ret | apply CW.exit | apply QW.then_ret | apply QW.then_exit | apply QW.blk_n | apply QW.blk_ret | apply QW.blk_exit | refine Ca ?_ | refine Cb ?_ | refine Cc ?_ | refine Lh ?_ | refine Li ?_ | refine Lj ?_ | refine Lk ?_ | refine Ll ?_))
      refine CW.no rfl (by simp; omega) ?_
      (repeat (first | refine La ?_ | refine Lb ?_ | refine Lc ?_ | refine Ld ?_ | refine Le ?_ | refine Lf ?_ | refine Lg ?_ | apply LW.nil | apply QW.then_n | apply QW.round | apply RW.succ | apply CW.seq | apply CW.region | apply CW.skip | apply CW.block | apply CW.ret | apply CW.exit | apply QW.then_ret | apply QW.then_exit | apply QW.blk_n | apply QW.blk_ret | apply QW.blk_exit | refine Ca ?_ | refine Cb ?_ | refine Cc ?_ | refine Lh ?_ | refine Li ?_ | refine Lj ?_ | refine Lk ?_ | refine Ll ?_))
      (apply LW.buildSlice; exact rfl; exact rfl; exact rfl; exact rfl; exact rfl; exact rfl; exact rfl; exact rfl; exact rfl; intro A w9 hbA hx9 hA)
      replace hA : Blk w9 A (tokL { t with at_ := (a : Int) }) 47 := hA
      replace hR := hR.ext hx9
      have hz9 := hx9.size
      (repeat (first | refine La ?_ | refine Lb ?_ | refine Lc ?_ | refine Ld ?_ | refine Le ?_ | refine Lf ?_ | refine Lg ?_ | apply LW.nil | apply QW.then_n | apply QW.round | apply RW.succ | apply CW.seq | apply CW.region | apply CW.skip | apply CW.block | apply CW.ret | apply CW.exit | apply QW.then_ret | apply QW.then_exit | apply QW.blk_n | apply QW.blk_ret | apply QW.blk_exit | refine Ca ?_ | refine Cb ?_ | refine Cc ?_ | refine Lh ?_ | refine Li ?_ | refine Lj ?_ | refine Lk ?_ | refine Ll ?_))
      refine LW.append rfl rfl rfl rfl rfl rfl (hown7.ext hx9) (by omega) hA rfl rfl rfl (by show (out.length + 1) * 81 ≤ 140737488355328; omega) rfl ?_
      intro v' w10 hc10 hown10 _
      have hz10 := hc10.size
      (repeat (first | refine La ?_ | refine Lb ?_ | refine Lc ?_ | refine Ld ?_ | refine Le ?_ | refine Lf ?_ | refine Lg ?_ | apply LW.nil | apply QW.then_n | apply QW.round | apply RW.succ | apply CW.seq | apply CW.region | apply CW.skip | apply CW.block | apply CW.ret | apply CW.exit | apply QW.then_ret | apply QW.then_exit | apply QW.blk_n | apply QW.blk_ret | apply QW.blk_exit | refine Ca ?_ | refine Cb ?_ | refine Cc ?_ | refine Lh ?_ | refine Li ?_ | refine Lj ?_ | refine Lk ?_ | refine Ll ?_))
      refine QW.again (a + k, out ++ [{ t with at_ := (a : Int) }], v') ⟨by show a + k ≤ _; omega, by show (out ++ _).length ≤ a + k; simp; omega, ?_, own_tok hown10, hla.go hc h2 ho3⟩ (Sub.cons rfl (Sub.cons rfl (Sub.cons rfl (Sub.cons rfl (Sub.nil))))) (by show s.length - (a + k) < s.length - a; omega)
      exact (hx7.trans hx9).step hc10 (fun k hk => (hown.lt hk).1)
  · have h2 : a = s.length := by simp at h2; omega
    have he : a + (spanL spB (s.drop a)).length = s.length := by
      have := span_le spB (s.drop a)
      simp at this
      omega
    (repeat (first | refine La ?_ | refine Lb ?_ | refine Lc ?_ | refine Ld ?_ | refine Le ?_ | refine Lf ?_ | refine Lg ?_ | apply LW.nil | apply QW.then_n | apply QW.round | apply RW.succ | apply CW.seq | apply CW.region | apply CW.skip | apply CW.block | apply CW.ret | apply CW.exit | apply QW.then_ret | apply QW.then_exit | apply QW.blk_n | apply QW.blk_ret | apply QW.blk_exit | refine Ca ?_ | refine Cb ?_ | refine Cc ?_ | refine Lh ?_ | refine Li ?_ | refine Lj ?_ | refine Lk ?_ | refine Ll ?_))
    (apply LW.buildSlice; exact rfl; exact rfl; exact rfl; exact rfl; exact rfl; exact rfl; exact rfl; exact rfl; exact rfl; intro A w4 hbA hx4 hA)
    replace hA : Blk w4 A (tokL ⟨0, [], 0, refN, (s.length : Int)⟩) 47 := hA
    have hz4 := hx4.size
    replace hR := hR.ext hx4
    (repeat (first | refine La ?_ | refine Lb ?_ | refine Lc ?_ | refine Ld ?_ | refine Le ?_ | refine Lf ?_ | refine Lg ?_ | apply LW.nil | apply QW.then_n | apply QW.round | apply RW.succ | apply CW.seq | apply CW.region | apply CW.skip | apply CW.block | apply CW.ret | apply CW.exit | apply QW.then_ret | apply QW.then_exit | apply QW.blk_n | apply QW.blk_ret | apply QW.blk_exit | refine Ca ?_ | refine Cb ?_ | refine Cc ?_ | refine Lh ?_ | refine Li ?_ | refine Lj ?_ | refine Lk ?_ | refine Ll ?_))
    refine LW.append rfl rfl rfl rfl rfl rfl (hown.ext hx4) (by omega) hA rfl rfl rfl (by show (out.length + 1) * 81 ≤ 140737488355328; omega) rfl ?_
    intro v' w5 hc5 hown5 hnew
    replace hR := hR.chg hc5 hrv
    have hR5 : R ∉ vblk v' := fun hm => by
      rcases hnew _ hm with hm | hm
      · exact hrv hm
      · omega
    have hx5 := (hx2.trans hx4).step hc5 (fun k hk => (hown.lt hk).1)
    have hone5 : v'.oneCell' = true := by
      obtain ⟨p, q, rfl⟩ := hown5.slice
      rfl
    obtain ⟨p5, q5, e5⟩ := hown5.slice
    subst e5
    (repeat (first | refine La ?_ | refine Lb ?_ | refine Lc ?_ | refine Ld ?_ | refine Le ?_ | refine Lf ?_ | refine Lg ?_ | apply LW.nil | apply QW.then_n | apply QW.round | apply RW.succ | apply CW.seq | apply CW.region | apply CW.skip | apply CW.block | apply CW.ret | apply CW.exit | apply QW.then_ret | apply QW.then_exit | apply QW.blk_n | apply QW.blk_ret | apply QW.blk_exit | refine Ca ?_ | refine Cb ?_ | refine Cc ?_ | refine Lh ?_ | refine Li ?_ | refine Lj ?_ | refine Lk ?_ | refine Ll ?_))
    (apply LW.store_all; exact rfl; exact rfl; exact rfl; assumption; exact rfl; exact rfl; exact rfl; intro w6 hc6 hR)
    have hx6 := (hx.trans hx5).step hc6 (by simp; omega)
    have hown6 := hown5.chg hc6 (fun j hj hb => hR5 (by simp at hb; subst hb; exact hj))
    (repeat (first | refine La ?_ | refine Lb ?_ | refine Lc ?_ | refine Ld ?_ | refine Le ?_ | refine Lf ?_ | refine Lg ?_ | apply LW.nil | apply QW.then_n | apply QW.round | apply RW.succ | apply CW.seq | apply CW.region | apply CW.skip | apply CW.block | apply CW.ret | apply CW.exit | apply QW.then_ret | apply QW.then_exit | apply QW.blk_n | apply QW.blk_ret | apply QW.blk_exit | refine Ca ?_ | refine Cb ?_ | refine Cc ?_ | refine Lh ?_ | refine Li ?_ | refine Lj ?_ | refine Lk ?_ | refine Ll ?_))
    refine QW.body_c Tryd.results28 rfl hR rfl rfl rfl ⟨?_, hx6⟩
    rw [RLexV, if_neg h1, hla.end he]
    refine ⟨_, rfl, ?_⟩
    obtain ⟨hl, hh⟩ := own_tok hown6
    refine ⟨hl, ?_⟩
    rcases hh with hh | ⟨gg, cap, sp, e1, e2, e3, e4, e5⟩
    · exact .inl hh
    · exact .inr ⟨gg, cap, sp, e1, e2, e3, e4, by have := hx.size; omega⟩
end Go.Proofs.YtfpklhgkndnjjaaDoor
