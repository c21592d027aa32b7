/-
  The laws of layer 4: blanks ahead of tokens.
-/
import Derived.Test.YtfpklhgkndnjjaaDoorLexY
namespace Go.Proofs.YtfpklhgkndnjjaaDoor
open Go Go.E

/-- A row of numbers that came in. -/
def InS (k : IntKind) (w : World) (v : Value) (zs : List Int) : Prop :=
  zs.length ≤ 9223372036854775807 ∧ (v = .slice none 0 0 ∧ zs = [] ∨ ∃ a cap, v = .slice (some a) zs.length cap ∧ ∀ i z, zs[i]? = some z → w.cell? (a.add i) = some (.int k z))
theorem InS.ext {k : IntKind} {w w' : World} {v : Value} {zs : List Int} (h : InS k w v zs) (x : Ext w w') : InS k w' v zs := by
  obtain ⟨h0, h | ⟨a, cap, e, h⟩⟩ := h
  · exact ⟨h0, .inl h⟩
  · exact ⟨h0, .inr ⟨a, cap, e, fun i z hz => cell_ext x (h i z hz)⟩⟩
theorem InS.slice {k : IntKind} {w : World} {v : Value} {zs : List Int} (h : InS k w v zs) : ∃ p c, v = .slice p zs.length c := by
  obtain ⟨h0, ⟨rfl, rfl⟩ | ⟨a, cap, e, h⟩⟩ := h
  · exact ⟨_, _, rfl⟩
  · exact ⟨_, _, e⟩

def bOf (zs : List Int) (i : Nat) : Nat := if i < zs.length then (zs.getD i 0 % 3).toNat else 0
theorem cut_len (s : List UInt8) (i j : Nat) : (cut s i j).length ≤ s.length := by simp [cut]; omega
theorem ref_part (x : TokD) : ∀ j, j < (refL x.ref).length → (tokL x)[3 + j]? = (refL x.ref)[j]? := by
  intro j hj
  match j with
  | 0 | 1 | 2 | 3 | 4 => rfl
  | j + 5 => simp [refL] at hj; omega
theorem noAt_eq {x y : TokD} (h : noAt x = noAt y) : y = ⟨x.kind, x.text, x.num, x.ref, y.at_⟩ := by
  obtain ⟨k1, t1, n1, r1, a1⟩ := x
  obtain ⟨k2, t2, n2, r2, a2⟩ := y
  simp only [noAt, TokD.mk.injEq] at h
  obtain ⟨rfl, rfl, rfl, rfl, _⟩ := h
  rfl

set_option maxHeartbeats 1000000 in
theorem LexBlanks_ret (s : List UInt8) (hs : s.length ≤ 9223372036854775807) (nv : Value) (zs : List Int) (w : World) (g : Glob w) (hin : InS .u8 w nv zs) (hz : ∀ z ∈ zs, 0 ≤ z ∧ z ≤ 255) :
    Ret Tryd.prog 7 [str s, nv] w (fun v w' => v = .bool true ∧ Ext w w') := by
  obtain ⟨np, nc, rfl⟩ := hin.slice
  have hzl := hin.1
  refine Ret.enter Tryd.func7 rfl Tryd.ntmps7 (by kernel_rfl) rfl ?_
  (repeat (first | refine La ?_ | refine Lb ?_ | refine Lc ?_ | refine Ld ?_ | refine Le ?_ | refine Lf ?_ | refine Lg ?_ | apply LW.nil | apply QW.then_n | apply QW.round | apply RW.succ | apply CW.seq | apply CW.region | apply CW.skip | apply CW.block | apply CW.ret | apply CW.exit | apply QW.then_ret | apply QW.then_exit | apply QW.blk_n | apply QW.blk_ret | apply QW.blk_exit | refine Ca ?_ | refine Cb ?_ | refine Cc ?_ | refine Lh ?_ | refine Li ?_ | refine Lj ?_ | refine Lk ?_ | refine Ll ?_))
  refine LW.part rfl rfl rfl (fun h0 => ?_) (fun h0 => ?_)
  · (repeat (first | refine La ?_ | refine Lb ?_ | refine Lc ?_ | refine Ld ?_ | refine Le ?_ | refine Lf ?_ | refine Lg ?_ | apply LW.nil | apply QW.then_n | apply QW.round | apply RW.succ | apply CW.seq | apply CW.region | apply CW.skip | apply CW.block | apply CW.ret | apply CW.exit | apply QW.then_ret | apply QW.then_exit | apply QW.blk_n | apply QW.blk_ret | apply QW.blk_exit | refine Ca ?_ | refine Cb ?_ | refine Cc ?_ | refine Lh ?_ | refine Li ?_ | refine Lj ?_ | refine Lk ?_ | refine Ll ?_))
    refine LW.call0 rfl rfl (awake4_ret w g) ?_
    rintro v w2 ⟨rfl, hx2⟩
    (repeat (first | refine La ?_ | refine Lb ?_ | refine Lc ?_ | refine Ld ?_ | refine Le ?_ | refine Lf ?_ | refine Lg ?_ | apply LW.nil | apply QW.then_n | apply QW.round | apply RW.succ | apply CW.seq | apply CW.region | apply CW.skip | apply CW.block | apply CW.ret | apply CW.exit | apply QW.then_ret | apply QW.then_exit | apply QW.blk_n | apply QW.blk_ret | apply QW.blk_exit | refine Ca ?_ | refine Cb ?_ | refine Cc ?_ | refine Lh ?_ | refine Li ?_ | refine Lj ?_ | refine Lk ?_ | refine Ll ?_))
    exact QW.body1 Tryd.results7 rfl ⟨rfl, hx2⟩
  have h0 : s.length ≤ 200 := by simp at h0; omega
  (repeat (first | refine La ?_ | refine Lb ?_ | refine Lc ?_ | refine Ld ?_ | refine Le ?_ | refine Lf ?_ | refine Lg ?_ | apply LW.nil | apply QW.then_n | apply QW.round | apply RW.succ | apply CW.seq | apply CW.region | apply CW.skip | apply CW.block | apply CW.ret | apply CW.exit | apply QW.then_ret | apply QW.then_exit | apply QW.blk_n | apply QW.blk_ret | apply QW.blk_exit | refine Ca ?_ | refine Cb ?_ | refine Cc ?_ | refine Lh ?_ | refine Li ?_ | refine Lj ?_ | refine Lk ?_ | refine Ll ?_))
  refine CW.cond rfl (fun h1 => ?_) (fun h1 => ?_)
  · (repeat (first | refine La ?_ | refine Lb ?_ | refine Lc ?_ | refine Ld ?_ | refine Le ?_ | refine Lf ?_ | refine Lg ?_ | apply LW.nil | apply QW.then_n | apply QW.round | apply RW.succ | apply CW.seq | apply CW.region | apply CW.skip | apply CW.block | apply CW.ret | apply CW.exit | apply QW.then_ret | apply QW.then_exit | apply QW.blk_n | apply QW.blk_ret | apply QW.blk_exit | refine Ca ?_ | refine Cb ?_ | refine Cc ?_ | refine Lh ?_ | refine Li ?_ | refine Lj ?_ | refine Lk ?_ | refine Ll ?_))
    refine LW.call0 rfl rfl (awake4_ret w g) ?_
    rintro v w2 ⟨rfl, hx2⟩
    (repeat (first | refine La ?_ | refine Lb ?_ | refine Lc ?_ | refine Ld ?_ | refine Le ?_ | refine Lf ?_ | refine Lg ?_ | apply LW.nil | apply QW.then_n | apply QW.round | apply RW.succ | apply CW.seq | apply CW.region | apply CW.skip | apply CW.block | apply CW.ret | apply CW.exit | apply QW.then_ret | apply QW.then_exit | apply QW.blk_n | apply QW.blk_ret | apply QW.blk_exit | refine Ca ?_ | refine Cb ?_ | refine Cc ?_ | refine Lh ?_ | refine Li ?_ | refine Lj ?_ | refine Lk ?_ | refine Ll ?_))
    exact QW.body1 Tryd.results7 rfl ⟨rfl, hx2⟩
  have h1 : zs.length ≤ 60 := by simp at h1; omega
  (repeat (first | refine La ?_ | refine Lb ?_ | refine Lc ?_ | refine Ld ?_ | refine Le ?_ | refine Lf ?_ | refine Lg ?_ | apply LW.nil | apply QW.then_n | apply QW.round | apply RW.succ | apply CW.seq | apply CW.region | apply CW.skip | apply CW.block | apply CW.ret | apply CW.exit | apply QW.then_ret | apply QW.then_exit | apply QW.blk_n | apply QW.blk_ret | apply QW.blk_exit | refine Ca ?_ | refine Cb ?_ | refine Cc ?_ | refine Lh ?_ | refine Li ?_ | refine Lj ?_ | refine Lk ?_ | refine Ll ?_))
  refine LW.call0 rfl rfl (Lex_ret s hs w g) ?_
  rintro v w1 ⟨hv, hx1⟩
  rw [LexV, if_neg (by omega)] at hv
  cases hlex : lexT s with
  | none =>
    rw [hlex] at hv
    subst hv
    (repeat (first | refine La ?_ | refine Lb ?_ | refine Lc ?_ | refine Ld ?_ | refine Le ?_ | refine Lf ?_ | refine Lg ?_ | apply LW.nil | apply QW.then_n | apply QW.round | apply RW.succ | apply CW.seq | apply CW.region | apply CW.skip | apply CW.block | apply CW.ret | apply CW.exit | apply QW.then_ret | apply QW.then_exit | apply QW.blk_n | apply QW.blk_ret | apply QW.blk_exit | refine Ca ?_ | refine Cb ?_ | refine Cc ?_ | refine Lh ?_ | refine Li ?_ | refine Lj ?_ | refine Lk ?_ | refine Ll ?_))
    refine LW.call0 rfl rfl (Num_ret 5 w1) ?_
    rintro v w2 ⟨rfl, hx2⟩
    (repeat (first | refine La ?_ | refine Lb ?_ | refine Lc ?_ | refine Ld ?_ | refine Le ?_ | refine Lf ?_ | refine Lg ?_ | apply LW.nil | apply QW.then_n | apply QW.round | apply RW.succ | apply CW.seq | apply CW.region | apply CW.skip | apply CW.block | apply CW.ret | apply CW.exit | apply QW.then_ret | apply QW.then_exit | apply QW.blk_n | apply QW.blk_ret | apply QW.blk_exit | refine Ca ?_ | refine Cb ?_ | refine Cc ?_ | refine Lh ?_ | refine Li ?_ | refine Lj ?_ | refine Lk ?_ | refine Ll ?_))
    refine LW.call0 rfl rfl (awake4_ret w2 (g.ext (hx1.trans hx2))) ?_
    rintro v w3 ⟨rfl, hx3⟩
    (repeat (first | refine La ?_ | refine Lb ?_ | refine Lc ?_ | refine Ld ?_ | refine Le ?_ | refine Lf ?_ | refine Lg ?_ | apply LW.nil | apply QW.then_n | apply QW.round | apply RW.succ | apply CW.seq | apply CW.region | apply CW.skip | apply CW.block | apply CW.ret | apply CW.exit | apply QW.then_ret | apply QW.then_exit | apply QW.blk_n | apply QW.blk_ret | apply QW.blk_exit | refine Ca ?_ | refine Cb ?_ | refine Cc ?_ | refine Lh ?_ | refine Li ?_ | refine Lj ?_ | refine Lk ?_ | refine Ll ?_))
    exact QW.body1 Tryd.results7 rfl ⟨rfl, (hx1.trans hx2).trans hx3⟩
  | some l =>
  rw [hlex] at hv
  obtain ⟨sv, rfl, hown⟩ := hv
  have hln := lexT_len hlex
  have hlne : 0 < l.length := List.length_pos_iff.2 (lexF_ne hlex)
  obtain ⟨b1, cap1, sp1, rfl, hB1, _⟩ := hown.get hlne
  have hup : Up s.length 0 l := lexF_up l 0 (by omega) hlex
  obtain ⟨T, hT⟩ : ∃ T, T = ins s (bOf zs) 0 l 0 := ⟨_, rfl⟩
  (repeat (first | refine La ?_ | refine Lb ?_ | refine Lc ?_ | refine Ld ?_ | refine Le ?_ | refine Lf ?_ | refine Lg ?_ | apply LW.nil | apply QW.then_n | apply QW.round | apply RW.succ | apply CW.seq | apply CW.region | apply CW.skip | apply CW.block | apply CW.ret | apply CW.exit | apply QW.then_ret | apply QW.then_exit | apply QW.blk_n | apply QW.blk_ret | apply QW.blk_exit | refine Ca ?_ | refine Cb ?_ | refine Cc ?_ | refine Lh ?_ | refine Li ?_ | refine Lj ?_ | refine Lk ?_ | refine Ll ?_))
  refine LW.call0 rfl rfl (Num_ret 0 w1) ?_
  rintro v w2 ⟨rfl, hx2⟩
  replace hB1 := hB1.ext hx2
  replace hx2 := hx1.trans hx2
  replace hin := hin.ext hx2
  (repeat (first | refine La ?_ | refine Lb ?_ | refine Lc ?_ | refine Ld ?_ | refine Le ?_ | refine Lf ?_ | refine Lg ?_ | apply LW.nil | apply QW.then_n | apply QW.round | apply RW.succ | apply CW.seq | apply CW.region | apply CW.skip | apply CW.block | apply CW.ret | apply CW.exit | apply QW.then_ret | apply QW.then_exit | apply QW.blk_n | apply QW.blk_ret | apply QW.blk_exit | refine Ca ?_ | refine Cb ?_ | refine Cc ?_ | refine Lh ?_ | refine Li ?_ | refine Lj ?_ | refine Lk ?_ | refine Ll ?_))
  refine CW.loop (ι := Nat × List UInt8 × Nat) (fun k w' => k.1 ≤ l.length ∧ w2 = w' ∧ k.2.2 ≤ s.length ∧ Up s.length k.2.2 (l.drop k.1) ∧ k.2.1 ++ ins s (bOf zs) k.2.2 (l.drop k.1) k.1 = T ∧ k.2.1.length ≤ k.2.2 + 2 * k.1) (fun k => [(0, str s), (1, .slice np zs.length nc), (5, .slice (some ⟨b1, 0, none⟩) l.length cap1), (7, str k.2.1), (8, .int .i64 k.2.2), (9, .int .i64 k.1)]) (fun k => l.length - k.1) (0, [], 0) ⟨by simp, rfl, by simp, hup, by rw [hT]; rfl, by simp⟩ (Sub.cons rfl (Sub.cons rfl (Sub.cons rfl (Sub.cons rfl (Sub.cons rfl (Sub.cons rfl (Sub.nil))))))) ?_
  rintro ⟨i, t, last⟩ w' ⟨hi, rfl, hla, hupi, hins, htl⟩
  simp only at hi hla hupi hins htl
  show CW _ _ _ _ _ [(0, str s), (1, .slice np zs.length nc), (5, .slice (some ⟨b1, 0, none⟩) l.length cap1), (7, str t), (8, .int .i64 last), (9, .int .i64 i)] _
  (repeat (first | refine La ?_ | refine Lb ?_ | refine Lc ?_ | refine Ld ?_ | refine Le ?_ | refine Lf ?_ | refine Lg ?_ | apply LW.nil | apply QW.then_n | apply QW.round | apply RW.succ | apply CW.seq | apply CW.region | apply CW.skip | apply CW.block | apply CW.ret | apply CW.exit | apply QW.then_ret | apply QW.then_exit | apply QW.blk_n | apply QW.blk_ret | apply QW.blk_exit | refine Ca ?_ | refine Cb ?_ | refine Cc ?_ | refine Lh ?_ | refine Li ?_ | refine Lj ?_ | refine Lk ?_ | refine Ll ?_))
  refine CW.cond rfl (fun h2 => ?_) (fun h2 => ?_)
  · have h2 : i < l.length := by simp at h2; omega
    have hd : l.drop i = l[i] :: l.drop (i + 1) := List.drop_eq_getElem_cons h2
    obtain ⟨x, hx⟩ : ∃ x, x = l[i] := ⟨_, rfl⟩
    have hg : l[i]? = some x := by rw [hx]; exact List.getElem?_eq_getElem h2
    rw [hd, ← hx] at hupi hins
    obtain ⟨u0, u1, u2, u3⟩ := hupi
    have hload : (l.flatMap tokL ++ sp1)[i * 9 + 8]? = some (.int .i64 x.at_) := (flat_get tok_len l sp1 i x 8 hg (by omega)).trans rfl
    (repeat (first | refine La ?_ | refine Lb ?_ | refine Lc ?_ | refine Ld ?_ | refine Le ?_ | refine Lf ?_ | refine Lg ?_ | apply LW.nil | apply QW.then_n | apply QW.round | apply RW.succ | apply CW.seq | apply CW.region | apply CW.skip | apply CW.block | apply CW.ret | apply CW.exit | apply QW.then_ret | apply QW.then_exit | apply QW.blk_n | apply QW.blk_ret | apply QW.blk_exit | refine Ca ?_ | refine Cb ?_ | refine Cc ?_ | refine Lh ?_ | refine Li ?_ | refine Lj ?_ | refine Lk ?_ | refine Ll ?_))
    refine LW.idx_slice (j := i * 9) rfl rfl rfl rfl rfl (by omega) (by omega) (by show 0 + _ * 9 = _; omega) rfl ?_
    (repeat (first | refine La ?_ | refine Lb ?_ | refine Lc ?_ | refine Ld ?_ | refine Le ?_ | refine Lf ?_ | refine Lg ?_ | apply LW.nil | apply QW.then_n | apply QW.round | apply RW.succ | apply CW.seq | apply CW.region | apply CW.skip | apply CW.block | apply CW.ret | apply CW.exit | apply QW.then_ret | apply QW.then_exit | apply QW.blk_n | apply QW.blk_ret | apply QW.blk_exit | refine Ca ?_ | refine Cb ?_ | refine Cc ?_ | refine Lh ?_ | refine Li ?_ | refine Lj ?_ | refine Lk ?_ | refine Ll ?_))
    refine LW.load rfl hB1 hload rfl rfl rfl ?_
    (repeat (first | refine La ?_ | refine Lb ?_ | refine Lc ?_ | refine Ld ?_ | refine Le ?_ | refine Lf ?_ | refine Lg ?_ | apply LW.nil | apply QW.then_n | apply QW.round | apply RW.succ | apply CW.seq | apply CW.region | apply CW.skip | apply CW.block | apply CW.ret | apply CW.exit | apply QW.then_ret | apply QW.then_exit | apply QW.blk_n | apply QW.blk_ret | apply QW.blk_exit | refine Ca ?_ | refine Cb ?_ | refine Cc ?_ | refine Lh ?_ | refine Li ?_ | refine Lj ?_ | refine Lk ?_ | refine Ll ?_))
    refine LW.know (t := 50) (c := false) rfl (by simp; omega) ?_
    (repeat (first | refine La ?_ | refine Lb ?_ | refine Lc ?_ | refine Ld ?_ | refine Le ?_ | refine Lf ?_ | refine Lg ?_ | apply LW.nil | apply QW.then_n | apply QW.round | apply RW.succ | apply CW.seq | apply CW.region | apply CW.skip | apply CW.block | apply CW.ret | apply CW.exit | apply QW.then_ret | apply QW.then_exit | apply QW.blk_n | apply QW.blk_ret | apply QW.blk_exit | refine Ca ?_ | refine Cb ?_ | refine Cc ?_ | refine Lh ?_ | refine Li ?_ | refine Lj ?_ | refine Lk ?_ | refine Ll ?_))
    refine LW.idx_slice (j := i * 9) rfl rfl rfl rfl rfl (by omega) (by omega) (by show 0 + _ * 9 = _; omega) rfl ?_
    (repeat (first | refine La ?_ | refine Lb ?_ | refine Lc ?_ | refine Ld ?_ | refine Le ?_ | refine Lf ?_ | refine Lg ?_ | apply LW.nil | apply QW.then_n | apply QW.round | apply RW.succ | apply CW.seq | apply CW.region | apply CW.skip | apply CW.block | apply CW.ret | apply CW.exit | apply QW.then_ret | apply QW.then_exit | apply QW.blk_n | apply QW.blk_ret | apply QW.blk_exit | refine Ca ?_ | refine Cb ?_ | refine Cc ?_ | refine Lh ?_ | refine Li ?_ | refine Lj ?_ | refine Lk ?_ | refine Ll ?_))
    refine LW.load rfl hB1 hload rfl rfl rfl ?_
    (repeat (first | refine La ?_ | refine Lb ?_ | refine Lc ?_ | refine Ld ?_ | refine Le ?_ | refine Lf ?_ | refine Lg ?_ | apply LW.nil | apply QW.then_n | apply QW.round | apply RW.succ | apply CW.seq | apply CW.region | apply CW.skip | apply CW.block | apply CW.ret | apply CW.exit | apply QW.then_ret | apply QW.then_exit | apply QW.blk_n | apply QW.blk_ret | apply QW.blk_exit | refine Ca ?_ | refine Cb ?_ | refine Cc ?_ | refine Lh ?_ | refine Li ?_ | refine Lj ?_ | refine Lk ?_ | refine Ll ?_))
    refine CW.no rfl (by simp; omega) ?_
    (repeat (first | refine La ?_ | refine Lb ?_ | refine Lc ?_ | refine Ld ?_ | refine Le ?_ | refine Lf ?_ | refine Lg ?_ | apply LW.nil | apply QW.then_n | apply QW.round | apply RW.succ | apply CW.seq | apply CW.region | apply CW.skip | apply CW.block | apply CW.ret | apply CW.exit | apply QW.then_ret | apply QW.then_exit | apply QW.blk_n | apply QW.blk_ret | apply QW.blk_exit | refine Ca ?_ | refine Cb ?_ | refine Cc ?_ | refine Lh ?_ | refine Li ?_ | refine Lj ?_ | refine Lk ?_ | refine Ll ?_))
    refine LW.idx_slice (j := i * 9) rfl rfl rfl rfl rfl (by omega) (by omega) (by show 0 + _ * 9 = _; omega) rfl ?_
    (repeat (first | refine La ?_ | refine Lb ?_ | refine Lc ?_ | refine Ld ?_ | refine Le ?_ | refine Lf ?_ | refine Lg ?_ | apply LW.nil | apply QW.then_n | apply QW.round | apply RW.succ | apply CW.seq | apply CW.region | apply CW.skip | apply CW.block | apply CW.ret | apply CW.exit | apply QW.then_ret | apply QW.then_exit | apply QW.blk_n | apply QW.blk_ret | apply QW.blk_exit | refine Ca ?_ | refine Cb ?_ | refine Cc ?_ | refine Lh ?_ | refine Li ?_ | refine Lj ?_ | refine Lk ?_ | refine Ll ?_))
    refine LW.load rfl hB1 hload rfl rfl rfl ?_
    have hcl : (cut s ((last : Nat) : Int).toNat x.at_.toNat).length = x.at_.toNat - last := by simp [cut]; omega
    (repeat (first | refine La ?_ | refine Lb ?_ | refine Lc ?_ | refine Ld ?_ | refine Le ?_ | refine Lf ?_ | refine Lg ?_ | apply LW.nil | apply QW.then_n | apply QW.round | apply RW.succ | apply CW.seq | apply CW.region | apply CW.skip | apply CW.block | apply CW.ret | apply CW.exit | apply QW.then_ret | apply QW.then_exit | apply QW.blk_n | apply QW.blk_ret | apply QW.blk_exit | refine Ca ?_ | refine Cb ?_ | refine Cc ?_ | refine Lh ?_ | refine Li ?_ | refine Lj ?_ | refine Lk ?_ | refine Ll ?_ | refine Lm ?_))
    have hcut : cut s ((last : Nat) : Int).toNat x.at_.toNat = cut s last x.at_.toNat := rfl
    rw [hcut] at hcl ⊢
    refine CW.loop (ι := Nat) (fun j w' => j ≤ bOf zs i ∧ w2 = w') (fun j => [(0, str s), (1, .slice np zs.length nc), (5, .slice (some ⟨b1, 0, none⟩) l.length cap1), (7, str (t ++ cut s last x.at_.toNat ++ List.replicate j 32)), (8, .int .i64 last), (9, .int .i64 i), (10, .int .i64 j)]) (fun j => bOf zs i - j) 0 ⟨by omega, rfl⟩ (Sub.cons rfl (Sub.cons rfl (Sub.cons rfl (Sub.cons (by show some (str (t ++ cut s last x.at_.toNat)) = some (str (t ++ cut s last x.at_.toNat ++ [])); rw [List.append_nil]) (Sub.cons rfl (Sub.cons rfl (Sub.cons rfl Sub.nil))))))) ?_
    rintro j w' ⟨hj, rfl⟩
    have hb3 : bOf zs i ≤ 2 := by unfold bOf; split <;> omega
    (repeat (first | refine La ?_ | refine Lb ?_ | refine Lc ?_ | refine Ld ?_ | refine Le ?_ | refine Lf ?_ | refine Lg ?_ | apply LW.nil | apply QW.then_n | apply QW.round | apply RW.succ | apply CW.seq | apply CW.region | apply CW.skip | apply CW.block | apply CW.ret | apply CW.exit | apply QW.then_ret | apply QW.then_exit | apply QW.blk_n | apply QW.blk_ret | apply QW.blk_exit | refine Ca ?_ | refine Cb ?_ | refine Cc ?_ | refine Lh ?_ | refine Li ?_ | refine Lj ?_ | refine Lk ?_ | refine Ll ?_))
    refine LW.part rfl rfl rfl (fun h3 => ?_) (fun h3 => ?_)
    · have h3 : i < zs.length := by simp at h3; omega
      have hb : bOf zs i = (zs.getD i 0 % 3).toNat := by rw [bOf, if_pos h3]
      have hgz : zs[i]? = some (zs.getD i 0) := by simp [List.getD_eq_getElem?_getD, List.getElem?_eq_getElem h3]
      have hzz := hz (zs.getD i 0) (List.mem_of_getElem? hgz)
      obtain ⟨a0, cap0, e0, hcell⟩ : ∃ a cap, np = some a ∧ nc = cap ∧ ∀ i z, zs[i]? = some z → w2.cell? (a.add i) = some (.int .u8 z) := by
        obtain ⟨_, ⟨_, hn⟩ | ⟨a, cap, e, h⟩⟩ := hin
        · rw [hn] at h3; simp at h3
        · simp only [Value.slice.injEq] at e
          exact ⟨a, cap, e.1, e.2.2, h⟩
      subst e0
      (repeat (first | refine La ?_ | refine Lb ?_ | refine Lc ?_ | refine Ld ?_ | refine Le ?_ | refine Lf ?_ | refine Lg ?_ | apply LW.nil | apply QW.then_n | apply QW.round | apply RW.succ | apply CW.seq | apply CW.region | apply CW.skip | apply CW.block | apply CW.ret | apply CW.exit | apply QW.then_ret | apply QW.then_exit | apply QW.blk_n | apply QW.blk_ret | apply QW.blk_exit | refine Ca ?_ | refine Cb ?_ | refine Cc ?_ | refine Lh ?_ | refine Li ?_ | refine Lj ?_ | refine Lk ?_ | refine Ll ?_))
      refine LW.idx_addr rfl rfl rfl rfl rfl (by omega) (by omega) rfl ?_
      (repeat (first | refine La ?_ | refine Lb ?_ | refine Lc ?_ | refine Ld ?_ | refine Le ?_ | refine Lf ?_ | refine Lg ?_ | apply LW.nil | apply QW.then_n | apply QW.round | apply RW.succ | apply CW.seq | apply CW.region | apply CW.skip | apply CW.block | apply CW.ret | apply CW.exit | apply QW.then_ret | apply QW.then_exit | apply QW.blk_n | apply QW.blk_ret | apply QW.blk_exit | refine Ca ?_ | refine Cb ?_ | refine Cc ?_ | refine Lh ?_ | refine Li ?_ | refine Lj ?_ | refine Lk ?_ | refine Ll ?_))
      refine LW.load_cell rfl (by show w2.cell? (a0.add (i * 1)) = _; rw [Nat.mul_one]; exact hcell.2 i _ hgz) rfl rfl rfl ?_
      (repeat (first | refine La ?_ | refine Lb ?_ | refine Lc ?_ | refine Ld ?_ | refine Le ?_ | refine Lf ?_ | refine Lg ?_ | apply LW.nil | apply QW.then_n | apply QW.round | apply RW.succ | apply CW.seq | apply CW.region | apply CW.skip | apply CW.block | apply CW.ret | apply CW.exit | apply QW.then_ret | apply QW.then_exit | apply QW.blk_n | apply QW.blk_ret | apply QW.blk_exit | refine Ca ?_ | refine Cb ?_ | refine Cc ?_ | refine Lh ?_ | refine Li ?_ | refine Lj ?_ | refine Lk ?_ | refine Ll ?_))
      refine CW.cond rfl (fun h4 => ?_) (fun h4 => ?_)
      · have h4 : (j : Int) < zs.getD i 0 % 3 := by simpa using h4
        (repeat (first | refine La ?_ | refine Lb ?_ | refine Lc ?_ | refine Ld ?_ | refine Le ?_ | refine Lf ?_ | refine Lg ?_ | apply LW.nil | apply QW.then_n | apply QW.round | apply RW.succ | apply CW.seq | apply CW.region | apply CW.skip | apply CW.block | apply CW.ret | apply CW.exit | apply QW.then_ret | apply QW.then_exit | apply QW.blk_n | apply QW.blk_ret | apply QW.blk_exit | refine Ca ?_ | refine Cb ?_ | refine Cc ?_ | refine Lh ?_ | refine Li ?_ | refine Lj ?_ | refine Lk ?_ | refine Ll ?_))
        refine QW.again (j + 1) ⟨by omega, rfl⟩ (Sub.cons rfl (Sub.cons rfl (Sub.cons rfl (Sub.cons ?_ (Sub.cons rfl (Sub.cons rfl (Sub.cons rfl Sub.nil))))))) (by omega)
        show some (str ((t ++ cut s last x.at_.toNat ++ List.replicate j 32) ++ [32])) = _
        rw [List.append_assoc, ← List.replicate_succ']
      · have h4 : ¬ (j : Int) < zs.getD i 0 % 3 := by simpa using h4
        have hjb : j = bOf zs i := by omega
        (repeat (first | refine La ?_ | refine Lb ?_ | refine Lc ?_ | refine Ld ?_ | refine Le ?_ | refine Lf ?_ | refine Lg ?_ | apply LW.nil | apply QW.then_n | apply QW.round | apply RW.succ | apply CW.seq | apply CW.region | apply CW.skip | apply CW.block | apply CW.ret | apply CW.exit | apply QW.then_ret | apply QW.then_exit | apply QW.blk_n | apply QW.blk_ret | apply QW.blk_exit | refine Ca ?_ | refine Cb ?_ | refine Cc ?_ | refine Lh ?_ | refine Li ?_ | refine Lj ?_ | refine Lk ?_ | refine Ll ?_))
        refine LW.idx_slice (j := i * 9) rfl rfl rfl rfl rfl (by omega) (by omega) (by show 0 + _ * 9 = _; omega) rfl ?_
        (repeat (first | refine La ?_ | refine Lb ?_ | refine Lc ?_ | refine Ld ?_ | refine Le ?_ | refine Lf ?_ | refine Lg ?_ | apply LW.nil | apply QW.then_n | apply QW.round | apply RW.succ | apply CW.seq | apply CW.region | apply CW.skip | apply CW.block | apply CW.ret | apply CW.exit | apply QW.then_ret | apply QW.then_exit | apply QW.blk_n | apply QW.blk_ret | apply QW.blk_exit | refine Ca ?_ | refine Cb ?_ | refine Cc ?_ | refine Lh ?_ | refine Li ?_ | refine Lj ?_ | refine Lk ?_ | refine Ll ?_))
        refine LW.load rfl hB1 hload rfl rfl rfl ?_
        (repeat (first | refine La ?_ | refine Lb ?_ | refine Lc ?_ | refine Ld ?_ | refine Le ?_ | refine Lf ?_ | refine Lg ?_ | apply LW.nil | apply QW.then_n | apply QW.round | apply RW.succ | apply CW.seq | apply CW.region | apply CW.skip | apply CW.block | apply CW.ret | apply CW.exit | apply QW.then_ret | apply QW.then_exit | apply QW.blk_n | apply QW.blk_ret | apply QW.blk_exit | refine Ca ?_ | refine Cb ?_ | refine Cc ?_ | refine Lh ?_ | refine Li ?_ | refine Lj ?_ | refine Lk ?_ | refine Ll ?_))
        refine QW.again (i + 1, t ++ cut s last x.at_.toNat ++ List.replicate (bOf zs i) 32, x.at_.toNat) ⟨by show i + 1 ≤ _; omega, rfl, u2, u3, ?_, ?_⟩ (Sub.cons rfl (Sub.cons rfl (Sub.cons rfl (Sub.cons (by rw [← hjb]; rfl) (Sub.cons (by show some (Value.int .i64 x.at_) = some (Value.int .i64 ((x.at_.toNat : Nat) : Int)); rw [Int.toNat_of_nonneg u0]) (Sub.cons rfl Sub.nil)))))) (by show l.length - (i + 1) < l.length - i; omega)
        · simp only [ins] at hins
          rw [← hins]
          simp
        · simp [hcl]
          omega
    · have h3 : ¬ i < zs.length := by simp at h3; omega
      have hb : bOf zs i = 0 := by rw [bOf, if_neg h3]
      have hjb : j = bOf zs i := by omega
      (repeat (first | refine La ?_ | refine Lb ?_ | refine Lc ?_ | refine Ld ?_ | refine Le ?_ | refine Lf ?_ | refine Lg ?_ | apply LW.nil | apply QW.then_n | apply QW.round | apply RW.succ | apply CW.seq | apply CW.region | apply CW.skip | apply CW.block | apply CW.ret | apply CW.exit | apply QW.then_ret | apply QW.then_exit | apply QW.blk_n | apply QW.blk_ret | apply QW.blk_exit | refine Ca ?_ | refine Cb ?_ | refine Cc ?_ | refine Lh ?_ | refine Li ?_ | refine Lj ?_ | refine Lk ?_ | refine Ll ?_))
      refine LW.idx_slice (j := i * 9) rfl rfl rfl rfl rfl (by omega) (by omega) (by show 0 + _ * 9 = _; omega) rfl ?_
      (repeat (first | refine La ?_ | refine Lb ?_ | refine Lc ?_ | refine Ld ?_ | refine Le ?_ | refine Lf ?_ | refine Lg ?_ | apply LW.nil | apply QW.then_n | apply QW.round | apply RW.succ | apply CW.seq | apply CW.region | apply CW.skip | apply CW.block | apply CW.ret | apply CW.exit | apply QW.then_ret | apply QW.then_exit | apply QW.blk_n | apply QW.blk_ret | apply QW.blk_exit | refine Ca ?_ | refine Cb ?_ | refine Cc ?_ | refine Lh ?_ | refine Li ?_ | refine Lj ?_ | refine Lk ?_ | refine Ll ?_))
      refine LW.load rfl hB1 hload rfl rfl rfl ?_
      (repeat (first | refine La ?_ | refine Lb ?_ | refine Lc ?_ | refine Ld ?_ | refine Le ?_ | refine Lf ?_ | refine Lg ?_ | apply LW.nil | apply QW.then_n | apply QW.round | apply RW.succ | apply CW.seq | apply CW.region | apply CW.skip | apply CW.block | apply CW.ret | apply CW.exit | apply QW.then_ret | apply QW.then_exit | apply QW.blk_n | apply QW.blk_ret | apply QW.blk_exit | refine Ca ?_ | refine Cb ?_ | refine Cc ?_ | refine Lh ?_ | refine Li ?_ | refine Lj ?_ | refine Lk ?_ | refine Ll ?_))
      refine QW.again (i + 1, t ++ cut s last x.at_.toNat ++ List.replicate (bOf zs i) 32, x.at_.toNat) ⟨by show i + 1 ≤ _; omega, rfl, u2, u3, ?_, ?_⟩ (Sub.cons rfl (Sub.cons rfl (Sub.cons rfl (Sub.cons (by rw [← hjb]; rfl) (Sub.cons (by show some (Value.int .i64 x.at_) = some (Value.int .i64 ((x.at_.toNat : Nat) : Int)); rw [Int.toNat_of_nonneg u0]) (Sub.cons rfl Sub.nil)))))) (by show l.length - (i + 1) < l.length - i; omega)
      · simp only [ins] at hins
        rw [← hins]
        simp
      · simp [hcl]
        omega
  have h2 : i = l.length := by simp at h2; omega
  subst h2
  rw [List.drop_length] at hins
  simp only [ins] at hins
  have hcl : (cut s last s.length).length = s.length - last := by rw [cut_tail]; simp
  have hT2 : t ++ cut s ((last : Nat) : Int).toNat (s.length : Int).toNat = T := by
    show t ++ cut s last s.length = T
    rw [cut_tail, hins]
  have hTl : T.length ≤ 10000 := by
    rw [← hT2]
    show (t ++ cut s last s.length).length ≤ _
    rw [List.length_append, hcl]
    omega
  (repeat (first | refine La ?_ | refine Lb ?_ | refine Lc ?_ | refine Ld ?_ | refine Le ?_ | refine Lf ?_ | refine Lg ?_ | apply LW.nil | apply QW.then_n | apply QW.round | apply RW.succ | apply CW.seq | apply CW.region | apply CW.skip | apply CW.block | apply CW.ret | apply CW.exit | apply QW.then_ret | apply QW.then_exit | apply QW.blk_n | apply QW.blk_ret | apply QW.blk_exit | refine Ca ?_ | refine Cb ?_ | refine Cc ?_ | refine Lh ?_ | refine Li ?_ | refine Lj ?_ | refine Lk ?_ | refine Ll ?_ | refine Lm ?_))
  rw [hT2]
  refine LW.call0 rfl rfl (Lex_ret T (by omega) w2 (g.ext hx2)) ?_
  rintro v w3 ⟨hv, hx3⟩
  replace hB1 := hB1.ext hx3
  have hx3' := hx2.trans hx3
  by_cases hbig : 300 < T.length
  · rw [LexV, if_pos hbig] at hv
    subst hv
    (repeat (first | refine La ?_ | refine Lb ?_ | refine Lc ?_ | refine Ld ?_ | refine Le ?_ | refine Lf ?_ | refine Lg ?_ | apply LW.nil | apply QW.then_n | apply QW.round | apply RW.succ | apply CW.seq | apply CW.region | apply CW.skip | apply CW.block | apply CW.ret | apply CW.exit | apply QW.then_ret | apply QW.then_exit | apply QW.blk_n | apply QW.blk_ret | apply QW.blk_exit | refine Ca ?_ | refine Cb ?_ | refine Cc ?_ | refine Lh ?_ | refine Li ?_ | refine Lj ?_ | refine Lk ?_ | refine Ll ?_))
    refine CW.yes rfl (by simp; omega) ?_
    (repeat (first | refine La ?_ | refine Lb ?_ | refine Lc ?_ | refine Ld ?_ | refine Le ?_ | refine Lf ?_ | refine Lg ?_ | apply LW.nil | apply QW.then_n | apply QW.round | apply RW.succ | apply CW.seq | apply CW.region | apply CW.skip | apply CW.block | apply CW.ret | apply CW.exit | apply QW.then_ret | apply QW.then_exit | apply QW.blk_n | apply QW.blk_ret | apply QW.blk_exit | refine Ca ?_ | refine Cb ?_ | refine Cc ?_ | refine Lh ?_ | refine Li ?_ | refine Lj ?_ | refine Lk ?_ | refine Ll ?_))
    refine LW.call0 rfl rfl (Num_ret 4 w3) ?_
    rintro v w4 ⟨rfl, hx4⟩
    (repeat (first | refine La ?_ | refine Lb ?_ | refine Lc ?_ | refine Ld ?_ | refine Le ?_ | refine Lf ?_ | refine Lg ?_ | apply LW.nil | apply QW.then_n | apply QW.round | apply RW.succ | apply CW.seq | apply CW.region | apply CW.skip | apply CW.block | apply CW.ret | apply CW.exit | apply QW.then_ret | apply QW.then_exit | apply QW.blk_n | apply QW.blk_ret | apply QW.blk_exit | refine Ca ?_ | refine Cb ?_ | refine Cc ?_ | refine Lh ?_ | refine Li ?_ | refine Lj ?_ | refine Lk ?_ | refine Ll ?_))
    refine LW.call0 rfl rfl (awake4_ret w4 (g.ext (hx3'.trans hx4))) ?_
    rintro v w5 ⟨rfl, hx5⟩
    (repeat (first | refine La ?_ | refine Lb ?_ | refine Lc ?_ | refine Ld ?_ | refine Le ?_ | refine Lf ?_ | refine Lg ?_ | apply LW.nil | apply QW.then_n | apply QW.round | apply RW.succ | apply CW.seq | apply CW.region | apply CW.skip | apply CW.block | apply CW.ret | apply CW.exit | apply QW.then_ret | apply QW.then_exit | apply QW.blk_n | apply QW.blk_ret | apply QW.blk_exit | refine Ca ?_ | refine Cb ?_ | refine Cc ?_ | refine Lh ?_ | refine Li ?_ | refine Lj ?_ | refine Lk ?_ | refine Ll ?_))
    exact QW.body1 Tryd.results7 rfl ⟨rfl, (hx3'.trans hx4).trans hx5⟩
  rw [LexV, if_neg hbig] at hv
  obtain ⟨l', hl', hmap⟩ := ins_lex s (bOf zs) l 0 0 0 (by omega) hlex
  rw [← hT] at hl'
  rw [show lexT T = some l' from hl'] at hv
  obtain ⟨sv, rfl, hown2⟩ := hv
  have hll : l'.length = l.length := by simpa using congrArg List.length hmap
  obtain ⟨b2, cap2, sp2, rfl, hB2, _⟩ := hown2.get (by omega)
  (repeat (first | refine La ?_ | refine Lb ?_ | refine Lc ?_ | refine Ld ?_ | refine Le ?_ | refine Lf ?_ | refine Lg ?_ | apply LW.nil | apply QW.then_n | apply QW.round | apply RW.succ | apply CW.seq | apply CW.region | apply CW.skip | apply CW.block | apply CW.ret | apply CW.exit | apply QW.then_ret | apply QW.then_exit | apply QW.blk_n | apply QW.blk_ret | apply QW.blk_exit | refine Ca ?_ | refine Cb ?_ | refine Cc ?_ | refine Lh ?_ | refine Li ?_ | refine Lj ?_ | refine Lk ?_ | refine Ll ?_))
  refine CW.no rfl (by simp; omega) ?_
  (repeat (first | refine La ?_ | refine Lb ?_ | refine Lc ?_ | refine Ld ?_ | refine Le ?_ | refine Lf ?_ | refine Lg ?_ | apply LW.nil | apply QW.then_n | apply QW.round | apply RW.succ | apply CW.seq | apply CW.region | apply CW.skip | apply CW.block | apply CW.ret | apply CW.exit | apply QW.then_ret | apply QW.then_exit | apply QW.blk_n | apply QW.blk_ret | apply QW.blk_exit | refine Ca ?_ | refine Cb ?_ | refine Cc ?_ | refine Lh ?_ | refine Li ?_ | refine Lj ?_ | refine Lk ?_ | refine Ll ?_))
  refine LW.call0 rfl rfl (Num_ret 0 w3) ?_
  rintro v w4 ⟨rfl, hx4⟩
  replace hB1 := hB1.ext hx4
  replace hB2 := hB2.ext hx4
  have hx4' := hx3'.trans hx4
  (repeat (first | refine La ?_ | refine Lb ?_ | refine Lc ?_ | refine Ld ?_ | refine Le ?_ | refine Lf ?_ | refine Lg ?_ | apply LW.nil | apply QW.then_n | apply QW.round | apply RW.succ | apply CW.seq | apply CW.region | apply CW.skip | apply CW.block | apply CW.ret | apply CW.exit | apply QW.then_ret | apply QW.then_exit | apply QW.blk_n | apply QW.blk_ret | apply QW.blk_exit | refine Ca ?_ | refine Cb ?_ | refine Cc ?_ | refine Lh ?_ | refine Li ?_ | refine Lj ?_ | refine Lk ?_ | refine Ll ?_))
  refine CW.no rfl (by simp [hll]) ?_
  (repeat (first | refine La ?_ | refine Lb ?_ | refine Lc ?_ | refine Ld ?_ | refine Le ?_ | refine Lf ?_ | refine Lg ?_ | apply LW.nil | apply QW.then_n | apply QW.round | apply RW.succ | apply CW.seq | apply CW.region | apply CW.skip | apply CW.block | apply CW.ret | apply CW.exit | apply QW.then_ret | apply QW.then_exit | apply QW.blk_n | apply QW.blk_ret | apply QW.blk_exit | refine Ca ?_ | refine Cb ?_ | refine Cc ?_ | refine Lh ?_ | refine Li ?_ | refine Lj ?_ | refine Lk ?_ | refine Ll ?_))
  refine CW.loop (ι := Nat) (fun k w' => k ≤ l'.length ∧ Ext w4 w') (fun k => [(5, .slice (some ⟨b1, 0, none⟩) l.length cap1), (11, .slice (some ⟨b2, 0, none⟩) l'.length cap2), (13, .int .i64 k)]) (fun k => l'.length - k) 0 ⟨by omega, Chg.refl _ _⟩ (Sub.cons rfl (Sub.cons rfl (Sub.cons rfl (Sub.nil)))) ?_
  rintro k w5 ⟨hk, hx5⟩
  replace hB1 := hB1.ext hx5
  replace hB2 := hB2.ext hx5
  (repeat (first | refine La ?_ | refine Lb ?_ | refine Lc ?_ | refine Ld ?_ | refine Le ?_ | refine Lf ?_ | refine Lg ?_ | apply LW.nil | apply QW.then_n | apply QW.round | apply RW.succ | apply CW.seq | apply CW.region | apply CW.skip | apply CW.block | apply CW.ret | apply CW.exit | apply QW.then_ret | apply QW.then_exit | apply QW.blk_n | apply QW.blk_ret | apply QW.blk_exit | refine Ca ?_ | refine Cb ?_ | refine Cc ?_ | refine Lh ?_ | refine Li ?_ | refine Lj ?_ | refine Lk ?_ | refine Ll ?_))
  refine CW.cond rfl (fun h5 => ?_) (fun h5 => ?_)
  · have h5 : k < l'.length := by simp at h5; omega
    obtain ⟨x, hx⟩ : ∃ x, x = l'[k] := ⟨_, rfl⟩
    obtain ⟨y, hy⟩ : ∃ y, y = l[k] := ⟨_, rfl⟩
    have hgx : l'[k]? = some x := by rw [hx]; exact List.getElem?_eq_getElem h5
    have hgy : l[k]? = some y := by rw [hy]; exact List.getElem?_eq_getElem (by omega)
    have hxy : noAt x = noAt y := by
      have := congrArg (fun m : List TokD => m[k]?) hmap
      simp only [List.getElem?_map, hgx, hgy, Option.map_some, Option.some.injEq] at this
      exact this
    have hyx := noAt_eq hxy
    rw [hyx] at hgy
    generalize y.at_ = z at hgy
    have f2 : ∀ j, j < 9 → (l'.flatMap tokL ++ sp2)[k * 9 + j]? = (tokL x)[j]? := fun j hj => flat_get tok_len l' sp2 k x j hgx hj
    have f1 : ∀ j, j < 9 → (l.flatMap tokL ++ sp1)[k * 9 + j]? = (tokL ⟨x.kind, x.text, x.num, x.ref, z⟩)[j]? := fun j hj => flat_get tok_len l sp1 k _ j hgy hj
    (repeat (first | refine La ?_ | refine Lb ?_ | refine Lc ?_ | refine Ld ?_ | refine Le ?_ | refine Lf ?_ | refine Lg ?_ | apply LW.nil | apply QW.then_n | apply QW.round | apply RW.succ | apply CW.seq | apply CW.region | apply CW.skip | apply CW.block | apply CW.ret | apply CW.exit | apply QW.then_ret | apply QW.then_exit | apply QW.blk_n | apply QW.blk_ret | apply QW.blk_exit | refine Ca ?_ | refine Cb ?_ | refine Cc ?_ | refine Lh ?_ | refine Li ?_ | refine Lj ?_ | refine Lk ?_ | refine Ll ?_))
    refine CW.draw (by kernel_rfl) (by kernel_rfl) ?_
    (repeat (first | refine Qa ?_ | refine Qb ?_ | refine Qc ?_ | refine Qd ?_ | refine Qe ?_ | refine Qf ?_ | refine Qg ?_))
    refine QL.idx_slice (j := k * 9) rfl rfl rfl rfl rfl (by omega) (by omega) (by show 0 + _ * 9 = _; omega) rfl ?_
    (repeat (first | refine Qa ?_ | refine Qb ?_ | refine Qc ?_ | refine Qd ?_ | refine Qe ?_ | refine Qf ?_ | refine Qg ?_))
    refine QL.load rfl hB2 ((f2 0 (by omega)).trans rfl) rfl rfl rfl ?_
    (repeat (first | refine Qa ?_ | refine Qb ?_ | refine Qc ?_ | refine Qd ?_ | refine Qe ?_ | refine Qf ?_ | refine Qg ?_))
    refine QL.idx_slice (j := k * 9) rfl rfl rfl rfl rfl (by omega) (by omega) (by show 0 + _ * 9 = _; omega) rfl ?_
    (repeat (first | refine Qa ?_ | refine Qb ?_ | refine Qc ?_ | refine Qd ?_ | refine Qe ?_ | refine Qf ?_ | refine Qg ?_))
    refine QL.load rfl hB1 ((f1 0 (by omega)).trans rfl) rfl rfl rfl ?_
    (repeat (first | refine Qa ?_ | refine Qb ?_ | refine Qc ?_ | refine Qd ?_ | refine Qe ?_ | refine Qf ?_ | refine Qg ?_))
    refine QL.know (t := 139) (c := false) rfl (by simp) ?_
    (repeat (first | refine Qa ?_ | refine Qb ?_ | refine Qc ?_ | refine Qd ?_ | refine Qe ?_ | refine Qf ?_ | refine Qg ?_))
    refine QL.idx_slice (j := k * 9) rfl rfl rfl rfl rfl (by omega) (by omega) (by show 0 + _ * 9 = _; omega) rfl ?_
    (repeat (first | refine Qa ?_ | refine Qb ?_ | refine Qc ?_ | refine Qd ?_ | refine Qe ?_ | refine Qf ?_ | refine Qg ?_))
    refine QL.load rfl hB2 ((f2 1 (by omega)).trans rfl) rfl rfl rfl ?_
    (repeat (first | refine Qa ?_ | refine Qb ?_ | refine Qc ?_ | refine Qd ?_ | refine Qe ?_ | refine Qf ?_ | refine Qg ?_))
    refine QL.idx_slice (j := k * 9) rfl rfl rfl rfl rfl (by omega) (by omega) (by show 0 + _ * 9 = _; omega) rfl ?_
    (repeat (first | refine Qa ?_ | refine Qb ?_ | refine Qc ?_ | refine Qd ?_ | refine Qe ?_ | refine Qf ?_ | refine Qg ?_))
    refine QL.load rfl hB1 ((f1 1 (by omega)).trans rfl) rfl rfl rfl ?_
    (repeat (first | refine Qa ?_ | refine Qb ?_ | refine Qc ?_ | refine Qd ?_ | refine Qe ?_ | refine Qf ?_ | refine Qg ?_))
    refine QL.know (t := 152) (c := false) rfl (by simp) ?_
    (repeat (first | refine Qa ?_ | refine Qb ?_ | refine Qc ?_ | refine Qd ?_ | refine Qe ?_ | refine Qf ?_ | refine Qg ?_))
    refine QL.idx_slice (j := k * 9) rfl rfl rfl rfl rfl (by omega) (by omega) (by show 0 + _ * 9 = _; omega) rfl ?_
    (repeat (first | refine Qa ?_ | refine Qb ?_ | refine Qc ?_ | refine Qd ?_ | refine Qe ?_ | refine Qf ?_ | refine Qg ?_))
    refine QL.load rfl hB2 ((f2 2 (by omega)).trans rfl) rfl rfl rfl ?_
    (repeat (first | refine Qa ?_ | refine Qb ?_ | refine Qc ?_ | refine Qd ?_ | refine Qe ?_ | refine Qf ?_ | refine Qg ?_))
    refine QL.idx_slice (j := k * 9) rfl rfl rfl rfl rfl (by omega) (by omega) (by show 0 + _ * 9 = _; omega) rfl ?_
    (repeat (first | refine Qa ?_ | refine Qb ?_ | refine Qc ?_ | refine Qd ?_ | refine Qe ?_ | refine Qf ?_ | refine Qg ?_))
    refine QL.load rfl hB1 ((f1 2 (by omega)).trans rfl) rfl rfl rfl ?_
    (repeat (first | refine Qa ?_ | refine Qb ?_ | refine Qc ?_ | refine Qd ?_ | refine Qe ?_ | refine Qf ?_ | refine Qg ?_))
    refine QL.know (t := 165) (c := false) rfl (by simp) ?_
    (repeat (first | refine Qa ?_ | refine Qb ?_ | refine Qc ?_ | refine Qd ?_ | refine Qe ?_ | refine Qf ?_ | refine Qg ?_))
    refine QL.idx_slice (j := k * 9) rfl rfl rfl rfl rfl (by omega) (by omega) (by show 0 + _ * 9 = _; omega) rfl ?_
    (repeat (first | refine Qa ?_ | refine Qb ?_ | refine Qc ?_ | refine Qd ?_ | refine Qe ?_ | refine Qf ?_ | refine Qg ?_))
    refine QL.load_agg (cs := refL x.ref) rfl hB2 rfl rfl rfl (flat_sub tok_len hgx 3 (by show 3 + 5 ≤ 9; omega) (ref_part x)) rfl ?_
    (repeat (first | refine Qa ?_ | refine Qb ?_ | refine Qc ?_ | refine Qd ?_ | refine Qe ?_ | refine Qf ?_ | refine Qg ?_))
    refine QL.idx_slice (j := k * 9) rfl rfl rfl rfl rfl (by omega) (by omega) (by show 0 + _ * 9 = _; omega) rfl ?_
    (repeat (first | refine Qa ?_ | refine Qb ?_ | refine Qc ?_ | refine Qd ?_ | refine Qe ?_ | refine Qf ?_ | refine Qg ?_))
    refine QL.load_agg (cs := refL x.ref) rfl hB1 rfl rfl rfl (flat_sub tok_len hgy 3 (by show 3 + 5 ≤ 9; omega) (ref_part ⟨x.kind, x.text, x.num, x.ref, z⟩)) rfl ?_
    (repeat (first | refine Qa ?_ | refine Qb ?_ | refine Qc ?_ | refine Qd ?_ | refine Qe ?_ | refine Qf ?_ | refine Qg ?_))
    refine QL.neq_agg rfl rfl eqg_ref4 (fun w' => eqr_ref x.ref x.ref 9998 w') rfl ?_
    (repeat (first | refine Qa ?_ | refine Qb ?_ | refine Qc ?_ | refine Qd ?_ | refine Qe ?_ | refine Qf ?_ | refine Qg ?_))
    refine QL.nil fun w6 hx6 => ?_
    (repeat (first | refine La ?_ | refine Lb ?_ | refine Lc ?_ | refine Ld ?_ | refine Le ?_ | refine Lf ?_ | refine Lg ?_ | apply LW.nil | apply QW.then_n | apply QW.round | apply RW.succ | apply CW.seq | apply CW.region | apply CW.skip | apply CW.block | apply CW.ret | apply CW.exit | apply QW.then_ret | apply QW.then_exit | apply QW.blk_n | apply QW.blk_ret | apply QW.blk_exit | refine Ca ?_ | refine Cb ?_ | refine Cc ?_ | refine Lh ?_ | refine Li ?_ | refine Lj ?_ | refine Lk ?_ | refine Ll ?_))
    refine CW.no rfl (by simp) ?_
    (repeat (first | refine La ?_ | refine Lb ?_ | refine Lc ?_ | refine Ld ?_ | refine Le ?_ | refine Lf ?_ | refine Lg ?_ | apply LW.nil | apply QW.then_n | apply QW.round | apply RW.succ | apply CW.seq | apply CW.region | apply CW.skip | apply CW.block | apply CW.ret | apply CW.exit | apply QW.then_ret | apply QW.then_exit | apply QW.blk_n | apply QW.blk_ret | apply QW.blk_exit | refine Ca ?_ | refine Cb ?_ | refine Cc ?_ | refine Lh ?_ | refine Li ?_ | refine Lj ?_ | refine Lk ?_ | refine Ll ?_))
    exact QW.again (k + 1) ⟨by omega, hx5.trans hx6⟩ (Sub.cons rfl (Sub.cons rfl (Sub.cons rfl (Sub.nil)))) (by omega)
  · (repeat (first | refine La ?_ | refine Lb ?_ | refine Lc ?_ | refine Ld ?_ | refine Le ?_ | refine Lf ?_ | refine Lg ?_ | apply LW.nil | apply QW.then_n | apply QW.round | apply RW.succ | apply CW.seq | apply CW.region | apply CW.skip | apply CW.block | apply CW.ret | apply CW.exit | apply QW.then_ret | apply QW.then_exit | apply QW.blk_n | apply QW.blk_ret | apply QW.blk_exit | refine Ca ?_ | refine Cb ?_ | refine Cc ?_ | refine Lh ?_ | refine Li ?_ | refine Lj ?_ | refine Lk ?_ | refine Ll ?_))
    refine LW.call0 rfl rfl (awake4_ret w5 (g.ext (hx4'.trans hx5))) ?_
    rintro v w6 ⟨rfl, hx6⟩
    (repeat (first | refine La ?_ | refine Lb ?_ | refine Lc ?_ | refine Ld ?_ | refine Le ?_ | refine Lf ?_ | refine Lg ?_ | apply LW.nil | apply QW.then_n | apply QW.round | apply RW.succ | apply CW.seq | apply CW.region | apply CW.skip | apply CW.block | apply CW.ret | apply CW.exit | apply QW.then_ret | apply QW.then_exit | apply QW.blk_n | apply QW.blk_ret | apply QW.blk_exit | refine Ca ?_ | refine Cb ?_ | refine Cc ?_ | refine Lh ?_ | refine Li ?_ | refine Lj ?_ | refine Lk ?_ | refine Ll ?_))
    exact QW.body1 Tryd.results7 rfl ⟨rfl, (hx4'.trans hx5).trans hx6⟩
end Go.Proofs.YtfpklhgkndnjjaaDoor
