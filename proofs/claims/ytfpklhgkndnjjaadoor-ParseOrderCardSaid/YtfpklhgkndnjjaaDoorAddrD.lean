/-
  The walk of addr.Read.
-/
import Derived.Test.YtfpklhgkndnjjaaDoorAddrC
namespace Go.Proofs.YtfpklhgkndnjjaaDoor
open Go Go.E

theorem Read_ret (s : List UInt8) (hs : s.length ≤ 1000) (w : World) (g : Glob w) : Ret Tryd.prog 16 [str s] w (fun v w' => v = readV s ∧ Ext w w') := by
  refine Ret.enter Tryd.func16 rfl Tryd.ntmps16 (by kernel_rfl) rfl ?_
  (repeat (first | refine La ?_ | refine Lb ?_ | refine Lc ?_ | refine Ld ?_ | refine Le ?_ | refine Lf ?_ | refine Lg ?_ | apply LW.nil | apply QW.then_n | apply QW.round | apply RW.succ | apply CW.seq | apply CW.region | apply CW.skip | apply CW.block | apply CW.ret | apply CW.exit | apply QW.then_ret | apply QW.then_exit | apply QW.blk_n | apply QW.blk_ret | apply QW.blk_exit | refine Ca ?_ | refine Cb ?_ | refine Cc ?_ | refine Lh ?_ | refine Li ?_ | refine Lj ?_ | refine Lk ?_ | refine Ll ?_))
  (apply LW.alloc; exact rfl; exact rfl; exact rfl; intro R w1 hbR hx hR)
  (repeat (first | refine La ?_ | refine Lb ?_ | refine Lc ?_ | refine Ld ?_ | refine Le ?_ | refine Lf ?_ | refine Lg ?_ | apply LW.nil | apply QW.then_n | apply QW.round | apply RW.succ | apply CW.seq | apply CW.region | apply CW.skip | apply CW.block | apply CW.ret | apply CW.exit | apply QW.then_ret | apply QW.then_exit | apply QW.blk_n | apply QW.blk_ret | apply QW.blk_exit | refine Ca ?_ | refine Cb ?_ | refine Cc ?_ | refine Lh ?_ | refine Li ?_ | refine Lj ?_ | refine Lk ?_ | refine Ll ?_))
  (apply LW.alloc; exact rfl; exact rfl; exact rfl; intro C w2 hbC hx2 hC)
  have hRC : R < C := by have := hR.lt; omega
  replace hR : Blk w2 R (refL refZ) 23 := hR.ext hx2
  replace hC : Blk w2 C (refL refZ) 23 := hC
  replace hx := hx.trans hx2
  (repeat (first | refine La ?_ | refine Lb ?_ | refine Lc ?_ | refine Ld ?_ | refine Le ?_ | refine Lf ?_ | refine Lg ?_ | apply LW.nil | apply QW.then_n | apply QW.round | apply RW.succ | apply CW.seq | apply CW.region | apply CW.skip | apply CW.block | apply CW.ret | apply CW.exit | apply QW.then_ret | apply QW.then_exit | apply QW.blk_n | apply QW.blk_ret | apply QW.blk_exit | refine Ca ?_ | refine Cb ?_ | refine Cc ?_ | refine Lh ?_ | refine Li ?_ | refine Lj ?_ | refine Lk ?_ | refine Ll ?_))
  (apply LW.box; exact rfl; exact rfl; exact rfl; intro X w3 hbX hx3 hX)
  have hCX : C < X := by have := hC.lt; omega
  replace hR := hR.ext hx3
  replace hC := hC.ext hx3
  replace hX : Blk w3 X [str s] 65 := hX
  replace hx := hx.trans hx3
  (repeat (first | refine La ?_ | refine Lb ?_ | refine Lc ?_ | refine Ld ?_ | refine Le ?_ | refine Lf ?_ | refine Lg ?_ | apply LW.nil | apply QW.then_n | apply QW.round | apply RW.succ | apply CW.seq | apply CW.region | apply CW.skip | apply CW.block | apply CW.ret | apply CW.exit | apply QW.then_ret | apply QW.then_exit | apply QW.blk_n | apply QW.blk_ret | apply QW.blk_exit | refine Ca ?_ | refine Cb ?_ | refine Cc ?_ | refine Lh ?_ | refine Li ?_ | refine Lj ?_ | refine Lk ?_ | refine Ll ?_))
  refine LW.call0 rfl rfl (Cut_ret s [33] (by omega) w3 (g.ext hx)) ?_
  rintro v w4 ⟨rfl, hx4⟩
  replace hR := hR.ext hx4
  replace hC := hC.ext hx4
  replace hX := hX.ext hx4
  replace hx := hx.trans hx4
  (repeat (first | refine La ?_ | refine Lb ?_ | refine Lc ?_ | refine Ld ?_ | refine Le ?_ | refine Lf ?_ | refine Lg ?_ | refine Lh ?_ | refine Li ?_ | refine Lj ?_ | refine Lk ?_ | refine Ll ?_))
  apply LW.nil; apply QW.then_n
  refine CW.cut (ι := Unit) (fun _ w' => Ext w w' ∧ Blk w' R (refL refZ) 23 ∧ Blk w' C [str (candS s), .int .i64 0, .int .i64 0, .bool false, .bool false] 23 ∧ Blk w' X [str (candR s)] 65)
    (fun _ => [(0, str s), (2, .pointer (some ⟨R, 0, none⟩)), (3, .bool false), (4, .pointer (some ⟨C, 0, none⟩)), (5, .pointer (some ⟨X, 0, none⟩))]) ?_ ?_
  · (repeat (first | refine La ?_ | refine Lb ?_ | refine Lc ?_ | refine Ld ?_ | refine Le ?_ | refine Lf ?_ | refine Lg ?_ | apply LW.nil | apply QW.then_n | apply QW.round | apply RW.succ | apply CW.seq | apply CW.region | apply CW.skip | apply CW.block | apply CW.ret | apply CW.exit | apply QW.then_ret | apply QW.then_exit | apply QW.blk_n | apply QW.blk_ret | apply QW.blk_exit | refine Ca ?_ | refine Cb ?_ | refine Cc ?_ | refine Lh ?_ | refine Li ?_ | refine Lj ?_ | refine Lk ?_ | refine Ll ?_))
    refine CW.cond rfl (fun h1 => ?_) (fun h1 => ?_)
    · (repeat (first | refine La ?_ | refine Lb ?_ | refine Lc ?_ | refine Ld ?_ | refine Le ?_ | refine Lf ?_ | refine Lg ?_ | apply LW.nil | apply QW.then_n | apply QW.round | apply RW.succ | apply CW.seq | apply CW.region | apply CW.skip | apply CW.block | apply CW.ret | apply CW.exit | apply QW.then_ret | apply QW.then_exit | apply QW.blk_n | apply QW.blk_ret | apply QW.blk_exit | refine Ca ?_ | refine Cb ?_ | refine Cc ?_ | refine Lh ?_ | refine Li ?_ | refine Lj ?_ | refine Lk ?_ | refine Ll ?_))
      (apply LW.store; exact rfl; exact rfl; exact rfl; assumption; exact rfl; exact rfl; exact rfl; intro w5 hc5 hC5)
      replace hR := hR.chg hc5 (by simp; omega)
      replace hX := hX.chg hc5 (by simp; omega)
      replace hx := hx.step hc5 (by simp; omega)
      (repeat (first | refine La ?_ | refine Lb ?_ | refine Lc ?_ | refine Ld ?_ | refine Le ?_ | refine Lf ?_ | refine Lg ?_ | apply LW.nil | apply QW.then_n | apply QW.round | apply RW.succ | apply CW.seq | apply CW.region | apply CW.skip | apply CW.block | apply CW.ret | apply CW.exit | apply QW.then_ret | apply QW.then_exit | apply QW.blk_n | apply QW.blk_ret | apply QW.blk_exit | refine Ca ?_ | refine Cb ?_ | refine Cc ?_ | refine Lh ?_ | refine Li ?_ | refine Lj ?_ | refine Lk ?_ | refine Ll ?_))
      (apply LW.store; exact rfl; exact rfl; exact rfl; assumption; exact rfl; exact rfl; exact rfl; intro w6 hc6 hX6)
      replace hR := hR.chg hc6 (by simp; omega)
      replace hC5 := hC5.chg hc6 (by simp; omega)
      replace hx := hx.step hc6 (by simp; omega)
      (repeat (first | refine La ?_ | refine Lb ?_ | refine Lc ?_ | refine Ld ?_ | refine Le ?_ | refine Lf ?_ | refine Lg ?_ | apply LW.nil | apply QW.then_n | apply QW.round | apply RW.succ | apply CW.seq | apply CW.region | apply CW.skip | apply CW.block | apply CW.ret | apply CW.exit | apply QW.then_ret | apply QW.then_exit | apply QW.blk_n | apply QW.blk_ret | apply QW.blk_exit | refine Ca ?_ | refine Cb ?_ | refine Cc ?_ | refine Lh ?_ | refine Li ?_ | refine Lj ?_ | refine Lk ?_ | refine Ll ?_))
      refine QW.head () ⟨hx, hR, ?_, ?_⟩ (Sub.cons rfl (Sub.cons rfl (Sub.cons rfl (Sub.cons rfl (Sub.cons rfl (Sub.nil))))))
      · simpa [candS, h1, refL, refZ] using hC5
      · simpa [candR, h1] using hX6
    · (repeat (first | refine La ?_ | refine Lb ?_ | refine Lc ?_ | refine Ld ?_ | refine Le ?_ | refine Lf ?_ | refine Lg ?_ | apply LW.nil | apply QW.then_n | apply QW.round | apply RW.succ | apply CW.seq | apply CW.region | apply CW.skip | apply CW.block | apply CW.ret | apply CW.exit | apply QW.then_ret | apply QW.then_exit | apply QW.blk_n | apply QW.blk_ret | apply QW.blk_exit | refine Ca ?_ | refine Cb ?_ | refine Cc ?_ | refine Lh ?_ | refine Li ?_ | refine Lj ?_ | refine Lk ?_ | refine Ll ?_))
      refine QW.head () ⟨hx, hR, ?_, ?_⟩ (Sub.cons rfl (Sub.cons rfl (Sub.cons rfl (Sub.cons rfl (Sub.cons rfl (Sub.nil))))))
      · simpa [candS, h1, refL, refZ] using hC
      · simpa [candR, h1] using hX
  clear hx hR hC hX hx2 hx3 hx4
  rintro _ w5 ⟨hx, hR, hC, hX⟩
  have hl0 : (candR s).length ≤ s.length := by
    unfold candR; split
    · exact cut_len2 s [33]
    · omega
  have hl1 : (cand1 s).length ≤ 1000 := Nat.le_trans (trimPrefix_length _ _) (by omega)
  have hl2 : (cand2 s).length ≤ 1000 := Nat.le_trans (restL_length _ _) hl1
  have hl3 : (cand3 s).length ≤ 1000 := Nat.le_trans (trimPrefix_length _ _) hl2
  have hl4 : (spanL capB (cand1 s)).length ≤ 1000 := Nat.le_trans (spanL_length _ _) hl1
  have hl5 : (spanL digB (cand3 s)).length ≤ 1000 := Nat.le_trans (spanL_length _ _) hl3
  have hl6 : (candS s).length ≤ 1000 := by
    unfold candS; split
    · exact Nat.le_trans (cut_len1 s [33]) hs
    · simp
  (repeat (first | refine La ?_ | refine Lb ?_ | refine Lc ?_ | refine Ld ?_ | refine Le ?_ | refine Lf ?_ | refine Lg ?_ | apply LW.nil | apply QW.then_n | apply QW.round | apply RW.succ | apply CW.seq | apply CW.region | apply CW.skip | apply CW.block | apply CW.ret | apply CW.exit | apply QW.then_ret | apply QW.then_exit | apply QW.blk_n | apply QW.blk_ret | apply QW.blk_exit | refine Ca ?_ | refine Cb ?_ | refine Cc ?_ | refine Lh ?_ | refine Li ?_ | refine Lj ?_ | refine Lk ?_ | refine Ll ?_))
  refine LW.call (fs := [.pointer (some ⟨X, 0, none⟩)]) (cs := []) rfl rfl rfl (sign_ret _ X w5 hX) ?_
  rintro v w6 ⟨rfl, hc6, hX⟩
  replace hR := hR.chg hc6 (by simp; omega)
  replace hC := hC.chg hc6 (by simp; omega)
  replace hx := hx.step hc6 (by simp; omega)
  (repeat (first | refine La ?_ | refine Lb ?_ | refine Lc ?_ | refine Ld ?_ | refine Le ?_ | refine Lf ?_ | refine Lg ?_ | apply LW.nil | apply QW.then_n | apply QW.round | apply RW.succ | apply CW.seq | apply CW.region | apply CW.skip | apply CW.block | apply CW.ret | apply CW.exit | apply QW.then_ret | apply QW.then_exit | apply QW.blk_n | apply QW.blk_ret | apply QW.blk_exit | refine Ca ?_ | refine Cb ?_ | refine Cc ?_ | refine Lh ?_ | refine Li ?_ | refine Lj ?_ | refine Lk ?_ | refine Ll ?_))
  (apply LW.store; exact rfl; exact rfl; exact rfl; assumption; exact rfl; exact rfl; exact rfl; intro w7 hc7 hC)
  replace hR := hR.chg hc7 (by simp; omega)
  replace hX := hX.chg hc7 (by simp; omega)
  replace hx := hx.step hc7 (by simp; omega)
  (repeat (first | refine La ?_ | refine Lb ?_ | refine Lc ?_ | refine Ld ?_ | refine Le ?_ | refine Lf ?_ | refine Lg ?_ | apply LW.nil | apply QW.then_n | apply QW.round | apply RW.succ | apply CW.seq | apply CW.region | apply CW.skip | apply CW.block | apply CW.ret | apply CW.exit | apply QW.then_ret | apply QW.then_exit | apply QW.blk_n | apply QW.blk_ret | apply QW.blk_exit | refine Ca ?_ | refine Cb ?_ | refine Cc ?_ | refine Lh ?_ | refine Li ?_ | refine Lj ?_ | refine Lk ?_ | refine Ll ?_))
  refine LW.call (fs := [.pointer (some ⟨X, 0, none⟩)]) (cs := []) rfl rfl rfl (while_ret capB _ capital_ret (cand1 s) (by omega) X w7 hX) ?_
  rintro v w8 ⟨rfl, hc8, hX⟩
  replace hR := hR.chg hc8 (by simp; omega)
  replace hC := hC.chg hc8 (by simp; omega)
  replace hx := hx.step hc8 (by simp; omega)
  (repeat (first | refine La ?_ | refine Lb ?_ | refine Lc ?_ | refine Ld ?_ | refine Le ?_ | refine Lf ?_ | refine Lg ?_ | apply LW.nil | apply QW.then_n | apply QW.round | apply RW.succ | apply CW.seq | apply CW.region | apply CW.skip | apply CW.block | apply CW.ret | apply CW.exit | apply QW.then_ret | apply QW.then_exit | apply QW.blk_n | apply QW.blk_ret | apply QW.blk_exit | refine Ca ?_ | refine Cb ?_ | refine Cc ?_ | refine Lh ?_ | refine Li ?_ | refine Lj ?_ | refine Lk ?_ | refine Ll ?_))
  refine LW.call0 rfl rfl (ReadCol_ret _ (by omega) w8) ?_
  rintro v w9 ⟨rfl, hx9⟩
  rw [readColV_fst]
  replace hR := hR.ext hx9
  replace hC := hC.ext hx9
  replace hX := hX.ext hx9
  replace hx := hx.trans hx9
  (repeat (first | refine La ?_ | refine Lb ?_ | refine Lc ?_ | refine Ld ?_ | refine Le ?_ | refine Lf ?_ | refine Lg ?_ | apply LW.nil | apply QW.then_n | apply QW.round | apply RW.succ | apply CW.seq | apply CW.region | apply CW.skip | apply CW.block | apply CW.ret | apply CW.exit | apply QW.then_ret | apply QW.then_exit | apply QW.blk_n | apply QW.blk_ret | apply QW.blk_exit | refine Ca ?_ | refine Cb ?_ | refine Cc ?_ | refine Lh ?_ | refine Li ?_ | refine Lj ?_ | refine Lk ?_ | refine Ll ?_))
  refine LW.call (fs := [.pointer (some ⟨X, 0, none⟩)]) (cs := []) rfl rfl rfl (sign_ret (cand2 s) X w9 hX) ?_
  rintro v w10 ⟨rfl, hc10, hX⟩
  replace hR := hR.chg hc10 (by simp; omega)
  replace hC := hC.chg hc10 (by simp; omega)
  replace hx := hx.step hc10 (by simp; omega)
  (repeat (first | refine La ?_ | refine Lb ?_ | refine Lc ?_ | refine Ld ?_ | refine Le ?_ | refine Lf ?_ | refine Lg ?_ | apply LW.nil | apply QW.then_n | apply QW.round | apply RW.succ | apply CW.seq | apply CW.region | apply CW.skip | apply CW.block | apply CW.ret | apply CW.exit | apply QW.then_ret | apply QW.then_exit | apply QW.blk_n | apply QW.blk_ret | apply QW.blk_exit | refine Ca ?_ | refine Cb ?_ | refine Cc ?_ | refine Lh ?_ | refine Li ?_ | refine Lj ?_ | refine Lk ?_ | refine Ll ?_))
  (apply LW.store; exact rfl; exact rfl; exact rfl; assumption; exact rfl; exact rfl; exact rfl; intro w11 hc11 hC)
  replace hR := hR.chg hc11 (by simp; omega)
  replace hX := hX.chg hc11 (by simp; omega)
  replace hx := hx.step hc11 (by simp; omega)
  (repeat (first | refine La ?_ | refine Lb ?_ | refine Lc ?_ | refine Ld ?_ | refine Le ?_ | refine Lf ?_ | refine Lg ?_ | apply LW.nil | apply QW.then_n | apply QW.round | apply RW.succ | apply CW.seq | apply CW.region | apply CW.skip | apply CW.block | apply CW.ret | apply CW.exit | apply QW.then_ret | apply QW.then_exit | apply QW.blk_n | apply QW.blk_ret | apply QW.blk_exit | refine Ca ?_ | refine Cb ?_ | refine Cc ?_ | refine Lh ?_ | refine Li ?_ | refine Lj ?_ | refine Lk ?_ | refine Ll ?_))
  refine LW.call (fs := [.pointer (some ⟨X, 0, none⟩)]) (cs := []) rfl rfl rfl (while_ret digB _ digit_ret (cand3 s) (by omega) X w11 hX) ?_
  rintro v w12 ⟨rfl, hc12, hX⟩
  replace hR := hR.chg hc12 (by simp; omega)
  replace hC := hC.chg hc12 (by simp; omega)
  replace hx := hx.step hc12 (by simp; omega)
  (repeat (first | refine La ?_ | refine Lb ?_ | refine Lc ?_ | refine Ld ?_ | refine Le ?_ | refine Lf ?_ | refine Lg ?_ | apply LW.nil | apply QW.then_n | apply QW.round | apply RW.succ | apply CW.seq | apply CW.region | apply CW.skip | apply CW.block | apply CW.ret | apply CW.exit | apply QW.then_ret | apply QW.then_exit | apply QW.blk_n | apply QW.blk_ret | apply QW.blk_exit | refine Ca ?_ | refine Cb ?_ | refine Cc ?_ | refine Lh ?_ | refine Li ?_ | refine Lj ?_ | refine Lk ?_ | refine Ll ?_))
  refine LW.call0 rfl rfl (Atoi_ret _ (by omega) w12 (g.ext hx)) ?_
  rintro v w13 ⟨hv, hx13⟩
  replace hR := hR.ext hx13
  replace hC := hC.ext hx13
  replace hX := hX.ext hx13
  replace hx := hx.trans hx13
  have hcb := readCol_bound (spanL capB (cand1 s))
  cases hro : rowOf s with
  | some z =>
    have hv : v = .tuple #[.int .i64 z, .nilIface] := by
      unfold rowOf at hro
      unfold AtoiV at hv
      split at hro
      · rename_i m hm
        rw [hm] at hv
        simp only [Option.some.injEq] at hro
        subst hro
        exact hv
      · cases hro
    subst hv
    (repeat (first | refine La ?_ | refine Lb ?_ | refine Lc ?_ | refine Ld ?_ | refine Le ?_ | refine Lf ?_ | refine Lg ?_ | apply LW.nil | apply QW.then_n | apply QW.round | apply RW.succ | apply CW.seq | apply CW.region | apply CW.skip | apply CW.block | apply CW.ret | apply CW.exit | apply QW.then_ret | apply QW.then_exit | apply QW.blk_n | apply QW.blk_ret | apply QW.blk_exit | refine Ca ?_ | refine Cb ?_ | refine Cc ?_ | refine Lh ?_ | refine Li ?_ | refine Lj ?_ | refine Lk ?_ | refine Ll ?_))
    refine LW.arith (op := .sub) rfl rfl rfl rfl rfl ?_
    (repeat (first | refine La ?_ | refine Lb ?_ | refine Lc ?_ | refine Ld ?_ | refine Le ?_ | refine Lf ?_ | refine Lg ?_ | apply LW.nil | apply QW.then_n | apply QW.round | apply RW.succ | apply CW.seq | apply CW.region | apply CW.skip | apply CW.block | apply CW.ret | apply CW.exit | apply QW.then_ret | apply QW.then_exit | apply QW.blk_n | apply QW.blk_ret | apply QW.blk_exit | refine Ca ?_ | refine Cb ?_ | refine Cc ?_ | refine Lh ?_ | refine Li ?_ | refine Lj ?_ | refine Lk ?_ | refine Ll ?_))
    (apply LW.store; exact rfl; exact rfl; exact rfl; assumption; exact rfl; exact rfl; exact rfl; intro w14 hc14 hC)
    replace hR := hR.chg hc14 (by simp; omega)
    replace hx := hx.step hc14 (by simp; omega)
    (repeat (first | refine La ?_ | refine Lb ?_ | refine Lc ?_ | refine Ld ?_ | refine Le ?_ | refine Lf ?_ | refine Lg ?_ | apply LW.nil | apply QW.then_n | apply QW.round | apply RW.succ | apply CW.seq | apply CW.region | apply CW.skip | apply CW.block | apply CW.ret | apply CW.exit | apply QW.then_ret | apply QW.then_exit | apply QW.blk_n | apply QW.blk_ret | apply QW.blk_exit | refine Ca ?_ | refine Cb ?_ | refine Cc ?_ | refine Lh ?_ | refine Li ?_ | refine Lj ?_ | refine Lk ?_ | refine Ll ?_))
    (apply LW.store; exact rfl; exact rfl; exact rfl; assumption; exact rfl; exact rfl; exact rfl; intro w15 hc15 hC)
    replace hR := hR.chg hc15 (by simp; omega)
    replace hx := hx.step hc15 (by simp; omega)
    replace hC : Blk w15 C (refL (candV s)) 23 := by
      have e : refL (candV s) = [str (candS s), .int .i64 ((readCol (spanL capB (cand1 s))).getD 0), .int .i64 (IntKind.i64.wrap (z - 1)), .bool (Lib.hasPrefix (candR s) [36]), .bool (Lib.hasPrefix (cand2 s) [36])] := by
        simp [refL, candV, hro]
      rw [e]
      exact hC
    (repeat (first | refine La ?_ | refine Lb ?_ | refine Lc ?_ | refine Ld ?_ | refine Le ?_ | refine Lf ?_ | refine Lg ?_ | apply LW.nil | apply QW.then_n | apply QW.round | apply RW.succ | apply CW.seq | apply CW.region | apply CW.skip | apply CW.block | apply CW.ret | apply CW.exit | apply QW.then_ret | apply QW.then_exit | apply QW.blk_n | apply QW.blk_ret | apply QW.blk_exit | refine Ca ?_ | refine Cb ?_ | refine Cc ?_ | refine Lh ?_ | refine Li ?_ | refine Lj ?_ | refine Lk ?_ | refine Ll ?_))
    cases hrc : readCol (spanL capB (cand1 s)) with
    | none =>
      have hbad : okRead s = false := by simp [okRead, hrc]
      (repeat (first | refine La ?_ | refine Lb ?_ | refine Lc ?_ | refine Ld ?_ | refine Le ?_ | refine Lf ?_ | refine Lg ?_ | apply LW.nil | apply QW.then_n | apply QW.round | apply RW.succ | apply CW.seq | apply CW.region | apply CW.skip | apply CW.block | apply CW.ret | apply CW.exit | apply QW.then_ret | apply QW.then_exit | apply QW.blk_n | apply QW.blk_ret | apply QW.blk_exit | refine Ca ?_ | refine Cb ?_ | refine Cc ?_ | refine Lh ?_ | refine Li ?_ | refine Lj ?_ | refine Lk ?_ | refine Ll ?_))
      (apply LW.store_all; exact rfl; exact rfl; exact rfl; assumption; exact rfl; exact rfl; exact rfl; intro w20 hc20 hR20)
      (repeat (first | refine La ?_ | refine Lb ?_ | refine Lc ?_ | refine Ld ?_ | refine Le ?_ | refine Lf ?_ | refine Lg ?_ | apply LW.nil | apply QW.then_n | apply QW.round | apply RW.succ | apply CW.seq | apply CW.region | apply CW.skip | apply CW.block | apply CW.ret | apply CW.exit | apply QW.then_ret | apply QW.then_exit | apply QW.blk_n | apply QW.blk_ret | apply QW.blk_exit | refine Ca ?_ | refine Cb ?_ | refine Cc ?_ | refine Lh ?_ | refine Li ?_ | refine Lj ?_ | refine Lk ?_ | refine Ll ?_))
      refine QW.body_ct Tryd.results16 rfl hR20 rfl rfl rfl rfl ⟨?_, hx.step hc20 (by simp; omega)⟩
      rw [readV, hbad]
      rfl
    | some cz =>
      (repeat (first | refine La ?_ | refine Lb ?_ | refine Lc ?_ | refine Ld ?_ | refine Le ?_ | refine Lf ?_ | refine Lg ?_ | apply LW.nil | apply QW.then_n | apply QW.round | apply RW.succ | apply CW.seq | apply CW.region | apply CW.skip | apply CW.block | apply CW.ret | apply CW.exit | apply QW.then_ret | apply QW.then_exit | apply QW.blk_n | apply QW.blk_ret | apply QW.blk_exit | refine Ca ?_ | refine Cb ?_ | refine Cc ?_ | refine Lh ?_ | refine Li ?_ | refine Lj ?_ | refine Lk ?_ | refine Ll ?_))
      refine LW.call0 rfl rfl (Text_ret (candV s) hl6 w15 (g.ext hx)) ?_
      rintro v w16 ⟨rfl, hx16⟩
      replace hR := hR.ext hx16
      replace hC := hC.ext hx16
      replace hx := hx.trans hx16
      (repeat (first | refine La ?_ | refine Lb ?_ | refine Lc ?_ | refine Ld ?_ | refine Le ?_ | refine Lf ?_ | refine Lg ?_ | apply LW.nil | apply QW.then_n | apply QW.round | apply RW.succ | apply CW.seq | apply CW.region | apply CW.skip | apply CW.block | apply CW.ret | apply CW.exit | apply QW.then_ret | apply QW.then_exit | apply QW.blk_n | apply QW.blk_ret | apply QW.blk_exit | refine Ca ?_ | refine Cb ?_ | refine Cc ?_ | refine Lh ?_ | refine Li ?_ | refine Lj ?_ | refine Lk ?_ | refine Ll ?_))
      refine LW.part rfl rfl rfl (fun h1 => ?_) (fun h1 => ?_)
      · have hbad : okRead s = false := by
          have h1 : ¬ textT (candV s) = s := by simpa using h1
          simp [okRead, h1]
        (repeat (first | refine La ?_ | refine Lb ?_ | refine Lc ?_ | refine Ld ?_ | refine Le ?_ | refine Lf ?_ | refine Lg ?_ | apply LW.nil | apply QW.then_n | apply QW.round | apply RW.succ | apply CW.seq | apply CW.region | apply CW.skip | apply CW.block | apply CW.ret | apply CW.exit | apply QW.then_ret | apply QW.then_exit | apply QW.blk_n | apply QW.blk_ret | apply QW.blk_exit | refine Ca ?_ | refine Cb ?_ | refine Cc ?_ | refine Lh ?_ | refine Li ?_ | refine Lj ?_ | refine Lk ?_ | refine Ll ?_))
        (apply LW.store_all; exact rfl; exact rfl; exact rfl; assumption; exact rfl; exact rfl; exact rfl; intro w20 hc20 hR20)
        (repeat (first | refine La ?_ | refine Lb ?_ | refine Lc ?_ | refine Ld ?_ | refine Le ?_ | refine Lf ?_ | refine Lg ?_ | apply LW.nil | apply QW.then_n | apply QW.round | apply RW.succ | apply CW.seq | apply CW.region | apply CW.skip | apply CW.block | apply CW.ret | apply CW.exit | apply QW.then_ret | apply QW.then_exit | apply QW.blk_n | apply QW.blk_ret | apply QW.blk_exit | refine Ca ?_ | refine Cb ?_ | refine Cc ?_ | refine Lh ?_ | refine Li ?_ | refine Lj ?_ | refine Lk ?_ | refine Ll ?_))
        refine QW.body_ct Tryd.results16 rfl hR20 rfl rfl rfl rfl ⟨?_, hx.step hc20 (by simp; omega)⟩
        rw [readV, hbad]
        rfl
      · have h1 : textT (candV s) = s := by simpa using h1
        (repeat (first | refine La ?_ | refine Lb ?_ | refine Lc ?_ | refine Ld ?_ | refine Le ?_ | refine Lf ?_ | refine Lg ?_ | apply LW.nil | apply QW.then_n | apply QW.round | apply RW.succ | apply CW.seq | apply CW.region | apply CW.skip | apply CW.block | apply CW.ret | apply CW.exit | apply QW.then_ret | apply QW.then_exit | apply QW.blk_n | apply QW.blk_ret | apply QW.blk_exit | refine Ca ?_ | refine Cb ?_ | refine Cc ?_ | refine Lh ?_ | refine Li ?_ | refine Lj ?_ | refine Lk ?_ | refine Ll ?_))
        refine CW.cond rfl (fun h2 => ?_) (fun h2 => ?_)
        · have hbad : okRead s = false := by
            have h2 : s = [] := by simpa using h2
            simp [okRead, h2]
          (repeat (first | refine La ?_ | refine Lb ?_ | refine Lc ?_ | refine Ld ?_ | refine Le ?_ | refine Lf ?_ | refine Lg ?_ | apply LW.nil | apply QW.then_n | apply QW.round | apply RW.succ | apply CW.seq | apply CW.region | apply CW.skip | apply CW.block | apply CW.ret | apply CW.exit | apply QW.then_ret | apply QW.then_exit | apply QW.blk_n | apply QW.blk_ret | apply QW.blk_exit | refine Ca ?_ | refine Cb ?_ | refine Cc ?_ | refine Lh ?_ | refine Li ?_ | refine Lj ?_ | refine Lk ?_ | refine Ll ?_))
          (apply LW.store_all; exact rfl; exact rfl; exact rfl; assumption; exact rfl; exact rfl; exact rfl; intro w20 hc20 hR20)
          (repeat (first | refine La ?_ | refine Lb ?_ | refine Lc ?_ | refine Ld ?_ | refine Le ?_ | refine Lf ?_ | refine Lg ?_ | apply LW.nil | apply QW.then_n | apply QW.round | apply RW.succ | apply CW.seq | apply CW.region | apply CW.skip | apply CW.block | apply CW.ret | apply CW.exit | apply QW.then_ret | apply QW.then_exit | apply QW.blk_n | apply QW.blk_ret | apply QW.blk_exit | refine Ca ?_ | refine Cb ?_ | refine Cc ?_ | refine Lh ?_ | refine Li ?_ | refine Lj ?_ | refine Lk ?_ | refine Ll ?_))
          refine QW.body_ct Tryd.results16 rfl hR20 rfl rfl rfl rfl ⟨?_, hx.step hc20 (by simp; omega)⟩
          rw [readV, hbad]
          rfl
        · have h2 : ¬ s = [] := by simpa using h2
          have hgood : okRead s = true := by simp [okRead, hrc, hro, h1, h2]
          (repeat (first | refine La ?_ | refine Lb ?_ | refine Lc ?_ | refine Ld ?_ | refine Le ?_ | refine Lf ?_ | refine Lg ?_ | apply LW.nil | apply QW.then_n | apply QW.round | apply RW.succ | apply CW.seq | apply CW.region | apply CW.skip | apply CW.block | apply CW.ret | apply CW.exit | apply QW.then_ret | apply QW.then_exit | apply QW.blk_n | apply QW.blk_ret | apply QW.blk_exit | refine Ca ?_ | refine Cb ?_ | refine Cc ?_ | refine Lh ?_ | refine Li ?_ | refine Lj ?_ | refine Lk ?_ | refine Ll ?_))
          (apply LW.store_all; exact rfl; exact rfl; exact rfl; assumption; exact rfl; exact rfl; exact rfl; intro w20 hc20 hR20)
          (repeat (first | refine La ?_ | refine Lb ?_ | refine Lc ?_ | refine Ld ?_ | refine Le ?_ | refine Lf ?_ | refine Lg ?_ | apply LW.nil | apply QW.then_n | apply QW.round | apply RW.succ | apply CW.seq | apply CW.region | apply CW.skip | apply CW.block | apply CW.ret | apply CW.exit | apply QW.then_ret | apply QW.then_exit | apply QW.blk_n | apply QW.blk_ret | apply QW.blk_exit | refine Ca ?_ | refine Cb ?_ | refine Cc ?_ | refine Lh ?_ | refine Li ?_ | refine Lj ?_ | refine Lk ?_ | refine Ll ?_))
          refine QW.body_ct Tryd.results16 rfl hR20 rfl rfl rfl rfl ⟨?_, hx.step hc20 (by simp; omega)⟩
          rw [readV, if_pos hgood]
          rfl
  | none =>
    have hv : ∃ z t x, v = .tuple #[.int .i64 z, .iface t x] := by
      unfold rowOf at hro
      unfold AtoiV at hv
      cases ha : Lib.atoiAll (spanL digB (cand3 s)) <;> simp only [ha, reduceCtorEq] at hro hv <;> exact hv
    obtain ⟨z, te, xe, rfl⟩ := hv
    have hbad : okRead s = false := by simp [okRead, hro]
    (repeat (first | refine La ?_ | refine Lb ?_ | refine Lc ?_ | refine Ld ?_ | refine Le ?_ | refine Lf ?_ | refine Lg ?_ | apply LW.nil | apply QW.then_n | apply QW.round | apply RW.succ | apply CW.seq | apply CW.region | apply CW.skip | apply CW.block | apply CW.ret | apply CW.exit | apply QW.then_ret | apply QW.then_exit | apply QW.blk_n | apply QW.blk_ret | apply QW.blk_exit | refine Ca ?_ | refine Cb ?_ | refine Cc ?_ | refine Lh ?_ | refine Li ?_ | refine Lj ?_ | refine Lk ?_ | refine Ll ?_))
    refine LW.arith (op := .sub) rfl rfl rfl rfl rfl ?_
    (repeat (first | refine La ?_ | refine Lb ?_ | refine Lc ?_ | refine Ld ?_ | refine Le ?_ | refine Lf ?_ | refine Lg ?_ | apply LW.nil | apply QW.then_n | apply QW.round | apply RW.succ | apply CW.seq | apply CW.region | apply CW.skip | apply CW.block | apply CW.ret | apply CW.exit | apply QW.then_ret | apply QW.then_exit | apply QW.blk_n | apply QW.blk_ret | apply QW.blk_exit | refine Ca ?_ | refine Cb ?_ | refine Cc ?_ | refine Lh ?_ | refine Li ?_ | refine Lj ?_ | refine Lk ?_ | refine Ll ?_))
    (apply LW.store; exact rfl; exact rfl; exact rfl; assumption; exact rfl; exact rfl; exact rfl; intro w14 hc14 hC)
    replace hR := hR.chg hc14 (by simp; omega)
    replace hx := hx.step hc14 (by simp; omega)
    (repeat (first | refine La ?_ | refine Lb ?_ | refine Lc ?_ | refine Ld ?_ | refine Le ?_ | refine Lf ?_ | refine Lg ?_ | apply LW.nil | apply QW.then_n | apply QW.round | apply RW.succ | apply CW.seq | apply CW.region | apply CW.skip | apply CW.block | apply CW.ret | apply CW.exit | apply QW.then_ret | apply QW.then_exit | apply QW.blk_n | apply QW.blk_ret | apply QW.blk_exit | refine Ca ?_ | refine Cb ?_ | refine Cc ?_ | refine Lh ?_ | refine Li ?_ | refine Lj ?_ | refine Lk ?_ | refine Ll ?_))
    (apply LW.store; exact rfl; exact rfl; exact rfl; assumption; exact rfl; exact rfl; exact rfl; intro w15 hc15 hC)
    replace hR := hR.chg hc15 (by simp; omega)
    replace hx := hx.step hc15 (by simp; omega)
    cases hrc : readCol (spanL capB (cand1 s)) with
    | none =>
      (repeat (first | refine La ?_ | refine Lb ?_ | refine Lc ?_ | refine Ld ?_ | refine Le ?_ | refine Lf ?_ | refine Lg ?_ | apply LW.nil | apply QW.then_n | apply QW.round | apply RW.succ | apply CW.seq | apply CW.region | apply CW.skip | apply CW.block | apply CW.ret | apply CW.exit | apply QW.then_ret | apply QW.then_exit | apply QW.blk_n | apply QW.blk_ret | apply QW.blk_exit | refine Ca ?_ | refine Cb ?_ | refine Cc ?_ | refine Lh ?_ | refine Li ?_ | refine Lj ?_ | refine Lk ?_ | refine Ll ?_))
      (apply LW.store_all; exact rfl; exact rfl; exact rfl; assumption; exact rfl; exact rfl; exact rfl; intro w20 hc20 hR20)
      (repeat (first | refine La ?_ | refine Lb ?_ | refine Lc ?_ | refine Ld ?_ | refine Le ?_ | refine Lf ?_ | refine Lg ?_ | apply LW.nil | apply QW.then_n | apply QW.round | apply RW.succ | apply CW.seq | apply CW.region | apply CW.skip | apply CW.block | apply CW.ret | apply CW.exit | apply QW.then_ret | apply QW.then_exit | apply QW.blk_n | apply QW.blk_ret | apply QW.blk_exit | refine Ca ?_ | refine Cb ?_ | refine Cc ?_ | refine Lh ?_ | refine Li ?_ | refine Lj ?_ | refine Lk ?_ | refine Ll ?_))
      refine QW.body_ct Tryd.results16 rfl hR20 rfl rfl rfl rfl ⟨?_, hx.step hc20 (by simp; omega)⟩
      rw [readV, hbad]
      rfl
    | some cz =>
      (repeat (first | refine La ?_ | refine Lb ?_ | refine Lc ?_ | refine Ld ?_ | refine Le ?_ | refine Lf ?_ | refine Lg ?_ | apply LW.nil | apply QW.then_n | apply QW.round | apply RW.succ | apply CW.seq | apply CW.region | apply CW.skip | apply CW.block | apply CW.ret | apply CW.exit | apply QW.then_ret | apply QW.then_exit | apply QW.blk_n | apply QW.blk_ret | apply QW.blk_exit | refine Ca ?_ | refine Cb ?_ | refine Cc ?_ | refine Lh ?_ | refine Li ?_ | refine Lj ?_ | refine Lk ?_ | refine Ll ?_))
      (apply LW.store_all; exact rfl; exact rfl; exact rfl; assumption; exact rfl; exact rfl; exact rfl; intro w20 hc20 hR20)
      (repeat (first | refine La ?_ | refine Lb ?_ | refine Lc ?_ | refine Ld ?_ | refine Le ?_ | refine Lf ?_ | refine Lg ?_ | apply LW.nil | apply QW.then_n | apply QW.round | apply RW.succ | apply CW.seq | apply CW.region | apply CW.skip | apply CW.block | apply CW.ret | apply CW.exit | apply QW.then_ret | apply QW.then_exit | apply QW.blk_n | apply QW.blk_ret | apply QW.blk_exit | refine Ca ?_ | refine Cb ?_ | refine Cc ?_ | refine Lh ?_ | refine Li ?_ | refine Lj ?_ | refine Lk ?_ | refine Ll ?_))
      refine QW.body_ct Tryd.results16 rfl hR20 rfl rfl rfl rfl ⟨?_, hx.step hc20 (by simp; omega)⟩
      rw [readV, hbad]
      rfl
end Go.Proofs.YtfpklhgkndnjjaaDoor
