/-
  Walks: the reader of a formula's tokens: signs that are taken, nodes that are put.
-/
import Derived.Test.YtfpklhgkndnjjaaDoorParA
namespace Go.Proofs.YtfpklhgkndnjjaaDoor
open Go Go.E

abbrev pv (e : Int) : Value := .iface 82 (.int .i64 e)

theorem fail_ret (b : Nat) (e : Int) (w : World) : RetP Tryd.prog 53 [.pointer (some ⟨b, 0, none⟩), .int .i64 e] w (fun _ _ => False) (fun v w' => v = pv e ∧ Ext w w') := by
  refine RetP.enter Tryd.func53 rfl Tryd.ntmps53 (by kernel_rfl) rfl ?_
  (repeat (first | refine La ?_ | refine Lb ?_ | refine Lc ?_ | refine Ld ?_ | refine Le ?_ | refine Lf ?_ | refine Lg ?_ | apply LW.nil | apply QW.then_n | apply QW.round | apply RW.succ | apply CW.seq | apply CW.region | apply CW.skip | apply CW.block | apply CW.ret | apply CW.exit | apply QW.then_ret | apply QW.then_exit | apply QW.blk_n | apply QW.blk_ret | apply QW.blk_exit | refine Ca ?_ | refine Cb ?_ | refine Cc ?_ | refine Lh ?_ | refine Li ?_ | refine Lj ?_ | refine Lk ?_ | refine Ll ?_))
  refine LW.mkIface rfl rfl rfl rfl ?_
  (repeat (first | refine La ?_ | refine Lb ?_ | refine Lc ?_ | refine Ld ?_ | refine Le ?_ | refine Lf ?_ | refine Lg ?_ | apply LW.nil | apply QW.then_n | apply QW.round | apply RW.succ | apply CW.seq | apply CW.region | apply CW.skip | apply CW.block | apply CW.ret | apply CW.exit | apply QW.then_ret | apply QW.then_exit | apply QW.blk_n | apply QW.blk_ret | apply QW.blk_exit | refine Ca ?_ | refine Cb ?_ | refine Cc ?_ | refine Lh ?_ | refine Li ?_ | refine Lj ?_ | refine Lk ?_ | refine Ll ?_))
  refine LW.panic rfl ?_
  (repeat (first | apply QW.then_panic | apply QW.blk_panic))
  exact QW.panicP ⟨rfl, Chg.refl _ _⟩

theorem rd_next {c : PCtx} (hc : c.Ok) {s : PSt} (h1 : s.at_ < c.T.length) (hk : (tokAt c.T s).kind ≠ 0) : s.at_ + 1 < c.T.length := hc.last _ h1 hk
theorem isS_kind {T : List TokD} {s : PSt} {x : List UInt8} (h : isS T s x = true) : (tokAt T s).kind = 5 ∧ (tokAt T s).text = x := by
  simpa [isS] using h

def mayS (T : List TokD) (s : PSt) (x : List UInt8) : PSt := if isS T s x then adv s else s

theorem may_ret {c : PCtx} {X : List Nat} (hc : c.Ok) {w : World} {s : PSt} (h : Rd c X w s) (x : List UInt8) : Ret Tryd.prog 123 [.pointer (some ⟨c.rb, 0, none⟩), str x] w
    (fun v w' => v = .bool (isS c.T s x) ∧ Rd c X w' (mayS c.T s x) ∧ Fr w w') := by
  refine Ret.enter Tryd.func123 rfl Tryd.ntmps123 (by kernel_rfl) rfl ?_
  (repeat (first | refine La ?_ | refine Lb ?_ | refine Lc ?_ | refine Ld ?_ | refine Le ?_ | refine Lf ?_ | refine Lg ?_ | apply LW.nil | apply QW.then_n | apply QW.round | apply RW.succ | apply CW.seq | apply CW.region | apply CW.skip | apply CW.block | apply CW.ret | apply CW.exit | apply QW.then_ret | apply QW.then_exit | apply QW.blk_n | apply QW.blk_ret | apply QW.blk_exit | refine Ca ?_ | refine Cb ?_ | refine Cc ?_ | refine Lh ?_ | refine Li ?_ | refine Lj ?_ | refine Lk ?_ | refine Ll ?_))
  refine LW.call0 rfl rfl (now_ret hc h) ?_
  rintro v w1 ⟨rfl, hx1⟩
  replace h := h.ext hx1
  (repeat (first | refine La ?_ | refine Lb ?_ | refine Lc ?_ | refine Ld ?_ | refine Le ?_ | refine Lf ?_ | refine Lg ?_ | apply LW.nil | apply QW.then_n | apply QW.round | apply RW.succ | apply CW.seq | apply CW.region | apply CW.skip | apply CW.block | apply CW.ret | apply CW.exit | apply QW.then_ret | apply QW.then_exit | apply QW.blk_n | apply QW.blk_ret | apply QW.blk_exit | refine Ca ?_ | refine Cb ?_ | refine Cc ?_ | refine Lh ?_ | refine Li ?_ | refine Lj ?_ | refine Lk ?_ | refine Ll ?_))
  (apply LW.alloc; exact rfl; exact rfl; exact rfl; intro C w2 hbC hx2 hC)
  (repeat (first | refine La ?_ | refine Lb ?_ | refine Lc ?_ | refine Ld ?_ | refine Le ?_ | refine Lf ?_ | refine Lg ?_ | apply LW.nil | apply QW.then_n | apply QW.round | apply RW.succ | apply CW.seq | apply CW.region | apply CW.skip | apply CW.block | apply CW.ret | apply CW.exit | apply QW.then_ret | apply QW.then_exit | apply QW.blk_n | apply QW.blk_ret | apply QW.blk_exit | refine Ca ?_ | refine Cb ?_ | refine Cc ?_ | refine Lh ?_ | refine Li ?_ | refine Lj ?_ | refine Lk ?_ | refine Ll ?_))
  (apply LW.store_all; exact rfl; exact rfl; exact rfl; assumption; exact rfl; exact rfl; exact rfl; intro w3 hc3 hC)
  replace hC : Blk w3 C (tokL (tokAt c.T s)) 47 := hC
  have hx3 : Ext w w3 := (hx1.trans hx2).step hc3 (by simp; have := hx1.size; omega)
  have hx3' : Ext w1 w3 := hx2.step hc3 (by simp; omega)
  replace h := h.ext hx3'
  have hlen := hc.len
  (repeat (first | refine La ?_ | refine Lb ?_ | refine Lc ?_ | refine Ld ?_ | refine Le ?_ | refine Lf ?_ | refine Lg ?_ | apply LW.nil | apply QW.then_n | apply QW.round | apply RW.succ | apply CW.seq | apply CW.region | apply CW.skip | apply CW.block | apply CW.ret | apply CW.exit | apply QW.then_ret | apply QW.then_exit | apply QW.blk_n | apply QW.blk_ret | apply QW.blk_exit | refine Ca ?_ | refine Cb ?_ | refine Cc ?_ | refine Lh ?_ | refine Li ?_ | refine Lj ?_ | refine Lk ?_ | refine Ll ?_))
  refine LW.part rfl rfl rfl (fun h1 => ?_) (fun h1 => ?_)
  · have h1 : (tokAt c.T s).kind ≠ 5 := by simpa using h1
    have hi : isS c.T s x = false := by simp [isS, h1]
    (repeat (first | refine La ?_ | refine Lb ?_ | refine Lc ?_ | refine Ld ?_ | refine Le ?_ | refine Lf ?_ | refine Lg ?_ | apply LW.nil | apply QW.then_n | apply QW.round | apply RW.succ | apply CW.seq | apply CW.region | apply CW.skip | apply CW.block | apply CW.ret | apply CW.exit | apply QW.then_ret | apply QW.then_exit | apply QW.blk_n | apply QW.blk_ret | apply QW.blk_exit | refine Ca ?_ | refine Cb ?_ | refine Cc ?_ | refine Lh ?_ | refine Li ?_ | refine Lj ?_ | refine Lk ?_ | refine Ll ?_))
    exact QW.body1 Tryd.results123 rfl ⟨by rw [hi], by rw [mayS, hi]; exact h, .ext hx3⟩
  have h1 : (tokAt c.T s).kind = 5 := by simpa using h1
  (repeat (first | refine La ?_ | refine Lb ?_ | refine Lc ?_ | refine Ld ?_ | refine Le ?_ | refine Lf ?_ | refine Lg ?_ | apply LW.nil | apply QW.then_n | apply QW.round | apply RW.succ | apply CW.seq | apply CW.region | apply CW.skip | apply CW.block | apply CW.ret | apply CW.exit | apply QW.then_ret | apply QW.then_exit | apply QW.blk_n | apply QW.blk_ret | apply QW.blk_exit | refine Ca ?_ | refine Cb ?_ | refine Cc ?_ | refine Lh ?_ | refine Li ?_ | refine Lj ?_ | refine Lk ?_ | refine Ll ?_))
  refine CW.cond rfl (fun h2 => ?_) (fun h2 => ?_)
  · have h2 : (tokAt c.T s).text ≠ x := by simpa using h2
    have hi : isS c.T s x = false := by simp [isS, h2]
    (repeat (first | refine La ?_ | refine Lb ?_ | refine Lc ?_ | refine Ld ?_ | refine Le ?_ | refine Lf ?_ | refine Lg ?_ | apply LW.nil | apply QW.then_n | apply QW.round | apply RW.succ | apply CW.seq | apply CW.region | apply CW.skip | apply CW.block | apply CW.ret | apply CW.exit | apply QW.then_ret | apply QW.then_exit | apply QW.blk_n | apply QW.blk_ret | apply QW.blk_exit | refine Ca ?_ | refine Cb ?_ | refine Cc ?_ | refine Lh ?_ | refine Li ?_ | refine Lj ?_ | refine Lk ?_ | refine Ll ?_))
    exact QW.body1 Tryd.results123 rfl ⟨by rw [hi], by rw [mayS, hi]; exact h, .ext hx3⟩
  have h2 : (tokAt c.T s).text = x := by simpa using h2
  have hi : isS c.T s x = true := by simp [isS, h1, h2]
  obtain ⟨a0, a1, a2, a3, outv, nvs, hB, ho, hm, hk⟩ := h
  have hnx := rd_next hc a1 (by omega)
  have hB0 := hB
  (repeat (first | refine La ?_ | refine Lb ?_ | refine Lc ?_ | refine Ld ?_ | refine Le ?_ | refine Lf ?_ | refine Lg ?_ | apply LW.nil | apply QW.then_n | apply QW.round | apply RW.succ | apply CW.seq | apply CW.region | apply CW.skip | apply CW.block | apply CW.ret | apply CW.exit | apply QW.then_ret | apply QW.then_exit | apply QW.blk_n | apply QW.blk_ret | apply QW.blk_exit | refine Ca ?_ | refine Cb ?_ | refine Cc ?_ | refine Lh ?_ | refine Li ?_ | refine Lj ?_ | refine Lk ?_ | refine Ll ?_))
  (apply LW.store; exact rfl; exact rfl; exact rfl; assumption; exact rfl; exact rfl; exact rfl; intro w4 hc4 hB)
  replace hB : Blk w4 c.rb [c.tokv, .int .i64 ((s.at_ + 1 : Nat) : Int), outv, .int .i64 s.deep] 86 := hB
  obtain ⟨hr, hf⟩ := Rd.set hc (s := s) (s' := adv s) a0 ho hm hk hB0 hc4 hB rfl hnx a2 (by show s.out.length ≤ s.at_ + 1; omega)
  (repeat (first | refine La ?_ | refine Lb ?_ | refine Lc ?_ | refine Ld ?_ | refine Le ?_ | refine Lf ?_ | refine Lg ?_ | apply LW.nil | apply QW.then_n | apply QW.round | apply RW.succ | apply CW.seq | apply CW.region | apply CW.skip | apply CW.block | apply CW.ret | apply CW.exit | apply QW.then_ret | apply QW.then_exit | apply QW.blk_n | apply QW.blk_ret | apply QW.blk_exit | refine Ca ?_ | refine Cb ?_ | refine Cc ?_ | refine Lh ?_ | refine Li ?_ | refine Lj ?_ | refine Lk ?_ | refine Ll ?_))
  exact QW.body1 Tryd.results123 rfl ⟨by rw [hi], by rw [mayS, hi]; exact hr, (Fr.ext hx3).trans hf⟩

theorem need_ret {c : PCtx} {X : List Nat} (hc : c.Ok) {w : World} {s : PSt} (h : Rd c X w s) (x : List UInt8) : RetP Tryd.prog 120 [.pointer (some ⟨c.rb, 0, none⟩), str x] w
    (fun v w' => v = .tuple #[] ∧ isS c.T s x = true ∧ Rd c X w' (adv s) ∧ Fr w w') (fun v w' => v = pv 5 ∧ isS c.T s x = false ∧ Ext c.w0 w') := by
  refine RetP.enter Tryd.func120 rfl Tryd.ntmps120 (by kernel_rfl) rfl ?_
  (repeat (first | refine La ?_ | refine Lb ?_ | refine Lc ?_ | refine Ld ?_ | refine Le ?_ | refine Lf ?_ | refine Lg ?_ | apply LW.nil | apply QW.then_n | apply QW.round | apply RW.succ | apply CW.seq | apply CW.region | apply CW.skip | apply CW.block | apply CW.ret | apply CW.exit | apply QW.then_ret | apply QW.then_exit | apply QW.blk_n | apply QW.blk_ret | apply QW.blk_exit | refine Ca ?_ | refine Cb ?_ | refine Cc ?_ | refine Lh ?_ | refine Li ?_ | refine Lj ?_ | refine Lk ?_ | refine Ll ?_))
  refine LW.call0 rfl rfl (may_ret hc h x) ?_
  rintro v w1 ⟨rfl, hr, hf⟩
  (repeat (first | refine La ?_ | refine Lb ?_ | refine Lc ?_ | refine Ld ?_ | refine Le ?_ | refine Lf ?_ | refine Lg ?_ | apply LW.nil | apply QW.then_n | apply QW.round | apply RW.succ | apply CW.seq | apply CW.region | apply CW.skip | apply CW.block | apply CW.ret | apply CW.exit | apply QW.then_ret | apply QW.then_exit | apply QW.blk_n | apply QW.blk_ret | apply QW.blk_exit | refine Ca ?_ | refine Cb ?_ | refine Cc ?_ | refine Lh ?_ | refine Li ?_ | refine Lj ?_ | refine Lk ?_ | refine Ll ?_))
  refine CW.cond rfl (fun h1 => ?_) (fun h1 => ?_)
  · have h1 : isS c.T s x = false := by simpa using h1
    rw [mayS, h1, if_neg (by simp)] at hr
    (repeat (first | refine La ?_ | refine Lb ?_ | refine Lc ?_ | refine Ld ?_ | refine Le ?_ | refine Lf ?_ | refine Lg ?_ | apply LW.nil | apply QW.then_n | apply QW.round | apply RW.succ | apply CW.seq | apply CW.region | apply CW.skip | apply CW.block | apply CW.ret | apply CW.exit | apply QW.then_ret | apply QW.then_exit | apply QW.blk_n | apply QW.blk_ret | apply QW.blk_exit | refine Ca ?_ | refine Cb ?_ | refine Cc ?_ | refine Lh ?_ | refine Li ?_ | refine Lj ?_ | refine Lk ?_ | refine Ll ?_))
    refine LW.callP0 rfl rfl (fail_ret c.rb 5 w1) ?_ (fun _ _ hh => hh.elim)
    rintro v w2 ⟨rfl, hx2⟩
    (repeat (first | apply QW.then_panic | apply QW.blk_panic))
    exact QW.panicP ⟨rfl, h1, hr.1.trans hx2⟩
  · have h1 : isS c.T s x = true := by simpa using h1
    rw [mayS, if_pos h1] at hr
    (repeat (first | refine La ?_ | refine Lb ?_ | refine Lc ?_ | refine Ld ?_ | refine Le ?_ | refine Lf ?_ | refine Lg ?_ | apply LW.nil | apply QW.then_n | apply QW.round | apply RW.succ | apply CW.seq | apply CW.region | apply CW.skip | apply CW.block | apply CW.ret | apply CW.exit | apply QW.then_ret | apply QW.then_exit | apply QW.blk_n | apply QW.blk_ret | apply QW.blk_exit | refine Ca ?_ | refine Cb ?_ | refine Cc ?_ | refine Lh ?_ | refine Li ?_ | refine Lj ?_ | refine Lk ?_ | refine Ll ?_))
    exact QW.bodyP0n Tryd.results120 ⟨rfl, h1, hr, hf⟩

theorem open_ret {c : PCtx} {X : List Nat} (hc : c.Ok) {w : World} {s : PSt} (h : Rd c X w s) (x : List UInt8) : RetP Tryd.prog 119 [.pointer (some ⟨c.rb, 0, none⟩), str x] w
    (fun v w' => v = .tuple #[] ∧ isS c.T s x = true ∧ s.deep < 12 ∧ Rd c X w' (deeper (adv s)) ∧ Fr w w')
    (fun v w' => Ext c.w0 w' ∧ (v = pv 6 ∧ isS c.T s x = true ∧ 12 ≤ s.deep ∨ v = pv 5 ∧ isS c.T s x = false)) := by
  have hd12 := h.2.2.1
  have hlen := hc.len
  refine RetP.enter Tryd.func119 rfl Tryd.ntmps119 (by kernel_rfl) rfl ?_
  (repeat (first | refine La ?_ | refine Lb ?_ | refine Lc ?_ | refine Ld ?_ | refine Le ?_ | refine Lf ?_ | refine Lg ?_ | apply LW.nil | apply QW.then_n | apply QW.round | apply RW.succ | apply CW.seq | apply CW.region | apply CW.skip | apply CW.block | apply CW.ret | apply CW.exit | apply QW.then_ret | apply QW.then_exit | apply QW.blk_n | apply QW.blk_ret | apply QW.blk_exit | refine Ca ?_ | refine Cb ?_ | refine Cc ?_ | refine Lh ?_ | refine Li ?_ | refine Lj ?_ | refine Lk ?_ | refine Ll ?_))
  refine LW.call0 rfl rfl (now_ret hc h) ?_
  rintro v w1 ⟨rfl, hx1⟩
  replace h := h.ext hx1
  (repeat (first | refine La ?_ | refine Lb ?_ | refine Lc ?_ | refine Ld ?_ | refine Le ?_ | refine Lf ?_ | refine Lg ?_ | apply LW.nil | apply QW.then_n | apply QW.round | apply RW.succ | apply CW.seq | apply CW.region | apply CW.skip | apply CW.block | apply CW.ret | apply CW.exit | apply QW.then_ret | apply QW.then_exit | apply QW.blk_n | apply QW.blk_ret | apply QW.blk_exit | refine Ca ?_ | refine Cb ?_ | refine Cc ?_ | refine Lh ?_ | refine Li ?_ | refine Lj ?_ | refine Lk ?_ | refine Ll ?_))
  (apply LW.alloc; exact rfl; exact rfl; exact rfl; intro C w2 hbC hx2 hC)
  (repeat (first | refine La ?_ | refine Lb ?_ | refine Lc ?_ | refine Ld ?_ | refine Le ?_ | refine Lf ?_ | refine Lg ?_ | apply LW.nil | apply QW.then_n | apply QW.round | apply RW.succ | apply CW.seq | apply CW.region | apply CW.skip | apply CW.block | apply CW.ret | apply CW.exit | apply QW.then_ret | apply QW.then_exit | apply QW.blk_n | apply QW.blk_ret | apply QW.blk_exit | refine Ca ?_ | refine Cb ?_ | refine Cc ?_ | refine Lh ?_ | refine Li ?_ | refine Lj ?_ | refine Lk ?_ | refine Ll ?_))
  (apply LW.store_all; exact rfl; exact rfl; exact rfl; assumption; exact rfl; exact rfl; exact rfl; intro w3 hc3 hC)
  replace hC : Blk w3 C (tokL (tokAt c.T s)) 47 := hC
  have hx3 : Ext w w3 := (hx1.trans hx2).step hc3 (by simp; have := hx1.size; omega)
  have hx3' : Ext w1 w3 := hx2.step hc3 (by simp; omega)
  replace h := h.ext hx3'
  (repeat (first | refine La ?_ | refine Lb ?_ | refine Lc ?_ | refine Ld ?_ | refine Le ?_ | refine Lf ?_ | refine Lg ?_ | apply LW.nil | apply QW.then_n | apply QW.round | apply RW.succ | apply CW.seq | apply CW.region | apply CW.skip | apply CW.block | apply CW.ret | apply CW.exit | apply QW.then_ret | apply QW.then_exit | apply QW.blk_n | apply QW.blk_ret | apply QW.blk_exit | refine Ca ?_ | refine Cb ?_ | refine Cc ?_ | refine Lh ?_ | refine Li ?_ | refine Lj ?_ | refine Lk ?_ | refine Ll ?_))
  refine LW.part rfl rfl rfl (fun h1 => ?_) (fun h1 => ?_)
  · have h1 : (tokAt c.T s).kind = 5 := by simpa using h1
    (repeat (first | refine La ?_ | refine Lb ?_ | refine Lc ?_ | refine Ld ?_ | refine Le ?_ | refine Lf ?_ | refine Lg ?_ | apply LW.nil | apply QW.then_n | apply QW.round | apply RW.succ | apply CW.seq | apply CW.region | apply CW.skip | apply CW.block | apply CW.ret | apply CW.exit | apply QW.then_ret | apply QW.then_exit | apply QW.blk_n | apply QW.blk_ret | apply QW.blk_exit | refine Ca ?_ | refine Cb ?_ | refine Cc ?_ | refine Lh ?_ | refine Li ?_ | refine Lj ?_ | refine Lk ?_ | refine Ll ?_))
    refine LW.part rfl rfl rfl (fun h2 => ?_) (fun h2 => ?_)
    · have h2 : (tokAt c.T s).text = x := by simpa using h2
      have hi : isS c.T s x = true := by simp [isS, h1, h2]
      have hh := h
      obtain ⟨a0, a1, a2, a3, outv, nvs, hB, ho, hm, hk⟩ := hh
      (repeat (first | refine La ?_ | refine Lb ?_ | refine Lc ?_ | refine Ld ?_ | refine Le ?_ | refine Lf ?_ | refine Lg ?_ | apply LW.nil | apply QW.then_n | apply QW.round | apply RW.succ | apply CW.seq | apply CW.region | apply CW.skip | apply CW.block | apply CW.ret | apply CW.exit | apply QW.then_ret | apply QW.then_exit | apply QW.blk_n | apply QW.blk_ret | apply QW.blk_exit | refine Ca ?_ | refine Cb ?_ | refine Cc ?_ | refine Lh ?_ | refine Li ?_ | refine Lj ?_ | refine Lk ?_ | refine Ll ?_))
      refine CW.cond rfl (fun h3 => ?_) (fun h3 => ?_)
      · have h3 : 12 ≤ s.deep := by simp at h3; omega
        (repeat (first | refine La ?_ | refine Lb ?_ | refine Lc ?_ | refine Ld ?_ | refine Le ?_ | refine Lf ?_ | refine Lg ?_ | apply LW.nil | apply QW.then_n | apply QW.round | apply RW.succ | apply CW.seq | apply CW.region | apply CW.skip | apply CW.block | apply CW.ret | apply CW.exit | apply QW.then_ret | apply QW.then_exit | apply QW.blk_n | apply QW.blk_ret | apply QW.blk_exit | refine Ca ?_ | refine Cb ?_ | refine Cc ?_ | refine Lh ?_ | refine Li ?_ | refine Lj ?_ | refine Lk ?_ | refine Ll ?_))
        refine LW.callP0 rfl rfl (fail_ret c.rb 6 w3) ?_ (fun _ _ hh => hh.elim)
        rintro v w4 ⟨rfl, hx4⟩
        (repeat (first | apply QW.then_panic | apply QW.blk_panic))
        exact QW.panicP ⟨h.1.trans hx4, .inl ⟨rfl, hi, h3⟩⟩
      · have h3 : s.deep < 12 := by simp at h3; omega
        clear hB ho hm hk
        (repeat (first | refine La ?_ | refine Lb ?_ | refine Lc ?_ | refine Ld ?_ | refine Le ?_ | refine Lf ?_ | refine Lg ?_ | apply LW.nil | apply QW.then_n | apply QW.round | apply RW.succ | apply CW.seq | apply CW.region | apply CW.skip | apply CW.block | apply CW.ret | apply CW.exit | apply QW.then_ret | apply QW.then_exit | apply QW.blk_n | apply QW.blk_ret | apply QW.blk_exit | refine Ca ?_ | refine Cb ?_ | refine Cc ?_ | refine Lh ?_ | refine Li ?_ | refine Lj ?_ | refine Lk ?_ | refine Ll ?_))
        refine LW.callP0 rfl rfl (need_ret hc h x) ?_ ?_
        · rintro v w4 ⟨rfl, hi2, hx4⟩
          (repeat (first | apply QW.then_panic | apply QW.blk_panic))
          exact QW.panicP ⟨hx4, .inr ⟨rfl, hi2⟩⟩
        rintro v w4 ⟨rfl, hi2, hr, hf⟩
        have hh2 := hr
        obtain ⟨a0, a1, a2, a3, outv, nvs, hB, ho, hm, hk⟩ := hh2
        have hB0 := hB
        simp only [adv] at hB
        (repeat (first | refine La ?_ | refine Lb ?_ | refine Lc ?_ | refine Ld ?_ | refine Le ?_ | refine Lf ?_ | refine Lg ?_ | apply LW.nil | apply QW.then_n | apply QW.round | apply RW.succ | apply CW.seq | apply CW.region | apply CW.skip | apply CW.block | apply CW.ret | apply CW.exit | apply QW.then_ret | apply QW.then_exit | apply QW.blk_n | apply QW.blk_ret | apply QW.blk_exit | refine Ca ?_ | refine Cb ?_ | refine Cc ?_ | refine Lh ?_ | refine Li ?_ | refine Lj ?_ | refine Lk ?_ | refine Ll ?_))
        (apply LW.store; exact rfl; exact rfl; exact rfl; assumption; exact rfl; exact rfl; exact rfl; intro w5 hc5 hB)
        replace hB : Blk w5 c.rb [c.tokv, .int .i64 (adv s).at_, outv, .int .i64 ((s.deep + 1 : Nat) : Int)] 86 := hB
        obtain ⟨hr5, hf5⟩ := Rd.set hc (s := adv s) (s' := deeper (adv s)) a0 ho hm hk hB0 hc5 hB rfl a1 (by show s.deep + 1 ≤ 12; omega) a3
        (repeat (first | refine La ?_ | refine Lb ?_ | refine Lc ?_ | refine Ld ?_ | refine Le ?_ | refine Lf ?_ | refine Lg ?_ | apply LW.nil | apply QW.then_n | apply QW.round | apply RW.succ | apply CW.seq | apply CW.region | apply CW.skip | apply CW.block | apply CW.ret | apply CW.exit | apply QW.then_ret | apply QW.then_exit | apply QW.blk_n | apply QW.blk_ret | apply QW.blk_exit | refine Ca ?_ | refine Cb ?_ | refine Cc ?_ | refine Lh ?_ | refine Li ?_ | refine Lj ?_ | refine Lk ?_ | refine Ll ?_))
        exact QW.bodyP0n Tryd.results119 ⟨rfl, hi2, h3, hr5, ((Fr.ext hx3).trans hf).trans hf5⟩
    · have h2 : (tokAt c.T s).text ≠ x := by simpa using h2
      have hi : isS c.T s x = false := by simp [isS, h2]
      (repeat (first | refine La ?_ | refine Lb ?_ | refine Lc ?_ | refine Ld ?_ | refine Le ?_ | refine Lf ?_ | refine Lg ?_ | apply LW.nil | apply QW.then_n | apply QW.round | apply RW.succ | apply CW.seq | apply CW.region | apply CW.skip | apply CW.block | apply CW.ret | apply CW.exit | apply QW.then_ret | apply QW.then_exit | apply QW.blk_n | apply QW.blk_ret | apply QW.blk_exit | refine Ca ?_ | refine Cb ?_ | refine Cc ?_ | refine Lh ?_ | refine Li ?_ | refine Lj ?_ | refine Lk ?_ | refine Ll ?_))
      (repeat (first | refine La ?_ | refine Lb ?_ | refine Lc ?_ | refine Ld ?_ | refine Le ?_ | refine Lf ?_ | refine Lg ?_ | apply LW.nil | apply QW.then_n | apply QW.round | apply RW.succ | apply CW.seq | apply CW.region | apply CW.skip | apply CW.block | apply CW.ret | apply CW.exit | apply QW.then_ret | apply QW.then_exit | apply QW.blk_n | apply QW.blk_ret | apply QW.blk_exit | refine Ca ?_ | refine Cb ?_ | refine Cc ?_ | refine Lh ?_ | refine Li ?_ | refine Lj ?_ | refine Lk ?_ | refine Ll ?_))
      refine LW.callP0 rfl rfl (need_ret hc h x) ?_ ?_
      · rintro v w4 ⟨rfl, hi2, hx4⟩
        (repeat (first | apply QW.then_panic | apply QW.blk_panic))
        exact QW.panicP ⟨hx4, .inr ⟨rfl, hi2⟩⟩
      rintro v w4 ⟨rfl, hi2, hr, hf⟩
      rw [hi] at hi2
      cases hi2
  · have h1 : (tokAt c.T s).kind ≠ 5 := by simpa using h1
    have hi : isS c.T s x = false := by simp [isS, h1]
    (repeat (first | refine La ?_ | refine Lb ?_ | refine Lc ?_ | refine Ld ?_ | refine Le ?_ | refine Lf ?_ | refine Lg ?_ | apply LW.nil | apply QW.then_n | apply QW.round | apply RW.succ | apply CW.seq | apply CW.region | apply CW.skip | apply CW.block | apply CW.ret | apply CW.exit | apply QW.then_ret | apply QW.then_exit | apply QW.blk_n | apply QW.blk_ret | apply QW.blk_exit | refine Ca ?_ | refine Cb ?_ | refine Cc ?_ | refine Lh ?_ | refine Li ?_ | refine Lj ?_ | refine Lk ?_ | refine Ll ?_))
    (repeat (first | refine La ?_ | refine Lb ?_ | refine Lc ?_ | refine Ld ?_ | refine Le ?_ | refine Lf ?_ | refine Lg ?_ | apply LW.nil | apply QW.then_n | apply QW.round | apply RW.succ | apply CW.seq | apply CW.region | apply CW.skip | apply CW.block | apply CW.ret | apply CW.exit | apply QW.then_ret | apply QW.then_exit | apply QW.blk_n | apply QW.blk_ret | apply QW.blk_exit | refine Ca ?_ | refine Cb ?_ | refine Cc ?_ | refine Lh ?_ | refine Li ?_ | refine Lj ?_ | refine Lk ?_ | refine Ll ?_))
    refine LW.callP0 rfl rfl (need_ret hc h x) ?_ ?_
    · rintro v w4 ⟨rfl, hi2, hx4⟩
      (repeat (first | apply QW.then_panic | apply QW.blk_panic))
      exact QW.panicP ⟨hx4, .inr ⟨rfl, hi2⟩⟩
    rintro v w4 ⟨rfl, hi2, hr, hf⟩
    rw [hi] at hi2
    cases hi2

theorem KidsOk.one {w : World} {kv : Value} {ks : List Int} (h : KidsOk w kv ks) : kv.oneCell' = true := by
  rcases h with ⟨rfl, _⟩ | ⟨b, cap, sp, rfl, _⟩ <;> rfl

theorem put_ret {c : PCtx} {X : List Nat} (hc : c.Ok) {w : World} {s : PSt} (h : Rd c X w s) (x : NV) (hx : KidsOk w x.kv x.node.kids) (hxX : ∀ b ∈ vblk x.kv, b ∉ X) (hs : s.out.length + 1 ≤ s.at_) : Ret Tryd.prog 91 [.pointer (some ⟨c.rb, 0, none⟩), .agg ⟨nvL x⟩] w
    (fun v w' => v = .int .i64 s.out.length ∧ Rd c X w' (putS s x.node) ∧ Fr w w') := by
  have hlen := hc.len
  obtain ⟨a0, a1, a2, a3, outv, nvs, hB, ho, hm, hk⟩ := h
  have hnl : nvs.length = s.out.length := by rw [← hm]; simp
  obtain ⟨p1, q1, e1⟩ := ho.slice
  subst e1
  have hkv : x.kv.oneCell' = true := hx.one
  have hnv : (nvL x).all (·.oneCell') = true := by
    simp only [nvL, List.all_cons, hkv]
    rfl
  refine Ret.enter Tryd.func91 rfl Tryd.ntmps91 (by kernel_rfl) rfl ?_
  (repeat (first | refine La ?_ | refine Lb ?_ | refine Lc ?_ | refine Ld ?_ | refine Le ?_ | refine Lf ?_ | refine Lg ?_ | apply LW.nil | apply QW.then_n | apply QW.round | apply RW.succ | apply CW.seq | apply CW.region | apply CW.skip | apply CW.block | apply CW.ret | apply CW.exit | apply QW.then_ret | apply QW.then_exit | apply QW.blk_n | apply QW.blk_ret | apply QW.blk_exit | refine Ca ?_ | refine Cb ?_ | refine Cc ?_ | refine Lh ?_ | refine Li ?_ | refine Lj ?_ | refine Lk ?_ | refine Ll ?_))
  (apply LW.box; exact rfl; exact rfl; exact rfl; intro C w1 hbC hx1 hC)
  replace hC : Blk w1 C (nvL x) 59 := hC
  replace hB := hB.ext hx1
  (repeat (first | refine La ?_ | refine Lb ?_ | refine Lc ?_ | refine Ld ?_ | refine Le ?_ | refine Lf ?_ | refine Lg ?_ | apply LW.nil | apply QW.then_n | apply QW.round | apply RW.succ | apply CW.seq | apply CW.region | apply CW.skip | apply CW.block | apply CW.ret | apply CW.exit | apply QW.then_ret | apply QW.then_exit | apply QW.blk_n | apply QW.blk_ret | apply QW.blk_exit | refine Ca ?_ | refine Cb ?_ | refine Cc ?_ | refine Lh ?_ | refine Li ?_ | refine Lj ?_ | refine Lk ?_ | refine Ll ?_))
  refine CW.drawAny (by kernel_rfl) fun w2 hx2 => ?_
  replace hB := hB.ext hx2
  replace hC := hC.ext hx2
  have hx2' := hx1.trans hx2
  have hz2 := hx2'.size
  refine AW.take 0 rfl rfl rfl rfl (fun w => Y.pure rfl) rfl rfl (by kernel_rfl) (by kernel_rfl) (by kernel_rfl) (fun _ _ _ h => h) ?_
  refine AW.take 1 rfl rfl rfl rfl (fun w => Y.pure rfl) rfl rfl (by kernel_rfl) (by kernel_rfl) (by kernel_rfl) (fun _ _ _ h => h) ?_
  refine AW.take 2 rfl rfl rfl rfl (fun w => Y.pure rfl) rfl rfl (by kernel_rfl) (by kernel_rfl) (by kernel_rfl) (fun _ _ _ h => h) ?_
  refine AW.take 3 rfl rfl rfl rfl (fun w => Y.pure rfl) rfl rfl (by kernel_rfl) (by kernel_rfl) (by kernel_rfl) (fun _ _ _ h => h) ?_
  refine AW.two 4 5 (by kernel_rfl) rfl rfl rfl rfl ?_ ?_
  · (repeat (first | refine La ?_ | refine Lb ?_ | refine Lc ?_ | refine Ld ?_ | refine Le ?_ | refine Lf ?_ | refine Lg ?_ | apply LW.nil | apply QW.then_n | apply QW.round | apply RW.succ | apply CW.seq | apply CW.region | apply CW.skip | apply CW.block | apply CW.ret | apply CW.exit | apply QW.then_ret | apply QW.then_exit | apply QW.blk_n | apply QW.blk_ret | apply QW.blk_exit | refine Ca ?_ | refine Cb ?_ | refine Cc ?_ | refine Lh ?_ | refine Li ?_ | refine Lj ?_ | refine Lk ?_ | refine Ll ?_))
    apply QW.any
    refine AW.one 5 (by kernel_rfl) rfl rfl ?_
    (repeat (first | refine La ?_ | refine Lb ?_ | refine Lc ?_ | refine Ld ?_ | refine Le ?_ | refine Lf ?_ | refine Lg ?_ | apply LW.nil | apply QW.then_n | apply QW.round | apply RW.succ | apply CW.seq | apply CW.region | apply CW.skip | apply CW.block | apply CW.ret | apply CW.exit | apply QW.then_ret | apply QW.then_exit | apply QW.blk_n | apply QW.blk_ret | apply QW.blk_exit | refine Ca ?_ | refine Cb ?_ | refine Cc ?_ | refine Lh ?_ | refine Li ?_ | refine Lj ?_ | refine Lk ?_ | refine Ll ?_))
    apply QW.any
    refine AW.one 6 (by kernel_rfl) rfl rfl ?_
    (apply LW.buildSlice; exact rfl; exact rfl; exact rfl; exact rfl; exact rfl; exact rfl; exact rfl; exact rfl; exact rfl; intro A w3 hbA hx3 hA)
    replace hA : Blk w3 A (nvL x) 59 := hA
    have hB3 := hB.ext hx3
    have hx3' := hx2'.trans hx3
    have hz3 := hx3'.size
    have ho3 := ho.ext hx3'
    (repeat (first | refine La ?_ | refine Lb ?_ | refine Lc ?_ | refine Ld ?_ | refine Le ?_ | refine Lf ?_ | refine Lg ?_ | apply LW.nil | apply QW.then_n | apply QW.round | apply RW.succ | apply CW.seq | apply CW.region | apply CW.skip | apply CW.block | apply CW.ret | apply CW.exit | apply QW.then_ret | apply QW.then_exit | apply QW.blk_n | apply QW.blk_ret | apply QW.blk_exit | refine Ca ?_ | refine Cb ?_ | refine Cc ?_ | refine Lh ?_ | refine Li ?_ | refine Lj ?_ | refine Lk ?_ | refine Ll ?_))
    apply QW.any
    refine AW.one 7 (by kernel_rfl) rfl rfl ?_
    refine LW.append rfl rfl rfl rfl rfl rfl ho3 (by have := a0.size; omega) hA rfl hnv rfl (by show (nvs.length + 1) * 137 ≤ 140737488355328; omega) rfl ?_
    intro v' w4 hc4 ho4 hnew
    have hrb : c.rb ∉ vblk (Value.slice p1 nvs.length q1) := fun hm => by
      obtain ⟨_, ⟨e, _⟩ | ⟨g, cap, sp, e, hg, _⟩⟩ := ho3
      · rw [e] at hm; simp [vblk] at hm
      · rw [e] at hm
        simp [vblk] at hm
        exact absurd (hg.inj (hm ▸ hB3)) (by decide)
    have hf4 : Fr w3 w4 := Fr.chg hc4 (fun k hk l T hb => by
      obtain ⟨_, ⟨e, _⟩ | ⟨g, cap, sp, e, hg, _⟩⟩ := ho3
      · rw [e] at hk; simp [vblk] at hk
      · rw [e] at hk
        simp [vblk] at hk
        subst hk
        exact .inr (hb.inj hg))
    have hB4 := hB3.chg hc4 hrb
    have hx4 : Ext c.w0 w4 := (a0.trans hx3').step hc4 (fun k hk => (ho3.lt hk).1)
    obtain ⟨p2, q2, e2⟩ := ho4.slice
    subst e2
    (repeat (first | refine La ?_ | refine Lb ?_ | refine Lc ?_ | refine Ld ?_ | refine Le ?_ | refine Lf ?_ | refine Lg ?_ | apply LW.nil | apply QW.then_n | apply QW.round | apply RW.succ | apply CW.seq | apply CW.region | apply CW.skip | apply CW.block | apply CW.ret | apply CW.exit | apply QW.then_ret | apply QW.then_exit | apply QW.blk_n | apply QW.blk_ret | apply QW.blk_exit | refine Ca ?_ | refine Cb ?_ | refine Cc ?_ | refine Lh ?_ | refine Li ?_ | refine Lj ?_ | refine Lk ?_ | refine Ll ?_))
    apply QW.any
    refine AW.one 8 (by kernel_rfl) rfl rfl ?_
    (repeat (first | refine La ?_ | refine Lb ?_ | refine Lc ?_ | refine Ld ?_ | refine Le ?_ | refine Lf ?_ | refine Lg ?_ | apply LW.nil | apply QW.then_n | apply QW.round | apply RW.succ | apply CW.seq | apply CW.region | apply CW.skip | apply CW.block | apply CW.ret | apply CW.exit | apply QW.then_ret | apply QW.then_exit | apply QW.blk_n | apply QW.blk_ret | apply QW.blk_exit | refine Ca ?_ | refine Cb ?_ | refine Cc ?_ | refine Lh ?_ | refine Li ?_ | refine Lj ?_ | refine Lk ?_ | refine Ll ?_))
    apply QW.any
    refine AW.one 9 (by kernel_rfl) rfl rfl ?_
    (repeat (first | refine La ?_ | refine Lb ?_ | refine Lc ?_ | refine Ld ?_ | refine Le ?_ | refine Lf ?_ | refine Lg ?_ | apply LW.nil | apply QW.then_n | apply QW.round | apply RW.succ | apply CW.seq | apply CW.region | apply CW.skip | apply CW.block | apply CW.ret | apply CW.exit | apply QW.then_ret | apply QW.then_exit | apply QW.blk_n | apply QW.blk_ret | apply QW.blk_exit | refine Ca ?_ | refine Cb ?_ | refine Cc ?_ | refine Lh ?_ | refine Li ?_ | refine Lj ?_ | refine Lk ?_ | refine Ll ?_))
    apply QW.any
    refine AW.one 10 (by kernel_rfl) rfl rfl ?_
    have hB0 := hB4
    (apply LW.store; exact rfl; exact rfl; exact rfl; assumption; exact rfl; exact rfl; exact rfl; intro w5 hc5 hB4)
    replace hB4 : Blk w5 c.rb [c.tokv, .int .i64 s.at_, .slice p2 (nvs.length + 1) q2, .int .i64 s.deep] 86 := hB4
    have hrb2 : ∀ j, j ∈ vblk (Value.slice p2 (nvs.length + 1) q2) → j ∉ [c.rb] := fun j hj hb => by
      simp only [List.mem_singleton] at hb
      subst hb
      obtain ⟨_, ⟨e, _⟩ | ⟨g, cap, sp, e, hg, _⟩⟩ := ho4
      · rw [e] at hj; simp [vblk] at hj
      · rw [e] at hj
        simp [vblk] at hj
        exact absurd (hg.inj (hj ▸ hB0)) (by decide)
    have hf5 : Fr w4 w5 := Fr.chg hc5 (fun k hk l T hb => by simp at hk; subst hk; exact .inl (hb.inj hB0))
    have hff : Fr w w5 := ((Fr.ext hx3').trans hf4).trans hf5
    have ho5 := ho4.chg hc5 hrb2
    apply LW.nil
    apply QW.any
    refine AW.done (by kernel_rfl) ?_
    (repeat (first | refine La ?_ | refine Lb ?_ | refine Lc ?_ | refine Ld ?_ | refine Le ?_ | refine Lf ?_ | refine Lg ?_ | apply LW.nil | apply QW.then_n | apply QW.round | apply RW.succ | apply CW.seq | apply CW.region | apply CW.skip | apply CW.block | apply CW.ret | apply CW.exit | apply QW.then_ret | apply QW.then_exit | apply QW.blk_n | apply QW.blk_ret | apply QW.blk_exit | refine Ca ?_ | refine Cb ?_ | refine Cc ?_ | refine Lh ?_ | refine Li ?_ | refine Lj ?_ | refine Lk ?_ | refine Ll ?_))
    refine QW.body1 Tryd.results91 rfl ⟨by rw [← hnl]; congr 1; omega, ⟨hx4.step hc5 (by simpa using hc.new), a1, a2, by simp [putS]; omega, .slice p2 (nvs.length + 1) q2, nvs ++ [x], hB4, by simpa using ho5, by simp [putS, hm], ?_⟩, hff⟩
    intro y hy
    rw [List.mem_append] at hy
    rcases hy with hy | hy
    · exact ⟨(hk y hy).1.fr hff, (hk y hy).2⟩
    · simp only [List.mem_singleton] at hy
      subst hy
      exact ⟨hx.fr hff, hxX⟩
  · (repeat (first | refine La ?_ | refine Lb ?_ | refine Lc ?_ | refine Ld ?_ | refine Le ?_ | refine Lf ?_ | refine Lg ?_ | apply LW.nil | apply QW.then_n | apply QW.round | apply RW.succ | apply CW.seq | apply CW.region | apply CW.skip | apply CW.block | apply CW.ret | apply CW.exit | apply QW.then_ret | apply QW.then_exit | apply QW.blk_n | apply QW.blk_ret | apply QW.blk_exit | refine Ca ?_ | refine Cb ?_ | refine Cc ?_ | refine Lh ?_ | refine Li ?_ | refine Lj ?_ | refine Lk ?_ | refine Ll ?_))
    apply QW.any
    refine AW.two 4 6 (by kernel_rfl) rfl rfl rfl rfl ?_ ?_
    · (repeat (first | refine La ?_ | refine Lb ?_ | refine Lc ?_ | refine Ld ?_ | refine Le ?_ | refine Lf ?_ | refine Lg ?_ | apply LW.nil | apply QW.then_n | apply QW.round | apply RW.succ | apply CW.seq | apply CW.region | apply CW.skip | apply CW.block | apply CW.ret | apply CW.exit | apply QW.then_ret | apply QW.then_exit | apply QW.blk_n | apply QW.blk_ret | apply QW.blk_exit | refine Ca ?_ | refine Cb ?_ | refine Cc ?_ | refine Lh ?_ | refine Li ?_ | refine Lj ?_ | refine Lk ?_ | refine Ll ?_))
      apply QW.any
      refine AW.one 6 (by kernel_rfl) rfl rfl ?_
      (apply LW.buildSlice; exact rfl; exact rfl; exact rfl; exact rfl; exact rfl; exact rfl; exact rfl; exact rfl; exact rfl; intro A w3 hbA hx3 hA)
      replace hA : Blk w3 A (nvL x) 59 := hA
      have hB3 := hB.ext hx3
      have hx3' := hx2'.trans hx3
      have hz3 := hx3'.size
      have ho3 := ho.ext hx3'
      (repeat (first | refine La ?_ | refine Lb ?_ | refine Lc ?_ | refine Ld ?_ | refine Le ?_ | refine Lf ?_ | refine Lg ?_ | apply LW.nil | apply QW.then_n | apply QW.round | apply RW.succ | apply CW.seq | apply CW.region | apply CW.skip | apply CW.block | apply CW.ret | apply CW.exit | apply QW.then_ret | apply QW.then_exit | apply QW.blk_n | apply QW.blk_ret | apply QW.blk_exit | refine Ca ?_ | refine Cb ?_ | refine Cc ?_ | refine Lh ?_ | refine Li ?_ | refine Lj ?_ | refine Lk ?_ | refine Ll ?_))
      apply QW.any
      refine AW.one 7 (by kernel_rfl) rfl rfl ?_
      refine LW.append rfl rfl rfl rfl rfl rfl ho3 (by have := a0.size; omega) hA rfl hnv rfl (by show (nvs.length + 1) * 137 ≤ 140737488355328; omega) rfl ?_
      intro v' w4 hc4 ho4 hnew
      have hrb : c.rb ∉ vblk (Value.slice p1 nvs.length q1) := fun hm => by
        obtain ⟨_, ⟨e, _⟩ | ⟨g, cap, sp, e, hg, _⟩⟩ := ho3
        · rw [e] at hm; simp [vblk] at hm
        · rw [e] at hm
          simp [vblk] at hm
          exact absurd (hg.inj (hm ▸ hB3)) (by decide)
      have hf4 : Fr w3 w4 := Fr.chg hc4 (fun k hk l T hb => by
        obtain ⟨_, ⟨e, _⟩ | ⟨g, cap, sp, e, hg, _⟩⟩ := ho3
        · rw [e] at hk; simp [vblk] at hk
        · rw [e] at hk
          simp [vblk] at hk
          subst hk
          exact .inr (hb.inj hg))
      have hB4 := hB3.chg hc4 hrb
      have hx4 : Ext c.w0 w4 := (a0.trans hx3').step hc4 (fun k hk => (ho3.lt hk).1)
      obtain ⟨p2, q2, e2⟩ := ho4.slice
      subst e2
      (repeat (first | refine La ?_ | refine Lb ?_ | refine Lc ?_ | refine Ld ?_ | refine Le ?_ | refine Lf ?_ | refine Lg ?_ | apply LW.nil | apply QW.then_n | apply QW.round | apply RW.succ | apply CW.seq | apply CW.region | apply CW.skip | apply CW.block | apply CW.ret | apply CW.exit | apply QW.then_ret | apply QW.then_exit | apply QW.blk_n | apply QW.blk_ret | apply QW.blk_exit | refine Ca ?_ | refine Cb ?_ | refine Cc ?_ | refine Lh ?_ | refine Li ?_ | refine Lj ?_ | refine Lk ?_ | refine Ll ?_))
      apply QW.any
      refine AW.one 8 (by kernel_rfl) rfl rfl ?_
      (repeat (first | refine La ?_ | refine Lb ?_ | refine Lc ?_ | refine Ld ?_ | refine Le ?_ | refine Lf ?_ | refine Lg ?_ | apply LW.nil | apply QW.then_n | apply QW.round | apply RW.succ | apply CW.seq | apply CW.region | apply CW.skip | apply CW.block | apply CW.ret | apply CW.exit | apply QW.then_ret | apply QW.then_exit | apply QW.blk_n | apply QW.blk_ret | apply QW.blk_exit | refine Ca ?_ | refine Cb ?_ | refine Cc ?_ | refine Lh ?_ | refine Li ?_ | refine Lj ?_ | refine Lk ?_ | refine Ll ?_))
      apply QW.any
      refine AW.one 9 (by kernel_rfl) rfl rfl ?_
      (repeat (first | refine La ?_ | refine Lb ?_ | refine Lc ?_ | refine Ld ?_ | refine Le ?_ | refine Lf ?_ | refine Lg ?_ | apply LW.nil | apply QW.then_n | apply QW.round | apply RW.succ | apply CW.seq | apply CW.region | apply CW.skip | apply CW.block | apply CW.ret | apply CW.exit | apply QW.then_ret | apply QW.then_exit | apply QW.blk_n | apply QW.blk_ret | apply QW.blk_exit | refine Ca ?_ | refine Cb ?_ | refine Cc ?_ | refine Lh ?_ | refine Li ?_ | refine Lj ?_ | refine Lk ?_ | refine Ll ?_))
      apply QW.any
      refine AW.one 10 (by kernel_rfl) rfl rfl ?_
      have hB0 := hB4
      (apply LW.store; exact rfl; exact rfl; exact rfl; assumption; exact rfl; exact rfl; exact rfl; intro w5 hc5 hB4)
      replace hB4 : Blk w5 c.rb [c.tokv, .int .i64 s.at_, .slice p2 (nvs.length + 1) q2, .int .i64 s.deep] 86 := hB4
      have hrb2 : ∀ j, j ∈ vblk (Value.slice p2 (nvs.length + 1) q2) → j ∉ [c.rb] := fun j hj hb => by
        simp only [List.mem_singleton] at hb
        subst hb
        obtain ⟨_, ⟨e, _⟩ | ⟨g, cap, sp, e, hg, _⟩⟩ := ho4
        · rw [e] at hj; simp [vblk] at hj
        · rw [e] at hj
          simp [vblk] at hj
          exact absurd (hg.inj (hj ▸ hB0)) (by decide)
      have hf5 : Fr w4 w5 := Fr.chg hc5 (fun k hk l T hb => by simp at hk; subst hk; exact .inl (hb.inj hB0))
      have hff : Fr w w5 := ((Fr.ext hx3').trans hf4).trans hf5
      have ho5 := ho4.chg hc5 hrb2
      apply LW.nil
      apply QW.any
      refine AW.done (by kernel_rfl) ?_
      (repeat (first | refine La ?_ | refine Lb ?_ | refine Lc ?_ | refine Ld ?_ | refine Le ?_ | refine Lf ?_ | refine Lg ?_ | apply LW.nil | apply QW.then_n | apply QW.round | apply RW.succ | apply CW.seq | apply CW.region | apply CW.skip | apply CW.block | apply CW.ret | apply CW.exit | apply QW.then_ret | apply QW.then_exit | apply QW.blk_n | apply QW.blk_ret | apply QW.blk_exit | refine Ca ?_ | refine Cb ?_ | refine Cc ?_ | refine Lh ?_ | refine Li ?_ | refine Lj ?_ | refine Lk ?_ | refine Ll ?_))
      refine QW.body1 Tryd.results91 rfl ⟨by rw [← hnl]; congr 1; omega, ⟨hx4.step hc5 (by simpa using hc.new), a1, a2, by simp [putS]; omega, .slice p2 (nvs.length + 1) q2, nvs ++ [x], hB4, by simpa using ho5, by simp [putS, hm], ?_⟩, hff⟩
      intro y hy
      rw [List.mem_append] at hy
      rcases hy with hy | hy
      · exact ⟨(hk y hy).1.fr hff, (hk y hy).2⟩
      · simp only [List.mem_singleton] at hy
        subst hy
        exact ⟨hx.fr hff, hxX⟩
    · (apply LW.buildSlice; exact rfl; exact rfl; exact rfl; exact rfl; exact rfl; exact rfl; exact rfl; exact rfl; exact rfl; intro A w3 hbA hx3 hA)
      replace hA : Blk w3 A (nvL x) 59 := hA
      have hB3 := hB.ext hx3
      have hx3' := hx2'.trans hx3
      have hz3 := hx3'.size
      have ho3 := ho.ext hx3'
      (repeat (first | refine La ?_ | refine Lb ?_ | refine Lc ?_ | refine Ld ?_ | refine Le ?_ | refine Lf ?_ | refine Lg ?_ | apply LW.nil | apply QW.then_n | apply QW.round | apply RW.succ | apply CW.seq | apply CW.region | apply CW.skip | apply CW.block | apply CW.ret | apply CW.exit | apply QW.then_ret | apply QW.then_exit | apply QW.blk_n | apply QW.blk_ret | apply QW.blk_exit | refine Ca ?_ | refine Cb ?_ | refine Cc ?_ | refine Lh ?_ | refine Li ?_ | refine Lj ?_ | refine Lk ?_ | refine Ll ?_))
      apply QW.any
      refine AW.one 4 (by kernel_rfl) rfl rfl ?_
      (repeat (first | refine La ?_ | refine Lb ?_ | refine Lc ?_ | refine Ld ?_ | refine Le ?_ | refine Lf ?_ | refine Lg ?_ | apply LW.nil | apply QW.then_n | apply QW.round | apply RW.succ | apply CW.seq | apply CW.region | apply CW.skip | apply CW.block | apply CW.ret | apply CW.exit | apply QW.then_ret | apply QW.then_exit | apply QW.blk_n | apply QW.blk_ret | apply QW.blk_exit | refine Ca ?_ | refine Cb ?_ | refine Cc ?_ | refine Lh ?_ | refine Li ?_ | refine Lj ?_ | refine Lk ?_ | refine Ll ?_))
      apply QW.any
      refine AW.one 7 (by kernel_rfl) rfl rfl ?_
      refine LW.append rfl rfl rfl rfl rfl rfl ho3 (by have := a0.size; omega) hA rfl hnv rfl (by show (nvs.length + 1) * 137 ≤ 140737488355328; omega) rfl ?_
      intro v' w4 hc4 ho4 hnew
      have hrb : c.rb ∉ vblk (Value.slice p1 nvs.length q1) := fun hm => by
        obtain ⟨_, ⟨e, _⟩ | ⟨g, cap, sp, e, hg, _⟩⟩ := ho3
        · rw [e] at hm; simp [vblk] at hm
        · rw [e] at hm
          simp [vblk] at hm
          exact absurd (hg.inj (hm ▸ hB3)) (by decide)
      have hf4 : Fr w3 w4 := Fr.chg hc4 (fun k hk l T hb => by
        obtain ⟨_, ⟨e, _⟩ | ⟨g, cap, sp, e, hg, _⟩⟩ := ho3
        · rw [e] at hk; simp [vblk] at hk
        · rw [e] at hk
          simp [vblk] at hk
          subst hk
          exact .inr (hb.inj hg))
      have hB4 := hB3.chg hc4 hrb
      have hx4 : Ext c.w0 w4 := (a0.trans hx3').step hc4 (fun k hk => (ho3.lt hk).1)
      obtain ⟨p2, q2, e2⟩ := ho4.slice
      subst e2
      (repeat (first | refine La ?_ | refine Lb ?_ | refine Lc ?_ | refine Ld ?_ | refine Le ?_ | refine Lf ?_ | refine Lg ?_ | apply LW.nil | apply QW.then_n | apply QW.round | apply RW.succ | apply CW.seq | apply CW.region | apply CW.skip | apply CW.block | apply CW.ret | apply CW.exit | apply QW.then_ret | apply QW.then_exit | apply QW.blk_n | apply QW.blk_ret | apply QW.blk_exit | refine Ca ?_ | refine Cb ?_ | refine Cc ?_ | refine Lh ?_ | refine Li ?_ | refine Lj ?_ | refine Lk ?_ | refine Ll ?_))
      apply QW.any
      refine AW.one 8 (by kernel_rfl) rfl rfl ?_
      (repeat (first | refine La ?_ | refine Lb ?_ | refine Lc ?_ | refine Ld ?_ | refine Le ?_ | refine Lf ?_ | refine Lg ?_ | apply LW.nil | apply QW.then_n | apply QW.round | apply RW.succ | apply CW.seq | apply CW.region | apply CW.skip | apply CW.block | apply CW.ret | apply CW.exit | apply QW.then_ret | apply QW.then_exit | apply QW.blk_n | apply QW.blk_ret | apply QW.blk_exit | refine Ca ?_ | refine Cb ?_ | refine Cc ?_ | refine Lh ?_ | refine Li ?_ | refine Lj ?_ | refine Lk ?_ | refine Ll ?_))
      apply QW.any
      refine AW.one 9 (by kernel_rfl) rfl rfl ?_
      (repeat (first | refine La ?_ | refine Lb ?_ | refine Lc ?_ | refine Ld ?_ | refine Le ?_ | refine Lf ?_ | refine Lg ?_ | apply LW.nil | apply QW.then_n | apply QW.round | apply RW.succ | apply CW.seq | apply CW.region | apply CW.skip | apply CW.block | apply CW.ret | apply CW.exit | apply QW.then_ret | apply QW.then_exit | apply QW.blk_n | apply QW.blk_ret | apply QW.blk_exit | refine Ca ?_ | refine Cb ?_ | refine Cc ?_ | refine Lh ?_ | refine Li ?_ | refine Lj ?_ | refine Lk ?_ | refine Ll ?_))
      apply QW.any
      refine AW.one 10 (by kernel_rfl) rfl rfl ?_
      have hB0 := hB4
      (apply LW.store; exact rfl; exact rfl; exact rfl; assumption; exact rfl; exact rfl; exact rfl; intro w5 hc5 hB4)
      replace hB4 : Blk w5 c.rb [c.tokv, .int .i64 s.at_, .slice p2 (nvs.length + 1) q2, .int .i64 s.deep] 86 := hB4
      have hrb2 : ∀ j, j ∈ vblk (Value.slice p2 (nvs.length + 1) q2) → j ∉ [c.rb] := fun j hj hb => by
        simp only [List.mem_singleton] at hb
        subst hb
        obtain ⟨_, ⟨e, _⟩ | ⟨g, cap, sp, e, hg, _⟩⟩ := ho4
        · rw [e] at hj; simp [vblk] at hj
        · rw [e] at hj
          simp [vblk] at hj
          exact absurd (hg.inj (hj ▸ hB0)) (by decide)
      have hf5 : Fr w4 w5 := Fr.chg hc5 (fun k hk l T hb => by simp at hk; subst hk; exact .inl (hb.inj hB0))
      have hff : Fr w w5 := ((Fr.ext hx3').trans hf4).trans hf5
      have ho5 := ho4.chg hc5 hrb2
      apply LW.nil
      apply QW.any
      refine AW.done (by kernel_rfl) ?_
      (repeat (first | refine La ?_ | refine Lb ?_ | refine Lc ?_ | refine Ld ?_ | refine Le ?_ | refine Lf ?_ | refine Lg ?_ | apply LW.nil | apply QW.then_n | apply QW.round | apply RW.succ | apply CW.seq | apply CW.region | apply CW.skip | apply CW.block | apply CW.ret | apply CW.exit | apply QW.then_ret | apply QW.then_exit | apply QW.blk_n | apply QW.blk_ret | apply QW.blk_exit | refine Ca ?_ | refine Cb ?_ | refine Cc ?_ | refine Lh ?_ | refine Li ?_ | refine Lj ?_ | refine Lk ?_ | refine Ll ?_))
      refine QW.body1 Tryd.results91 rfl ⟨by rw [← hnl]; congr 1; omega, ⟨hx4.step hc5 (by simpa using hc.new), a1, a2, by simp [putS]; omega, .slice p2 (nvs.length + 1) q2, nvs ++ [x], hB4, by simpa using ho5, by simp [putS, hm], ?_⟩, hff⟩
      intro y hy
      rw [List.mem_append] at hy
      rcases hy with hy | hy
      · exact ⟨(hk y hy).1.fr hff, (hk y hy).2⟩
      · simp only [List.mem_singleton] at hy
        subst hy
        exact ⟨hx.fr hff, hxX⟩
end Go.Proofs.YtfpklhgkndnjjaaDoor
