/-
  Walks: the reader of a formula's tokens: a level of operators.
-/
import Derived.Test.YtfpklhgkndnjjaaDoorParB
namespace Go.Proofs.YtfpklhgkndnjjaaDoor
open Go Go.E

theorem findIdx_first {α : Type} (p : α → Bool) (d : α) : ∀ (l : List α) (k : Nat), k < l.length → (∀ j, j < k → p (l.getD j d) = false) → p (l.getD k d) = true → l.findIdx? p = some k
  | [], k, hk, _, _ => by simp at hk
  | x :: r, 0, _, _, h => by
    have h : p x = true := h
    simp [List.findIdx?_cons, h]
  | x :: r, k + 1, hk, hn, h => by
    have h0 : p x = false := hn 0 (by omega)
    have ih := findIdx_first p d r k (by simpa using hk) (fun j hj => hn (j + 1) (by omega)) h
    simp [List.findIdx?_cons, h0, ih]
theorem findIdx_none {α : Type} (p : α → Bool) (d : α) : ∀ (l : List α), (∀ j, j < l.length → p (l.getD j d) = false) → l.findIdx? p = none
  | [], _ => rfl
  | x :: r, hn => by
    have h0 : p x = false := hn 0 (by simp)
    have ih := findIdx_none p d r (fun j hj => hn (j + 1) (by simp; omega))
    simp [List.findIdx?_cons, h0, ih]
def ixZ : Option Nat → Int
  | some i => i
  | none => -1

theorem index_ret (xs : List (List UInt8)) (hl : xs.length ≤ 100) (s : List UInt8) (b cap : Nat) (w : World) (hB : Blk w b (xs.map str) 9) : Ret Tryd.prog 90 [.slice (some ⟨b, 0, none⟩) xs.length cap, str s] w
    (fun v w' => v = .int .i64 (ixZ (xs.findIdx? (fun x => decide (x = s)))) ∧ Ext w w') := by
  refine Ret.enter Tryd.func90 rfl Tryd.ntmps90 (by kernel_rfl) rfl ?_
  (repeat (first | refine La ?_ | refine Lb ?_ | refine Lc ?_ | refine Ld ?_ | refine Le ?_ | refine Lf ?_ | refine Lg ?_ | apply LW.nil | apply QW.then_n | apply QW.round | apply RW.succ | apply CW.seq | apply CW.region | apply CW.skip | apply CW.block | apply CW.ret | apply CW.exit | apply QW.then_ret | apply QW.then_exit | apply QW.blk_n | apply QW.blk_ret | apply QW.blk_exit | refine Ca ?_ | refine Cb ?_ | refine Cc ?_ | refine Lh ?_ | refine Li ?_ | refine Lj ?_ | refine Lk ?_ | refine Ll ?_))
  refine CW.loop (ι := Nat) (fun k w' => k ≤ xs.length ∧ Ext w w' ∧ ∀ j, j < k → decide (xs.getD j [] = s) = false) (fun k => [(0, .slice (some ⟨b, 0, none⟩) xs.length cap), (1, str s), (7, .int .i64 xs.length), (8, .int .i64 k)]) (fun k => xs.length - k) 0 ⟨by omega, Chg.refl _ _, by omega⟩ (Sub.cons rfl (Sub.cons rfl (Sub.cons rfl (Sub.cons rfl (Sub.nil))))) ?_
  rintro k w1 ⟨hk, hx, hall⟩
  replace hB := hB.ext hx
  (repeat (first | refine La ?_ | refine Lb ?_ | refine Lc ?_ | refine Ld ?_ | refine Le ?_ | refine Lf ?_ | refine Lg ?_ | apply LW.nil | apply QW.then_n | apply QW.round | apply RW.succ | apply CW.seq | apply CW.region | apply CW.skip | apply CW.block | apply CW.ret | apply CW.exit | apply QW.then_ret | apply QW.then_exit | apply QW.blk_n | apply QW.blk_ret | apply QW.blk_exit | refine Ca ?_ | refine Cb ?_ | refine Cc ?_ | refine Lh ?_ | refine Li ?_ | refine Lj ?_ | refine Lk ?_ | refine Ll ?_))
  refine CW.cond rfl (fun h1 => ?_) (fun h1 => ?_)
  · have h1 : k < xs.length := by simp at h1; omega
    have hv : (xs.map str)[k]? = some (str (xs.getD k [])) := by simp [List.getD_eq_getElem?_getD, List.getElem?_eq_getElem h1]
    (repeat (first | refine La ?_ | refine Lb ?_ | refine Lc ?_ | refine Ld ?_ | refine Le ?_ | refine Lf ?_ | refine Lg ?_ | apply LW.nil | apply QW.then_n | apply QW.round | apply RW.succ | apply CW.seq | apply CW.region | apply CW.skip | apply CW.block | apply CW.ret | apply CW.exit | apply QW.then_ret | apply QW.then_exit | apply QW.blk_n | apply QW.blk_ret | apply QW.blk_exit | refine Ca ?_ | refine Cb ?_ | refine Cc ?_ | refine Lh ?_ | refine Li ?_ | refine Lj ?_ | refine Lk ?_ | refine Ll ?_))
    refine LW.idx_slice (j := k) rfl rfl rfl rfl rfl (by omega) (by omega) (by show 0 + _ * 1 = _; omega) rfl ?_
    refine LW.load rfl hB hv rfl rfl rfl ?_
    (repeat (first | refine La ?_ | refine Lb ?_ | refine Lc ?_ | refine Ld ?_ | refine Le ?_ | refine Lf ?_ | refine Lg ?_ | apply LW.nil | apply QW.then_n | apply QW.round | apply RW.succ | apply CW.seq | apply CW.region | apply CW.skip | apply CW.block | apply CW.ret | apply CW.exit | apply QW.then_ret | apply QW.then_exit | apply QW.blk_n | apply QW.blk_ret | apply QW.blk_exit | refine Ca ?_ | refine Cb ?_ | refine Cc ?_ | refine Lh ?_ | refine Li ?_ | refine Lj ?_ | refine Lk ?_ | refine Ll ?_))
    refine CW.cond rfl (fun h2 => ?_) (fun h2 => ?_)
    · have h2 : decide (xs.getD k [] = s) = true := by simpa using (by simpa using h2 : s = xs.getD k []).symm
      (repeat (first | refine La ?_ | refine Lb ?_ | refine Lc ?_ | refine Ld ?_ | refine Le ?_ | refine Lf ?_ | refine Lg ?_ | apply LW.nil | apply QW.then_n | apply QW.round | apply RW.succ | apply CW.seq | apply CW.region | apply CW.skip | apply CW.block | apply CW.ret | apply CW.exit | apply QW.then_ret | apply QW.then_exit | apply QW.blk_n | apply QW.blk_ret | apply QW.blk_exit | refine Ca ?_ | refine Cb ?_ | refine Cc ?_ | refine Lh ?_ | refine Li ?_ | refine Lj ?_ | refine Lk ?_ | refine Ll ?_))
      refine QW.body1 Tryd.results90 rfl ⟨?_, hx⟩
      rw [findIdx_first (fun x => decide (x = s)) [] xs k h1 hall h2]
      rfl
    · have h2 : decide (xs.getD k [] = s) = false := by
        have h2 : ¬ s = xs.getD k [] := by simpa using h2
        simpa using fun e => h2 e.symm
      (repeat (first | refine La ?_ | refine Lb ?_ | refine Lc ?_ | refine Ld ?_ | refine Le ?_ | refine Lf ?_ | refine Lg ?_ | apply LW.nil | apply QW.then_n | apply QW.round | apply RW.succ | apply CW.seq | apply CW.region | apply CW.skip | apply CW.block | apply CW.ret | apply CW.exit | apply QW.then_ret | apply QW.then_exit | apply QW.blk_n | apply QW.blk_ret | apply QW.blk_exit | refine Ca ?_ | refine Cb ?_ | refine Cc ?_ | refine Lh ?_ | refine Li ?_ | refine Lj ?_ | refine Lk ?_ | refine Ll ?_))
      refine QW.again (k + 1) ⟨by omega, hx, fun j hj => ?_⟩ (Sub.cons rfl (Sub.cons rfl (Sub.cons rfl (Sub.cons rfl (Sub.nil))))) (by omega)
      by_cases e : j = k
      · subst e; exact h2
      · exact hall j (by omega)
  · have h1 : k = xs.length := by simp at h1; omega
    subst h1
    (repeat (first | refine La ?_ | refine Lb ?_ | refine Lc ?_ | refine Ld ?_ | refine Le ?_ | refine Lf ?_ | refine Lg ?_ | apply LW.nil | apply QW.then_n | apply QW.round | apply RW.succ | apply CW.seq | apply CW.region | apply CW.skip | apply CW.block | apply CW.ret | apply CW.exit | apply QW.then_ret | apply QW.then_exit | apply QW.blk_n | apply QW.blk_ret | apply QW.blk_exit | refine Ca ?_ | refine Cb ?_ | refine Cc ?_ | refine Lh ?_ | refine Li ?_ | refine Lj ?_ | refine Lk ?_ | refine Ll ?_))
    refine QW.body1 Tryd.results90 rfl ⟨?_, hx⟩
    rw [findIdx_none (fun x => decide (x = s)) [] xs hall]
    rfl

theorem ranges_ret (a b : RefD) (w : World) : Ret Tryd.prog 76 [.agg ⟨refL a⟩, .agg ⟨refL b⟩] w (fun v w' => v = .bool (rangesB a b) ∧ Ext w w') := by
  refine Ret.enter Tryd.func76 rfl Tryd.ntmps76 (by kernel_rfl) rfl ?_
  (repeat (first | refine La ?_ | refine Lb ?_ | refine Lc ?_ | refine Ld ?_ | refine Le ?_ | refine Lf ?_ | refine Lg ?_ | apply LW.nil | apply QW.then_n | apply QW.round | apply RW.succ | apply CW.seq | apply CW.region | apply CW.skip | apply CW.block | apply CW.ret | apply CW.exit | apply QW.then_ret | apply QW.then_exit | apply QW.blk_n | apply QW.blk_ret | apply QW.blk_exit | refine Ca ?_ | refine Cb ?_ | refine Cc ?_ | refine Lh ?_ | refine Li ?_ | refine Lj ?_ | refine Lk ?_ | refine Ll ?_))
  (apply LW.box; exact rfl; exact rfl; exact rfl; intro A w1 hbA hx1 hA)
  replace hA : Blk w1 A (refL a) 23 := hA
  (repeat (first | refine La ?_ | refine Lb ?_ | refine Lc ?_ | refine Ld ?_ | refine Le ?_ | refine Lf ?_ | refine Lg ?_ | apply LW.nil | apply QW.then_n | apply QW.round | apply RW.succ | apply CW.seq | apply CW.region | apply CW.skip | apply CW.block | apply CW.ret | apply CW.exit | apply QW.then_ret | apply QW.then_exit | apply QW.blk_n | apply QW.blk_ret | apply QW.blk_exit | refine Ca ?_ | refine Cb ?_ | refine Cc ?_ | refine Lh ?_ | refine Li ?_ | refine Lj ?_ | refine Lk ?_ | refine Ll ?_))
  (apply LW.box; exact rfl; exact rfl; exact rfl; intro B w2 hbB hx2 hB)
  replace hB : Blk w2 B (refL b) 23 := hB
  replace hA := hA.ext hx2
  have hx := hx1.trans hx2
  (repeat (first | refine La ?_ | refine Lb ?_ | refine Lc ?_ | refine Ld ?_ | refine Le ?_ | refine Lf ?_ | refine Lg ?_ | apply LW.nil | apply QW.then_n | apply QW.round | apply RW.succ | apply CW.seq | apply CW.region | apply CW.skip | apply CW.block | apply CW.ret | apply CW.exit | apply QW.then_ret | apply QW.then_exit | apply QW.blk_n | apply QW.blk_ret | apply QW.blk_exit | refine Ca ?_ | refine Cb ?_ | refine Cc ?_ | refine Lh ?_ | refine Li ?_ | refine Lj ?_ | refine Lk ?_ | refine Ll ?_))
  refine LW.part rfl rfl rfl (fun h1 => ?_) (fun h1 => ?_)
  · (repeat (first | refine La ?_ | refine Lb ?_ | refine Lc ?_ | refine Ld ?_ | refine Le ?_ | refine Lf ?_ | refine Lg ?_ | apply LW.nil | apply QW.then_n | apply QW.round | apply RW.succ | apply CW.seq | apply CW.region | apply CW.skip | apply CW.block | apply CW.ret | apply CW.exit | apply QW.then_ret | apply QW.then_exit | apply QW.blk_n | apply QW.blk_ret | apply QW.blk_exit | refine Ca ?_ | refine Cb ?_ | refine Cc ?_ | refine Lh ?_ | refine Li ?_ | refine Lj ?_ | refine Lk ?_ | refine Ll ?_))
    refine LW.part rfl rfl rfl (fun h2 => ?_) (fun h2 => ?_)
    all_goals
      (repeat (first | refine La ?_ | refine Lb ?_ | refine Lc ?_ | refine Ld ?_ | refine Le ?_ | refine Lf ?_ | refine Lg ?_ | apply LW.nil | apply QW.then_n | apply QW.round | apply RW.succ | apply CW.seq | apply CW.region | apply CW.skip | apply CW.block | apply CW.ret | apply CW.exit | apply QW.then_ret | apply QW.then_exit | apply QW.blk_n | apply QW.blk_ret | apply QW.blk_exit | refine Ca ?_ | refine Cb ?_ | refine Cc ?_ | refine Lh ?_ | refine Li ?_ | refine Lj ?_ | refine Lk ?_ | refine Ll ?_))
      refine QW.body1 Tryd.results76 rfl ⟨?_, hx⟩
      simp [rangesB, h1, h2]
  · (repeat (first | refine La ?_ | refine Lb ?_ | refine Lc ?_ | refine Ld ?_ | refine Le ?_ | refine Lf ?_ | refine Lg ?_ | apply LW.nil | apply QW.then_n | apply QW.round | apply RW.succ | apply CW.seq | apply CW.region | apply CW.skip | apply CW.block | apply CW.ret | apply CW.exit | apply QW.then_ret | apply QW.then_exit | apply QW.blk_n | apply QW.blk_ret | apply QW.blk_exit | refine Ca ?_ | refine Cb ?_ | refine Cc ?_ | refine Lh ?_ | refine Li ?_ | refine Lj ?_ | refine Lk ?_ | refine Ll ?_))
    refine QW.body1 Tryd.results76 rfl ⟨?_, hx⟩
    simp [rangesB, h1]

/-! ### Contracts of the readers -/

def POk (c : PCtx) (X : List Nat) (m : PMode) (s : PSt) (w : World) (v : Value) (w' : World) : Prop :=
  ∃ (s' : PSt) (p : Nat), v = .int .i64 (p : Int) ∧ PE c.T m s (.ok s' p) ∧ Rd c X w' s' ∧ Fr w w' ∧ s.at_ < s'.at_ ∧ s'.deep = s.deep ∧ s.at_ + s'.out.length ≤ s'.at_ + s.out.length
def PBad (c : PCtx) (m : PMode) (s : PSt) (v : Value) (w' : World) : Prop := ∃ e, v = pv e ∧ PE c.T m s (.err e) ∧ Ext c.w0 w'
def PC (c : PCtx) (f : Nat) (m : PMode) (s : PSt) : Prop := ∀ w X, (∀ b ∈ X, b < w.heap.size) → Rd c X w s → RetP Tryd.prog f [.pointer (some ⟨c.rb, 0, none⟩)] w (POk c X m s w) (PBad c m s)

theorem lens (n : Nat) : (signsN n).length = (kindsN n).length ∧ (signsN n).length ≤ 6 := by
  match n with
  | 0 | 1 | 2 | n + 3 => exact ⟨rfl, by simp [signsN]⟩
theorem findIdx_lt {α : Type} {p : α → Bool} {l : List α} {i : Nat} (h : l.findIdx? p = some i) : i < l.length := (List.findIdx?_eq_some_iff_findIdx_eq.1 h).1

theorem Rd.len {c : PCtx} {X : List Nat} {w : World} {s : PSt} (h : Rd c X w s) : s.at_ < c.T.length ∧ s.deep ≤ 12 ∧ s.out.length ≤ s.at_ := ⟨h.2.1, h.2.2.1, h.2.2.2.1⟩

theorem chain_ret {c : PCtx} {X : List Nat} (hc : c.Ok) (n fB sb kb : Nat) (s : PSt) (w : World) (hX : ∀ b ∈ X, b < w.heap.size) (h : Rd c X w s) (hsb : Blk w sb ((signsN n).map str) 9) (hkb : Blk w kb (icells (kindsN n)) 3)
    (h1 : PC c fB (below n) s) (h2 : ∀ s', s.at_ < s'.at_ → s'.deep = s.deep → PC c fB (below n) s') :
    RetP Tryd.prog 72 [.pointer (some ⟨c.rb, 0, none⟩), .agg ⟨[.func (.func fB) #[.pointer (some ⟨c.rb, 0, none⟩)] #[], .slice (some ⟨sb, 0, none⟩) (signsN n).length (signsN n).length, .slice (some ⟨kb, 0, none⟩) (kindsN n).length (kindsN n).length]⟩] w
      (POk c X (.lev n) s w) (PBad c (.lev n) s) := by
  have hlen := hc.len
  obtain ⟨hl1, hl2⟩ := lens n
  refine RetP.enter Tryd.func72 rfl Tryd.ntmps72 (by kernel_rfl) rfl ?_
  (repeat (first | refine La ?_ | refine Lb ?_ | refine Lc ?_ | refine Ld ?_ | refine Le ?_ | refine Lf ?_ | refine Lg ?_ | apply LW.nil | apply QW.then_n | apply QW.round | apply RW.succ | apply CW.seq | apply CW.region | apply CW.skip | apply CW.block | apply CW.ret | apply CW.exit | apply QW.then_ret | apply QW.then_exit | apply QW.blk_n | apply QW.blk_ret | apply QW.blk_exit | refine Ca ?_ | refine Cb ?_ | refine Cc ?_ | refine Lh ?_ | refine Li ?_ | refine Lj ?_ | refine Lk ?_ | refine Ll ?_))
  (apply LW.box; exact rfl; exact rfl; exact rfl; intro L w1 hbL hx1 hL)
  replace hsb := hsb.ext hx1
  replace hkb := hkb.ext hx1
  replace h := h.ext hx1
  have hf1 := Fr.ext hx1
  (repeat (first | refine La ?_ | refine Lb ?_ | refine Lc ?_ | refine Ld ?_ | refine Le ?_ | refine Lf ?_ | refine Lg ?_ | apply LW.nil | apply QW.then_n | apply QW.round | apply RW.succ | apply CW.seq | apply CW.region | apply CW.skip | apply CW.block | apply CW.ret | apply CW.exit | apply QW.then_ret | apply QW.then_exit | apply QW.blk_n | apply QW.blk_ret | apply QW.blk_exit | refine Ca ?_ | refine Cb ?_ | refine Cc ?_ | refine Lh ?_ | refine Li ?_ | refine Lj ?_ | refine Lk ?_ | refine Ll ?_))
  refine LW.callP rfl rfl rfl (h1 w1 X (fun b hb => Nat.lt_of_lt_of_le (hX b hb) hx1.size) h) ?_ ?_
  · rintro v w2 ⟨e, rfl, hp, hx⟩
    (repeat (first | apply QW.then_panic | apply QW.blk_panic))
    exact QW.panicP ⟨e, rfl, .lev_err hp, hx⟩
  rintro v w2 ⟨s1, a, rfl, hp, hr, hf, g1, g2, g3⟩
  (repeat (first | refine La ?_ | refine Lb ?_ | refine Lc ?_ | refine Ld ?_ | refine Le ?_ | refine Lf ?_ | refine Lg ?_ | apply LW.nil | apply QW.then_n | apply QW.round | apply RW.succ | apply CW.seq | apply CW.region | apply CW.skip | apply CW.block | apply CW.ret | apply CW.exit | apply QW.then_ret | apply QW.then_exit | apply QW.blk_n | apply QW.blk_ret | apply QW.blk_exit | refine Ca ?_ | refine Cb ?_ | refine Cc ?_ | refine Lh ?_ | refine Li ?_ | refine Lj ?_ | refine Lk ?_ | refine Ll ?_))
  refine CW.loop (ι := PSt × Nat) (fun k w' => s.at_ < k.1.at_ ∧ k.1.deep = s.deep ∧ s.at_ + k.1.out.length ≤ k.1.at_ + s.out.length ∧ Rd c X w' k.1 ∧ Fr w1 w' ∧ ∀ r, PE c.T (.loop n k.2) k.1 r → PE c.T (.lev n) s r) (fun k => [(0, .pointer (some ⟨c.rb, 0, none⟩)), (3, .pointer (some ⟨L, 0, none⟩)), (5, .int .i64 (k.2 : Int))]) (fun k => c.T.length - k.1.at_) (s1, a)
    ⟨g1, g2, g3, hr, hf, fun r hl => .lev_ok hp hl⟩ (Sub.cons rfl (Sub.cons rfl (Sub.cons rfl (Sub.nil)))) ?_
  clear hr hp g1 g2 g3 hf a s1 w2
  rintro ⟨t, a⟩ w2 ⟨g1, g2, g3, hr, hf, hcont⟩
  simp only at g1 g2 g3 hr hcont
  show CW _ _ _ _ _ [(0, .pointer (some ⟨c.rb, 0, none⟩)), (3, .pointer (some ⟨L, 0, none⟩)), (5, .int .i64 (a : Int))] _
  have hL2 := hf.blk _ _ _ hL (by decide) (by decide)
  have hsb2 := hf.blk _ _ _ hsb (by decide) (by decide)
  have hkb2 := hf.blk _ _ _ hkb (by decide) (by decide)
  obtain ⟨q1, q2, q3⟩ := hr.len
  obtain ⟨r1, r2, r3⟩ := h.len
  (repeat (first | refine La ?_ | refine Lb ?_ | refine Lc ?_ | refine Ld ?_ | refine Le ?_ | refine Lf ?_ | refine Lg ?_ | apply LW.nil | apply QW.then_n | apply QW.round | apply RW.succ | apply CW.seq | apply CW.region | apply CW.skip | apply CW.block | apply CW.ret | apply CW.exit | apply QW.then_ret | apply QW.then_exit | apply QW.blk_n | apply QW.blk_ret | apply QW.blk_exit | refine Ca ?_ | refine Cb ?_ | refine Cc ?_ | refine Lh ?_ | refine Li ?_ | refine Lj ?_ | refine Lk ?_ | refine Ll ?_))
  refine LW.call0 rfl rfl (now_ret hc hr) ?_
  rintro v w3 ⟨rfl, hx3⟩
  (repeat (first | refine La ?_ | refine Lb ?_ | refine Lc ?_ | refine Ld ?_ | refine Le ?_ | refine Lf ?_ | refine Lg ?_ | apply LW.nil | apply QW.then_n | apply QW.round | apply RW.succ | apply CW.seq | apply CW.region | apply CW.skip | apply CW.block | apply CW.ret | apply CW.exit | apply QW.then_ret | apply QW.then_exit | apply QW.blk_n | apply QW.blk_ret | apply QW.blk_exit | refine Ca ?_ | refine Cb ?_ | refine Cc ?_ | refine Lh ?_ | refine Li ?_ | refine Lj ?_ | refine Lk ?_ | refine Ll ?_))
  (apply LW.alloc; exact rfl; exact rfl; exact rfl; intro C w4 hbC hx4 hC)
  (repeat (first | refine La ?_ | refine Lb ?_ | refine Lc ?_ | refine Ld ?_ | refine Le ?_ | refine Lf ?_ | refine Lg ?_ | apply LW.nil | apply QW.then_n | apply QW.round | apply RW.succ | apply CW.seq | apply CW.region | apply CW.skip | apply CW.block | apply CW.ret | apply CW.exit | apply QW.then_ret | apply QW.then_exit | apply QW.blk_n | apply QW.blk_ret | apply QW.blk_exit | refine Ca ?_ | refine Cb ?_ | refine Cc ?_ | refine Lh ?_ | refine Li ?_ | refine Lj ?_ | refine Lk ?_ | refine Ll ?_))
  (apply LW.store_all; exact rfl; exact rfl; exact rfl; assumption; exact rfl; exact rfl; exact rfl; intro w5 hc5 hC)
  replace hC : Blk w5 C (tokL (tokAt c.T t)) 47 := hC
  have hx5 : Ext w2 w5 := (hx3.trans hx4).step hc5 (by simp; have := hx3.size; omega)
  replace hL2 := hL2.ext hx5
  replace hsb2 := hsb2.ext hx5
  replace hkb2 := hkb2.ext hx5
  replace hr := hr.ext hx5
  replace hf := hf.trans (.ext hx5)
  (repeat (first | refine La ?_ | refine Lb ?_ | refine Lc ?_ | refine Ld ?_ | refine Le ?_ | refine Lf ?_ | refine Lg ?_ | apply LW.nil | apply QW.then_n | apply QW.round | apply RW.succ | apply CW.seq | apply CW.region | apply CW.skip | apply CW.block | apply CW.ret | apply CW.exit | apply QW.then_ret | apply QW.then_exit | apply QW.blk_n | apply QW.blk_ret | apply QW.blk_exit | refine Ca ?_ | refine Cb ?_ | refine Cc ?_ | refine Lh ?_ | refine Li ?_ | refine Lj ?_ | refine Lk ?_ | refine Ll ?_))
  refine CW.cond rfl (fun hk => ?_) (fun hk => ?_)
  · have hk : (tokAt c.T t).kind = 5 := by simpa using hk
    (repeat (first | refine La ?_ | refine Lb ?_ | refine Lc ?_ | refine Ld ?_ | refine Le ?_ | refine Lf ?_ | refine Lg ?_ | apply LW.nil | apply QW.then_n | apply QW.round | apply RW.succ | apply CW.seq | apply CW.region | apply CW.skip | apply CW.block | apply CW.ret | apply CW.exit | apply QW.then_ret | apply QW.then_exit | apply QW.blk_n | apply QW.blk_ret | apply QW.blk_exit | refine Ca ?_ | refine Cb ?_ | refine Cc ?_ | refine Lh ?_ | refine Li ?_ | refine Lj ?_ | refine Lk ?_ | refine Ll ?_))
    refine LW.call0 rfl rfl (index_ret (signsN n) (by omega) (tokAt c.T t).text sb _ _ hsb2) ?_
    rintro v w6 ⟨rfl, hx6⟩
    replace hL2 := hL2.ext hx6
    replace hkb2 := hkb2.ext hx6
    replace hr := hr.ext hx6
    replace hf := hf.trans (.ext hx6)
    have hop : opIx c.T t n = (signsN n).findIdx? (fun x => decide (x = (tokAt c.T t).text)) := by rw [opIx, if_pos hk]
    cases hi : (signsN n).findIdx? (fun x => decide (x = (tokAt c.T t).text)) with
    | none =>
      rw [hi] at hop
      simp only [ixZ]
      (repeat (first | refine La ?_ | refine Lb ?_ | refine Lc ?_ | refine Ld ?_ | refine Le ?_ | refine Lf ?_ | refine Lg ?_ | apply LW.nil | apply QW.then_n | apply QW.round | apply RW.succ | apply CW.seq | apply CW.region | apply CW.skip | apply CW.block | apply CW.ret | apply CW.exit | apply QW.then_ret | apply QW.then_exit | apply QW.blk_n | apply QW.blk_ret | apply QW.blk_exit | refine Ca ?_ | refine Cb ?_ | refine Cc ?_ | refine Lh ?_ | refine Li ?_ | refine Lj ?_ | refine Lk ?_ | refine Ll ?_))
      exact QW.bodyP1 Tryd.results72 rfl ⟨t, a, rfl, hcont _ (.loop_end hop), hr, hf1.trans hf, g1, g2, g3⟩
    | some i =>
      rw [hi] at hop
      have hil := findIdx_lt hi
      simp only [ixZ]
      (repeat (first | refine La ?_ | refine Lb ?_ | refine Lc ?_ | refine Ld ?_ | refine Le ?_ | refine Lf ?_ | refine Lg ?_ | apply LW.nil | apply QW.then_n | apply QW.round | apply RW.succ | apply CW.seq | apply CW.region | apply CW.skip | apply CW.block | apply CW.ret | apply CW.exit | apply QW.then_ret | apply QW.then_exit | apply QW.blk_n | apply QW.blk_ret | apply QW.blk_exit | refine Ca ?_ | refine Cb ?_ | refine Cc ?_ | refine Lh ?_ | refine Li ?_ | refine Lj ?_ | refine Lk ?_ | refine Ll ?_))
      obtain ⟨a0, a1, a2, a3, outv, nvs, hB, ho, hm, hkids⟩ := hr
      have hnx := rd_next hc a1 (by omega)
      have hB0 := hB
      (repeat (first | refine La ?_ | refine Lb ?_ | refine Lc ?_ | refine Ld ?_ | refine Le ?_ | refine Lf ?_ | refine Lg ?_ | apply LW.nil | apply QW.then_n | apply QW.round | apply RW.succ | apply CW.seq | apply CW.region | apply CW.skip | apply CW.block | apply CW.ret | apply CW.exit | apply QW.then_ret | apply QW.then_exit | apply QW.blk_n | apply QW.blk_ret | apply QW.blk_exit | refine Ca ?_ | refine Cb ?_ | refine Cc ?_ | refine Lh ?_ | refine Li ?_ | refine Lj ?_ | refine Lk ?_ | refine Ll ?_))
      (apply LW.store; exact rfl; exact rfl; exact rfl; assumption; exact rfl; exact rfl; exact rfl; intro w7 hc7 hB)
      replace hB : Blk w7 c.rb [c.tokv, .int .i64 (adv t).at_, outv, .int .i64 t.deep] 86 := hB
      obtain ⟨hr, hf7⟩ := Rd.set hc (s := t) (s' := adv t) a0 ho hm hkids hB0 hc7 hB rfl hnx a2 (by show t.out.length ≤ t.at_ + 1; omega)
      replace hf := hf.trans hf7
      replace hL2 := hf7.blk _ _ _ hL2 (by decide) (by decide)
      replace hkb2 := hf7.blk _ _ _ hkb2 (by decide) (by decide)
      (repeat (first | refine La ?_ | refine Lb ?_ | refine Lc ?_ | refine Ld ?_ | refine Le ?_ | refine Lf ?_ | refine Lg ?_ | apply LW.nil | apply QW.then_n | apply QW.round | apply RW.succ | apply CW.seq | apply CW.region | apply CW.skip | apply CW.block | apply CW.ret | apply CW.exit | apply QW.then_ret | apply QW.then_exit | apply QW.blk_n | apply QW.blk_ret | apply QW.blk_exit | refine Ca ?_ | refine Cb ?_ | refine Cc ?_ | refine Lh ?_ | refine Li ?_ | refine Lj ?_ | refine Lk ?_ | refine Ll ?_))
      refine LW.callP rfl rfl rfl (h2 (adv t) (by show s.at_ < t.at_ + 1; omega) g2 w7 X (fun b hb => Nat.lt_of_lt_of_le (hX b hb) (hf1.trans hf).size) hr) ?_ ?_
      · rintro v w8 ⟨e, rfl, hp, hx⟩
        (repeat (first | apply QW.then_panic | apply QW.blk_panic))
        exact QW.panicP ⟨e, rfl, hcont _ (.loop_err hop hp), hx⟩
      rintro v w8 ⟨s1, b, rfl, hp, hr8, hf8, k1, k2, k3⟩
      have k1' : t.at_ + 1 < s1.at_ := k1
      have k3' : t.at_ + 1 + s1.out.length ≤ s1.at_ + t.out.length := k3
      replace hf := hf.trans hf8
      have hz8 := (hf1.trans hf).size
      replace hL2 := hf8.blk _ _ _ hL2 (by decide) (by decide)
      replace hkb2 := hf8.blk _ _ _ hkb2 (by decide) (by decide)
      have hkv : (icells (kindsN n))[i]? = some (.int .i64 ((kindsN n).getD i 0)) := by simp [icells, List.getD_eq_getElem?_getD, List.getElem?_eq_getElem (show i < (kindsN n).length by omega)]
      (repeat (first | refine La ?_ | refine Lb ?_ | refine Lc ?_ | refine Ld ?_ | refine Le ?_ | refine Lf ?_ | refine Lg ?_ | apply LW.nil | apply QW.then_n | apply QW.round | apply RW.succ | apply CW.seq | apply CW.region | apply CW.skip | apply CW.block | apply CW.ret | apply CW.exit | apply QW.then_ret | apply QW.then_exit | apply QW.blk_n | apply QW.blk_ret | apply QW.blk_exit | refine Ca ?_ | refine Cb ?_ | refine Cc ?_ | refine Lh ?_ | refine Li ?_ | refine Lj ?_ | refine Lk ?_ | refine Ll ?_))
      refine LW.idx_slice (j := i) rfl rfl rfl rfl rfl (by omega) (by omega) (by show 0 + _ * 1 = _; omega) rfl ?_
      refine LW.load rfl hkb2 hkv rfl rfl rfl ?_
      (repeat (first | refine La ?_ | refine Lb ?_ | refine Lc ?_ | refine Ld ?_ | refine Le ?_ | refine Lf ?_ | refine Lg ?_ | apply LW.nil | apply QW.then_n | apply QW.round | apply RW.succ | apply CW.seq | apply CW.region | apply CW.skip | apply CW.block | apply CW.ret | apply CW.exit | apply QW.then_ret | apply QW.then_exit | apply QW.blk_n | apply QW.blk_ret | apply QW.blk_exit | refine Ca ?_ | refine Cb ?_ | refine Cc ?_ | refine Lh ?_ | refine Li ?_ | refine Lj ?_ | refine Lk ?_ | refine Ll ?_))
      (apply LW.buildSlice; exact rfl; exact rfl; exact rfl; exact rfl; exact rfl; exact rfl; exact rfl; exact rfl; exact rfl; intro K w9 hbK hx9 hK)
      replace hK : Blk w9 K (icells [(a : Int), (b : Int)]) 3 := hK
      replace hr8 := hr8.ext hx9
      replace hf := hf.trans (.ext hx9)
      (repeat (first | refine La ?_ | refine Lb ?_ | refine Lc ?_ | refine Ld ?_ | refine Le ?_ | refine Lf ?_ | refine Lg ?_ | apply LW.nil | apply QW.then_n | apply QW.round | apply RW.succ | apply CW.seq | apply CW.region | apply CW.skip | apply CW.block | apply CW.ret | apply CW.exit | apply QW.then_ret | apply QW.then_exit | apply QW.blk_n | apply QW.blk_ret | apply QW.blk_exit | refine Ca ?_ | refine Cb ?_ | refine Cc ?_ | refine Lh ?_ | refine Li ?_ | refine Lj ?_ | refine Lk ?_ | refine Ll ?_))
      refine LW.call0 (vs := [.pointer (some ⟨c.rb, 0, none⟩), .agg ⟨nvL ⟨{ kind := (kindsN n).getD i 0, kids := [(a : Int), (b : Int)] }, .slice (some ⟨K, 0, none⟩) 2 2⟩⟩]) rfl rfl (put_ret hc hr8 ⟨{ kind := (kindsN n).getD i 0, kids := [(a : Int), (b : Int)] }, .slice (some ⟨K, 0, none⟩) 2 2⟩ (.inr ⟨K, 2, [], rfl, by rw [List.append_nil]; exact hK⟩) (fun b hb hbX => by
        have h3 := hX b hbX
        simp [vblk] at hb
        omega) (by omega)) ?_
      rintro v w10 ⟨rfl, hr10, hf10⟩
      (repeat (first | refine La ?_ | refine Lb ?_ | refine Lc ?_ | refine Ld ?_ | refine Le ?_ | refine Lf ?_ | refine Lg ?_ | apply LW.nil | apply QW.then_n | apply QW.round | apply RW.succ | apply CW.seq | apply CW.region | apply CW.skip | apply CW.block | apply CW.ret | apply CW.exit | apply QW.then_ret | apply QW.then_exit | apply QW.blk_n | apply QW.blk_ret | apply QW.blk_exit | refine Ca ?_ | refine Cb ?_ | refine Cc ?_ | refine Lh ?_ | refine Li ?_ | refine Lj ?_ | refine Lk ?_ | refine Ll ?_))
      refine QW.again (putS s1 { kind := (kindsN n).getD i 0, kids := [(a : Int), (b : Int)] }, s1.out.length) ⟨by show s.at_ < s1.at_; omega, k2.trans g2, by simp [putS]; omega, hr10, hf.trans hf10, fun r hl => hcont r (.loop_go hop hp hl)⟩ (Sub.cons rfl (Sub.cons rfl (Sub.cons rfl (Sub.nil)))) (by show c.T.length - s1.at_ < c.T.length - t.at_; omega)
  · have hk : (tokAt c.T t).kind ≠ 5 := by simpa using hk
    have hop : opIx c.T t n = none := by rw [opIx, if_neg hk]
    (repeat (first | refine La ?_ | refine Lb ?_ | refine Lc ?_ | refine Ld ?_ | refine Le ?_ | refine Lf ?_ | refine Lg ?_ | apply LW.nil | apply QW.then_n | apply QW.round | apply RW.succ | apply CW.seq | apply CW.region | apply CW.skip | apply CW.block | apply CW.ret | apply CW.exit | apply QW.then_ret | apply QW.then_exit | apply QW.blk_n | apply QW.blk_ret | apply QW.blk_exit | refine Ca ?_ | refine Cb ?_ | refine Cc ?_ | refine Lh ?_ | refine Li ?_ | refine Lj ?_ | refine Lk ?_ | refine Ll ?_))
    exact QW.bodyP1 Tryd.results72 rfl ⟨t, a, rfl, hcont _ (.loop_end hop), hr, hf1.trans hf, g1, g2, g3⟩
end Go.Proofs.YtfpklhgkndnjjaaDoor
