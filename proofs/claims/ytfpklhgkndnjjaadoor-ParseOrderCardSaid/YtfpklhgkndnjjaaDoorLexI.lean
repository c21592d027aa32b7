/-
  Walks: the document's reader of tokens: signs, one token.
-/
import Derived.Test.YtfpklhgkndnjjaaDoorLexH
namespace Go.Proofs.YtfpklhgkndnjjaaDoor
open Go Go.E

def pairsT : List (List UInt8) := [[60, 62], [60, 61], [62, 61]]
def sgT : List UInt8 := [43, 45, 42, 47, 38, 61, 60, 62, 40, 41, 44, 58]
def sgB (z : Int) : Bool := decide (z = 43 ∨ z = 45 ∨ z = 42 ∨ z = 47 ∨ z = 38 ∨ z = 61 ∨ z = 60 ∨ z = 62 ∨ z = 40 ∨ z = 41 ∨ z = 44 ∨ z = 58)
theorem sg_all : ∀ n : Fin 256, decide (UInt8.ofNat n.val ∈ sgT) = sgB (n.val : Int) := by decide +kernel
theorem sg_is (c : UInt8) : decide (c ∈ sgT) = sgB (c.toNat : Int) := by
  have := sg_all ⟨c.toNat, c.toNat_lt⟩
  simpa using this
theorem signs_split : signsT = pairsT ++ sgT.map fun c => [c] := rfl
theorem find_self (c : UInt8) : ∀ l : List UInt8, l.find? (fun x => x == c) = if c ∈ l then some c else none
  | [] => rfl
  | d :: r => by
    have ih := find_self c r
    by_cases h : d = c
    · subst h; simp [List.find?]
    · have h' : ¬ c = d := fun e => h e.symm
      have hb : (d == c) = false := by simpa using h
      simp only [List.find?, hb, ih, List.mem_cons, h', false_or]
theorem sign_pair {l : List UInt8} (h : (l.take 2) ∈ pairsT) : signsT.find? (fun s => Lib.hasPrefix l s) = some (l.take 2) := by
  match l, h with
  | [], h => simp [pairsT] at h
  | [_], h => simp [pairsT] at h
  | c :: d :: r, h =>
    simp only [List.take, pairsT, List.mem_cons, List.cons.injEq, and_true, List.not_mem_nil, or_false] at h
    rcases h with ⟨rfl, rfl⟩ | ⟨rfl, rfl⟩ | ⟨rfl, rfl⟩ <;> rfl
theorem sign_single {l : List UInt8} (hl : l ≠ []) (hn : l.take 2 ∉ pairsT) : signsT.find? (fun s => Lib.hasPrefix l s) = if sgB (byte l 0) then some (l.take 1) else none := by
  cases l with
  | nil => exact absurd rfl hl
  | cons c r =>
    have h1 : pairsT.find? (fun s => Lib.hasPrefix (c :: r) s) = none := by
      rw [List.find?_eq_none]
      intro p hp hh
      have h2 : p.length = 2 := by
        have : ∀ p ∈ pairsT, p.length = 2 := by decide
        exact this p hp
      have h3 := List.prefix_iff_eq_take.1 (List.isPrefixOf_iff_prefix.1 hh)
      rw [h2] at h3
      exact hn (h3 ▸ hp)
    have h2 : (fun s => Lib.hasPrefix (c :: r) s) ∘ (fun c : UInt8 => [c]) = fun x => x == c := by
      funext x
      simp [Lib.hasPrefix, List.isPrefixOf]
    rw [signs_split, List.find?_append, h1, List.find?_map, h2, find_self]
    have h3 : sgB (byte (c :: r) 0) = decide (c ∈ sgT) := (sg_is c).symm
    rw [h3]
    by_cases hm : c ∈ sgT
    · simp [hm]
    · simp [hm]

theorem rsign_ret (s : List UInt8) (hs : s.length ≤ 1000) (a : Nat) (ha : a < s.length) (w : World) :
    Ret Tryd.prog 71 [str s, .int .i64 a] w (fun v w' => v = str ((signsT.find? fun p => Lib.hasPrefix (s.drop a) p).getD []) ∧ Ext w w') := by
  have hne : s.drop a ≠ [] := by intro hn; have := congrArg List.length hn; simp at this; omega
  refine Ret.enter Tryd.func71 rfl Tryd.ntmps71 (by kernel_rfl) rfl ?_
  apply CW.seq
  apply CW.region
  (repeat (first | refine La ?_ | refine Lb ?_ | refine Lc ?_ | refine Ld ?_ | refine Le ?_ | refine Lf ?_ | refine Lg ?_ | refine Lh ?_ | refine Li ?_ | refine Lj ?_ | refine Lk ?_ | refine Ll ?_))
  apply LW.nil
  apply QW.then_n
  refine CW.seq_cut (ι := Unit) (fun _ w' => (s.drop a).take 2 ∉ pairsT ∧ Ext w w') (fun _ => [(0, str s), (1, .int .i64 a)]) ?_ ?_
  · (repeat (first | refine La ?_ | refine Lb ?_ | refine Lc ?_ | refine Ld ?_ | refine Le ?_ | refine Lf ?_ | refine Lg ?_ | apply LW.nil | apply QW.then_n | apply QW.round | apply RW.succ | apply CW.seq | apply CW.region | apply CW.skip | apply CW.block | apply CW.ret | apply CW.exit | apply QW.then_ret | apply QW.then_exit | apply QW.blk_n | apply QW.blk_ret | apply QW.blk_exit | refine Ca ?_ | refine Cb ?_ | refine Cc ?_ | refine Lh ?_ | refine Li ?_ | refine Lj ?_ | refine Lk ?_ | refine Ll ?_))
    refine CW.cond rfl (fun h1 => ?_) (fun h1 => ?_)
    · have h1 : a + 1 < s.length := by simp at h1; omega
      have hcut : cut s a (a + 2) = (s.drop a).take 2 := by simp [cut]
      (repeat (first | refine La ?_ | refine Lb ?_ | refine Lc ?_ | refine Ld ?_ | refine Le ?_ | refine Lf ?_ | refine Lg ?_ | apply LW.nil | apply QW.then_n | apply QW.round | apply RW.succ | apply CW.seq | apply CW.region | apply CW.skip | apply CW.block | apply CW.ret | apply CW.exit | apply QW.then_ret | apply QW.then_exit | apply QW.blk_n | apply QW.blk_ret | apply QW.blk_exit | refine Ca ?_ | refine Cb ?_ | refine Cc ?_ | refine Lh ?_ | refine Li ?_ | refine Lj ?_ | refine Lk ?_ | refine Ll ?_ | refine Lm ?_))
      refine CW.cond rfl (fun h2 => ?_) (fun h2 => ?_)
      · have h2 : (s.drop a).take 2 = [60, 62] := by rw [← hcut]; exact of_decide_eq_true h2
        (repeat (first | refine La ?_ | refine Lb ?_ | refine Lc ?_ | refine Ld ?_ | refine Le ?_ | refine Lf ?_ | refine Lg ?_ | apply LW.nil | apply QW.then_n | apply QW.round | apply RW.succ | apply CW.seq | apply CW.region | apply CW.skip | apply CW.block | apply CW.ret | apply CW.exit | apply QW.then_ret | apply QW.then_exit | apply QW.blk_n | apply QW.blk_ret | apply QW.blk_exit | refine Ca ?_ | refine Cb ?_ | refine Cc ?_ | refine Lh ?_ | refine Li ?_ | refine Lj ?_ | refine Lk ?_ | refine Ll ?_ | refine Lm ?_))
        refine CW.yes rfl (by assumption) ?_
        (repeat (first | refine La ?_ | refine Lb ?_ | refine Lc ?_ | refine Ld ?_ | refine Le ?_ | refine Lf ?_ | refine Lg ?_ | apply LW.nil | apply QW.then_n | apply QW.round | apply RW.succ | apply CW.seq | apply CW.region | apply CW.skip | apply CW.block | apply CW.ret | apply CW.exit | apply QW.then_ret | apply QW.then_exit | apply QW.blk_n | apply QW.blk_ret | apply QW.blk_exit | refine Ca ?_ | refine Cb ?_ | refine Cc ?_ | refine Lh ?_ | refine Li ?_ | refine Lj ?_ | refine Lk ?_ | refine Ll ?_ | refine Lm ?_))
        refine QW.body1 Tryd.results71 rfl ⟨?_, Chg.refl _ _⟩
        rw [sign_pair (by simp [pairsT, *])]
        exact congrArg str hcut
      have h2 : ¬ (s.drop a).take 2 = [60, 62] := by rw [← hcut]; exact of_decide_eq_false h2
      (repeat (first | refine La ?_ | refine Lb ?_ | refine Lc ?_ | refine Ld ?_ | refine Le ?_ | refine Lf ?_ | refine Lg ?_ | apply LW.nil | apply QW.then_n | apply QW.round | apply RW.succ | apply CW.seq | apply CW.region | apply CW.skip | apply CW.block | apply CW.ret | apply CW.exit | apply QW.then_ret | apply QW.then_exit | apply QW.blk_n | apply QW.blk_ret | apply QW.blk_exit | refine Ca ?_ | refine Cb ?_ | refine Cc ?_ | refine Lh ?_ | refine Li ?_ | refine Lj ?_ | refine Lk ?_ | refine Ll ?_ | refine Lm ?_))
      refine CW.cond rfl (fun h3 => ?_) (fun h3 => ?_)
      · have h3 : (s.drop a).take 2 = [60, 61] := by rw [← hcut]; exact of_decide_eq_true h3
        (repeat (first | refine La ?_ | refine Lb ?_ | refine Lc ?_ | refine Ld ?_ | refine Le ?_ | refine Lf ?_ | refine Lg ?_ | apply LW.nil | apply QW.then_n | apply QW.round | apply RW.succ | apply CW.seq | apply CW.region | apply CW.skip | apply CW.block | apply CW.ret | apply CW.exit | apply QW.then_ret | apply QW.then_exit | apply QW.blk_n | apply QW.blk_ret | apply QW.blk_exit | refine Ca ?_ | refine Cb ?_ | refine Cc ?_ | refine Lh ?_ | refine Li ?_ | refine Lj ?_ | refine Lk ?_ | refine Ll ?_ | refine Lm ?_))
        refine CW.yes rfl (by assumption) ?_
        (repeat (first | refine La ?_ | refine Lb ?_ | refine Lc ?_ | refine Ld ?_ | refine Le ?_ | refine Lf ?_ | refine Lg ?_ | apply LW.nil | apply QW.then_n | apply QW.round | apply RW.succ | apply CW.seq | apply CW.region | apply CW.skip | apply CW.block | apply CW.ret | apply CW.exit | apply QW.then_ret | apply QW.then_exit | apply QW.blk_n | apply QW.blk_ret | apply QW.blk_exit | refine Ca ?_ | refine Cb ?_ | refine Cc ?_ | refine Lh ?_ | refine Li ?_ | refine Lj ?_ | refine Lk ?_ | refine Ll ?_ | refine Lm ?_))
        refine QW.body1 Tryd.results71 rfl ⟨?_, Chg.refl _ _⟩
        rw [sign_pair (by simp [pairsT, *])]
        exact congrArg str hcut
      have h3 : ¬ (s.drop a).take 2 = [60, 61] := by rw [← hcut]; exact of_decide_eq_false h3
      (repeat (first | refine La ?_ | refine Lb ?_ | refine Lc ?_ | refine Ld ?_ | refine Le ?_ | refine Lf ?_ | refine Lg ?_ | apply LW.nil | apply QW.then_n | apply QW.round | apply RW.succ | apply CW.seq | apply CW.region | apply CW.skip | apply CW.block | apply CW.ret | apply CW.exit | apply QW.then_ret | apply QW.then_exit | apply QW.blk_n | apply QW.blk_ret | apply QW.blk_exit | refine Ca ?_ | refine Cb ?_ | refine Cc ?_ | refine Lh ?_ | refine Li ?_ | refine Lj ?_ | refine Lk ?_ | refine Ll ?_ | refine Lm ?_))
      refine CW.cond rfl (fun h4 => ?_) (fun h4 => ?_)
      · have h4 : (s.drop a).take 2 = [62, 61] := by rw [← hcut]; exact of_decide_eq_true h4
        (repeat (first | refine La ?_ | refine Lb ?_ | refine Lc ?_ | refine Ld ?_ | refine Le ?_ | refine Lf ?_ | refine Lg ?_ | apply LW.nil | apply QW.then_n | apply QW.round | apply RW.succ | apply CW.seq | apply CW.region | apply CW.skip | apply CW.block | apply CW.ret | apply CW.exit | apply QW.then_ret | apply QW.then_exit | apply QW.blk_n | apply QW.blk_ret | apply QW.blk_exit | refine Ca ?_ | refine Cb ?_ | refine Cc ?_ | refine Lh ?_ | refine Li ?_ | refine Lj ?_ | refine Lk ?_ | refine Ll ?_ | refine Lm ?_))
        refine QW.body1 Tryd.results71 rfl ⟨?_, Chg.refl _ _⟩
        rw [sign_pair (by simp [pairsT, *])]
        exact congrArg str hcut
      have h4 : ¬ (s.drop a).take 2 = [62, 61] := by rw [← hcut]; exact of_decide_eq_false h4
      (repeat (first | refine La ?_ | refine Lb ?_ | refine Lc ?_ | refine Ld ?_ | refine Le ?_ | refine Lf ?_ | refine Lg ?_ | apply LW.nil | apply QW.then_n | apply QW.round | apply RW.succ | apply CW.seq | apply CW.region | apply CW.skip | apply CW.block | apply CW.ret | apply CW.exit | apply QW.then_ret | apply QW.then_exit | apply QW.blk_n | apply QW.blk_ret | apply QW.blk_exit | refine Ca ?_ | refine Cb ?_ | refine Cc ?_ | refine Lh ?_ | refine Li ?_ | refine Lj ?_ | refine Lk ?_ | refine Ll ?_ | refine Lm ?_))
      exact QW.head () ⟨by simp [pairsT, h2, h3, h4], Chg.refl _ _⟩ (Sub.cons rfl (Sub.cons rfl (Sub.nil)))
    · have h1 : ¬ a + 1 < s.length := by simp at h1; omega
      (repeat (first | refine La ?_ | refine Lb ?_ | refine Lc ?_ | refine Ld ?_ | refine Le ?_ | refine Lf ?_ | refine Lg ?_ | apply LW.nil | apply QW.then_n | apply QW.round | apply RW.succ | apply CW.seq | apply CW.region | apply CW.skip | apply CW.block | apply CW.ret | apply CW.exit | apply QW.then_ret | apply QW.then_exit | apply QW.blk_n | apply QW.blk_ret | apply QW.blk_exit | refine Ca ?_ | refine Cb ?_ | refine Cc ?_ | refine Lh ?_ | refine Li ?_ | refine Lj ?_ | refine Lk ?_ | refine Ll ?_ | refine Lm ?_))
      refine QW.head () ⟨?_, Chg.refl _ _⟩ (Sub.cons rfl (Sub.cons rfl (Sub.nil)))
      intro hm
      have : ∀ p ∈ pairsT, p.length = 2 := by decide
      have := this _ hm
      simp at this
      omega
  rintro _ w1 ⟨hnp, hx⟩
  have hfind := sign_single hne hnp
  have hb : byte (s.drop a) 0 = byte s a := by rw [byte_drop']; rfl
  rw [hb] at hfind
  apply CW.seq
  apply CW.seq
  apply CW.region
  (repeat (first | refine La ?_ | refine Lb ?_ | refine Lc ?_ | refine Ld ?_ | refine Le ?_ | refine Lf ?_ | refine Lg ?_ | refine Lh ?_ | refine Li ?_ | refine Lj ?_ | refine Lk ?_ | refine Ll ?_))
  apply LW.nil
  apply QW.then_n
  apply CW.block
  refine CW.seq_cut (ι := Bool) (fun b w' => b = sgB (byte s a) ∧ Ext w w') (fun b => [(0, str s), (1, .int .i64 a), (27, .bool b)]) ?_ ?_
  · skip
    (repeat (first | refine La ?_ | refine Lb ?_ | refine Lc ?_ | refine Ld ?_ | refine Le ?_ | refine Lf ?_ | refine Lg ?_ | apply LW.nil | apply QW.then_n | apply QW.round | apply RW.succ | apply CW.seq | apply CW.region | apply CW.skip | apply CW.block | apply CW.ret | apply CW.exit | apply QW.then_ret | apply QW.then_exit | apply QW.blk_n | apply QW.blk_ret | apply QW.blk_exit | refine Ca ?_ | refine Cb ?_ | refine Cc ?_ | refine Lh ?_ | refine Li ?_ | refine Lj ?_ | refine Lk ?_ | refine Ll ?_))
    refine CW.cond rfl (fun g0 => ?_) (fun g0 => ?_)
    · (repeat (first | refine La ?_ | refine Lb ?_ | refine Lc ?_ | refine Ld ?_ | refine Le ?_ | refine Lf ?_ | refine Lg ?_ | apply LW.nil | apply QW.then_n | apply QW.round | apply RW.succ | apply CW.seq | apply CW.region | apply CW.skip | apply CW.block | apply CW.ret | apply CW.exit | apply QW.then_ret | apply QW.then_exit | apply QW.blk_n | apply QW.blk_ret | apply QW.blk_exit | refine Ca ?_ | refine Cb ?_ | refine Cc ?_ | refine Lh ?_ | refine Li ?_ | refine Lj ?_ | refine Lk ?_ | refine Ll ?_))
      have e : byte s a = 43 := by simpa using g0
      exact QW.head (decide (byte s a = 43)) ⟨by rw [e]; rfl, hx⟩ (Sub.cons rfl (Sub.cons rfl (Sub.cons rfl (Sub.nil))))
    have g0 : byte s a ≠ 43 := by simpa using g0
    (repeat (first | refine La ?_ | refine Lb ?_ | refine Lc ?_ | refine Ld ?_ | refine Le ?_ | refine Lf ?_ | refine Lg ?_ | apply LW.nil | apply QW.then_n | apply QW.round | apply RW.succ | apply CW.seq | apply CW.region | apply CW.skip | apply CW.block | apply CW.ret | apply CW.exit | apply QW.then_ret | apply QW.then_exit | apply QW.blk_n | apply QW.blk_ret | apply QW.blk_exit | refine Ca ?_ | refine Cb ?_ | refine Cc ?_ | refine Lh ?_ | refine Li ?_ | refine Lj ?_ | refine Lk ?_ | refine Ll ?_))
    refine CW.cond rfl (fun g1 => ?_) (fun g1 => ?_)
    · (repeat (first | refine La ?_ | refine Lb ?_ | refine Lc ?_ | refine Ld ?_ | refine Le ?_ | refine Lf ?_ | refine Lg ?_ | apply LW.nil | apply QW.then_n | apply QW.round | apply RW.succ | apply CW.seq | apply CW.region | apply CW.skip | apply CW.block | apply CW.ret | apply CW.exit | apply QW.then_ret | apply QW.then_exit | apply QW.blk_n | apply QW.blk_ret | apply QW.blk_exit | refine Ca ?_ | refine Cb ?_ | refine Cc ?_ | refine Lh ?_ | refine Li ?_ | refine Lj ?_ | refine Lk ?_ | refine Ll ?_))
      have e : byte s a = 45 := by simpa using g1
      exact QW.head (decide (byte s a = 45)) ⟨by rw [e]; rfl, hx⟩ (Sub.cons rfl (Sub.cons rfl (Sub.cons rfl (Sub.nil))))
    have g1 : byte s a ≠ 45 := by simpa using g1
    (repeat (first | refine La ?_ | refine Lb ?_ | refine Lc ?_ | refine Ld ?_ | refine Le ?_ | refine Lf ?_ | refine Lg ?_ | apply LW.nil | apply QW.then_n | apply QW.round | apply RW.succ | apply CW.seq | apply CW.region | apply CW.skip | apply CW.block | apply CW.ret | apply CW.exit | apply QW.then_ret | apply QW.then_exit | apply QW.blk_n | apply QW.blk_ret | apply QW.blk_exit | refine Ca ?_ | refine Cb ?_ | refine Cc ?_ | refine Lh ?_ | refine Li ?_ | refine Lj ?_ | refine Lk ?_ | refine Ll ?_))
    refine CW.cond rfl (fun g2 => ?_) (fun g2 => ?_)
    · (repeat (first | refine La ?_ | refine Lb ?_ | refine Lc ?_ | refine Ld ?_ | refine Le ?_ | refine Lf ?_ | refine Lg ?_ | apply LW.nil | apply QW.then_n | apply QW.round | apply RW.succ | apply CW.seq | apply CW.region | apply CW.skip | apply CW.block | apply CW.ret | apply CW.exit | apply QW.then_ret | apply QW.then_exit | apply QW.blk_n | apply QW.blk_ret | apply QW.blk_exit | refine Ca ?_ | refine Cb ?_ | refine Cc ?_ | refine Lh ?_ | refine Li ?_ | refine Lj ?_ | refine Lk ?_ | refine Ll ?_))
      have e : byte s a = 42 := by simpa using g2
      exact QW.head (decide (byte s a = 42)) ⟨by rw [e]; rfl, hx⟩ (Sub.cons rfl (Sub.cons rfl (Sub.cons rfl (Sub.nil))))
    have g2 : byte s a ≠ 42 := by simpa using g2
    (repeat (first | refine La ?_ | refine Lb ?_ | refine Lc ?_ | refine Ld ?_ | refine Le ?_ | refine Lf ?_ | refine Lg ?_ | apply LW.nil | apply QW.then_n | apply QW.round | apply RW.succ | apply CW.seq | apply CW.region | apply CW.skip | apply CW.block | apply CW.ret | apply CW.exit | apply QW.then_ret | apply QW.then_exit | apply QW.blk_n | apply QW.blk_ret | apply QW.blk_exit | refine Ca ?_ | refine Cb ?_ | refine Cc ?_ | refine Lh ?_ | refine Li ?_ | refine Lj ?_ | refine Lk ?_ | refine Ll ?_))
    refine CW.cond rfl (fun g3 => ?_) (fun g3 => ?_)
    · (repeat (first | refine La ?_ | refine Lb ?_ | refine Lc ?_ | refine Ld ?_ | refine Le ?_ | refine Lf ?_ | refine Lg ?_ | apply LW.nil | apply QW.then_n | apply QW.round | apply RW.succ | apply CW.seq | apply CW.region | apply CW.skip | apply CW.block | apply CW.ret | apply CW.exit | apply QW.then_ret | apply QW.then_exit | apply QW.blk_n | apply QW.blk_ret | apply QW.blk_exit | refine Ca ?_ | refine Cb ?_ | refine Cc ?_ | refine Lh ?_ | refine Li ?_ | refine Lj ?_ | refine Lk ?_ | refine Ll ?_))
      have e : byte s a = 47 := by simpa using g3
      exact QW.head (decide (byte s a = 47)) ⟨by rw [e]; rfl, hx⟩ (Sub.cons rfl (Sub.cons rfl (Sub.cons rfl (Sub.nil))))
    have g3 : byte s a ≠ 47 := by simpa using g3
    (repeat (first | refine La ?_ | refine Lb ?_ | refine Lc ?_ | refine Ld ?_ | refine Le ?_ | refine Lf ?_ | refine Lg ?_ | apply LW.nil | apply QW.then_n | apply QW.round | apply RW.succ | apply CW.seq | apply CW.region | apply CW.skip | apply CW.block | apply CW.ret | apply CW.exit | apply QW.then_ret | apply QW.then_exit | apply QW.blk_n | apply QW.blk_ret | apply QW.blk_exit | refine Ca ?_ | refine Cb ?_ | refine Cc ?_ | refine Lh ?_ | refine Li ?_ | refine Lj ?_ | refine Lk ?_ | refine Ll ?_))
    refine CW.cond rfl (fun g4 => ?_) (fun g4 => ?_)
    · (repeat (first | refine La ?_ | refine Lb ?_ | refine Lc ?_ | refine Ld ?_ | refine Le ?_ | refine Lf ?_ | refine Lg ?_ | apply LW.nil | apply QW.then_n | apply QW.round | apply RW.succ | apply CW.seq | apply CW.region | apply CW.skip | apply CW.block | apply CW.ret | apply CW.exit | apply QW.then_ret | apply QW.then_exit | apply QW.blk_n | apply QW.blk_ret | apply QW.blk_exit | refine Ca ?_ | refine Cb ?_ | refine Cc ?_ | refine Lh ?_ | refine Li ?_ | refine Lj ?_ | refine Lk ?_ | refine Ll ?_))
      have e : byte s a = 38 := by simpa using g4
      exact QW.head (decide (byte s a = 38)) ⟨by rw [e]; rfl, hx⟩ (Sub.cons rfl (Sub.cons rfl (Sub.cons rfl (Sub.nil))))
    have g4 : byte s a ≠ 38 := by simpa using g4
    (repeat (first | refine La ?_ | refine Lb ?_ | refine Lc ?_ | refine Ld ?_ | refine Le ?_ | refine Lf ?_ | refine Lg ?_ | apply LW.nil | apply QW.then_n | apply QW.round | apply RW.succ | apply CW.seq | apply CW.region | apply CW.skip | apply CW.block | apply CW.ret | apply CW.exit | apply QW.then_ret | apply QW.then_exit | apply QW.blk_n | apply QW.blk_ret | apply QW.blk_exit | refine Ca ?_ | refine Cb ?_ | refine Cc ?_ | refine Lh ?_ | refine Li ?_ | refine Lj ?_ | refine Lk ?_ | refine Ll ?_))
    refine CW.cond rfl (fun g5 => ?_) (fun g5 => ?_)
    · (repeat (first | refine La ?_ | refine Lb ?_ | refine Lc ?_ | refine Ld ?_ | refine Le ?_ | refine Lf ?_ | refine Lg ?_ | apply LW.nil | apply QW.then_n | apply QW.round | apply RW.succ | apply CW.seq | apply CW.region | apply CW.skip | apply CW.block | apply CW.ret | apply CW.exit | apply QW.then_ret | apply QW.then_exit | apply QW.blk_n | apply QW.blk_ret | apply QW.blk_exit | refine Ca ?_ | refine Cb ?_ | refine Cc ?_ | refine Lh ?_ | refine Li ?_ | refine Lj ?_ | refine Lk ?_ | refine Ll ?_))
      have e : byte s a = 61 := by simpa using g5
      exact QW.head (decide (byte s a = 61)) ⟨by rw [e]; rfl, hx⟩ (Sub.cons rfl (Sub.cons rfl (Sub.cons rfl (Sub.nil))))
    have g5 : byte s a ≠ 61 := by simpa using g5
    (repeat (first | refine La ?_ | refine Lb ?_ | refine Lc ?_ | refine Ld ?_ | refine Le ?_ | refine Lf ?_ | refine Lg ?_ | apply LW.nil | apply QW.then_n | apply QW.round | apply RW.succ | apply CW.seq | apply CW.region | apply CW.skip | apply CW.block | apply CW.ret | apply CW.exit | apply QW.then_ret | apply QW.then_exit | apply QW.blk_n | apply QW.blk_ret | apply QW.blk_exit | refine Ca ?_ | refine Cb ?_ | refine Cc ?_ | refine Lh ?_ | refine Li ?_ | refine Lj ?_ | refine Lk ?_ | refine Ll ?_))
    refine CW.cond rfl (fun g6 => ?_) (fun g6 => ?_)
    · (repeat (first | refine La ?_ | refine Lb ?_ | refine Lc ?_ | refine Ld ?_ | refine Le ?_ | refine Lf ?_ | refine Lg ?_ | apply LW.nil | apply QW.then_n | apply QW.round | apply RW.succ | apply CW.seq | apply CW.region | apply CW.skip | apply CW.block | apply CW.ret | apply CW.exit | apply QW.then_ret | apply QW.then_exit | apply QW.blk_n | apply QW.blk_ret | apply QW.blk_exit | refine Ca ?_ | refine Cb ?_ | refine Cc ?_ | refine Lh ?_ | refine Li ?_ | refine Lj ?_ | refine Lk ?_ | refine Ll ?_))
      have e : byte s a = 60 := by simpa using g6
      exact QW.head (decide (byte s a = 60)) ⟨by rw [e]; rfl, hx⟩ (Sub.cons rfl (Sub.cons rfl (Sub.cons rfl (Sub.nil))))
    have g6 : byte s a ≠ 60 := by simpa using g6
    (repeat (first | refine La ?_ | refine Lb ?_ | refine Lc ?_ | refine Ld ?_ | refine Le ?_ | refine Lf ?_ | refine Lg ?_ | apply LW.nil | apply QW.then_n | apply QW.round | apply RW.succ | apply CW.seq | apply CW.region | apply CW.skip | apply CW.block | apply CW.ret | apply CW.exit | apply QW.then_ret | apply QW.then_exit | apply QW.blk_n | apply QW.blk_ret | apply QW.blk_exit | refine Ca ?_ | refine Cb ?_ | refine Cc ?_ | refine Lh ?_ | refine Li ?_ | refine Lj ?_ | refine Lk ?_ | refine Ll ?_))
    refine CW.cond rfl (fun g7 => ?_) (fun g7 => ?_)
    · (repeat (first | refine La ?_ | refine Lb ?_ | refine Lc ?_ | refine Ld ?_ | refine Le ?_ | refine Lf ?_ | refine Lg ?_ | apply LW.nil | apply QW.then_n | apply QW.round | apply RW.succ | apply CW.seq | apply CW.region | apply CW.skip | apply CW.block | apply CW.ret | apply CW.exit | apply QW.then_ret | apply QW.then_exit | apply QW.blk_n | apply QW.blk_ret | apply QW.blk_exit | refine Ca ?_ | refine Cb ?_ | refine Cc ?_ | refine Lh ?_ | refine Li ?_ | refine Lj ?_ | refine Lk ?_ | refine Ll ?_))
      have e : byte s a = 62 := by simpa using g7
      exact QW.head (decide (byte s a = 62)) ⟨by rw [e]; rfl, hx⟩ (Sub.cons rfl (Sub.cons rfl (Sub.cons rfl (Sub.nil))))
    have g7 : byte s a ≠ 62 := by simpa using g7
    (repeat (first | refine La ?_ | refine Lb ?_ | refine Lc ?_ | refine Ld ?_ | refine Le ?_ | refine Lf ?_ | refine Lg ?_ | apply LW.nil | apply QW.then_n | apply QW.round | apply RW.succ | apply CW.seq | apply CW.region | apply CW.skip | apply CW.block | apply CW.ret | apply CW.exit | apply QW.then_ret | apply QW.then_exit | apply QW.blk_n | apply QW.blk_ret | apply QW.blk_exit | refine Ca ?_ | refine Cb ?_ | refine Cc ?_ | refine Lh ?_ | refine Li ?_ | refine Lj ?_ | refine Lk ?_ | refine Ll ?_))
    refine CW.cond rfl (fun g8 => ?_) (fun g8 => ?_)
    · (repeat (first | refine La ?_ | refine Lb ?_ | refine Lc ?_ | refine Ld ?_ | refine Le ?_ | refine Lf ?_ | refine Lg ?_ | apply LW.nil | apply QW.then_n | apply QW.round | apply RW.succ | apply CW.seq | apply CW.region | apply CW.skip | apply CW.block | apply CW.ret | apply CW.exit | apply QW.then_ret | apply QW.then_exit | apply QW.blk_n | apply QW.blk_ret | apply QW.blk_exit | refine Ca ?_ | refine Cb ?_ | refine Cc ?_ | refine Lh ?_ | refine Li ?_ | refine Lj ?_ | refine Lk ?_ | refine Ll ?_))
      have e : byte s a = 40 := by simpa using g8
      exact QW.head (decide (byte s a = 40)) ⟨by rw [e]; rfl, hx⟩ (Sub.cons rfl (Sub.cons rfl (Sub.cons rfl (Sub.nil))))
    have g8 : byte s a ≠ 40 := by simpa using g8
    (repeat (first | refine La ?_ | refine Lb ?_ | refine Lc ?_ | refine Ld ?_ | refine Le ?_ | refine Lf ?_ | refine Lg ?_ | apply LW.nil | apply QW.then_n | apply QW.round | apply RW.succ | apply CW.seq | apply CW.region | apply CW.skip | apply CW.block | apply CW.ret | apply CW.exit | apply QW.then_ret | apply QW.then_exit | apply QW.blk_n | apply QW.blk_ret | apply QW.blk_exit | refine Ca ?_ | refine Cb ?_ | refine Cc ?_ | refine Lh ?_ | refine Li ?_ | refine Lj ?_ | refine Lk ?_ | refine Ll ?_))
    refine CW.cond rfl (fun g9 => ?_) (fun g9 => ?_)
    · (repeat (first | refine La ?_ | refine Lb ?_ | refine Lc ?_ | refine Ld ?_ | refine Le ?_ | refine Lf ?_ | refine Lg ?_ | apply LW.nil | apply QW.then_n | apply QW.round | apply RW.succ | apply CW.seq | apply CW.region | apply CW.skip | apply CW.block | apply CW.ret | apply CW.exit | apply QW.then_ret | apply QW.then_exit | apply QW.blk_n | apply QW.blk_ret | apply QW.blk_exit | refine Ca ?_ | refine Cb ?_ | refine Cc ?_ | refine Lh ?_ | refine Li ?_ | refine Lj ?_ | refine Lk ?_ | refine Ll ?_))
      have e : byte s a = 41 := by simpa using g9
      exact QW.head (decide (byte s a = 41)) ⟨by rw [e]; rfl, hx⟩ (Sub.cons rfl (Sub.cons rfl (Sub.cons rfl (Sub.nil))))
    have g9 : byte s a ≠ 41 := by simpa using g9
    (repeat (first | refine La ?_ | refine Lb ?_ | refine Lc ?_ | refine Ld ?_ | refine Le ?_ | refine Lf ?_ | refine Lg ?_ | apply LW.nil | apply QW.then_n | apply QW.round | apply RW.succ | apply CW.seq | apply CW.region | apply CW.skip | apply CW.block | apply CW.ret | apply CW.exit | apply QW.then_ret | apply QW.then_exit | apply QW.blk_n | apply QW.blk_ret | apply QW.blk_exit | refine Ca ?_ | refine Cb ?_ | refine Cc ?_ | refine Lh ?_ | refine Li ?_ | refine Lj ?_ | refine Lk ?_ | refine Ll ?_))
    refine CW.cond rfl (fun g10 => ?_) (fun g10 => ?_)
    · (repeat (first | refine La ?_ | refine Lb ?_ | refine Lc ?_ | refine Ld ?_ | refine Le ?_ | refine Lf ?_ | refine Lg ?_ | apply LW.nil | apply QW.then_n | apply QW.round | apply RW.succ | apply CW.seq | apply CW.region | apply CW.skip | apply CW.block | apply CW.ret | apply CW.exit | apply QW.then_ret | apply QW.then_exit | apply QW.blk_n | apply QW.blk_ret | apply QW.blk_exit | refine Ca ?_ | refine Cb ?_ | refine Cc ?_ | refine Lh ?_ | refine Li ?_ | refine Lj ?_ | refine Lk ?_ | refine Ll ?_))
      have e : byte s a = 44 := by simpa using g10
      exact QW.head (decide (byte s a = 44)) ⟨by rw [e]; rfl, hx⟩ (Sub.cons rfl (Sub.cons rfl (Sub.cons rfl (Sub.nil))))
    have g10 : byte s a ≠ 44 := by simpa using g10
    (repeat (first | refine La ?_ | refine Lb ?_ | refine Lc ?_ | refine Ld ?_ | refine Le ?_ | refine Lf ?_ | refine Lg ?_ | apply LW.nil | apply QW.then_n | apply QW.round | apply RW.succ | apply CW.seq | apply CW.region | apply CW.skip | apply CW.block | apply CW.ret | apply CW.exit | apply QW.then_ret | apply QW.then_exit | apply QW.blk_n | apply QW.blk_ret | apply QW.blk_exit | refine Ca ?_ | refine Cb ?_ | refine Cc ?_ | refine Lh ?_ | refine Li ?_ | refine Lj ?_ | refine Lk ?_ | refine Ll ?_))
    refine QW.head (decide (byte s a = 58)) ⟨?_, hx⟩ (Sub.cons rfl (Sub.cons rfl (Sub.cons rfl (Sub.nil))))
    simp [sgB, g0, g1, g2, g3, g4, g5, g6, g7, g8, g9, g10]
  rintro b w2 ⟨rfl, hx2⟩
  refine CW.cond rfl (fun h1 => ?_) (fun h1 => ?_)
  · have h1 : sgB (byte s a) = true := h1
    (repeat (first | refine La ?_ | refine Lb ?_ | refine Lc ?_ | refine Ld ?_ | refine Le ?_ | refine Lf ?_ | refine Lg ?_ | apply LW.nil | apply QW.then_n | apply QW.round | apply RW.succ | apply CW.seq | apply CW.region | apply CW.skip | apply CW.block | apply CW.ret | apply CW.exit | apply QW.then_ret | apply QW.then_exit | apply QW.blk_n | apply QW.blk_ret | apply QW.blk_exit | refine Ca ?_ | refine Cb ?_ | refine Cc ?_ | refine Lh ?_ | refine Li ?_ | refine Lj ?_ | refine Lk ?_ | refine Ll ?_ | refine Lm ?_))
    refine QW.body1 Tryd.results71 rfl ⟨?_, hx2⟩
    have hcut : cut s a (a + 1) = (s.drop a).take 1 := by simp [cut]
    rw [hfind, if_pos h1]
    exact congrArg str hcut
  · have h1 : sgB (byte s a) = false := h1
    (repeat (first | refine La ?_ | refine Lb ?_ | refine Lc ?_ | refine Ld ?_ | refine Le ?_ | refine Lf ?_ | refine Lg ?_ | apply LW.nil | apply QW.then_n | apply QW.round | apply RW.succ | apply CW.seq | apply CW.region | apply CW.skip | apply CW.block | apply CW.ret | apply CW.exit | apply QW.then_ret | apply QW.then_exit | apply QW.blk_n | apply QW.blk_ret | apply QW.blk_exit | refine Ca ?_ | refine Cb ?_ | refine Cc ?_ | refine Lh ?_ | refine Li ?_ | refine Lj ?_ | refine Lk ?_ | refine Ll ?_ | refine Lm ?_))
    refine QW.body1 Tryd.results71 rfl ⟨?_, hx2⟩
    rw [hfind, h1]
    rfl
end Go.Proofs.YtfpklhgkndnjjaaDoor
