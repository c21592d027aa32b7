/-
  The laws of layer 5: calls.
-/
import Derived.Test.YtfpklhgkndnjjaaDoorLaw5
namespace Go.Proofs.YtfpklhgkndnjjaaDoor
open Go Go.E

def argT : Nat → List UInt8
  | 0 => [49]
  | 1 => [65, 49]
  | 2 => [65, 49, 58, 66, 50]
  | 3 => [34, 120, 34]
  | 4 => [84, 82, 85, 69]
  | _ => [35, 82, 69, 70, 33]
def callT : Nat → List UInt8
  | 0 => [70, 40]
  | n + 1 => callT n ++ ((if n = 0 then [] else [44]) ++ argT (n % 6))
def okCall (k : Nat) : Bool := match evalT 600 (callT k ++ [41]) with
  | some (.ok l) => decide (l.length = k + 1) && match l[k]? with
    | some nd => decide (nd.kind = 7) && decide (nd.kids.length = k) && decide (nd.text = [70])
    | none => false
  | _ => false
theorem all_call : ∀ k : Fin 12, okCall k.val = true := by decide +kernel
theorem arg_len (n : Nat) : (argT n).length ≤ 5 := by
  match n with
  | 0 | 1 | 2 | 3 | 4 | n + 5 => simp [argT]
theorem call_len : ∀ n, (callT n).length ≤ 2 + 6 * n
  | 0 => by simp [callT]
  | n + 1 => by
    have := call_len n
    have h2 := arg_len (n % 6)
    rw [callT, List.length_append, List.length_append]
    split <;> simp <;> omega
def badL : List (List UInt8) := [[70, 40, 49, 44, 41], [70, 40, 44, 49, 41], [70, 40, 49], [49, 43], [43, 49], [65, 49, 58], [66, 50, 58, 65, 49], [65, 49, 58, 83, 33, 66, 50], [49, 32, 50], [84, 82, 85, 69, 40, 49, 41], [70], [97, 49], [], [58, 65, 49], [40, 49], [49, 41]]
def isErr (o : Option (Except Int (List NodeD))) (e : Int) : Bool := match o with
  | some (.error e') => decide (e' = e)
  | _ => false
theorem isErr_eq {o : Option (Except Int (List NodeD))} {e : Int} (h : isErr o e = true) : o = some (.error e) := by
  unfold isErr at h
  split at h
  · rw [of_decide_eq_true h]
  · cases h
theorem all_bad : ∀ k : Fin 16, isErr (evalT 600 (badL.getD k.val [])) 5 = true := by decide +kernel
theorem bad_len : ∀ k : Fin 16, (badL.getD k.val []).length ≤ 20 := by decide

theorem ParseCalls_ret (n h : Int) (hn0 : 0 ≤ n) (hn1 : n ≤ 255) (hh0 : 0 ≤ h) (hh1 : h ≤ 255) (w : World) (g : Glob w) :
    Ret Tryd.prog 11 [.int .u8 n, .int .u8 h] w (fun v w' => v = .bool true ∧ Ext w w') := by
  obtain ⟨k, hk⟩ : ∃ k : Nat, (k : Int) = n % 12 := ⟨(n % 12).toNat, by omega⟩
  obtain ⟨m, hm⟩ : ∃ m : Nat, (m : Int) = h % 16 := ⟨(h % 16).toNat, by omega⟩
  have hk12 : k < 12 := by omega
  have hm16 : m < 16 := by omega
  refine Ret.enter Tryd.func11 rfl Tryd.ntmps11 (by kernel_rfl) rfl ?_
  (repeat (first | refine La ?_ | refine Lb ?_ | refine Lc ?_ | refine Ld ?_ | refine Le ?_ | refine Lf ?_ | refine Lg ?_ | apply LW.nil | apply QW.then_n | apply QW.round | apply RW.succ | apply CW.seq | apply CW.region | apply CW.skip | apply CW.block | apply CW.ret | apply CW.exit | apply QW.then_ret | apply QW.then_exit | apply QW.blk_n | apply QW.blk_ret | apply QW.blk_exit | refine Ca ?_ | refine Cb ?_ | refine Cc ?_ | refine Lh ?_ | refine Li ?_ | refine Lj ?_ | refine Lk ?_ | refine Ll ?_))
  refine CW.loop (ι := Nat) (fun i w' => i ≤ k ∧ Ext w w') (fun i => [(1, .int .u8 h), (5, .int .i64 (n % 12)), (6, str (callT i)), (7, .int .i64 i)]) (fun i => k - i) 0 ⟨by omega, Chg.refl _ _⟩ (Sub.cons rfl (Sub.cons rfl (Sub.cons rfl (Sub.cons rfl (Sub.nil))))) ?_
  rintro i w1 ⟨hi, hx1⟩
  have hcl := call_len i
  have hal := arg_len (i % 6)
  (repeat (first | refine La ?_ | refine Lb ?_ | refine Lc ?_ | refine Ld ?_ | refine Le ?_ | refine Lf ?_ | refine Lg ?_ | apply LW.nil | apply QW.then_n | apply QW.round | apply RW.succ | apply CW.seq | apply CW.region | apply CW.skip | apply CW.block | apply CW.ret | apply CW.exit | apply QW.then_ret | apply QW.then_exit | apply QW.blk_n | apply QW.blk_ret | apply QW.blk_exit | refine Ca ?_ | refine Cb ?_ | refine Cc ?_ | refine Lh ?_ | refine Li ?_ | refine Lj ?_ | refine Lk ?_ | refine Ll ?_))
  refine CW.cond rfl (fun h1 => ?_) (fun h1 => ?_)
  · have h1 : i < k := by simp at h1; omega
    have harg : ([str [49], str [65, 49], str [65, 49, 58, 66, 50], str [34, 120, 34], str [84, 82, 85, 69], str [35, 82, 69, 70, 33]] : List Value)[i % 6]? = some (str (argT (i % 6))) := by
      have h6 : i % 6 < 6 := Nat.mod_lt _ (by omega)
      match i % 6, h6 with
      | 0, _ | 1, _ | 2, _ | 3, _ | 4, _ | 5, _ => rfl
    (repeat (first | refine La ?_ | refine Lb ?_ | refine Lc ?_ | refine Ld ?_ | refine Le ?_ | refine Lf ?_ | refine Lg ?_ | apply LW.nil | apply QW.then_n | apply QW.round | apply RW.succ | apply CW.seq | apply CW.region | apply CW.skip | apply CW.block | apply CW.ret | apply CW.exit | apply QW.then_ret | apply QW.then_exit | apply QW.blk_n | apply QW.blk_ret | apply QW.blk_exit | refine Ca ?_ | refine Cb ?_ | refine Cc ?_ | refine Lh ?_ | refine Li ?_ | refine Lj ?_ | refine Lk ?_ | refine Ll ?_))
    refine CW.cond rfl (fun h2 => ?_) (fun h2 => ?_)
    · have h2 : i ≠ 0 := by simp at h2; omega
      (repeat (first | refine La ?_ | refine Lb ?_ | refine Lc ?_ | refine Ld ?_ | refine Le ?_ | refine Lf ?_ | refine Lg ?_ | apply LW.nil | apply QW.then_n | apply QW.round | apply RW.succ | apply CW.seq | apply CW.region | apply CW.skip | apply CW.block | apply CW.ret | apply CW.exit | apply QW.then_ret | apply QW.then_exit | apply QW.blk_n | apply QW.blk_ret | apply QW.blk_exit | refine Ca ?_ | refine Cb ?_ | refine Cc ?_ | refine Lh ?_ | refine Li ?_ | refine Lj ?_ | refine Lk ?_ | refine Ll ?_))
      (apply LW.buildSlice; exact rfl; exact rfl; exact rfl; exact rfl; exact rfl; exact rfl; exact rfl; exact rfl; exact rfl; intro A w2 hbA hx2 hA)
      (repeat (first | refine La ?_ | refine Lb ?_ | refine Lc ?_ | refine Ld ?_ | refine Le ?_ | refine Lf ?_ | refine Lg ?_ | apply LW.nil | apply QW.then_n | apply QW.round | apply RW.succ | apply CW.seq | apply CW.region | apply CW.skip | apply CW.block | apply CW.ret | apply CW.exit | apply QW.then_ret | apply QW.then_exit | apply QW.blk_n | apply QW.blk_ret | apply QW.blk_exit | refine Ca ?_ | refine Cb ?_ | refine Cc ?_ | refine Lh ?_ | refine Li ?_ | refine Lj ?_ | refine Lk ?_ | refine Ll ?_))
      refine LW.idx_slice (j := i % 6) rfl rfl rfl rfl rfl (by omega) (by omega) (by show 0 + _ * 1 = _; omega) rfl ?_
      refine LW.load rfl hA harg rfl rfl rfl ?_
      (repeat (first | refine La ?_ | refine Lb ?_ | refine Lc ?_ | refine Ld ?_ | refine Le ?_ | refine Lf ?_ | refine Lg ?_ | apply LW.nil | apply QW.then_n | apply QW.round | apply RW.succ | apply CW.seq | apply CW.region | apply CW.skip | apply CW.block | apply CW.ret | apply CW.exit | apply QW.then_ret | apply QW.then_exit | apply QW.blk_n | apply QW.blk_ret | apply QW.blk_exit | refine Ca ?_ | refine Cb ?_ | refine Cc ?_ | refine Lh ?_ | refine Li ?_ | refine Lj ?_ | refine Lk ?_ | refine Ll ?_))
      refine QW.again (i + 1) ⟨by omega, hx1.trans hx2⟩ (Sub.cons rfl (Sub.cons rfl (Sub.cons ?_ (Sub.cons rfl Sub.nil)))) (by omega)
      show some (str ((callT i ++ [44]) ++ argT (i % 6))) = _
      rw [callT, if_neg h2, List.append_assoc]
    · have h2 : i = 0 := by simp at h2; omega
      (repeat (first | refine La ?_ | refine Lb ?_ | refine Lc ?_ | refine Ld ?_ | refine Le ?_ | refine Lf ?_ | refine Lg ?_ | apply LW.nil | apply QW.then_n | apply QW.round | apply RW.succ | apply CW.seq | apply CW.region | apply CW.skip | apply CW.block | apply CW.ret | apply CW.exit | apply QW.then_ret | apply QW.then_exit | apply QW.blk_n | apply QW.blk_ret | apply QW.blk_exit | refine Ca ?_ | refine Cb ?_ | refine Cc ?_ | refine Lh ?_ | refine Li ?_ | refine Lj ?_ | refine Lk ?_ | refine Ll ?_))
      (apply LW.buildSlice; exact rfl; exact rfl; exact rfl; exact rfl; exact rfl; exact rfl; exact rfl; exact rfl; exact rfl; intro A w2 hbA hx2 hA)
      (repeat (first | refine La ?_ | refine Lb ?_ | refine Lc ?_ | refine Ld ?_ | refine Le ?_ | refine Lf ?_ | refine Lg ?_ | apply LW.nil | apply QW.then_n | apply QW.round | apply RW.succ | apply CW.seq | apply CW.region | apply CW.skip | apply CW.block | apply CW.ret | apply CW.exit | apply QW.then_ret | apply QW.then_exit | apply QW.blk_n | apply QW.blk_ret | apply QW.blk_exit | refine Ca ?_ | refine Cb ?_ | refine Cc ?_ | refine Lh ?_ | refine Li ?_ | refine Lj ?_ | refine Lk ?_ | refine Ll ?_))
      refine LW.idx_slice (j := i % 6) rfl rfl rfl rfl rfl (by omega) (by omega) (by show 0 + _ * 1 = _; omega) rfl ?_
      refine LW.load rfl hA harg rfl rfl rfl ?_
      (repeat (first | refine La ?_ | refine Lb ?_ | refine Lc ?_ | refine Ld ?_ | refine Le ?_ | refine Lf ?_ | refine Lg ?_ | apply LW.nil | apply QW.then_n | apply QW.round | apply RW.succ | apply CW.seq | apply CW.region | apply CW.skip | apply CW.block | apply CW.ret | apply CW.exit | apply QW.then_ret | apply QW.then_exit | apply QW.blk_n | apply QW.blk_ret | apply QW.blk_exit | refine Ca ?_ | refine Cb ?_ | refine Cc ?_ | refine Lh ?_ | refine Li ?_ | refine Lj ?_ | refine Lk ?_ | refine Ll ?_))
      refine QW.again (i + 1) ⟨by omega, hx1.trans hx2⟩ (Sub.cons rfl (Sub.cons rfl (Sub.cons ?_ (Sub.cons rfl Sub.nil)))) (by omega)
      show some (str (callT i ++ argT (i % 6))) = _
      rw [callT, if_pos h2, List.nil_append]
  have h1 : i = k := by simp at h1; omega
  subst h1
  have hok : okCall i = true := all_call ⟨i, hk12⟩
  unfold okCall at hok
  have hpl : (callT i ++ [41]).length ≤ 100 := by simp; omega
  (repeat (first | refine La ?_ | refine Lb ?_ | refine Lc ?_ | refine Ld ?_ | refine Le ?_ | refine Lf ?_ | refine Lg ?_ | apply LW.nil | apply QW.then_n | apply QW.round | apply RW.succ | apply CW.seq | apply CW.region | apply CW.skip | apply CW.block | apply CW.ret | apply CW.exit | apply QW.then_ret | apply QW.then_exit | apply QW.blk_n | apply QW.blk_ret | apply QW.blk_exit | refine Ca ?_ | refine Cb ?_ | refine Cc ?_ | refine Lh ?_ | refine Li ?_ | refine Lj ?_ | refine Lk ?_ | refine Ll ?_))
  refine LW.call0 rfl rfl (Parse_ret (callT i ++ [41]) (by omega) w1 (g.ext hx1)) ?_
  rintro v w2 ⟨hv, hx2⟩
  replace hx2 := hx1.trans hx2
  split at hok
  rotate_left
  · cases hok
  rename_i l hev
  obtain ⟨sv, rfl, hn⟩ := ParseV.is hev hv
  simp only [Bool.and_eq_true, decide_eq_true_eq] at hok
  obtain ⟨hll, hok⟩ := hok
  split at hok
  rotate_left
  · cases hok
  rename_i nd hnd
  simp only [Bool.and_eq_true, decide_eq_true_eq] at hok
  obtain ⟨⟨hkind, hkl⟩, htext⟩ := hok
  obtain ⟨b, cap, nvs, sp, rfl, hB, hmm, hkids⟩ := hn.get (by omega)
  obtain ⟨kv, hg⟩ := nodes_get hmm hnd
  have hfl : ∀ j, j < 14 → (nvs.flatMap nvL ++ sp)[i * 14 + j]? = (nvL ⟨nd, kv⟩)[j]? := fun j hj => flat_get nv_len nvs sp i _ j hg hj
  obtain ⟨kp, kc, hkv⟩ : ∃ p c, kv = .slice p nd.kids.length c := by
    rcases hkids _ (List.mem_of_getElem? hg) with ⟨e1, e2⟩ | ⟨b', cap', sp', e1, _⟩
    · have e1 : kv = .slice none 0 0 := e1
      have e2 : nd.kids = [] := e2
      exact ⟨_, _, by rw [e1, e2]; rfl⟩
    · exact ⟨_, _, e1⟩
  subst hkv
  (repeat (first | refine La ?_ | refine Lb ?_ | refine Lc ?_ | refine Ld ?_ | refine Le ?_ | refine Lf ?_ | refine Lg ?_ | apply LW.nil | apply QW.then_n | apply QW.round | apply RW.succ | apply CW.seq | apply CW.region | apply CW.skip | apply CW.block | apply CW.ret | apply CW.exit | apply QW.then_ret | apply QW.then_exit | apply QW.blk_n | apply QW.blk_ret | apply QW.blk_exit | refine Ca ?_ | refine Cb ?_ | refine Cc ?_ | refine Lh ?_ | refine Li ?_ | refine Lj ?_ | refine Lk ?_ | refine Ll ?_))
  refine LW.call0 rfl rfl (Num_ret 0 w2) ?_
  rintro v w3 ⟨rfl, hx3⟩
  replace hB := hB.ext hx3
  replace hx3 := hx2.trans hx3
  (repeat (first | refine La ?_ | refine Lb ?_ | refine Lc ?_ | refine Ld ?_ | refine Le ?_ | refine Lf ?_ | refine Lg ?_ | apply LW.nil | apply QW.then_n | apply QW.round | apply RW.succ | apply CW.seq | apply CW.region | apply CW.skip | apply CW.block | apply CW.ret | apply CW.exit | apply QW.then_ret | apply QW.then_exit | apply QW.blk_n | apply QW.blk_ret | apply QW.blk_exit | refine Ca ?_ | refine Cb ?_ | refine Cc ?_ | refine Lh ?_ | refine Li ?_ | refine Lj ?_ | refine Lk ?_ | refine Ll ?_))
  refine LW.know (t := 47) (c := false) rfl (by simp; omega) ?_
  (repeat (first | refine La ?_ | refine Lb ?_ | refine Lc ?_ | refine Ld ?_ | refine Le ?_ | refine Lf ?_ | refine Lg ?_ | apply LW.nil | apply QW.then_n | apply QW.round | apply RW.succ | apply CW.seq | apply CW.region | apply CW.skip | apply CW.block | apply CW.ret | apply CW.exit | apply QW.then_ret | apply QW.then_exit | apply QW.blk_n | apply QW.blk_ret | apply QW.blk_exit | refine Ca ?_ | refine Cb ?_ | refine Cc ?_ | refine Lh ?_ | refine Li ?_ | refine Lj ?_ | refine Lk ?_ | refine Ll ?_))
  refine LW.idx_slice (j := i * 14) rfl rfl rfl rfl rfl (by omega) (by omega) (by show 0 + _ * 14 = _; omega) rfl ?_
  (repeat (first | refine La ?_ | refine Lb ?_ | refine Lc ?_ | refine Ld ?_ | refine Le ?_ | refine Lf ?_ | refine Lg ?_ | apply LW.nil | apply QW.then_n | apply QW.round | apply RW.succ | apply CW.seq | apply CW.region | apply CW.skip | apply CW.block | apply CW.ret | apply CW.exit | apply QW.then_ret | apply QW.then_exit | apply QW.blk_n | apply QW.blk_ret | apply QW.blk_exit | refine Ca ?_ | refine Cb ?_ | refine Cc ?_ | refine Lh ?_ | refine Li ?_ | refine Lj ?_ | refine Lk ?_ | refine Ll ?_))
  refine LW.load rfl hB ((hfl 0 (by omega)).trans rfl) rfl rfl rfl ?_
  (repeat (first | refine La ?_ | refine Lb ?_ | refine Lc ?_ | refine Ld ?_ | refine Le ?_ | refine Lf ?_ | refine Lg ?_ | apply LW.nil | apply QW.then_n | apply QW.round | apply RW.succ | apply CW.seq | apply CW.region | apply CW.skip | apply CW.block | apply CW.ret | apply CW.exit | apply QW.then_ret | apply QW.then_exit | apply QW.blk_n | apply QW.blk_ret | apply QW.blk_exit | refine Ca ?_ | refine Cb ?_ | refine Cc ?_ | refine Lh ?_ | refine Li ?_ | refine Lj ?_ | refine Lk ?_ | refine Ll ?_))
  refine LW.know (t := 55) (c := false) rfl (by simp [hkind]) ?_
  (repeat (first | refine La ?_ | refine Lb ?_ | refine Lc ?_ | refine Ld ?_ | refine Le ?_ | refine Lf ?_ | refine Lg ?_ | apply LW.nil | apply QW.then_n | apply QW.round | apply RW.succ | apply CW.seq | apply CW.region | apply CW.skip | apply CW.block | apply CW.ret | apply CW.exit | apply QW.then_ret | apply QW.then_exit | apply QW.blk_n | apply QW.blk_ret | apply QW.blk_exit | refine Ca ?_ | refine Cb ?_ | refine Cc ?_ | refine Lh ?_ | refine Li ?_ | refine Lj ?_ | refine Lk ?_ | refine Ll ?_))
  refine LW.idx_slice (j := i * 14) rfl rfl rfl rfl rfl (by omega) (by omega) (by show 0 + _ * 14 = _; omega) rfl ?_
  (repeat (first | refine La ?_ | refine Lb ?_ | refine Lc ?_ | refine Ld ?_ | refine Le ?_ | refine Lf ?_ | refine Lg ?_ | apply LW.nil | apply QW.then_n | apply QW.round | apply RW.succ | apply CW.seq | apply CW.region | apply CW.skip | apply CW.block | apply CW.ret | apply CW.exit | apply QW.then_ret | apply QW.then_exit | apply QW.blk_n | apply QW.blk_ret | apply QW.blk_exit | refine Ca ?_ | refine Cb ?_ | refine Cc ?_ | refine Lh ?_ | refine Li ?_ | refine Lj ?_ | refine Lk ?_ | refine Ll ?_))
  refine LW.load rfl hB ((hfl 13 (by omega)).trans rfl) rfl rfl rfl ?_
  (repeat (first | refine La ?_ | refine Lb ?_ | refine Lc ?_ | refine Ld ?_ | refine Le ?_ | refine Lf ?_ | refine Lg ?_ | apply LW.nil | apply QW.then_n | apply QW.round | apply RW.succ | apply CW.seq | apply CW.region | apply CW.skip | apply CW.block | apply CW.ret | apply CW.exit | apply QW.then_ret | apply QW.then_exit | apply QW.blk_n | apply QW.blk_ret | apply QW.blk_exit | refine Ca ?_ | refine Cb ?_ | refine Cc ?_ | refine Lh ?_ | refine Li ?_ | refine Lj ?_ | refine Lk ?_ | refine Ll ?_))
  refine LW.know (t := 65) (c := false) rfl (by simp; omega) ?_
  (repeat (first | refine La ?_ | refine Lb ?_ | refine Lc ?_ | refine Ld ?_ | refine Le ?_ | refine Lf ?_ | refine Lg ?_ | apply LW.nil | apply QW.then_n | apply QW.round | apply RW.succ | apply CW.seq | apply CW.region | apply CW.skip | apply CW.block | apply CW.ret | apply CW.exit | apply QW.then_ret | apply QW.then_exit | apply QW.blk_n | apply QW.blk_ret | apply QW.blk_exit | refine Ca ?_ | refine Cb ?_ | refine Cc ?_ | refine Lh ?_ | refine Li ?_ | refine Lj ?_ | refine Lk ?_ | refine Ll ?_))
  refine LW.idx_slice (j := i * 14) rfl rfl rfl rfl rfl (by omega) (by omega) (by show 0 + _ * 14 = _; omega) rfl ?_
  (repeat (first | refine La ?_ | refine Lb ?_ | refine Lc ?_ | refine Ld ?_ | refine Le ?_ | refine Lf ?_ | refine Lg ?_ | apply LW.nil | apply QW.then_n | apply QW.round | apply RW.succ | apply CW.seq | apply CW.region | apply CW.skip | apply CW.block | apply CW.ret | apply CW.exit | apply QW.then_ret | apply QW.then_exit | apply QW.blk_n | apply QW.blk_ret | apply QW.blk_exit | refine Ca ?_ | refine Cb ?_ | refine Cc ?_ | refine Lh ?_ | refine Li ?_ | refine Lj ?_ | refine Lk ?_ | refine Ll ?_))
  refine LW.load rfl hB ((hfl 2 (by omega)).trans rfl) rfl rfl rfl ?_
  (repeat (first | refine La ?_ | refine Lb ?_ | refine Lc ?_ | refine Ld ?_ | refine Le ?_ | refine Lf ?_ | refine Lg ?_ | apply LW.nil | apply QW.then_n | apply QW.round | apply RW.succ | apply CW.seq | apply CW.region | apply CW.skip | apply CW.block | apply CW.ret | apply CW.exit | apply QW.then_ret | apply QW.then_exit | apply QW.blk_n | apply QW.blk_ret | apply QW.blk_exit | refine Ca ?_ | refine Cb ?_ | refine Cc ?_ | refine Lh ?_ | refine Li ?_ | refine Lj ?_ | refine Lk ?_ | refine Ll ?_))
  refine CW.no rfl (by simp [htext]) ?_
  (repeat (first | refine La ?_ | refine Lb ?_ | refine Lc ?_ | refine Ld ?_ | refine Le ?_ | refine Lf ?_ | refine Lg ?_ | apply LW.nil | apply QW.then_n | apply QW.round | apply RW.succ | apply CW.seq | apply CW.region | apply CW.skip | apply CW.block | apply CW.ret | apply CW.exit | apply QW.then_ret | apply QW.then_exit | apply QW.blk_n | apply QW.blk_ret | apply QW.blk_exit | refine Ca ?_ | refine Cb ?_ | refine Cc ?_ | refine Lh ?_ | refine Li ?_ | refine Lj ?_ | refine Lk ?_ | refine Ll ?_))
  (apply LW.buildSlice; exact rfl; exact rfl; exact rfl; exact rfl; exact rfl; exact rfl; exact rfl; exact rfl; exact rfl; intro A w4 hbA hx4 hA)
  replace hA : Blk w4 A (badL.map str) 9 := hA
  replace hx4 := hx3.trans hx4
  have hbv : (badL.map str)[m]? = some (str (badL.getD m [])) := by
    have hl : badL.length = 16 := rfl
    simp [List.getD_eq_getElem?_getD, List.getElem?_eq_getElem (show m < badL.length by omega)]
  have hbl := bad_len ⟨m, hm16⟩
  have hbe := isErr_eq (all_bad ⟨m, hm16⟩)
  (repeat (first | refine La ?_ | refine Lb ?_ | refine Lc ?_ | refine Ld ?_ | refine Le ?_ | refine Lf ?_ | refine Lg ?_ | apply LW.nil | apply QW.then_n | apply QW.round | apply RW.succ | apply CW.seq | apply CW.region | apply CW.skip | apply CW.block | apply CW.ret | apply CW.exit | apply QW.then_ret | apply QW.then_exit | apply QW.blk_n | apply QW.blk_ret | apply QW.blk_exit | refine Ca ?_ | refine Cb ?_ | refine Cc ?_ | refine Lh ?_ | refine Li ?_ | refine Lj ?_ | refine Lk ?_ | refine Ll ?_))
  refine LW.idx_slice (j := m) rfl rfl rfl rfl rfl (by omega) (by omega) (by show 0 + _ * 1 = _; omega) rfl ?_
  refine LW.load rfl hA hbv rfl rfl rfl ?_
  (repeat (first | refine La ?_ | refine Lb ?_ | refine Lc ?_ | refine Ld ?_ | refine Le ?_ | refine Lf ?_ | refine Lg ?_ | apply LW.nil | apply QW.then_n | apply QW.round | apply RW.succ | apply CW.seq | apply CW.region | apply CW.skip | apply CW.block | apply CW.ret | apply CW.exit | apply QW.then_ret | apply QW.then_exit | apply QW.blk_n | apply QW.blk_ret | apply QW.blk_exit | refine Ca ?_ | refine Cb ?_ | refine Cc ?_ | refine Lh ?_ | refine Li ?_ | refine Lj ?_ | refine Lk ?_ | refine Ll ?_))
  refine LW.call0 rfl rfl (Parse_ret (badL.getD m []) (by have : (badL.getD m []).length ≤ 20 := hbl; omega) w4 (g.ext hx4)) ?_
  rintro v w5 ⟨hv, hx5⟩
  have hres : v = .tuple #[.slice none 0 0, .int .i64 5] := ParseV.is hbe hv
  subst hres
  replace hx5 := hx4.trans hx5
  (repeat (first | refine La ?_ | refine Lb ?_ | refine Lc ?_ | refine Ld ?_ | refine Le ?_ | refine Lf ?_ | refine Lg ?_ | apply LW.nil | apply QW.then_n | apply QW.round | apply RW.succ | apply CW.seq | apply CW.region | apply CW.skip | apply CW.block | apply CW.ret | apply CW.exit | apply QW.then_ret | apply QW.then_exit | apply QW.blk_n | apply QW.blk_ret | apply QW.blk_exit | refine Ca ?_ | refine Cb ?_ | refine Cc ?_ | refine Lh ?_ | refine Li ?_ | refine Lj ?_ | refine Lk ?_ | refine Ll ?_))
  refine LW.call0 rfl rfl (Num_ret 5 w5) ?_
  rintro v w6 ⟨rfl, hx6⟩
  (repeat (first | refine La ?_ | refine Lb ?_ | refine Lc ?_ | refine Ld ?_ | refine Le ?_ | refine Lf ?_ | refine Lg ?_ | apply LW.nil | apply QW.then_n | apply QW.round | apply RW.succ | apply CW.seq | apply CW.region | apply CW.skip | apply CW.block | apply CW.ret | apply CW.exit | apply QW.then_ret | apply QW.then_exit | apply QW.blk_n | apply QW.blk_ret | apply QW.blk_exit | refine Ca ?_ | refine Cb ?_ | refine Cc ?_ | refine Lh ?_ | refine Li ?_ | refine Lj ?_ | refine Lk ?_ | refine Ll ?_))
  refine LW.call0 rfl rfl (awake5_ret w6 (g.ext (hx5.trans hx6))) ?_
  rintro v w7 ⟨rfl, hx7⟩
  (repeat (first | refine La ?_ | refine Lb ?_ | refine Lc ?_ | refine Ld ?_ | refine Le ?_ | refine Lf ?_ | refine Lg ?_ | apply LW.nil | apply QW.then_n | apply QW.round | apply RW.succ | apply CW.seq | apply CW.region | apply CW.skip | apply CW.block | apply CW.ret | apply CW.exit | apply QW.then_ret | apply QW.then_exit | apply QW.blk_n | apply QW.blk_ret | apply QW.blk_exit | refine Ca ?_ | refine Cb ?_ | refine Cc ?_ | refine Lh ?_ | refine Li ?_ | refine Lj ?_ | refine Lk ?_ | refine Ll ?_))
  exact QW.body1 Tryd.results11 rfl ⟨rfl, (hx5.trans hx6).trans hx7⟩
end Go.Proofs.YtfpklhgkndnjjaaDoor
