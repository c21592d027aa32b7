/-
 Walks: the law MoveStays.
-/
import Derived.Test.YtiaigmahdjhcoaaGreatDoorPkH
namespace Go.Proofs.YtiaigmahdjhcoaaGreatDoor
open Go Go.E

def zeroM : MapD := ⟨[], 0⟩
theorem zero_may : mayM zeroM = true := by decide
def stillS (n m : Nat) : List ShD := [⟨[65], sameM n, sameM m, false⟩, ⟨[84], sameM m, sameM 2, false⟩]
def otherS : List ShD := [⟨[81], zeroM, zeroM, true⟩, ⟨[82], delX 5 1, insX 3 0, false⟩]
def goneS : List ShD := [⟨[65], zeroM, zeroM, true⟩]
theorem still_may {n m : Nat} (hn : n ≤ 255) (hm : m ≤ 255) : ∀ s ∈ stillS n m, s.May := fun s hs => by
 simp only [stillS, List.mem_cons, List.not_mem_nil, or_false] at hs
 rcases hs with rfl | rfl
 ·exact ⟨same_may (by omega), same_may (by omega)⟩
 ·exact ⟨same_may (by omega), same_may (by omega)⟩
theorem other_may : ∀ s ∈ otherS, s.May := fun s hs => by
 simp only [otherS, List.mem_cons, List.not_mem_nil, or_false] at hs
 rcases hs with rfl | rfl
 ·exact ⟨zero_may, zero_may⟩
 ·exact ⟨delX_may (by omega), insX_may (by omega)⟩
theorem gone_may : ∀ s ∈ goneS, s.May := fun s hs => by
 simp only [goneS, List.mem_singleton] at hs
 subst hs
 exact ⟨zero_may, zero_may⟩
theorem still_idle {n m : Nat} (hn : n ≤ 255) (hm : m ≤ 255) {l : List NodeD} (hp : ∀ x ∈ l, plainB x = true) (own : List UInt8) : Idle (stillS n m) l own := fun x hx hk s hf => by
 have hs := (findS_mem hf).1
 simp only [stillS, List.mem_cons, List.not_mem_nil, or_false] at hs
 rcases hs with rfl | rfl
 ·exact goN_same (a := n) (b := m) (by omega) (by omega) rfl rfl rfl (hp x hx) hk
 ·exact goN_same (a := m) (b := 2) (by omega) (by omega) rfl rfl rfl (hp x hx) hk
theorem other_idle {l : List NodeD} (h : ∀ n ∈ l, n.ref.sheet = [] ∨ n.ref.sheet = [84]) : Idle otherS l [65] := fun x hx hk s hf => by
 exfalso
 have : findS otherS (ownN [65] x) = none := by
  unfold ownN
  rcases h x hx with e | e
  ·rw [if_pos e]; rfl
  ·rw [if_neg (by rw [e]; simp), e]; rfl
 rw [this] at hf
 cases hf

set_option maxHeartbeats 4000000 in
theorem MoveStays_ret (ns : List Int) (vn : Value) (n m : Int) (s : List UInt8) (hs : s.length ≤ 9223372036854775807) (w : World) (g : Glob w) (hin : InS .u8 w vn ns) (hb : ∀ z ∈ ns, 0 ≤ z ∧ z ≤ 255) (n0 : 0 ≤ n) (n1 : n ≤ 255) (m0 : 0 ≤ m) (m1 : m ≤ 255) : Ret Tryz.prog 8 [vn, .int .u8 n, .int .u8 m, str s] w (fun v w' => v = .bool true ∧ Ext w w') := by
 obtain ⟨np, nc, rfl⟩ := hin.slice
 have hnl := hin.1
 obtain ⟨N, rfl⟩ := Int.eq_ofNat_of_zero_le n0
 obtain ⟨M, rfl⟩ := Int.eq_ofNat_of_zero_le m0
 refine Ret.enter Tryz.func8 rfl Tryz.ntmps8 (by kernel_rfl) rfl ?_
 refine Sa ?_
 by_cases a1 : (30 : Int) < (ns.length : Int)
 ·refine LW.know (t := 16) (c := true) rfl (decide_eq_true a1) ?_
  have hx0 := Chg.refl [] w
  refine Sa ?_
  refine LW.call0 rfl rfl (awake12_ret _ (g.ext hx0)) ?_
  rintro v w20 ⟨rfl, hx20⟩
  refine Sa ?_
  exact QW.body1 Tryz.results8 rfl ⟨rfl, hx0.trans hx20⟩
 refine LW.know (t := 16) (c := false) rfl (decide_eq_false a1) ?_
 refine Sa ?_
 refine Cwc (fun a2 => ?_) fun a2 => ?_
 ·have hx0 := Chg.refl [] w
  refine Sa ?_
  refine LW.call0 rfl rfl (awake12_ret _ (g.ext hx0)) ?_
  rintro v w20 ⟨rfl, hx20⟩
  refine Sa ?_
  exact QW.body1 Tryz.results8 rfl ⟨rfl, hx0.trans hx20⟩
 have a2 : ¬ (300 : Int) < (s.length : Int) := by simpa using a2
 refine Sa ?_
 refine LW.call0 rfl rfl (Made_ret ns _ w hin hb) ?_
 rintro v w1 ⟨l, ⟨hN, hsh, hno, hk, _, ht, _, hst⟩, hx1⟩
 obtain ⟨f1, f2, f3, f4⟩ := made_facts hsh hno hN.1 ht
 refine Sa ?_
 refine LW.call0 rfl rfl (rPrint_ret l v w1 hN hsh (fun n hn => by have := hk n hn; omega) hno) ?_
 rintro v2 w2 ⟨rfl, hx2⟩
 have hx2' := hx1.trans hx2
 have htl : ([61] ++ printT l).length = (printT l).length + 1 := by simp
 refine Sa ?_
 refine LW.call0 rfl rfl (rMayCell_ret ([61] ++ printT l) (by omega) w2) ?_
 rintro v2 w3 ⟨rfl, hx3⟩
 have hx3' := hx2'.trans hx3
 cases hm : mayC ([61] ++ printT l) with
 | false =>
  have hx0 := hx3'
  refine Sa ?_
  refine LW.call0 rfl rfl (awake12_ret _ (g.ext hx0)) ?_
  rintro v w20 ⟨rfl, hx20⟩
  refine Sa ?_
  exact QW.body1 Tryz.results8 rfl ⟨rfl, hx0.trans hx20⟩
 | true =>
 have hdrop : ([61] ++ printT l).drop 1 = printT l := rfl
 have hform : ∀ k, parseT (([61] ++ printT l).drop 1) = .ok k → k = l := fun k hp => (f4 k hp).symm
 have hpl : ∀ k, parseT (([61] ++ printT l).drop 1) = .ok k → ∀ x ∈ k, plainB x = true := fun k hp => tree_plain (parse_facts hp).2.1
 have q1 : moveTx [65] [] ([61] ++ printT l) = [61] ++ printT l := moveTx_idle hm (fun k hp x hx hk s hf => by cases hf)
 have q2 : moveTx [65] (stillS N M) ([61] ++ printT l) = [61] ++ printT l := moveTx_idle hm (fun k hp => still_idle (by omega) (by omega) (hpl k hp) _)
 have q3 : moveTx [65] otherS ([61] ++ printT l) = [61] ++ printT l := moveTx_idle hm (fun k hp => by rw [hform k hp]; exact other_idle hst)
 have q4 : moveTx [65] goneS ([39] ++ s) = [39] ++ s := moveTx_not (.inr (.inl (by show (39 : Int) ≠ 61; decide)))
 have hll : ([61] ++ printT l).length ≤ 9223372036854775807 := by omega
 have hul : ([39] ++ s).length ≤ 9223372036854775807 := by simp; omega
 clear f1 f3 f4 hform hpl hdrop htl
 generalize [61] ++ printT l = t at hm q1 q2 q3 hll
 refine Sa ?_
 refine LW.call0 rfl rfl (Same_ret N (by omega) w3) ?_
 rintro v2 w4 ⟨hv, hx4⟩
 obtain ⟨p1, c1, rfl, i1⟩ := hv.map (by simp only [sameM, rangeZ_len]; omega)
 refine Sa ?_
 refine LW.call0 rfl rfl (Same_ret M (by omega) w4) ?_
 rintro v2 w5 ⟨hv, hx5⟩
 obtain ⟨p2, c2, rfl, i2⟩ := hv.map (by simp only [sameM, rangeZ_len]; omega)
 refine Sa ?_
 refine LW.call0 rfl rfl (Same_ret M (by omega) w5) ?_
 rintro v2 w6 ⟨hv, hx6⟩
 obtain ⟨p3, c3, rfl, i3⟩ := hv.map (by simp only [sameM, rangeZ_len]; omega)
 refine Sa ?_
 refine LW.call0 rfl rfl (Same_ret 2 (by omega) w6) ?_
 rintro v2 w7 ⟨hv, hx7⟩
 obtain ⟨p4, c4, rfl, i4⟩ := hv.map (by simp only [sameM, rangeZ_len]; omega)
 refine Sa ?_
 refine Lwl fun B w8 hbB hx8 hB => ?_
 replace hB : Blk w8 B (shL ⟨[65], sameM N, sameM M, false⟩ (.slice p1 (sameM N).to.length c1) (.slice p2 (sameM M).to.length c2) ++ shL ⟨[84], sameM M, sameM 2, false⟩ (.slice p3 (sameM M).to.length c3) (.slice p4 (sameM 2).to.length c4)) 71 := hB
 have r2 : ShiftsR w8 (.slice (some ⟨B, 0, none⟩) 2 2) (stillS N M) := shifts_two hB ((((i1.ext hx5).ext hx6).ext hx7).ext hx8) (((i2.ext hx6).ext hx7).ext hx8) ((i3.ext hx7).ext hx8) (i4.ext hx8)
 have hx8' := (((((hx3'.trans hx4).trans hx5).trans hx6).trans hx7).trans hx8)
 clear i1 i2 i3 i4 hB
 refine Sa ?_
 refine LW.call0 rfl rfl (Del_ret 5 1 (by omega) w8) ?_
 rintro v2 w9 ⟨hv, hx9⟩
 obtain ⟨p5, c5, rfl, i5⟩ := hv.map (by decide)
 refine Sa ?_
 refine LW.call0 rfl rfl (Ins_ret 3 0 (by omega) w9) ?_
 rintro v2 w10 ⟨hv, hx10⟩
 obtain ⟨p6, c6, rfl, i6⟩ := hv.map (by decide)
 refine Sa ?_
 refine Lwl fun C w11 hbC hx11 hC => ?_
 replace hC : Blk w11 C (shL ⟨[81], zeroM, zeroM, true⟩ (.slice none 0 0) (.slice none 0 0) ++ shL ⟨[82], delX 5 1, insX 3 0, false⟩ (.slice p5 (delX 5 1).to.length c5) (.slice p6 (insX 3 0).to.length c6)) 71 := hC
 have hz : IntsR w11 (.slice none 0 0) zeroM.to := ⟨by simp [zeroM], .inl ⟨rfl, rfl⟩⟩
 have r3 : ShiftsR w11 (.slice (some ⟨C, 0, none⟩) 2 2) otherS := shifts_two hC hz hz ((i5.ext hx10).ext hx11) (i6.ext hx11)
 have hx811 := (hx9.trans hx10).trans hx11
 replace r2 := r2.ext hx811
 have hx11' := hx8'.trans hx811
 clear i5 i6 hC hz
 refine Sa ?_
 refine LW.call0 rfl rfl (mvText_ret t [65] [] _ hll w11 (g.ext hx11') ⟨by simp, .inl ⟨rfl, rfl⟩⟩ (by simp)) ?_
 rw [q1]
 rintro v2 w12 ⟨rfl, hx12⟩
 have hx12' := hx11'.trans hx12
 refine Sa ?_
 refine LW.know (t := 54) (c := true) rfl (by simp) ?_
 refine Sa ?_
 refine LW.call0 rfl rfl (mvText_ret t [65] (stillS N M) _ hll w12 (g.ext hx12') (r2.ext hx12) (still_may (by omega) (by omega))) ?_
 rw [q2]
 rintro v2 w13 ⟨rfl, hx13⟩
 have hx13' := hx12'.trans hx13
 refine Sa ?_
 refine LW.know (t := 61) (c := true) rfl (by simp) ?_
 refine Sa ?_
 refine LW.call0 rfl rfl (mvText_ret t [65] otherS _ hll w13 (g.ext hx13') ((r3.ext hx12).ext hx13) other_may) ?_
 rw [q3]
 rintro v2 w14 ⟨rfl, hx14⟩
 have hx14' := hx13'.trans hx14
 refine Sa ?_
 refine LW.know (t := 68) (c := true) rfl (by simp) ?_
 refine Sa ?_
 refine Lwl fun A w15 hbA hx15 hA => ?_
 replace hA : Blk w15 A (shL ⟨[65], zeroM, zeroM, true⟩ (.slice none 0 0) (.slice none 0 0)) 71 := hA
 have hz : IntsR w15 (.slice none 0 0) zeroM.to := ⟨by simp [zeroM], .inl ⟨rfl, rfl⟩⟩
 have hx15' := hx14'.trans hx15
 refine Sa ?_
 refine LW.call0 rfl rfl (mvText_ret ([39] ++ s) [65] goneS _ hul w15 (g.ext hx15') (shifts_one hA hz hz) gone_may) ?_
 rw [q4]
 rintro v2 w16 ⟨rfl, hx16⟩
 have hx16' := hx15'.trans hx16
 refine Sa ?_
 refine LW.know (t := 76) (c := true) rfl (by simp) ?_
 refine Sa ?_
 refine LW.call0 rfl rfl (awake12_ret w16 (g.ext hx16')) ?_
 rintro v2 w17 ⟨rfl, hx17⟩
 refine Sa ?_
 exact QW.body1 Tryz.results8 rfl ⟨rfl, hx16'.trans hx17⟩
end Go.Proofs.YtiaigmahdjhcoaaGreatDoor
