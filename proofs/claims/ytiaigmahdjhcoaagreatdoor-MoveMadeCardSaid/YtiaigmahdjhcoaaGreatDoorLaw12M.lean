/-
 Walks: the law MoveMade.
-/
import Derived.Test.YtiaigmahdjhcoaaGreatDoorMovN
namespace Go.Proofs.YtiaigmahdjhcoaaGreatDoor
open Go Go.E

set_option maxHeartbeats 4000000 in
theorem MoveMade_ret (ns ms : List Int) (vn : Value) (mp : Option Addr) (mc : Nat) (wh : Int) (w : World) (g : Glob w) (hin : InS .u8 w vn ns) (hb : ∀ z ∈ ns, 0 ≤ z ∧ z ≤ 255) (hin2 : InS .u8 w (.slice mp ms.length mc) ms) (hcap : ms.length ≤ mc) (hb2 : ∀ z ∈ ms, 0 ≤ z ∧ z ≤ 255) (h0 : 0 ≤ wh) (h1 : wh ≤ 255) : Ret Tryz.prog 7 [vn, .slice mp ms.length mc, .int .u8 wh] w (fun v w' => v = .bool true ∧ Ext w w') := by
 obtain ⟨np, nc, rfl⟩ := hin.slice
 have hnl := hin.1
 have hml := hin2.1
 refine Ret.enter Tryz.func7 rfl Tryz.ntmps7 (by kernel_rfl) rfl ?_
 refine Sa ?_
 by_cases a1 : (40 : Int) < (ns.length : Int)
 ·refine LW.know (t := 14) (c := true) rfl (decide_eq_true a1) ?_
  have hx0 := Chg.refl [] w
  refine Sa ?_
  refine LW.call0 rfl rfl (awake12_ret _ (g.ext hx0)) ?_
  rintro v w20 ⟨rfl, hx20⟩
  refine Sa ?_
  exact QW.body1 Tryz.results7 rfl ⟨rfl, hx0.trans hx20⟩
 refine LW.know (t := 14) (c := false) rfl (decide_eq_false a1) ?_
 refine Sa ?_
 refine Cwc (fun a2 => ?_) fun a2 => ?_
 ·have hx0 := Chg.refl [] w
  refine Sa ?_
  refine LW.call0 rfl rfl (awake12_ret _ (g.ext hx0)) ?_
  rintro v w20 ⟨rfl, hx20⟩
  refine Sa ?_
  exact QW.body1 Tryz.results7 rfl ⟨rfl, hx0.trans hx20⟩
 have a2 : ¬ (60 : Int) < (ms.length : Int) := by simpa using a2
 refine Sa ?_
 refine LW.call0 rfl rfl (Made_ret ns _ w hin hb) ?_
 rintro v w1 ⟨l, ⟨hN, hsh, hno, hk, _, ht, _, _⟩, hx1⟩
 obtain ⟨f1, f2, f3, f4⟩ := made_facts hsh hno hN.1 ht
 refine Sa ?_
 refine LW.call0 rfl rfl (Shifts_ret ms mp mc wh w1 (hin2.ext hx1) hcap hb2 (by omega) h0 h1) ?_
 rintro sv w2 ⟨⟨ss, hR, hmay⟩, hx2⟩
 have hx2' := hx1.trans hx2
 replace hN := hN.ext hx2
 refine Sa ?_
 refine LW.call0 rfl rfl (rPrint_ret l v w2 hN hsh (fun n hn => by have := hk n hn; omega) hno) ?_
 rintro v2 w3 ⟨rfl, hx3⟩
 replace hN := hN.ext hx3
 replace hR := hR.ext hx3
 have hx3' := hx2'.trans hx3
 have htl : ([61] ++ printT l).length ≤ 9223372036854775807 := by simp; omega
 obtain ⟨own, hown⟩ : ∃ x, ([str [65], str [66], str [67]] : List Value)[(wh % 3).toNat]? = some (str x) := by
  have : wh % 3 = 0 ∨ wh % 3 = 1 ∨ wh % 3 = 2 := by omega
  rcases this with h | h | h <;> rw [h] <;> exact ⟨_, rfl⟩
 refine Sa ?_
 clear f1 f2 f3 f4
 generalize [61] ++ printT l = t at htl
 refine Lwl fun B w4 hbB hx4 hB => ?_
 replace hB : Blk w4 B [str [65], str [66], str [67]] 9 := hB
 replace hN := hN.ext hx4
 replace hR := hR.ext hx4
 have hx4' := hx3'.trans hx4
 refine Sa ?_
 refine LW.idx_slice (j := (wh % 3).toNat) rfl rfl rfl rfl rfl (by omega) (by omega) (by show 0 + (wh % 3).toNat * 1 = (wh % 3).toNat; omega) rfl ?_
 refine LW.load rfl hB hown rfl rfl rfl ?_
 refine Sa ?_
 refine LW.call0 rfl rfl (Nodes_ret l _ own ss _ w4 (g.ext hx4') hN hsh.t hR (fun s hs => May.fine (hmay s hs))) ?_
 rintro v2 w5 ⟨hN5, hx5⟩
 replace hN := hN.ext hx5
 replace hR := hR.ext hx5
 have hx5' := hx4'.trans hx5
 refine Sa ?_
 refine LW.call0 rfl rfl (rNodes_ret l _ own ss _ w5 hN hsh.t (fun n hn => by have := hk n hn; omega) hR hmay) ?_
 rw [← moveL_eq hmay l]
 rintro v3 w6 ⟨hN6, hx6⟩
 replace hR := hR.ext hx6
 have hx6' := hx5'.trans hx6
 refine Sa ?_
 refine LW.call0 rfl rfl (SameNodes_ret _ _ v2 v3 w6 (hN5.ext hx6) hN6) ?_
 rintro v4 w7 ⟨rfl, hx7⟩
 replace hR := hR.ext hx7
 have hx7' := hx6'.trans hx7
 refine Sa ?_
 refine LW.know (t := 42) (c := true) rfl (by simp) ?_
 refine Sa ?_
 refine LW.call0 rfl rfl (mvText_ret t own ss _ htl w7 (g.ext hx7') hR hmay) ?_
 rintro v4 w8 ⟨rfl, hx8⟩
 replace hR := hR.ext hx8
 have hx8' := hx7'.trans hx8
 refine Sa ?_
 refine LW.call0 rfl rfl (rmvText_ret t own ss _ htl w8 hR hmay) ?_
 rintro v4 w9 ⟨rfl, hx9⟩
 have hx9' := hx8'.trans hx9
 refine Sa ?_
 refine LW.know (t := 53) (c := true) rfl (by simp) ?_
 refine Sa ?_
 refine LW.call0 rfl rfl (awake12_ret w9 (g.ext hx9')) ?_
 rintro v4 w10 ⟨rfl, hx10⟩
 refine Sa ?_
 exact QW.body1 Tryz.results7 rfl ⟨rfl, hx9'.trans hx10⟩
end Go.Proofs.YtiaigmahdjhcoaaGreatDoor
