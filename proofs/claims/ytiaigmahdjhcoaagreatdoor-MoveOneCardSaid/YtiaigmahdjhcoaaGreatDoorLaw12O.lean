/-
 Walks: the law MoveOne.
-/
import Derived.Test.YtiaigmahdjhcoaaGreatDoorMovL
namespace Go.Proofs.YtiaigmahdjhcoaaGreatDoor
open Go Go.E

theorem one_tree {n : NodeD} (h0 : 1 ≤ n.kind) (h1 : n.kind ≤ 6) (hk : n.kids = []) (hp : plainB n = true) : treeB [n] = true := (Tr.leaf n).tree ⟨h0, h1, hk, hp⟩
theorem ref_node {r : RefD} (h : mayB r = true) : plainB { kind := 5, ref := r } = true := by
 simp only [plainB, okK, bareN, h]
 simp
theorem one_nodes {w : World} {B : Nat} {n : NodeD} {T : TypeId} (h : Blk w B (nvL ⟨n, .slice none 0 0⟩) T) (hk : n.kids = []) : NodesR w (.slice (some ⟨B, 0, none⟩) 1 1) [n] := by
 refine ⟨by simp, .inr ⟨_, 1, rfl, fun i u hi => ?_⟩⟩
 match i, hi with
 | 0, hi =>
  obtain rfl : n = u := by simpa using hi
  refine ⟨_, ⟨by simp [hk], .inl ⟨rfl, hk⟩⟩, fun j v hj => ?_⟩
  rw [Addr.add_add]
  exact h.getElem _ _ (by simpa using hj)
theorem own_one {sh : Bool} {r : RefD} (h : r.sheet = if sh then [65] else []) : ownN (if sh then [66] else [65]) { kind := 5, ref := r } = [65] := by
 unfold ownN
 cases sh with
 | true =>
  simp only [if_true] at h
  rw [if_neg (by rw [h]; simp)]
  exact h
 | false =>
  simp only [Bool.false_eq_true, if_false] at h
  rw [if_pos h]
  rfl
theorem move_one {rows cols : MapD} {r : RefD} {own : List UInt8} (ho : ownN own { kind := 5, ref := r } = [65]) (hm : mayM rows = true ∧ mayM cols = true) (hr : mayB r = true) :
  moveL goN own [⟨[65], rows, cols, false⟩] [{ kind := 5, ref := r }] = [if imgM rows r.row < 0 ∨ imgM cols r.col < 0 ∨ 998 < imgM rows r.row ∨ 701 < imgM cols r.col then deadN else { kind := 5, ref := { r with row := imgM rows r.row, col := imgM cols r.col } }] := by
 have hp := ref_node hr
 rw [moveL, if_pos (one_tree (n := { kind := 5, ref := r }) (show (1 : Int) ≤ 5 by omega) (show (5 : Int) ≤ 6 by omega) rfl hp)]
 simp only [List.map_cons, List.map_nil]
 congr 1
 rw [is56 (.inl rfl), ho]
 have hf : findS [⟨[65], rows, cols, false⟩] [65] = some ⟨[65], rows, cols, false⟩ := rfl
 rw [hf]
 simp only
 rw [goN_goD (s := ⟨[65], rows, cols, false⟩) hm hp (.inl rfl)]
 unfold goD
 rw [if_neg (by simp), if_pos rfl]
 have hiff := mayB_iff hr (imgM rows r.row) (imgM cols r.col)
 by_cases hb : mayB { r with row := imgM rows r.row, col := imgM cols r.col } = true
 ·have := hiff.1 hb
  rw [if_pos hb, if_neg (by omega)]
 ·have : ¬ _ := fun h => hb (hiff.2 h)
  rw [if_neg hb, if_pos (by omega)]

theorem cell_chg {S : List Nat} {w w' : World} (h : Chg S w w') {a : Addr} {v : Value} (hc : w.cell? a = some v) (hn : a.block ∉ S) : w'.cell? a = some v := by
 have hlt := World.block_lt_of_cell? w a hc
 unfold World.cell? at hc ⊢
 rw [h.block a.block hlt hn]
 exact hc
theorem add_block (a : Addr) (k : Nat) : (a.add k).block = a.block := by
 unfold Addr.add
 split <;> rfl
theorem one_chg {S : List Nat} {w w' : World} {v : Value} {n : NodeD} (h : NodesR w v [n]) (hk : n.kids = []) (hc : Chg S w w') (hn : ∀ b ∈ vblk v, b ∉ S) : NodesR w' v [n] := by
 obtain ⟨h0, ⟨_, e⟩ | ⟨a, cap, e, h⟩⟩ := h
 ·cases e
 refine ⟨h0, .inr ⟨a, cap, e, fun i nd hi => ?_⟩⟩
 obtain ⟨kv, hkv, hcell⟩ := h i nd hi
 have hnd : n = nd := by
  match i, hi with
  | 0, hi => simpa using hi
 refine ⟨kv, ?_, fun j u hj => cell_chg hc (hcell j u hj) ?_⟩
 ·rw [← hnd, hk] at hkv ⊢
  obtain ⟨h1, h2 | ⟨a', cap', e', _⟩⟩ := hkv
  ·exact ⟨h1, .inl h2⟩
  ·exact ⟨h1, .inr ⟨a', cap', e', fun i z hz => by simp at hz⟩⟩
 ·rw [add_block, add_block]
  exact hn _ (by rw [e]; simp [vblk])

set_option maxHeartbeats 4000000 in
theorem MoveOne_ret (ns : List Int) (vn : Value) (row col : Int) (sh : Bool) (fl : Int) (w : World) (g : Glob w) (hin : InS .u8 w vn ns) (hb : ∀ z ∈ ns, 0 ≤ z ∧ z ≤ 255) (r0 : 0 ≤ row) (r1 : row ≤ 255) (c0 : 0 ≤ col) (c1 : col ≤ 255) (f0 : 0 ≤ fl) (f1 : fl ≤ 255) : Ret Tryz.prog 9 [vn, .int .u8 row, .int .u8 col, .bool sh, .int .u8 fl] w (fun v w' => v = .bool true ∧ Ext w w') := by
 obtain ⟨np, nc, rfl⟩ := hin.slice
 have hnl := hin.1
 refine Ret.enter Tryz.func9 rfl Tryz.ntmps9 (by kernel_rfl) rfl ?_
 refine Sa ?_
 refine Cwc (fun a1 => ?_) fun a1 => ?_
 ·have hx0 := Chg.refl [] w
  refine Sa ?_
  refine LW.call0 rfl rfl (awake12_ret _ (g.ext hx0)) ?_
  rintro v w20 ⟨rfl, hx20⟩
  refine Sa ?_
  exact QW.body1 Tryz.results9 rfl ⟨rfl, hx0.trans hx20⟩
 have a1 : ¬ (60 : Int) < (ns.length : Int) := by simpa using a1
 refine Sa ?_
 refine LW.call0 rfl rfl (Make_ret ns _ w hin hb (by omega)) ?_
 rintro v w1 ⟨hv, hx1⟩
 obtain ⟨_, _, i3, _, _⟩ := make_inv ns hb ns.length (Nat.le_refl _)
 rw [List.take_length] at i3
 obtain ⟨p1, q1_, rfl, ir⟩ := hv.map (by omega)
 have hmr := make_may hb (show ns.length ≤ 100000 by omega)
 generalize makeM ns = rows at ir hmr i3
 obtain ⟨C, hC⟩ := Int.eq_ofNat_of_zero_le (show 0 ≤ col % 7 by omega)
 refine Sa ?_
 rw [hC]
 refine LW.call0 rfl rfl (Del_ret 6 C (by omega) w1) ?_
 rintro v w2 ⟨hv, hx2⟩
 obtain ⟨p2, q2, rfl, ic⟩ := hv.map (by unfold delX; split <;> simp [delM, sameM, rangeZ_len])
 have hmc := delX_may (k := 6) (a := C) (by omega)
 generalize delX 6 C = cols at ic hmc
 have hx2' := hx1.trans hx2
 replace ir := ir.ext hx2
 have hfr := mayM_fine hmr
 have hfc := mayM_fine hmc
 refine Sa ?_
 refine Lwa fun A w3 hbA hx3 hA => ?_
 refine Sa ?_
 refine Lwa fun B w4 hbB hx4 hB => ?_
 have hAlt := hA.lt
 replace hA := hA.ext hx4
 have hz3 := hx3.size
 have hz4 := hx4.size
 refine Sa ?_
 refine Lws fun w5 hc5 hA => ?_
 replace hA : Blk w5 A [.slice p1 rows.to.length q1_, .int .i64 rows.new] 68 := hA
 replace hB := hB.chg hc5 (by simp; omega)
 refine Sa ?_
 refine Lws fun w6 hc6 hB => ?_
 replace hB : Blk w6 B [.slice p2 cols.to.length q2, .int .i64 cols.new] 68 := hB
 replace hA := hA.chg hc6 (by simp; omega)
 have hx6 : Ext w2 w6 := ((hx3.trans hx4).step hc5 (by simp; omega)).step hc6 (by simp; omega)
 have hz6 := hx6.size
 clear hc5 hc6 hx3 hx4 hbA hbB hAlt hz3 hz4
 refine Sa ?_
 refine Lwa fun R w7 hbR hx7 hR => ?_
 have hAlt := hA.lt
 have hBlt := hB.lt
 replace hA := hA.ext hx7
 replace hB := hB.ext hx7
 refine Sa ?_
 refine Lws fun w8 hc8 hR => ?_
 replace hA := hA.chg hc8 (by simp; omega)
 replace hB := hB.chg hc8 (by simp; omega)
 have hx8 : Ext w2 w8 := (hx6.trans hx7).step hc8 (by simp; omega)
 have hRw : w2.heap.size ≤ R := by omega
 have hRA : A ≠ R := by omega
 have hRB : B ≠ R := by omega
 clear hc8 hx7 hbR hAlt hBlt hz6 hx6
 obtain ⟨r0, hr0⟩ : ∃ r : RefD, r = ⟨[], col % 9, row % 70, decide (1 < fl % 4), decide (0 < fl % 2)⟩ := ⟨_, rfl⟩
 replace hR : Blk w8 R (refL r0) 54 := by rw [hr0]; exact hR
 have q0 : 0 ≤ r0.row ∧ r0.row ≤ 69 ∧ 0 ≤ r0.col ∧ r0.col ≤ 8 ∧ r0.sheet = [] := by
  rw [hr0]
  exact ⟨by show 0 ≤ row % 70; omega, by show row % 70 ≤ 69; omega, by show 0 ≤ col % 9; omega, by show col % 9 ≤ 8; omega, rfl⟩
 clear hr0
 refine Sa ?_
 cases sh with
 | true =>
  refine Sa ?_
  refine Lwt fun w9 hc9 hR => ?_
  replace hR : Blk w9 R (refL { r0 with sheet := [65] }) 54 := hR
  replace hA := hA.chg hc9 (by simpa using hRA)
  replace hB := hB.chg hc9 (by simpa using hRB)
  have hx9 : Ext w2 w9 := hx8.step hc9 (by simpa using hRw)
  have q1 : 0 ≤ ({ r0 with sheet := [65] } : RefD).row ∧ ({ r0 with sheet := [65] } : RefD).row ≤ 69 ∧ 0 ≤ ({ r0 with sheet := [65] } : RefD).col ∧ ({ r0 with sheet := [65] } : RefD).col ≤ 8 ∧ ({ r0 with sheet := [65] } : RefD).sheet = [65] := ⟨q0.1, q0.2.1, q0.2.2.1, q0.2.2.2.1, rfl⟩
  generalize ({ r0 with sheet := [65] } : RefD) = r at hR q1
  have hown : ownN [66] { kind := 5, ref := r } = [65] := own_one (sh := true) q1.2.2.2.2
  have hmr5 : mayB r = true := by
   simp only [mayB, q1.2.2.2.2, Bool.and_eq_true, decide_eq_true_eq, Bool.or_eq_true]
   exact ⟨⟨⟨⟨.inr (by decide +kernel), by omega⟩, by omega⟩, by omega⟩, by omega⟩
  clear hc9 q0
  refine Sa ?_
  refine Lwl fun N w10 hbN hx10 hN => ?_
  replace hN : Blk w10 N (nvL ⟨{ kind := 5, ref := r }, .slice none 0 0⟩) 57 := hN
  replace hA := hA.ext hx10
  replace hB := hB.ext hx10
  replace hR := hR.ext hx10
  have hx10' := hx9.trans hx10
  refine Sa ?_
  refine Lwl fun S w11 hbS hx11 hS => ?_
  replace hS : Blk w11 S (shL ⟨[65], rows, cols, false⟩ (.slice p1 rows.to.length q1_) (.slice p2 cols.to.length q2)) 71 := hS
  replace hA := hA.ext hx11
  replace hB := hB.ext hx11
  replace hR := hR.ext hx11
  replace hN := hN.ext hx11
  have hx11' := hx10'.trans hx11
  have g11 := g.ext (hx2'.trans hx11')
  have hmay : ∀ s ∈ [(⟨[65], rows, cols, false⟩ : ShD)], s.May := fun s hs => by
   simp only [List.mem_singleton] at hs
   subst hs
   exact ⟨hmr, hmc⟩
  have hsl : r.sheet.length ≤ 1000 := by rw [q1.2.2.2.2]; decide
  refine Sa ?_
  refine LW.call0 rfl rfl (Nodes_new [{ kind := 5, ref := r }] _ _ [⟨[65], rows, cols, false⟩] _ w11 g11 (one_nodes hN rfl) (fun n hn => by
   simp only [List.mem_singleton] at hn
   subst hn
   exact ⟨by simp, by show r.sheet.length ≤ _; omega, by simp [refN]⟩) (shifts_one hS (ir.ext hx11') (ic.ext hx11')) (fun s hs => May.fine (hmay s hs))) ?_
  rw [move_one hown ⟨hmr, hmc⟩ hmr5]
  rintro v w12 ⟨⟨hL, hLf⟩, hx12⟩
  have hRlt := hR.lt
  replace hA := hA.ext hx12
  replace hB := hB.ext hx12
  replace hR := hR.ext hx12
  have hx12' := hx11'.trans hx12
  obtain ⟨lp, lc, rfl⟩ := hL.slice
  refine Sa ?_
  refine CW.draw (by kernel_rfl) (by kernel_rfl) ?_
  refine Sq ?_
  refine QL.call0 (v := .int .i64 (imgM rows r.row)) rfl rfl (fun w' hw => rImage_ret rows hfr _ r.row (by omega) w' ⟨_, rfl, ir.ext (hx12'.trans hw)⟩) ?_
  refine Sq ?_
  refine QL.call0 (v := .int .i64 (imgM cols r.col)) rfl rfl (fun w' hw => rImage_ret cols hfc _ r.col (by omega) w' ⟨_, rfl, ic.ext (hx12'.trans hw)⟩) ?_
  refine Sq ?_
  refine QL.nil fun w13 hx13 => ?_
  replace hR := hR.ext hx13
  replace hL := hL.ext hx13
  have hx13' := hx12'.trans hx13
  have hx13w := hx2'.trans hx13'
  generalize imgM rows r.row = x at hL ⊢
  generalize imgM cols r.col = y at hL ⊢
  refine Sa ?_
  by_cases b1 : x < 0
  ·rw [if_pos (.inl b1)] at hL
   refine LW.know (t := 65) (c := true) rfl (decide_eq_true b1) ?_
   refine Sa ?_
   refine Lwl fun V w16 hbV hx16 hV => ?_
   replace hV : Blk w16 V (nvL ⟨deadN, .slice none 0 0⟩) 57 := hV
   refine Sa ?_
   refine LW.call0 rfl rfl (SameNodes_ret _ _ _ _ w16 (hL.ext hx16) (one_nodes hV rfl)) ?_
   rintro v w17 ⟨rfl, hx17⟩
   have hx17' := (hx13w.trans hx16).trans hx17
   refine Sa ?_
   refine LW.know (t := 81) (c := true) rfl (by simp) ?_
   refine Sa ?_
   refine LW.call0 rfl rfl (awake12_ret w17 (g.ext hx17')) ?_
   rintro v w18 ⟨rfl, hx18⟩
   refine Sa ?_
   exact QW.body1 Tryz.results9 rfl ⟨rfl, hx17'.trans hx18⟩
  refine LW.know (t := 65) (c := false) rfl (decide_eq_false b1) ?_
  refine Sa ?_
  by_cases b2 : y < 0
  ·rw [if_pos (.inr (.inl b2))] at hL
   refine LW.know (t := 69) (c := true) rfl (decide_eq_true b2) ?_
   refine Sa ?_
   refine Lwl fun V w16 hbV hx16 hV => ?_
   replace hV : Blk w16 V (nvL ⟨deadN, .slice none 0 0⟩) 57 := hV
   refine Sa ?_
   refine LW.call0 rfl rfl (SameNodes_ret _ _ _ _ w16 (hL.ext hx16) (one_nodes hV rfl)) ?_
   rintro v w17 ⟨rfl, hx17⟩
   have hx17' := (hx13w.trans hx16).trans hx17
   refine Sa ?_
   refine LW.know (t := 81) (c := true) rfl (by simp) ?_
   refine Sa ?_
   refine LW.call0 rfl rfl (awake12_ret w17 (g.ext hx17')) ?_
   rintro v w18 ⟨rfl, hx18⟩
   refine Sa ?_
   exact QW.body1 Tryz.results9 rfl ⟨rfl, hx17'.trans hx18⟩
  refine LW.know (t := 69) (c := false) rfl (decide_eq_false b2) ?_
  refine Sa ?_
  by_cases b3 : 998 < x
  ·rw [if_pos (.inr (.inr (.inl b3)))] at hL
   refine LW.know (t := 73) (c := true) rfl (decide_eq_true b3) ?_
   refine Sa ?_
   refine Lwl fun V w16 hbV hx16 hV => ?_
   replace hV : Blk w16 V (nvL ⟨deadN, .slice none 0 0⟩) 57 := hV
   refine Sa ?_
   refine LW.call0 rfl rfl (SameNodes_ret _ _ _ _ w16 (hL.ext hx16) (one_nodes hV rfl)) ?_
   rintro v w17 ⟨rfl, hx17⟩
   have hx17' := (hx13w.trans hx16).trans hx17
   refine Sa ?_
   refine LW.know (t := 81) (c := true) rfl (by simp) ?_
   refine Sa ?_
   refine LW.call0 rfl rfl (awake12_ret w17 (g.ext hx17')) ?_
   rintro v w18 ⟨rfl, hx18⟩
   refine Sa ?_
   exact QW.body1 Tryz.results9 rfl ⟨rfl, hx17'.trans hx18⟩
  refine LW.know (t := 73) (c := false) rfl (decide_eq_false b3) ?_
  refine Sa ?_
  refine Cwc (fun b4 => ?_) fun b4 => ?_
  ·have b4 : 701 < y := by simpa using b4
   rw [if_pos (.inr (.inr (.inr b4)))] at hL
   refine Sa ?_
   refine Lwl fun V w16 hbV hx16 hV => ?_
   replace hV : Blk w16 V (nvL ⟨deadN, .slice none 0 0⟩) 57 := hV
   refine Sa ?_
   refine LW.call0 rfl rfl (SameNodes_ret _ _ _ _ w16 (hL.ext hx16) (one_nodes hV rfl)) ?_
   rintro v w17 ⟨rfl, hx17⟩
   have hx17' := (hx13w.trans hx16).trans hx17
   refine Sa ?_
   refine LW.know (t := 81) (c := true) rfl (by simp) ?_
   refine Sa ?_
   refine LW.call0 rfl rfl (awake12_ret w17 (g.ext hx17')) ?_
   rintro v w18 ⟨rfl, hx18⟩
   refine Sa ?_
   exact QW.body1 Tryz.results9 rfl ⟨rfl, hx17'.trans hx18⟩
  have b4 : ¬ 701 < y := by simpa using b4
  rw [if_neg (by omega)] at hL
  refine Sa ?_
  refine Lwt fun w14 hc14 hR => ?_
  refine Sa ?_
  refine Lwt fun w15 hc15 hR => ?_
  replace hR : Blk w15 R (refL { r with row := x, col := y }) 54 := hR
  have hc1315 : Chg [R] w13 w15 := hc14.same hc15
  replace hL := one_chg hL rfl hc1315 (fun b hb => by have := hLf b hb; simp; omega)
  have hx15 : Ext w2 w15 := hx13'.step hc1315 (by simpa using hRw)
  have hx15' := hx2'.trans hx15
  refine Sa ?_
  refine Lwl fun V w16 hbV hx16 hV => ?_
  replace hV : Blk w16 V (nvL ⟨{ kind := 5, ref := { r with row := x, col := y } }, .slice none 0 0⟩) 57 := hV
  refine Sa ?_
  refine LW.call0 rfl rfl (SameNodes_ret _ _ _ _ w16 (hL.ext hx16) (one_nodes hV rfl)) ?_
  rintro v w17 ⟨rfl, hx17⟩
  have hx17' := (hx15'.trans hx16).trans hx17
  refine Sa ?_
  refine LW.know (t := 93) (c := true) rfl (by simp) ?_
  refine Sa ?_
  refine LW.call0 rfl rfl (awake12_ret w17 (g.ext hx17')) ?_
  rintro v w18 ⟨rfl, hx18⟩
  refine Sa ?_
  exact QW.body1 Tryz.results9 rfl ⟨rfl, hx17'.trans hx18⟩
 | false =>
  have hx9 := hx8
  have q1 := q0
  have hown : ownN [65] { kind := 5, ref := r0 } = [65] := own_one (sh := false) q0.2.2.2.2
  have hmr5 : mayB r0 = true := by
   simp only [mayB, q1.2.2.2.2, Bool.and_eq_true, decide_eq_true_eq, Bool.or_eq_true]
   exact ⟨⟨⟨⟨.inl trivial, by omega⟩, by omega⟩, by omega⟩, by omega⟩
  generalize r0 = r at hR q1 hown hmr5
  clear q0
  refine Sa ?_
  refine Lwl fun N w10 hbN hx10 hN => ?_
  replace hN : Blk w10 N (nvL ⟨{ kind := 5, ref := r }, .slice none 0 0⟩) 57 := hN
  replace hA := hA.ext hx10
  replace hB := hB.ext hx10
  replace hR := hR.ext hx10
  have hx10' := hx9.trans hx10
  refine Sa ?_
  refine Lwl fun S w11 hbS hx11 hS => ?_
  replace hS : Blk w11 S (shL ⟨[65], rows, cols, false⟩ (.slice p1 rows.to.length q1_) (.slice p2 cols.to.length q2)) 71 := hS
  replace hA := hA.ext hx11
  replace hB := hB.ext hx11
  replace hR := hR.ext hx11
  replace hN := hN.ext hx11
  have hx11' := hx10'.trans hx11
  have g11 := g.ext (hx2'.trans hx11')
  have hmay : ∀ s ∈ [(⟨[65], rows, cols, false⟩ : ShD)], s.May := fun s hs => by
   simp only [List.mem_singleton] at hs
   subst hs
   exact ⟨hmr, hmc⟩
  have hsl : r.sheet.length ≤ 1000 := by rw [q1.2.2.2.2]; decide
  refine Sa ?_
  refine LW.call0 rfl rfl (Nodes_new [{ kind := 5, ref := r }] _ _ [⟨[65], rows, cols, false⟩] _ w11 g11 (one_nodes hN rfl) (fun n hn => by
   simp only [List.mem_singleton] at hn
   subst hn
   exact ⟨by simp, by show r.sheet.length ≤ _; omega, by simp [refN]⟩) (shifts_one hS (ir.ext hx11') (ic.ext hx11')) (fun s hs => May.fine (hmay s hs))) ?_
  rw [move_one hown ⟨hmr, hmc⟩ hmr5]
  rintro v w12 ⟨⟨hL, hLf⟩, hx12⟩
  have hRlt := hR.lt
  replace hA := hA.ext hx12
  replace hB := hB.ext hx12
  replace hR := hR.ext hx12
  have hx12' := hx11'.trans hx12
  obtain ⟨lp, lc, rfl⟩ := hL.slice
  refine Sa ?_
  refine CW.draw (by kernel_rfl) (by kernel_rfl) ?_
  refine Sq ?_
  refine QL.call0 (v := .int .i64 (imgM rows r.row)) rfl rfl (fun w' hw => rImage_ret rows hfr _ r.row (by omega) w' ⟨_, rfl, ir.ext (hx12'.trans hw)⟩) ?_
  refine Sq ?_
  refine QL.call0 (v := .int .i64 (imgM cols r.col)) rfl rfl (fun w' hw => rImage_ret cols hfc _ r.col (by omega) w' ⟨_, rfl, ic.ext (hx12'.trans hw)⟩) ?_
  refine Sq ?_
  refine QL.nil fun w13 hx13 => ?_
  replace hR := hR.ext hx13
  replace hL := hL.ext hx13
  have hx13' := hx12'.trans hx13
  have hx13w := hx2'.trans hx13'
  generalize imgM rows r.row = x at hL ⊢
  generalize imgM cols r.col = y at hL ⊢
  refine Sa ?_
  by_cases b1 : x < 0
  ·rw [if_pos (.inl b1)] at hL
   refine LW.know (t := 65) (c := true) rfl (decide_eq_true b1) ?_
   refine Sa ?_
   refine Lwl fun V w16 hbV hx16 hV => ?_
   replace hV : Blk w16 V (nvL ⟨deadN, .slice none 0 0⟩) 57 := hV
   refine Sa ?_
   refine LW.call0 rfl rfl (SameNodes_ret _ _ _ _ w16 (hL.ext hx16) (one_nodes hV rfl)) ?_
   rintro v w17 ⟨rfl, hx17⟩
   have hx17' := (hx13w.trans hx16).trans hx17
   refine Sa ?_
   refine LW.know (t := 81) (c := true) rfl (by simp) ?_
   refine Sa ?_
   refine LW.call0 rfl rfl (awake12_ret w17 (g.ext hx17')) ?_
   rintro v w18 ⟨rfl, hx18⟩
   refine Sa ?_
   exact QW.body1 Tryz.results9 rfl ⟨rfl, hx17'.trans hx18⟩
  refine LW.know (t := 65) (c := false) rfl (decide_eq_false b1) ?_
  refine Sa ?_
  by_cases b2 : y < 0
  ·rw [if_pos (.inr (.inl b2))] at hL
   refine LW.know (t := 69) (c := true) rfl (decide_eq_true b2) ?_
   refine Sa ?_
   refine Lwl fun V w16 hbV hx16 hV => ?_
   replace hV : Blk w16 V (nvL ⟨deadN, .slice none 0 0⟩) 57 := hV
   refine Sa ?_
   refine LW.call0 rfl rfl (SameNodes_ret _ _ _ _ w16 (hL.ext hx16) (one_nodes hV rfl)) ?_
   rintro v w17 ⟨rfl, hx17⟩
   have hx17' := (hx13w.trans hx16).trans hx17
   refine Sa ?_
   refine LW.know (t := 81) (c := true) rfl (by simp) ?_
   refine Sa ?_
   refine LW.call0 rfl rfl (awake12_ret w17 (g.ext hx17')) ?_
   rintro v w18 ⟨rfl, hx18⟩
   refine Sa ?_
   exact QW.body1 Tryz.results9 rfl ⟨rfl, hx17'.trans hx18⟩
  refine LW.know (t := 69) (c := false) rfl (decide_eq_false b2) ?_
  refine Sa ?_
  by_cases b3 : 998 < x
  ·rw [if_pos (.inr (.inr (.inl b3)))] at hL
   refine LW.know (t := 73) (c := true) rfl (decide_eq_true b3) ?_
   refine Sa ?_
   refine Lwl fun V w16 hbV hx16 hV => ?_
   replace hV : Blk w16 V (nvL ⟨deadN, .slice none 0 0⟩) 57 := hV
   refine Sa ?_
   refine LW.call0 rfl rfl (SameNodes_ret _ _ _ _ w16 (hL.ext hx16) (one_nodes hV rfl)) ?_
   rintro v w17 ⟨rfl, hx17⟩
   have hx17' := (hx13w.trans hx16).trans hx17
   refine Sa ?_
   refine LW.know (t := 81) (c := true) rfl (by simp) ?_
   refine Sa ?_
   refine LW.call0 rfl rfl (awake12_ret w17 (g.ext hx17')) ?_
   rintro v w18 ⟨rfl, hx18⟩
   refine Sa ?_
   exact QW.body1 Tryz.results9 rfl ⟨rfl, hx17'.trans hx18⟩
  refine LW.know (t := 73) (c := false) rfl (decide_eq_false b3) ?_
  refine Sa ?_
  refine Cwc (fun b4 => ?_) fun b4 => ?_
  ·have b4 : 701 < y := by simpa using b4
   rw [if_pos (.inr (.inr (.inr b4)))] at hL
   refine Sa ?_
   refine Lwl fun V w16 hbV hx16 hV => ?_
   replace hV : Blk w16 V (nvL ⟨deadN, .slice none 0 0⟩) 57 := hV
   refine Sa ?_
   refine LW.call0 rfl rfl (SameNodes_ret _ _ _ _ w16 (hL.ext hx16) (one_nodes hV rfl)) ?_
   rintro v w17 ⟨rfl, hx17⟩
   have hx17' := (hx13w.trans hx16).trans hx17
   refine Sa ?_
   refine LW.know (t := 81) (c := true) rfl (by simp) ?_
   refine Sa ?_
   refine LW.call0 rfl rfl (awake12_ret w17 (g.ext hx17')) ?_
   rintro v w18 ⟨rfl, hx18⟩
   refine Sa ?_
   exact QW.body1 Tryz.results9 rfl ⟨rfl, hx17'.trans hx18⟩
  have b4 : ¬ 701 < y := by simpa using b4
  rw [if_neg (by omega)] at hL
  refine Sa ?_
  refine Lwt fun w14 hc14 hR => ?_
  refine Sa ?_
  refine Lwt fun w15 hc15 hR => ?_
  replace hR : Blk w15 R (refL { r with row := x, col := y }) 54 := hR
  have hc1315 : Chg [R] w13 w15 := hc14.same hc15
  replace hL := one_chg hL rfl hc1315 (fun b hb => by have := hLf b hb; simp; omega)
  have hx15 : Ext w2 w15 := hx13'.step hc1315 (by simpa using hRw)
  have hx15' := hx2'.trans hx15
  refine Sa ?_
  refine Lwl fun V w16 hbV hx16 hV => ?_
  replace hV : Blk w16 V (nvL ⟨{ kind := 5, ref := { r with row := x, col := y } }, .slice none 0 0⟩) 57 := hV
  refine Sa ?_
  refine LW.call0 rfl rfl (SameNodes_ret _ _ _ _ w16 (hL.ext hx16) (one_nodes hV rfl)) ?_
  rintro v w17 ⟨rfl, hx17⟩
  have hx17' := (hx15'.trans hx16).trans hx17
  refine Sa ?_
  refine LW.know (t := 93) (c := true) rfl (by simp) ?_
  refine Sa ?_
  refine LW.call0 rfl rfl (awake12_ret w17 (g.ext hx17')) ?_
  rintro v w18 ⟨rfl, hx18⟩
  refine Sa ?_
  exact QW.body1 Tryz.results9 rfl ⟨rfl, hx17'.trans hx18⟩
end Go.Proofs.YtiaigmahdjhcoaaGreatDoor
