/-
 Walks: the law MoveTwice.
-/
import Derived.Test.YtiaigmahdjhcoaaGreatDoorMovV
import Derived.Test.YtiaigmahdjhcoaaGreatDoorMovW
import Derived.Test.YtiaigmahdjhcoaaGreatDoorPkJ
namespace Go.Proofs.YtiaigmahdjhcoaaGreatDoor
open Go Go.E

theorem ins_big {k a : Nat} (hk : k ≤ 1000) : ∀ z ∈ (insM k a).to, z ≤ 1000000000000 := fun z hz => by
 obtain ⟨i, hi, rfl⟩ := List.mem_map.1 hz
 have : i < k := by simpa using hi
 unfold insF
 split <;> omega
set_option maxHeartbeats 8000000 in
theorem MoveTwice_ret (ns : List Int) (vn : Value) (n m q : Int) (w : World) (g : Glob w) (hin : InS .u8 w vn ns) (hb : ∀ z ∈ ns, 0 ≤ z ∧ z ≤ 255) (n0 : 0 ≤ n) (n1 : n ≤ 255) (m0 : 0 ≤ m) (m1 : m ≤ 255) (q0 : 0 ≤ q) (q1 : q ≤ 255) : Ret Tryz.prog 10 [vn, .int .u8 n, .int .u8 m, .int .u8 q] w (fun v w' => v = .bool true ∧ Ext w w') := by
 obtain ⟨np, nc, rfl⟩ := hin.slice
 have hnl := hin.1
 refine Ret.enter Tryz.func10 rfl Tryz.ntmps10 (by kernel_rfl) rfl ?_
 refine Sa ?_
 refine Cwc (fun a1 => ?_) fun a1 => ?_
 ·have hx0 := Chg.refl [] w
  refine Sa ?_
  refine LW.call0 rfl rfl (awake12_ret _ (g.ext hx0)) ?_
  rintro v w20 ⟨rfl, hx20⟩
  refine Sa ?_
  exact QW.body1 Tryz.results10 rfl ⟨rfl, hx0.trans hx20⟩
 refine Sa ?_
 refine LW.call0 rfl rfl (Made_ret ns _ w hin hb) ?_
 rintro v w1 ⟨l, ⟨hN, hsh, hno, hk, _, ht, _, _⟩, hx1⟩
 obtain ⟨f1, f2, f3, f4⟩ := made_facts hsh hno hN.1 ht
 refine Sa ?_
 refine LW.call0 rfl rfl (rPrint_ret l v w1 hN hsh (fun n hn => by have := hk n hn; omega) hno) ?_
 rintro v2 w3 ⟨rfl, hx2⟩
 have hx3' := hx1.trans hx2
 have htl : ([61] ++ printT l).length ≤ 9223372036854775807 := by simp; omega
 have h61 : byte ([61] ++ printT l) 0 = 61 := rfl
 have hne : [61] ++ printT l ≠ [] := by simp
 refine Sl ?_
 clear f1 f2 f3 f4
 generalize [61] ++ printT l = t at htl h61 hne
 apply LW.nil
 apply QW.then_n
 apply CW.seq
 apply CW.region
 refine Sl ?_
 obtain ⟨K, hK⟩ : ∃ K : Nat, 3 + n % 40 = (K : Int) := Int.eq_ofNat_of_zero_le (by omega)
 rw [hK]
 obtain ⟨A, hA⟩ : ∃ A : Nat, m % (K : Int) = (A : Int) := Int.eq_ofNat_of_zero_le (Int.emod_nonneg _ (by omega))
 have hA1 : m % (K : Int) < K := Int.emod_lt_of_pos _ (by omega)
 have hK1 : (K : Int) + 1 = ((K + 1 : Nat) : Int) := rfl
 obtain ⟨B, hB⟩ : ∃ B : Nat, q % ((K + 1 : Nat) : Int) = (B : Int) := Int.eq_ofNat_of_zero_le (Int.emod_nonneg _ (by omega))
 have hB1 : q % ((K + 1 : Nat) : Int) < ((K + 1 : Nat) : Int) := Int.emod_lt_of_pos _ (by omega)
 have hkk : K ≤ 42 := by omega
 have haK : A ≤ K := by omega
 have hbK : B ≤ K + 1 := by omega
 have eA : insX K A = insM K A := by rw [insX, if_pos haK]
 have eB : insX (K + 1) B = insM (K + 1) B := by rw [insX, if_pos hbK]
 have hlA : (insM K A).to.length ≤ 1000000 := by simp only [insM, rangeZ_len]; omega
 have hlB : (insM (K + 1) B).to.length ≤ 1000000 := by simp only [insM, rangeZ_len]; omega
 apply LW.nil
 apply QW.then_n
 refine CW.seq_cut (ι := Nat × Nat × Option Addr × Nat × Option Addr × Nat) (fun x w' => Ext w3 w' ∧ Blk w' x.1 [.slice x.2.2.1 (insM K A).to.length x.2.2.2.1, .int .i64 (insM K A).new] 68 ∧ Blk w' x.2.1 [.slice x.2.2.2.2.1 (insM (K + 1) B).to.length x.2.2.2.2.2, .int .i64 (insM (K + 1) B).new] 68 ∧ Own1 w3 w' (.slice x.2.2.1 (insM K A).to.length x.2.2.2.1) (insM K A) ∧ Own1 w3 w' (.slice x.2.2.2.2.1 (insM (K + 1) B).to.length x.2.2.2.2.2) (insM (K + 1) B)) (fun x => [(9, str t), (11, .pointer (some ⟨x.1, 0, none⟩)), (12, .pointer (some ⟨x.2.1, 0, none⟩))]) ?_ ?_
 ·refine CW.drawHeld (fun w' => Ext w3 w') (fun w' h => h) (by kernel_rfl) fun w4 hx4 => ?_
  refine HW.take 0 rfl rfl rfl rfl (fun w _ => Y.pure rfl) rfl (by kernel_rfl) (by kernel_rfl) (by kernel_rfl) (fun _ _ _ h => h) ?_
  refine HW.take 1 rfl rfl rfl rfl (fun w _ => Y.pure rfl) rfl (by kernel_rfl) (by kernel_rfl) (by kernel_rfl) (fun _ _ _ h => h) ?_
  first | refine HW.take 2 rfl rfl rfl rfl (fun w _ => Y.pure rfl) rfl (by kernel_rfl) (by kernel_rfl) (by kernel_rfl) (fun _ _ _ h => h) ?_ | refine HW.take 2 rfl rfl rfl rfl (fun w _ => Y.go rfl (by first | omega | exact ⟨by omega, by omega⟩ | exact ⟨by omega, by omega, by omega⟩ | (simp <;> omega))) rfl (by kernel_rfl) (by kernel_rfl) (by kernel_rfl) (fun _ _ _ h => h) ?_
  refine HW.take 3 rfl rfl rfl rfl (fun w _ => Y.pure rfl) rfl (by kernel_rfl) (by kernel_rfl) (by kernel_rfl) (fun _ _ _ h => h) ?_
  refine HW.take 4 rfl rfl rfl rfl (fun w _ => Y.go rfl (by first | omega | exact ⟨by omega, by omega⟩ | exact ⟨by omega, by omega, by omega⟩ | (simp <;> omega))) rfl (by kernel_rfl) (by kernel_rfl) (by kernel_rfl) (fun _ _ _ h => h) ?_
  rw [hA]
  refine HW.take 6 rfl rfl rfl rfl (fun w _ => Y.pure rfl) rfl (by kernel_rfl) (by kernel_rfl) (by kernel_rfl) (fun _ _ _ h => h) ?_
  refine HW.take 7 rfl rfl rfl rfl (fun w _ => Y.go rfl (by first | omega | exact ⟨by omega, by omega⟩ | exact ⟨by omega, by omega, by omega⟩ | (simp <;> omega))) rfl (by kernel_rfl) (by kernel_rfl) (by kernel_rfl) (fun _ _ _ h => h) ?_
  rw [hK1]
  refine HW.take 8 rfl rfl rfl rfl (fun w _ => Y.pure rfl) rfl (by kernel_rfl) (by kernel_rfl) (by kernel_rfl) (fun _ _ _ h => h) ?_
  first | refine HW.take 9 rfl rfl rfl rfl (fun w _ => Y.pure rfl) rfl (by kernel_rfl) (by kernel_rfl) (by kernel_rfl) (fun _ _ _ h => h) ?_ | refine HW.take 9 rfl rfl rfl rfl (fun w _ => Y.go rfl (by first | omega | exact ⟨by omega, by omega⟩ | exact ⟨by omega, by omega, by omega⟩ | (simp <;> omega))) rfl (by kernel_rfl) (by kernel_rfl) (by kernel_rfl) (fun _ _ _ h => h) ?_
  refine HW.take 10 rfl rfl rfl rfl (fun w _ => Y.pure rfl) rfl (by kernel_rfl) (by kernel_rfl) (by kernel_rfl) (fun _ _ _ h => h) ?_
  refine HW.take 11 rfl rfl rfl rfl (fun w _ => Y.go rfl (by first | omega | exact ⟨by omega, by omega⟩ | exact ⟨by omega, by omega, by omega⟩ | (simp <;> omega))) rfl (by kernel_rfl) (by kernel_rfl) (by kernel_rfl) (fun _ _ _ h => h) ?_
  rw [hK1]
  refine HW.take 12 rfl rfl rfl rfl (fun w _ => Y.go rfl (by first | omega | exact ⟨by omega, by omega⟩ | exact ⟨by omega, by omega, by omega⟩ | (simp <;> omega))) rfl (by kernel_rfl) (by kernel_rfl) (by kernel_rfl) (fun _ _ _ h => h) ?_
  rw [hB]
  refine HW.three 5 14 15 (by kernel_rfl) rfl rfl rfl rfl rfl rfl (fun hS => ?_) (fun hS => ?_) (fun hS => ?_)
  refine LW.call0 rfl rfl (Ins_ret K A (by omega) _) ?_; rintro v wn ⟨hv, hx⟩; rw [eA] at hv; obtain ⟨p1, c1, rfl, hO⟩ := MapO.own1 (w0 := w3) hv hS.size hlA; apply LW.nil; refine QW.held (hS.trans hx) ?_; clear hx hS hv
  refine HW.three 13 14 15 (by kernel_rfl) rfl rfl rfl rfl rfl rfl (fun hS => ?_) (fun hS => ?_) (fun hS => ?_)
  refine LW.call0 rfl rfl (Ins_ret (K + 1) B (by omega) _) ?_; rintro v wn ⟨hv, hx⟩; replace hO := hO.ext hx; rw [eB] at hv; obtain ⟨p2, c2, rfl, hU⟩ := MapO.own1 (w0 := w3) hv hS.size hlB; apply LW.nil; refine QW.held (hS.trans hx) ?_; clear hx hS hv
  refine HW.two 14 15 (by kernel_rfl) rfl rfl rfl rfl (fun hS => ?_) (fun hS => ?_)
  refine Lwa fun X wn hbX hx hX => ?_; have hXg : w3.heap.size ≤ X := (by rw [hbX]; exact hS.size); replace hO := hO.ext hx; replace hU := hU.ext hx; apply LW.nil; refine QW.held (hS.trans hx) ?_; clear hx hS hbX
  refine HW.one 15 (by kernel_rfl) rfl rfl (fun hS => ?_)
  refine Lwa fun Y wn hbY hx hY => ?_; have hYg : w3.heap.size ≤ Y := (by rw [hbY]; exact hS.size); have hXY : X ≠ Y := (by have := hX.lt; omega); replace hO := hO.ext hx; replace hU := hU.ext hx; replace hX := hX.ext hx; apply LW.nil; refine QW.held (hS.trans hx) ?_; clear hx hS hbY
  rotate_left
  refine Lwa fun Y wn hbY hx hY => ?_; have hYg : w3.heap.size ≤ Y := (by rw [hbY]; exact hS.size); replace hO := hO.ext hx; replace hU := hU.ext hx; apply LW.nil; refine QW.held (hS.trans hx) ?_; clear hx hS hbY
  refine HW.one 14 (by kernel_rfl) rfl rfl (fun hS => ?_)
  refine Lwa fun X wn hbX hx hX => ?_; have hXg : w3.heap.size ≤ X := (by rw [hbX]; exact hS.size); have hXY : X ≠ Y := (by have := hY.lt; omega); replace hO := hO.ext hx; replace hU := hU.ext hx; replace hY := hY.ext hx; apply LW.nil; refine QW.held (hS.trans hx) ?_; clear hx hS hbX
  rotate_left
  refine Lwa fun X wn hbX hx hX => ?_; have hXg : w3.heap.size ≤ X := (by rw [hbX]; exact hS.size); replace hO := hO.ext hx; apply LW.nil; refine QW.held (hS.trans hx) ?_; clear hx hS hbX
  refine HW.two 13 15 (by kernel_rfl) rfl rfl rfl rfl (fun hS => ?_) (fun hS => ?_)
  refine LW.call0 rfl rfl (Ins_ret (K + 1) B (by omega) _) ?_; rintro v wn ⟨hv, hx⟩; replace hO := hO.ext hx; replace hX := hX.ext hx; rw [eB] at hv; obtain ⟨p2, c2, rfl, hU⟩ := MapO.own1 (w0 := w3) hv hS.size hlB; apply LW.nil; refine QW.held (hS.trans hx) ?_; clear hx hS hv
  refine HW.one 15 (by kernel_rfl) rfl rfl (fun hS => ?_)
  refine Lwa fun Y wn hbY hx hY => ?_; have hYg : w3.heap.size ≤ Y := (by rw [hbY]; exact hS.size); have hXY : X ≠ Y := (by have := hX.lt; omega); replace hO := hO.ext hx; replace hU := hU.ext hx; replace hX := hX.ext hx; apply LW.nil; refine QW.held (hS.trans hx) ?_; clear hx hS hbY
  rotate_left
  refine Lwa fun Y wn hbY hx hY => ?_; have hYg : w3.heap.size ≤ Y := (by rw [hbY]; exact hS.size); have hXY : X ≠ Y := (by have := hX.lt; omega); replace hO := hO.ext hx; replace hX := hX.ext hx; apply LW.nil; refine QW.held (hS.trans hx) ?_; clear hx hS hbY
  refine HW.one 13 (by kernel_rfl) rfl rfl (fun hS => ?_)
  refine LW.call0 rfl rfl (Ins_ret (K + 1) B (by omega) _) ?_; rintro v wn ⟨hv, hx⟩; replace hO := hO.ext hx; replace hX := hX.ext hx; replace hY := hY.ext hx; rw [eB] at hv; obtain ⟨p2, c2, rfl, hU⟩ := MapO.own1 (w0 := w3) hv hS.size hlB; apply LW.nil; refine QW.held (hS.trans hx) ?_; clear hx hS hv
  rotate_left
  refine Lwa fun Y wn hbY hx hY => ?_; have hYg : w3.heap.size ≤ Y := (by rw [hbY]; exact hS.size); replace hO := hO.ext hx; apply LW.nil; refine QW.held (hS.trans hx) ?_; clear hx hS hbY
  refine HW.two 13 14 (by kernel_rfl) rfl rfl rfl rfl (fun hS => ?_) (fun hS => ?_)
  refine LW.call0 rfl rfl (Ins_ret (K + 1) B (by omega) _) ?_; rintro v wn ⟨hv, hx⟩; replace hO := hO.ext hx; replace hY := hY.ext hx; rw [eB] at hv; obtain ⟨p2, c2, rfl, hU⟩ := MapO.own1 (w0 := w3) hv hS.size hlB; apply LW.nil; refine QW.held (hS.trans hx) ?_; clear hx hS hv
  refine HW.one 14 (by kernel_rfl) rfl rfl (fun hS => ?_)
  refine Lwa fun X wn hbX hx hX => ?_; have hXg : w3.heap.size ≤ X := (by rw [hbX]; exact hS.size); have hXY : X ≠ Y := (by have := hY.lt; omega); replace hO := hO.ext hx; replace hU := hU.ext hx; replace hY := hY.ext hx; apply LW.nil; refine QW.held (hS.trans hx) ?_; clear hx hS hbX
  rotate_left
  refine Lwa fun X wn hbX hx hX => ?_; have hXg : w3.heap.size ≤ X := (by rw [hbX]; exact hS.size); have hXY : X ≠ Y := (by have := hY.lt; omega); replace hO := hO.ext hx; replace hY := hY.ext hx; apply LW.nil; refine QW.held (hS.trans hx) ?_; clear hx hS hbX
  refine HW.one 13 (by kernel_rfl) rfl rfl (fun hS => ?_)
  refine LW.call0 rfl rfl (Ins_ret (K + 1) B (by omega) _) ?_; rintro v wn ⟨hv, hx⟩; replace hO := hO.ext hx; replace hX := hX.ext hx; replace hY := hY.ext hx; rw [eB] at hv; obtain ⟨p2, c2, rfl, hU⟩ := MapO.own1 (w0 := w3) hv hS.size hlB; apply LW.nil; refine QW.held (hS.trans hx) ?_; clear hx hS hv
  rotate_left
  refine Lwa fun X wn hbX hx hX => ?_; have hXg : w3.heap.size ≤ X := (by rw [hbX]; exact hS.size); apply LW.nil; refine QW.held (hS.trans hx) ?_; clear hx hS hbX
  refine HW.two 5 15 (by kernel_rfl) rfl rfl rfl rfl (fun hS => ?_) (fun hS => ?_)
  refine LW.call0 rfl rfl (Ins_ret K A (by omega) _) ?_; rintro v wn ⟨hv, hx⟩; replace hX := hX.ext hx; rw [eA] at hv; obtain ⟨p1, c1, rfl, hO⟩ := MapO.own1 (w0 := w3) hv hS.size hlA; apply LW.nil; refine QW.held (hS.trans hx) ?_; clear hx hS hv
  refine HW.two 13 15 (by kernel_rfl) rfl rfl rfl rfl (fun hS => ?_) (fun hS => ?_)
  refine LW.call0 rfl rfl (Ins_ret (K + 1) B (by omega) _) ?_; rintro v wn ⟨hv, hx⟩; replace hO := hO.ext hx; replace hX := hX.ext hx; rw [eB] at hv; obtain ⟨p2, c2, rfl, hU⟩ := MapO.own1 (w0 := w3) hv hS.size hlB; apply LW.nil; refine QW.held (hS.trans hx) ?_; clear hx hS hv
  refine HW.one 15 (by kernel_rfl) rfl rfl (fun hS => ?_)
  refine Lwa fun Y wn hbY hx hY => ?_; have hYg : w3.heap.size ≤ Y := (by rw [hbY]; exact hS.size); have hXY : X ≠ Y := (by have := hX.lt; omega); replace hO := hO.ext hx; replace hU := hU.ext hx; replace hX := hX.ext hx; apply LW.nil; refine QW.held (hS.trans hx) ?_; clear hx hS hbY
  rotate_left
  refine Lwa fun Y wn hbY hx hY => ?_; have hYg : w3.heap.size ≤ Y := (by rw [hbY]; exact hS.size); have hXY : X ≠ Y := (by have := hX.lt; omega); replace hO := hO.ext hx; replace hX := hX.ext hx; apply LW.nil; refine QW.held (hS.trans hx) ?_; clear hx hS hbY
  refine HW.one 13 (by kernel_rfl) rfl rfl (fun hS => ?_)
  refine LW.call0 rfl rfl (Ins_ret (K + 1) B (by omega) _) ?_; rintro v wn ⟨hv, hx⟩; replace hO := hO.ext hx; replace hX := hX.ext hx; replace hY := hY.ext hx; rw [eB] at hv; obtain ⟨p2, c2, rfl, hU⟩ := MapO.own1 (w0 := w3) hv hS.size hlB; apply LW.nil; refine QW.held (hS.trans hx) ?_; clear hx hS hv
  rotate_left
  refine Lwa fun Y wn hbY hx hY => ?_; have hYg : w3.heap.size ≤ Y := (by rw [hbY]; exact hS.size); have hXY : X ≠ Y := (by have := hX.lt; omega); replace hX := hX.ext hx; apply LW.nil; refine QW.held (hS.trans hx) ?_; clear hx hS hbY
  refine HW.one 5 (by kernel_rfl) rfl rfl (fun hS => ?_)
  refine LW.call0 rfl rfl (Ins_ret K A (by omega) _) ?_; rintro v wn ⟨hv, hx⟩; replace hX := hX.ext hx; replace hY := hY.ext hx; rw [eA] at hv; obtain ⟨p1, c1, rfl, hO⟩ := MapO.own1 (w0 := w3) hv hS.size hlA; apply LW.nil; refine QW.held (hS.trans hx) ?_; clear hx hS hv
  refine HW.one 13 (by kernel_rfl) rfl rfl (fun hS => ?_)
  refine LW.call0 rfl rfl (Ins_ret (K + 1) B (by omega) _) ?_; rintro v wn ⟨hv, hx⟩; replace hO := hO.ext hx; replace hX := hX.ext hx; replace hY := hY.ext hx; rw [eB] at hv; obtain ⟨p2, c2, rfl, hU⟩ := MapO.own1 (w0 := w3) hv hS.size hlB; apply LW.nil; refine QW.held (hS.trans hx) ?_; clear hx hS hv
  rotate_left
  refine Lwa fun Y wn hbY hx hY => ?_; have hYg : w3.heap.size ≤ Y := (by rw [hbY]; exact hS.size); apply LW.nil; refine QW.held (hS.trans hx) ?_; clear hx hS hbY
  refine HW.two 5 14 (by kernel_rfl) rfl rfl rfl rfl (fun hS => ?_) (fun hS => ?_)
  refine LW.call0 rfl rfl (Ins_ret K A (by omega) _) ?_; rintro v wn ⟨hv, hx⟩; replace hY := hY.ext hx; rw [eA] at hv; obtain ⟨p1, c1, rfl, hO⟩ := MapO.own1 (w0 := w3) hv hS.size hlA; apply LW.nil; refine QW.held (hS.trans hx) ?_; clear hx hS hv
  refine HW.two 13 14 (by kernel_rfl) rfl rfl rfl rfl (fun hS => ?_) (fun hS => ?_)
  refine LW.call0 rfl rfl (Ins_ret (K + 1) B (by omega) _) ?_; rintro v wn ⟨hv, hx⟩; replace hO := hO.ext hx; replace hY := hY.ext hx; rw [eB] at hv; obtain ⟨p2, c2, rfl, hU⟩ := MapO.own1 (w0 := w3) hv hS.size hlB; apply LW.nil; refine QW.held (hS.trans hx) ?_; clear hx hS hv
  refine HW.one 14 (by kernel_rfl) rfl rfl (fun hS => ?_)
  refine Lwa fun X wn hbX hx hX => ?_; have hXg : w3.heap.size ≤ X := (by rw [hbX]; exact hS.size); have hXY : X ≠ Y := (by have := hY.lt; omega); replace hO := hO.ext hx; replace hU := hU.ext hx; replace hY := hY.ext hx; apply LW.nil; refine QW.held (hS.trans hx) ?_; clear hx hS hbX
  rotate_left
  refine Lwa fun X wn hbX hx hX => ?_; have hXg : w3.heap.size ≤ X := (by rw [hbX]; exact hS.size); have hXY : X ≠ Y := (by have := hY.lt; omega); replace hO := hO.ext hx; replace hY := hY.ext hx; apply LW.nil; refine QW.held (hS.trans hx) ?_; clear hx hS hbX
  refine HW.one 13 (by kernel_rfl) rfl rfl (fun hS => ?_)
  refine LW.call0 rfl rfl (Ins_ret (K + 1) B (by omega) _) ?_; rintro v wn ⟨hv, hx⟩; replace hO := hO.ext hx; replace hX := hX.ext hx; replace hY := hY.ext hx; rw [eB] at hv; obtain ⟨p2, c2, rfl, hU⟩ := MapO.own1 (w0 := w3) hv hS.size hlB; apply LW.nil; refine QW.held (hS.trans hx) ?_; clear hx hS hv
  rotate_left
  refine Lwa fun X wn hbX hx hX => ?_; have hXg : w3.heap.size ≤ X := (by rw [hbX]; exact hS.size); have hXY : X ≠ Y := (by have := hY.lt; omega); replace hY := hY.ext hx; apply LW.nil; refine QW.held (hS.trans hx) ?_; clear hx hS hbX
  refine HW.one 5 (by kernel_rfl) rfl rfl (fun hS => ?_)
  refine LW.call0 rfl rfl (Ins_ret K A (by omega) _) ?_; rintro v wn ⟨hv, hx⟩; replace hX := hX.ext hx; replace hY := hY.ext hx; rw [eA] at hv; obtain ⟨p1, c1, rfl, hO⟩ := MapO.own1 (w0 := w3) hv hS.size hlA; apply LW.nil; refine QW.held (hS.trans hx) ?_; clear hx hS hv
  refine HW.one 13 (by kernel_rfl) rfl rfl (fun hS => ?_)
  refine LW.call0 rfl rfl (Ins_ret (K + 1) B (by omega) _) ?_; rintro v wn ⟨hv, hx⟩; replace hO := hO.ext hx; replace hX := hX.ext hx; replace hY := hY.ext hx; rw [eB] at hv; obtain ⟨p2, c2, rfl, hU⟩ := MapO.own1 (w0 := w3) hv hS.size hlB; apply LW.nil; refine QW.held (hS.trans hx) ?_; clear hx hS hv
  rotate_left
  all_goals
   refine HW.one 16 (by kernel_rfl) rfl rfl (fun hS => ?_)
   refine LW.store_all rfl rfl rfl hX rfl rfl rfl ?_
   intro w5 hc5 hX5
   replace hX5 : Blk w5 X [.slice p1 (insM K A).to.length c1, .int .i64 (insM K A).new] 68 := hX5
   have hx5 : Ext w3 w5 := hS.step hc5 (by simpa using hXg)
   have hY5 := hY.chg hc5 (by simpa using fun e => hXY e.symm)
   have hO5 := hO.chg hc5 (fun b hb => by simp at hb; subst hb; exact ⟨_, _, hX, by decide⟩)
   have hU5 := hU.chg hc5 (fun b hb => by simp at hb; subst hb; exact ⟨_, _, hX, by decide⟩)
   apply LW.nil
   refine QW.held hx5 ?_
   refine HW.one 17 (by kernel_rfl) rfl rfl (fun hS => ?_)
   refine LW.store_all rfl rfl rfl hY5 rfl rfl rfl ?_
   intro w6 hc6 hY6
   replace hY6 : Blk w6 Y [.slice p2 (insM (K + 1) B).to.length c2, .int .i64 (insM (K + 1) B).new] 68 := hY6
   have hx6 : Ext w3 w6 := hx5.step hc6 (by simpa using hYg)
   apply LW.nil
   refine QW.held hx6 ?_
   refine HW.done (by kernel_rfl) ?_
   exact QW.head (X, Y, p1, c1, p2, c2) ⟨hx6, hX5.chg hc6 (by simpa using hXY), hY6, hO5.chg hc6 (fun b hb => by simp at hb; subst hb; exact ⟨_, _, hY5, by decide⟩), hU5.chg hc6 (fun b hb => by simp at hb; subst hb; exact ⟨_, _, hY5, by decide⟩)⟩ (Sub.cons rfl (Sub.cons rfl (Sub.cons rfl (Sub.nil))))
 rintro ⟨XA, YA, p1, c1, p2, c2⟩ w4 ⟨hx4, hX, hY, hO, hU⟩
 dsimp only at hX hY hO hU
 show CW _ _ _ _ _ [(9, str t), (11, .pointer (some ⟨XA, 0, none⟩)), (12, .pointer (some ⟨YA, 0, none⟩))] _
 have hx4' := hx3'.trans hx4
 clear hlA hlB eA eB hx4 hx3' hx2 hx1 hA1 hB1
 refine Sa ?_
 refine LW.call0 rfl rfl (Same_ret 5 (by omega) w4) ?_
 rintro v w5 ⟨hv, hx5⟩
 obtain ⟨p3, c3, rfl, i3⟩ := hv.map (by simp only [sameM, rangeZ_len]; omega)
 refine Sa ?_
 refine Lwa fun Z w6 hbZ hx6 hZ => ?_
 refine Sa ?_
 refine Lws fun w7 hc7 hZ => ?_
 replace hZ : Blk w7 Z [.slice p3 (sameM 5).to.length c3, .int .i64 (sameM 5).new] 68 := hZ
 have hx57 : Ext w5 w7 := hx6.step hc7 (by simp; omega)
 have hx47 := hx5.trans hx57
 have i1 := hO.ints.ext hx47
 have i2 := hU.ints.ext hx47
 replace hX := hX.ext hx47
 replace hY := hY.ext hx47
 replace i3 := i3.ext hx57
 have hx7' := hx4'.trans hx47
 clear hO hU hx6 hc7 hx5 hbZ hx57 hx47 hx4'
 refine Sa ?_
 refine Lwl fun C w8 hbC hx8 hC => ?_
 replace hC : Blk w8 C (shL (oneS K A) (.slice p1 (insM K A).to.length c1) (.slice p3 (sameM 5).to.length c3)) 71 := hC
 have r1 : ShiftsR w8 (.slice (some ⟨C, 0, none⟩) 1 1) [oneS K A] := shifts_one hC (i1.ext hx8) (i3.ext hx8)
 have hX8 := hX.ext hx8
 have hY8 := hY.ext hx8
 have hZ8 := hZ.ext hx8
 clear hC
 refine Sa ?_
 refine Lwl fun C2 w9 hbC2 hx9 hC2 => ?_
 replace hC2 : Blk w9 C2 (shL (wayS (insM (K + 1) B)) (.slice p2 (insM (K + 1) B).to.length c2) (.slice p3 (sameM 5).to.length c3)) 71 := hC2
 have hx79 := hx8.trans hx9
 have r2 : ShiftsR w9 (.slice (some ⟨C2, 0, none⟩) 1 1) [wayS (insM (K + 1) B)] := shifts_one hC2 (i2.ext hx79) (i3.ext hx79)
 have hX9 := hX.ext hx79
 have hY9 := hY.ext hx79
 have hZ9 := hZ.ext hx79
 clear hC2 hX8 hY8 hZ8
 refine Sa ?_
 refine CW.drawHeld (fun w' => Ext w9 w') (fun w' h => h) (by kernel_rfl) fun w10 hx10 => ?_
 refine HW.take 0 rfl rfl rfl rfl (fun w hw => Y.load_all rfl (hX9.ext hw) rfl rfl rfl) rfl (by kernel_rfl) (by kernel_rfl) (by kernel_rfl) (fun _ _ _ h => h) ?_
 refine HW.take 1 rfl rfl rfl rfl (fun w hw => Y.load_all rfl (hY9.ext hw) rfl rfl rfl) rfl (by kernel_rfl) (by kernel_rfl) (by kernel_rfl) (fun _ _ _ h => h) ?_
 refine HW.take 3 rfl rfl rfl rfl (fun w hw => Y.load_all rfl (hZ9.ext hw) rfl rfl rfl) rfl (by kernel_rfl) (by kernel_rfl) (by kernel_rfl) (fun _ _ _ h => h) ?_
 refine HW.one 2 (by kernel_rfl) rfl rfl (fun hS => ?_)
 have hx710 := hx79.trans hx10
 refine LW.call0 rfl rfl (Then_ret (insM K A) (insM (K + 1) B) p1 p2 c1 c2 (mayM_fine (ins_may (by omega))) (ins_big (by omega)) (by simp only [insM, rangeZ_len]; omega) w10 (i1.ext hx710) (i2.ext hx710)) ?_
 rintro v w11 ⟨hv, hx11⟩
 obtain ⟨p4, c4, rfl, i4⟩ := hv.map (by simp only [thenM, insM, List.length_map, rangeZ_len]; omega)
 apply LW.nil
 refine QW.held (hS.trans hx11) ?_
 refine HW.one 4 (by kernel_rfl) rfl rfl (fun hS => ?_)
 refine Lh ?_
 apply LW.nil
 refine QW.held hS ?_
 refine HW.one 5 (by kernel_rfl) rfl rfl (fun hS => ?_)
 refine Lwl fun C3 w12 hbC3 hx12 hC3 => ?_
 replace hC3 : Blk w12 C3 (shL (bothS K A B) (.slice p4 (thenM (insM K A) (insM (K + 1) B)).to.length c4) (.slice p3 (sameM 5).to.length c3)) 71 := hC3
 have hx1012 := hx11.trans hx12
 have r3 : ShiftsR w12 (.slice (some ⟨C3, 0, none⟩) 1 1) [bothS K A B] := shifts_one hC3 (i4.ext hx12) (i3.ext (hx710.trans hx1012))
 have hx912 := hx10.trans hx1012
 replace r1 := r1.ext (hx9.trans hx912)
 replace r2 := r2.ext hx912
 have hx12' := hx7'.trans (hx79.trans hx912)
 apply LW.nil
 refine QW.held (hS.trans hx12) ?_
 refine HW.take 6 rfl rfl rfl rfl (fun w _ => Y.pure rfl) rfl (by kernel_rfl) (by kernel_rfl) (by kernel_rfl) (fun _ _ _ h => h) ?_
 refine HW.done (by kernel_rfl) ?_
 clear hC3 hx1012 hx912 hx710 hx79 hx10 hx11 hx12 hx9 hx8 i1 i2 i3 i4 hX9 hY9 hZ9 hX hY hZ hv
 refine Sa ?_
 refine LW.call0 rfl rfl (rMayCell_ret t htl w12) ?_
 rintro v2 w13 ⟨rfl, hx13⟩
 have hx13' := hx12'.trans hx13
 replace r1 := r1.ext hx13
 replace r2 := r2.ext hx13
 replace r3 := r3.ext hx13
 cases hm : mayC t with
 | false =>
  refine Sa ?_
  refine LW.know (t := 61) (c := true) rfl rfl ?_
  have hx0 := hx13'
  refine Sa ?_
  refine LW.call0 rfl rfl (awake12_ret _ (g.ext hx0)) ?_
  rintro v w20 ⟨rfl, hx20⟩
  refine Sa ?_
  exact QW.body1 Tryz.results10 rfl ⟨rfl, hx0.trans hx20⟩
 | true =>
 refine Sa ?_
 refine Cwc (fun a2 => ?_) fun a2 => ?_
 ·have hx0 := hx13'
  refine Sa ?_
  refine LW.call0 rfl rfl (awake12_ret _ (g.ext hx0)) ?_
  rintro v w20 ⟨rfl, hx20⟩
  refine Sa ?_
  exact QW.body1 Tryz.results10 rfl ⟨rfl, hx0.trans hx20⟩
 have a2 : t.length ≤ 150 := by simp at a2; omega
 obtain ⟨e1, e2⟩ := text_twice (k := K) (a := A) (b := B) (by omega) haK hbK hm a2 hne h61
 have hk2 : ∀ s ∈ [wayS (insM (K + 1) B)], s.May := fun s hs => by
  simp only [List.mem_singleton] at hs
  subst hs
  exact ⟨ins_may (by omega), same_may (by omega)⟩
 refine Sa ?_
 refine LW.call0 rfl rfl (mvText_ret t [65] [oneS K A] _ htl w13 (g.ext hx13') r1 (one_may (by omega))) ?_
 rintro v2 w14 ⟨rfl, hx14⟩
 have hx14' := hx13'.trans hx14
 refine Sa ?_
 refine LW.call0 rfl rfl (mvText_ret _ [65] [wayS (insM (K + 1) B)] _ (by omega) w14 (g.ext hx14') (r2.ext hx14) hk2) ?_
 rw [e1]
 rintro v2 w15 ⟨rfl, hx15⟩
 have hx15' := hx14'.trans hx15
 refine Sa ?_
 refine LW.call0 rfl rfl (mvText_ret t [65] [bothS K A B] _ htl w15 (g.ext hx15') (r3.ext (hx14.trans hx15)) (both_may (by omega) hbK)) ?_
 rintro v2 w16 ⟨rfl, hx16⟩
 have hx16' := hx15'.trans hx16
 refine Sa ?_
 refine LW.know (t := 76) (c := true) rfl (by simp) ?_
 refine Sa ?_
 refine LW.call0 rfl rfl (awake12_ret w16 (g.ext hx16')) ?_
 rintro v4 w17 ⟨rfl, hx17⟩
 refine Sa ?_
 exact QW.body1 Tryz.results10 rfl ⟨rfl, hx16'.trans hx17⟩
end Go.Proofs.YtiaigmahdjhcoaaGreatDoor
