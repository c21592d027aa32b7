/-
  Joined by program out of the texts ObjN ObjQ.
-/
import Derived.Test.YtgdohpcnpgjpaaaGreatDoorPkX
import Derived.Test.YtgdohpcnpgjpaaaGreatDoorPkG
namespace Go.Proofs.YtgdohpcnpgjpaaaGreatDoor
open Go Go.E
theorem InS.at {k : IntKind} {w : World} {p : Option Addr} {c : Nat} {zs : List Int} (h : InS k w (.slice p zs.length c) zs) {i : Nat} {z : Int} (hi : zs[i]? = some z) : ∃ a, p = some a ∧ w.cell? (a.add (((i : Nat) : Int).toNat * 1)) = some (.int k z) := by
 obtain ⟨h0, ⟨e, e2⟩ | ⟨a, cap, e, h⟩⟩ := h
 ·rw [e2] at hi; simp at hi
 ·simp only [Value.slice.injEq] at e; exact ⟨a, e.1, by rw [Int.toNat_natCast, Nat.mul_one]; exact h i z hi⟩
def rowPO (zs : List Int) (C i c : Nat) : List Value := ((List.range c).map fun j => str (cellAtO zs (i * C + j))) ++ List.replicate (C - c) (str [])
theorem rowPO_zero (zs : List Int) (C i : Nat) : List.replicate C (str []) = rowPO zs C i 0 := by simp [rowPO]
theorem rowPO_len {zs : List Int} {C i c : Nat} (h : c ≤ C) : (rowPO zs C i c).length = C := by simp [rowPO]; omega
theorem rowPO_set {zs : List Int} {C i c : Nat} (h : c < C) : (rowPO zs C i c).set c (str (cellAtO zs (i * C + c))) = rowPO zs C i (c + 1) := by
 rw [rowPO, set_fill (by simp) h, rowPO, List.range_succ, List.map_append]; rfl
theorem rowPO_all {zs : List Int} {C i c : Nat} (hc : c ≤ C) (h : C ≤ c ∨ zs.length ≤ i * C + c) : rowPO zs C i c = (rowO zs C i).map str := by
 refine List.ext_getElem? fun j => ?_; rw [rowPO, rowO, List.map_map]; by_cases h1 : j < c
 ·rw [List.getElem?_append_left (by simp; omega)]; simp [h1, show j < C by omega]
 ·rw [List.getElem?_append_right (by simp; omega)]; simp only [List.length_map, List.length_range, List.getElem?_replicate, List.getElem?_map]; by_cases h2 : j < C
  ·have hz : cellAtO zs (i * C + j) = [] := by
    unfold cellAtO; rw [List.getElem?_eq_none (by omega)]
   rw [if_pos (by omega)]; simp [h2, hz]
  ·rw [if_neg (by omega)]; simp [h2]
theorem itoa_short : ∀ n, n < 300 → (Lib.itoa (n : Nat)).length ≤ 3 := by decide +kernel
theorem cellAtO_some {zs : List Int} {n : Nat} {z : Int} (h : zs[n]? = some z) : cellAtO zs n = cellO z.toNat := by unfold cellAtO; rw [h]
theorem cellAtO_len {zs : List Int} (hz : ∀ z ∈ zs, 0 ≤ z ∧ z ≤ 255) (n : Nat) : (cellAtO zs n).length ≤ 40 := by
 unfold cellAtO
 split
 ·rename_i z h; have := hz z (List.mem_of_getElem? h); exact cellO_len _ (by omega)
 ·simp
theorem kidsO_small {zs : List Int} {n : Nat} : ∀ s ∈ kidsO zs n, s.length ≤ 1000000 := fun s hs => by
 simp only [kidsO, List.mem_map] at hs; obtain ⟨z, _, rfl⟩ := hs; rw [idO_len]; omega
theorem kidsO_step {zs : List Int} {i : Nat} {z : Int} (h : zs[i]? = some z) : kidsO zs (i + 1) = kidsO zs i ++ [idO z.toNat] := by
 rw [kidsO, List.take_add_one, h, kidsO]; simp
theorem kidsO_all {zs : List Int} {i n : Nat} (hi : i ≤ n) (h : zs.length ≤ i ∨ n ≤ i) : kidsO zs i = kidsO zs n := by
 rcases h with h | h
 ·rw [kidsO, kidsO, List.take_of_length_le h, List.take_of_length_le (by omega)]
 ·obtain rfl : i = n := by omega
  rfl
theorem kidsO_length {zs : List Int} {i : Nat} (h : i ≤ zs.length) : (kidsO zs i).length = i := by simp [kidsO]; omega
set_option maxRecDepth 8000 in
set_option maxHeartbeats 8000000 in
theorem Make_ret (k : Nat) (hk : k < 256) (zs : List Int) (p : Option Addr) (c : Nat) (t : List UInt8) (w : World) (hzs : InS .u8 w (.slice p zs.length c) zs) (hzl : zs.length ≤ 40) (hz : ∀ z ∈ zs, 0 ≤ z ∧ z ≤ 255) (htl : t.length ≤ 200) : Ret Tryz.prog 17 [.int .u8 (k : Int), .slice p zs.length c, str t] w (fun v w' => ∃ cs, v = .agg ⟨cs⟩ ∧ ObjW w' cs (mkO k zs t) ∧ Ext w w') := by
 refine Rte Tryz.func17 Tryz.ntmps17 ?_; refine Su ?_; refine Lwa fun R w1 hbR hx1 hR => ?_; replace hR : Blk w1 R objZ 25 := hR; have hRl := hR.lt; have hs1 := hx1.size; have hRw : w.heap.size ≤ R := by omega
 refine Su ?_; refine Lwa fun O w2 hbO hx2' hO => ?_; refine Su ?_; refine Lws fun w3 hc3 hO => ?_; have hRO : R ≠ O := by omega
 have hs2 := hx2'.size; have hs3 := hc3.size; have hOl := hO.lt; have hOw : w.heap.size ≤ O := by omega
 have hx3 : Ext w w3 := (hx1.trans hx2').step hc3 (by simp; omega); replace hR := (hR.ext hx2').chg hc3 (by simp; exact hRO); obtain ⟨m4, hm4⟩ : ∃ m : Nat, (k : Int) % 4 = m := ⟨k % 4, by omega⟩; rw [hm4] at hO ⊢; replace hO : Blk w3 O [.int .i64 (1 + (m4 : Int)), .slice none 0 0, str [], .int .i64 0, .slice none 0 0, .slice none 0 0, str []] 25 := hO
 -- WALK
 refine Su ?_; refine Cwc (fun e1 => ?_) fun e1 => ?_
 ·have e1 : m4 = 0 := by simp at e1; omega
  subst e1; refine Su ?_; obtain ⟨C, hC, hCk⟩ : ∃ C : Nat, (k : Int) / 4 % 4 = C ∧ C = colsO k := ⟨colsO k, by unfold colsO; omega, rfl⟩; have hC3 : C ≤ 3 := by rw [hCk]; unfold colsO; omega
  rw [hC]; refine CW.loop (ι := Nat × Value) (fun x w' => x.1 ≤ rowsO k ∧ Ext w w' ∧ w3.heap.size ≤ w'.heap.size ∧ Blk w' R objZ 25 ∧ Blk w' O [.int .i64 1, x.2, str [], .int .i64 0, .slice none 0 0, .slice none 0 0, str []] 25 ∧ RowsO w3.heap.size (fun a => w3.heap.size ≤ a.block ∧ a.block < w'.heap.size ∧ a.block ∉ vblk x.2) w' x.2 ((List.range x.1).map (rowO zs C))) (fun x => [(0, .int .u8 (k : Int)), (1, .slice p zs.length c), (2, str t), (6, .pointer (some ⟨R, 0, none⟩)), (7, .pointer (some ⟨O, 0, none⟩)), (8, .int .i64 (C : Int)), (9, .int .i64 (x.1 : Int))]) (fun x => rowsO k - x.1) (0, .slice none 0 0) ⟨by omega, hx3, Nat.le_refl _, hR, hO, ListO.nil⟩ Sub7 ?_; rintro ⟨i, ov⟩ w4 ⟨hi, hx4, hs4, hR4, hO4, hW⟩; dsimp only at hi hO4 hW; obtain ⟨po, co, rfl⟩ := hW.slice; rw [List.length_map, List.length_range] at hO4 hW ⊢; have hi4 : i ≤ 4 := by unfold rowsO at hi; omega
  have hr4 : rowsO k ≤ 4 := by unfold rowsO; omega
  show CW _ _ _ _ _ [(0, .int .u8 (k : Int)), (1, .slice p zs.length c), (2, str t), (6, .pointer (some ⟨R, 0, none⟩)), (7, .pointer (some ⟨O, 0, none⟩)), (8, .int .i64 (C : Int)), (9, .int .i64 (i : Int))] _; refine Su ?_; refine Cwc (fun h1 => ?_) fun h1 => ?_; rotate_left
  ·have h1 : i = rowsO k := by simp at h1; unfold rowsO at hi ⊢; omega
   refine Su ?_; refine CW.rounds 1 ?_; refine Su ?_; refine Lws fun wF hcF hRF => ?_; refine Su ?_; refine QW.body_c Tryz.results17 rfl hRF rfl rfl rfl ⟨_, rfl, ?_, hx4.step hcF (by simp; omega)⟩; have e : mkO k zs t = { obj0 1 with rows := (List.range i).map (rowO zs C) } := by rw [mkO, if_pos (by omega), hCk, h1]
   rw [e]; refine ⟨_, _, _, rfl, RowsO.w (lo := w3.heap.size) (ok := fun a => w3.heap.size ≤ a.block ∧ a.block < w4.heap.size ∧ a.block ∉ vblk (.slice po i co)) ?_ (by show ((List.range i).map (rowO zs C)).length ≤ _; simp; omega), TextsW.nil, TextsW.nil, by simp [obj0], by simp [obj0], by simp [obj0], by simp [obj0], by simp [obj0], by simp [obj0]⟩; exact ListO.chg hW hcF (fun b hb => by have := (ListO.lt hW hb).1; simp; omega) (fun i y cs hi ⟨u, hu1, hu2⟩ => ⟨u, hu1, hu2.chg hcF (fun hn a ha => by simp; omega)⟩)
  have h1 : i < rowsO k := by simp at h1; unfold rowsO; omega
  refine Su ?_; refine LW.makeSlice (m := C) rfl rfl rfl rfl rfl rfl rfl (by omega) rfl rfl ?_; intro B w5 hbB hx5' hB; replace hB : Blk w5 B (List.replicate C (str [])) 9 := hB; rw [rowPO_zero zs C i] at hB; have hBl := hB.lt; have hs5 := hx5'.size; have hx5 := hx4.trans hx5'; have hR5 := hR4.ext hx5'; have hO5 := hO4.ext hx5'; have hm0 : 0 ≤ (i : Int) * (C : Int) := Int.mul_nonneg (by omega) (by omega); have hm1 : (i : Int) * (C : Int) ≤ 12 := by
   have : i * C ≤ 4 * 3 := Nat.mul_le_mul (by omega) hC3; have e : ((i * C : Nat) : Int) = (i : Int) * (C : Int) := by simp
   omega
  refine Su ?_; refine CW.cutB (ι := Unit) (fun _ w' => Chg [B] w5 w' ∧ Blk w' B ((rowO zs C i).map str) 9) (fun _ => [(0, .int .u8 (k : Int)), (1, .slice p zs.length c), (2, str t), (6, .pointer (some ⟨R, 0, none⟩)), (7, .pointer (some ⟨O, 0, none⟩)), (8, .int .i64 (C : Int)), (9, .int .i64 (i : Int)), (10, .slice (some ⟨B, 0, none⟩) C C)]) ?_ ?_
  ·refine CW.loop (ι := Nat) (fun j w' => j ≤ C ∧ Chg [B] w5 w' ∧ Blk w' B (rowPO zs C i j) 9) (fun j => [(0, .int .u8 (k : Int)), (1, .slice p zs.length c), (2, str t), (6, .pointer (some ⟨R, 0, none⟩)), (7, .pointer (some ⟨O, 0, none⟩)), (8, .int .i64 (C : Int)), (9, .int .i64 (i : Int)), (10, .slice (some ⟨B, 0, none⟩) C C), (11, .int .i64 (j : Int))]) (fun j => C - j) 0 ⟨by omega, Chg.refl _ _, hB⟩ Sub9 ?_; rintro j w6 ⟨hj, hc6, hB6⟩; have hs6 := hc6.size; have hx6 : Ext w w6 := hx5.step hc6 (by have := hx4.size; simp; omega); refine Su ?_; refine Lwp (fun h2 => ?_) fun h2 => ?_; rotate_left
   ·have h2 : C ≤ j := by simp at h2; omega
    rw [rowPO_all hj (.inl h2)] at hB6; refine Su ?_; exact QW.head () ⟨hc6, hB6⟩ Sub8
   have h2 : j < C := by simp at h2; omega
   refine Su ?_; refine Cwc (fun h3 => ?_) fun h3 => ?_; rotate_left
   ·have h3 : zs.length ≤ i * C + j := by
     have e : ((i * C : Nat) : Int) = (i : Int) * (C : Int) := by simp
     simp at h3; omega
    rw [rowPO_all hj (.inr h3)] at hB6; refine Su ?_; exact QW.head () ⟨hc6, hB6⟩ Sub8
   have h3 : i * C + j < zs.length := by
    have e : ((i * C : Nat) : Int) = (i : Int) * (C : Int) := by simp
    simp at h3; omega
   have h3' : (i : Int) * (C : Int) + (j : Int) < (zs.length : Int) := by
    have e : ((i * C : Nat) : Int) = (i : Int) * (C : Int) := by simp
    omega
   obtain ⟨z, hzi⟩ : ∃ z, zs[i * C + j]? = some z := ⟨_, List.getElem?_eq_getElem h3⟩; obtain ⟨hz0, hz1⟩ := hz z (List.mem_of_getElem? hzi); obtain ⟨m, rfl⟩ : ∃ m : Nat, z = m := ⟨z.toNat, by omega⟩; obtain ⟨a, rfl, hcz⟩ := hzs.at hzi; have hcell : cellAtO zs (i * C + j) = cellO m := cellAtO_some hzi; have hcz6 : w6.cell? (a.add (((i : Int) * (C : Int) + (j : Int)).toNat * 1)) = some (.int .u8 (m : Int)) := by
    rw [show ((i : Int) * (C : Int) + (j : Int)) = ((i * C + j : Nat) : Int) by simp]; exact cell_ext hx6 hcz
   have hd1 := itoa_short m (by omega); have hd2 : (Lib.itoa (1 + (m : Int))).length ≤ 3 := by
    have := itoa_short (1 + m) (by omega)
    simpa using this
   refine Su ?_; refine Lc0 rfl rfl (Digits_all (m : Int) (by omega) (by omega) w6) ?_; rintro v w7 ⟨rfl, hx7⟩; refine Su ?_; refine Lc0 rfl rfl (Digits_all (m : Int) (by omega) (by omega) w7) ?_; rintro v w8 ⟨rfl, hx8⟩; refine Su ?_; refine Lc0 rfl rfl (Digits_all (1 + (m : Int)) (by omega) (by omega) w8) ?_; rintro v w9 ⟨rfl, hx9⟩; refine Su ?_; refine Lwl fun B4 wa hb4 hxa hB4 => ?_; replace hB4 : Blk wa B4 [str [], str ([39] ++ Lib.itoa (m : Int)), str (Lib.itoa (m : Int)), str (([61, 65] ++ Lib.itoa (1 + (m : Int))) ++ [43, 49])] 9 := hB4; have hx6a := ((hx7.trans hx8).trans hx9).trans hxa; have hBa := hB6.ext hx6a; have hload : wa.cell? ((⟨B4, 0, none⟩ : Addr).add (((m : Int) % 4).toNat * 1)) = some (str (cellO m)) := by
    rw [add_addr]; rcases (by omega : m % 4 = 0 ∨ m % 4 = 1 ∨ m % 4 = 2 ∨ m % 4 = 3) with h | h | h | h
    ·rw [show ((m : Int) % 4).toNat * 1 = 0 by omega, cellO, if_pos h]; exact hB4.cell rfl
    ·rw [show ((m : Int) % 4).toNat * 1 = 1 by omega, cellO, if_neg (by omega), if_pos h]; exact hB4.cell rfl
    ·rw [show ((m : Int) % 4).toNat * 1 = 2 by omega, cellO, if_neg (by omega), if_neg (by omega), if_pos h]; exact hB4.cell rfl
    ·rw [show ((m : Int) % 4).toNat * 1 = 3 by omega, cellO, if_neg (by omega), if_neg (by omega), if_neg (by omega), trO_text m (by omega), show (((1 + m : Nat) : Int)) = 1 + (m : Int) by simp]; exact hB4.cell rfl
   refine Su ?_; refine LW.store (i := 0 + (j : Int).toNat * 1) (by show some (Value.pointer (some (Addr.add ⟨B, 0, none⟩ ((j : Int).toNat * 1)))) = _; rw [add_addr]) rfl rfl hBa (Nat.ble_eq_true_of_le (by show _ + 1 ≤ _; rw [rowPO_len hj]; omega)) rfl rfl fun wb hcb hBb => ?_; rw [show 0 + (j : Int).toNat * 1 = j by omega, ← hcell, rowPO_set h2] at hBb; refine Su ?_; exact QW.again (j + 1) ⟨h2, (hc6.ext hx6a).same hcb, hBb⟩ Sub9 (by omega)
  rintro - w6 ⟨hc6, hB6⟩; have hs6 := hc6.size; have hx6 : Ext w w6 := hx5.step hc6 (by have := hx4.size; simp; omega); have hx46 : Ext w4 w6 := hx5'.step hc6 (by simp; omega); have hR6 := hR5.chg hc6 (by simp; omega); have hO6 := hO5.chg hc6 (by simp; omega); have hrl : (rowO zs C i).length = C := by simp [rowO]
  have hTx : TextsQ (fun a => B ≤ a.block) w6 (.slice (some ⟨B, 0, none⟩) C C) (rowO zs C i) := by
   have h := made_texts (lo := B) (v := .slice (some ⟨B, 0, none⟩) C C) (l := rowO zs C i) (w := w6) ⟨by simp, .inr ⟨B, C, [], by rw [hrl], by simpa using hB6, by omega, by simp; omega, Nat.le_refl _⟩⟩ (by omega) (fun s hs => by
    simp only [rowO, List.mem_map] at hs; obtain ⟨q, _, rfl⟩ := hs; have := cellAtO_len hz (i * C + q); omega)
   exact h
  have hTx' : TextsQ (fun a => B ≤ a.block ∧ a.block < w6.heap.size) w6 (.slice (some ⟨B, 0, none⟩) C C) (rowO zs C i) := ListR.there hTx (by decide); obtain ⟨css, g1, g2, g3, g4⟩ := hW; rw [List.length_map, List.length_range] at g1 g3; have hV : ∀ b, b ∈ vblk (.slice po i co) → w3.heap.size ≤ b ∧ b < w4.heap.size := fun b hb => g3.lt hb; refine Su ?_; refine Lwl fun D w7 hbD hx7 hD => ?_; replace hD : Blk w7 D [.slice (some ⟨B, 0, none⟩) C C] 23 := hD; have hs7 := hx7.size; have hR7 := hR6.ext hx7; have hO7 := hO6.ext hx7; refine LW.append (lo := w3.heap.size) (k := i) rfl rfl rfl rfl rfl rfl ((g3.ext hx46).ext hx7) (by omega) hD rfl rfl rfl (by show (i + 1) * 25 ≤ _; omega) rfl ?_; intro v8 w8 hc8 hO8 hv8; obtain ⟨p8, c8, rfl⟩ := hO8.slice; have hs8 := hc8.size; have hR8 := hR7.chg hc8 (fun hb => by have := (hV _ hb).1; omega); have hO8' := hO7.chg hc8 (fun hb => by have := (hV _ hb).1; omega); refine Su ?_; refine Lwt fun w9 hc9 hO9 => ?_; replace hO9 : Blk w9 O [.int .i64 1, .slice p8 (i + 1) c8, str [], .int .i64 0, .slice none 0 0, .slice none 0 0, str []] 25 := hO9; have hs9 := hc9.size; have hnew : ∀ b, b ∈ vblk (.slice p8 (i + 1) c8) → b ∈ vblk (.slice po i co) ∨ w7.heap.size ≤ b := hv8; have hV8 : ∀ b, b ∈ vblk (.slice p8 (i + 1) c8) → b < w8.heap.size ∧ w3.heap.size ≤ b := fun b hb => ⟨(hO8.lt hb).2, (hO8.lt hb).1⟩; refine Su ?_; refine QW.again (i + 1, .slice p8 (i + 1) c8) ⟨by show i + 1 ≤ _; omega, ((hx6.trans hx7).step hc8 (fun b hb => by have := (hV b hb).1; omega)).step hc9 (by simp; omega), by omega, hR8.chg hc9 (by simp; exact hRO), hO9, ?_⟩ Sub7 (by show rowsO k - (i + 1) < rowsO k - i; omega); rw [List.range_succ, List.map_append]; have e1 : ((List.range i).map (rowO zs C)).length = i := by simp
  refine ListO.snoc (css := css) (cs := [.slice (some ⟨B, 0, none⟩) C C]) (by rw [e1]; exact g1) g2 (by rw [e1]; exact hO8.chg hc9 (fun b hb => by have := (hV8 b hb).2; simp; omega)) rfl (fun q y ds hq hd => ?_) ⟨_, rfl, ?_⟩
  ·obtain ⟨u, f1, f2⟩ := g4 q y ds hq hd; refine ⟨u, f1, (((f2.ext hx46).ext hx7).chg (Chg.trans hc8 hc9) (fun hn a ha => ?_)).map (fun a ha => ?_) (fun _ _ _ _ h => h)⟩
   ·simp only [List.mem_append, List.mem_singleton, not_or]; exact ⟨ha.2.2, by omega⟩
   ·refine ⟨ha.1, by omega, fun hb => ?_⟩; rcases hnew _ hb with hb | hb
    ·exact ha.2.2 hb
    ·omega
  ·refine ((hTx'.ext hx7).chg (Chg.trans hc8 hc9) (fun hn a ha => ?_)).map (fun a ha => ?_) (fun _ _ _ _ h => h)
   ·simp only [List.mem_append, List.mem_singleton, not_or]; exact ⟨fun hb => by have := (hV _ hb).2; omega, by omega⟩
   ·refine ⟨by omega, by omega, fun hb => ?_⟩; rcases hnew _ hb with hb | hb
    ·have := (hV _ hb).2; omega
    ·omega
 have e1 : m4 ≠ 0 := by simp at e1; omega
 refine Su ?_; refine Cwc (fun e2 => ?_) fun e2 => ?_
 ·have e2 : m4 = 1 := by simp at e2; omega
  subst e2; refine Su ?_; refine Lc0 rfl rfl (Digits_all (k : Int) (by omega) (by omega) w3) ?_; rintro v w4 ⟨rfl, hx4'⟩; replace hR := hR.ext hx4'; replace hO := hO.ext hx4'; have hx4 := hx3.trans hx4'; have hil3 := itoa_short k (by omega); refine Su ?_; refine Lwt fun w5 hc5 hO5 => ?_; replace hR := hR.chg hc5 (by simp; exact hRO); have hx5 := hx4.step hc5 (by simp; omega); refine Su ?_; refine Lwt fun w6 hc6 hO => ?_; replace hO : Blk w6 O [.int .i64 2, .slice none 0 0, str (83 :: Lib.itoa (k : Int)), .int .i64 ((k % 13 : Nat) : Int), .slice none 0 0, .slice none 0 0, str []] 25 := hO; replace hR := hR.chg hc6 (by simp; exact hRO); have hx6 := hx5.step hc6 (by simp; omega); have hs6 : w3.heap.size ≤ w6.heap.size := by have := hx4'.size; have := hc5.size; have := hc6.size; omega
  refine Su ?_; refine CW.loop (ι := Nat × Value) (fun x w' => x.1 ≤ 5 ∧ x.1 ≤ zs.length ∧ Ext w w' ∧ Blk w' R objZ 25 ∧ Blk w' O [.int .i64 2, .slice none 0 0, str (83 :: Lib.itoa (k : Int)), .int .i64 ((k % 13 : Nat) : Int), x.2, .slice none 0 0, str []] 25 ∧ Own w' w6.heap.size 9 1 x.2 x.1 ((kidsO zs x.1).map str) ∧ w6.heap.size ≤ w'.heap.size) (fun x => [(0, .int .u8 (k : Int)), (1, .slice p zs.length c), (2, str t), (6, .pointer (some ⟨R, 0, none⟩)), (7, .pointer (some ⟨O, 0, none⟩)), (14, .int .i64 (x.1 : Int))]) (fun x => 5 - x.1) (0, .slice none 0 0) ⟨by omega, by omega, hx6, hR, hO, Own.nil _ _ _ _, Nat.le_refl _⟩ Sub6 ?_; rintro ⟨i, kv⟩ wi ⟨hil, hiz, hxi, hRi, hOi, hKi, hWi⟩; dsimp only at hil hiz hOi hKi; obtain ⟨pk, ck, rfl⟩ := hKi.slice; show CW _ _ _ _ _ [(0, .int .u8 (k : Int)), (1, .slice p zs.length c), (2, str t), (6, .pointer (some ⟨R, 0, none⟩)), (7, .pointer (some ⟨O, 0, none⟩)), (14, .int .i64 (i : Int))] _; have hKl : (kidsO zs i).length = i := kidsO_length hiz; have hTK : TextsQ (fun a => w6.heap.size ≤ a.block) wi (.slice pk i ck) (kidsO zs i) := by
   have h := made_texts (l := kidsO zs i) (by rw [hKl]; exact hKi) (by rw [hKl]; omega) kidsO_small; exact h
  refine Su ?_; refine Lwp (fun h1 => ?_) fun h1 => ?_; rotate_left
  ·have h1 : zs.length ≤ i := by simp at h1; omega
   have hall := kidsO_all (zs := zs) (n := 5) hil (by omega); refine Su ?_; refine Lws fun wF hcF hRF => ?_; have hsF := hcF.size; refine Su ?_; refine QW.body_c Tryz.results17 rfl hRF rfl rfl rfl ⟨_, rfl, ?_, hxi.step hcF (by simp; omega)⟩; have e : mkO k zs t = { obj0 2 with name := 83 :: Lib.itoa (k : Int), cols := ((k % 13 : Nat) : Int), kids := kidsO zs i } := by rw [mkO, if_neg (by omega), if_pos (by omega), hall]
   rw [e]; exact ⟨_, _, _, rfl, RowsW.nil, (hTK.chg hcF (fun hn a ha => by simp; omega)).w, TextsW.nil, by show (83 :: Lib.itoa (k : Int)).length ≤ _; have := (name_parts (nameS k hk)).2.1; omega, by simp [obj0], by simp [obj0], by simp [obj0], by show _ ≤ ((k % 13 : Nat) : Int); omega, by show ((k % 13 : Nat) : Int) ≤ _; omega⟩
  have h1 : i < zs.length := by simp at h1; omega
  refine Su ?_; refine Cwc (fun h2 => ?_) fun h2 => ?_; rotate_left
  ·have h2 : 5 ≤ i := by simp at h2; omega
   have hall := kidsO_all (zs := zs) (n := 5) hil (by omega); refine Su ?_; refine Lws fun wF hcF hRF => ?_; have hsF := hcF.size; refine Su ?_; refine QW.body_c Tryz.results17 rfl hRF rfl rfl rfl ⟨_, rfl, ?_, hxi.step hcF (by simp; omega)⟩; have e : mkO k zs t = { obj0 2 with name := 83 :: Lib.itoa (k : Int), cols := ((k % 13 : Nat) : Int), kids := kidsO zs i } := by rw [mkO, if_neg (by omega), if_pos (by omega), hall]
   rw [e]; exact ⟨_, _, _, rfl, RowsW.nil, (hTK.chg hcF (fun hn a ha => by simp; omega)).w, TextsW.nil, by show (83 :: Lib.itoa (k : Int)).length ≤ _; have := (name_parts (nameS k hk)).2.1; omega, by simp [obj0], by simp [obj0], by simp [obj0], by show _ ≤ ((k % 13 : Nat) : Int); omega, by show ((k % 13 : Nat) : Int) ≤ _; omega⟩
  have h2 : i < 5 := by simp at h2; omega
  obtain ⟨z, hzi⟩ : ∃ z, zs[i]? = some z := ⟨_, List.getElem?_eq_getElem h1⟩; obtain ⟨hz0, hz1⟩ := hz z (List.mem_of_getElem? hzi); obtain ⟨m, rfl⟩ : ∃ m : Nat, z = m := ⟨z.toNat, by omega⟩; obtain ⟨a, rfl, hcz⟩ := hzs.at hzi; have hab : a.block < w.heap.size := by
   have := World.block_lt_of_cell? w _ hcz
   rwa [add_block] at this
  have hczi := cell_ext hxi hcz; have hV : ∀ b, b ∈ vblk (.slice pk i ck) → w6.heap.size ≤ b ∧ b < wi.heap.size := fun b hb => hKi.lt hb; have n1 : O ∉ vblk (.slice pk i ck) := fun hb => by have := (hV _ hb).1; omega
  have n2 : (a.add (((i : Nat) : Int).toNat * 1)).block ∉ vblk (.slice pk i ck) := fun hb => by
   have := (hV _ hb).1; rw [add_block] at this; omega
  have n3 : R ∉ vblk (.slice pk i ck) := fun hb => by have := (hV _ hb).1; omega
  refine Su ?_; refine CW.drawG (Chg (vblk (.slice pk i ck)) wi) 9 (fun w' h => h.chg) (by kernel_rfl) fun wa hxa => ?_; refine Sg ?_; refine Gko 6 fun hS => ?_; refine Lc0 rfl rfl (id_ret m (by omega) _) ?_; rintro v wb ⟨rfl, hxb⟩; apply LW.nil; refine QW.headed (hS.ext hxb) ?_; refine Gko 7 fun hS => ?_; refine Lwl fun B wc hbB hxc hB => ?_; apply LW.nil; refine QW.headed (hS.ext hxc) ?_; refine Gko 8 fun hS => ?_; refine LW.append (lo := w6.heap.size) (k := i) rfl rfl rfl rfl rfl rfl (((hKi.ext hxa).ext hxb).ext hxc) (by have := hxa.size; have := hxb.size; have := hxc.size; omega) hB rfl rfl rfl (by show (i + 1) * 17 ≤ _; omega) rfl ?_; intro v2 wd hcd hKd hvd; obtain ⟨pd, cd, rfl⟩ := hKd.slice; have hSd : Chg (vblk (.slice pk i ck)) wi wd := (hS.same hcd); apply LW.nil; refine QW.headed hSd ?_; refine GW.tail rfl (by kernel_rfl) (fun hS => ?_); replace hOi := hOi.chg hSd n1; replace hRi := hRi.chg hSd n3; refine Su ?_; refine Lwt fun we hce hOe => ?_; replace hOe : Blk we O [.int .i64 2, .slice none 0 0, str (83 :: Lib.itoa (k : Int)), .int .i64 ((k % 13 : Nat) : Int), .slice pd (i + 1) cd, .slice none 0 0, str []] 25 := hOe; refine Su ?_; exact QW.again (i + 1, .slice pd (i + 1) cd) ⟨by show i + 1 ≤ 5; omega, h1, (hxi.step hSd (fun b hb => by have := (hV b hb).1; omega)).step hce (by simp; omega), hRi.chg hce (by simp; exact hRO), hOe, by
   show Own we _ _ 1 _ (i + 1) ((kidsO zs (i + 1)).map str); rw [kidsO_step hzi, List.map_append]; exact hKd.chg hce (fun b hb => by have := (hKd.lt hb).1; simp; omega), by have := hSd.size; have := hce.size; omega⟩ Sub6 (by show 5 - (i + 1) < 5 - i; omega)
 have e2 : m4 ≠ 1 := by simp at e2; omega
 refine Su ?_; refine Cwc (fun e3 => ?_) fun e3 => ?_; rotate_left
 ·have e3 : m4 = 2 := by simp at e3; omega
  subst e3; refine Su ?_; refine CW.loop (ι := Nat × Value) (fun x w' => x.1 ≤ 5 ∧ x.1 ≤ zs.length ∧ Ext w w' ∧ Blk w' R objZ 25 ∧ Blk w' O [.int .i64 3, .slice none 0 0, str [], .int .i64 0, x.2, .slice none 0 0, str []] 25 ∧ Own w' w3.heap.size 9 1 x.2 x.1 ((kidsO zs x.1).map str) ∧ w3.heap.size ≤ w'.heap.size) (fun x => [(0, .int .u8 (k : Int)), (1, .slice p zs.length c), (2, str t), (6, .pointer (some ⟨R, 0, none⟩)), (7, .pointer (some ⟨O, 0, none⟩)), (14, .int .i64 (x.1 : Int))]) (fun x => 5 - x.1) (0, .slice none 0 0) ⟨by omega, by omega, hx3, hR, hO, Own.nil _ _ _ _, Nat.le_refl _⟩ Sub6 ?_; rintro ⟨i, kv⟩ wi ⟨hil, hiz, hxi, hRi, hOi, hKi, hWi⟩; dsimp only at hil hiz hOi hKi; obtain ⟨pk, ck, rfl⟩ := hKi.slice; show CW _ _ _ _ _ [(0, .int .u8 (k : Int)), (1, .slice p zs.length c), (2, str t), (6, .pointer (some ⟨R, 0, none⟩)), (7, .pointer (some ⟨O, 0, none⟩)), (14, .int .i64 (i : Int))] _; have hKl : (kidsO zs i).length = i := kidsO_length hiz; have hTK : TextsQ (fun a => w3.heap.size ≤ a.block) wi (.slice pk i ck) (kidsO zs i) := by
   have h := made_texts (l := kidsO zs i) (by rw [hKl]; exact hKi) (by rw [hKl]; omega) kidsO_small; exact h
  refine Su ?_; refine Lwp (fun h1 => ?_) fun h1 => ?_; rotate_left
  ·have h1 : zs.length ≤ i := by simp at h1; omega
   have hall := kidsO_all (zs := zs) (n := 5) hil (by omega); refine Su ?_; refine Lws fun wF hcF hRF => ?_; have hsF := hcF.size; refine Su ?_; refine QW.body_c Tryz.results17 rfl hRF rfl rfl rfl ⟨_, rfl, ?_, hxi.step hcF (by simp; omega)⟩; have e : mkO k zs t = { obj0 3 with kids := kidsO zs i } := by rw [mkO, if_neg (by omega), if_neg (by omega), if_pos (by omega), hall]
   rw [e]; exact ⟨_, _, _, rfl, RowsW.nil, (hTK.chg hcF (fun hn a ha => by simp; omega)).w, TextsW.nil, by simp [obj0], by simp [obj0], by simp [obj0], by simp [obj0], by simp [obj0], by simp [obj0]⟩
  have h1 : i < zs.length := by simp at h1; omega
  refine Su ?_; refine Cwc (fun h2 => ?_) fun h2 => ?_; rotate_left
  ·have h2 : 5 ≤ i := by simp at h2; omega
   have hall := kidsO_all (zs := zs) (n := 5) hil (by omega); refine Su ?_; refine Lws fun wF hcF hRF => ?_; have hsF := hcF.size; refine Su ?_; refine QW.body_c Tryz.results17 rfl hRF rfl rfl rfl ⟨_, rfl, ?_, hxi.step hcF (by simp; omega)⟩; have e : mkO k zs t = { obj0 3 with kids := kidsO zs i } := by rw [mkO, if_neg (by omega), if_neg (by omega), if_pos (by omega), hall]
   rw [e]; exact ⟨_, _, _, rfl, RowsW.nil, (hTK.chg hcF (fun hn a ha => by simp; omega)).w, TextsW.nil, by simp [obj0], by simp [obj0], by simp [obj0], by simp [obj0], by simp [obj0], by simp [obj0]⟩
  have h2 : i < 5 := by simp at h2; omega
  obtain ⟨z, hzi⟩ : ∃ z, zs[i]? = some z := ⟨_, List.getElem?_eq_getElem h1⟩; obtain ⟨hz0, hz1⟩ := hz z (List.mem_of_getElem? hzi); obtain ⟨m, rfl⟩ : ∃ m : Nat, z = m := ⟨z.toNat, by omega⟩; obtain ⟨a, rfl, hcz⟩ := hzs.at hzi; have hab : a.block < w.heap.size := by
   have := World.block_lt_of_cell? w _ hcz
   rwa [add_block] at this
  have hczi := cell_ext hxi hcz; have hV : ∀ b, b ∈ vblk (.slice pk i ck) → w3.heap.size ≤ b ∧ b < wi.heap.size := fun b hb => hKi.lt hb; have n1 : O ∉ vblk (.slice pk i ck) := fun hb => by have := (hV _ hb).1; omega
  have n2 : (a.add (((i : Nat) : Int).toNat * 1)).block ∉ vblk (.slice pk i ck) := fun hb => by
   have := (hV _ hb).1; rw [add_block] at this; omega
  have n3 : R ∉ vblk (.slice pk i ck) := fun hb => by have := (hV _ hb).1; omega
  refine Su ?_; refine CW.drawG (Chg (vblk (.slice pk i ck)) wi) 9 (fun w' h => h.chg) (by kernel_rfl) fun wa hxa => ?_; refine Sg ?_; refine Gko 6 fun hS => ?_; refine Lc0 rfl rfl (id_ret m (by omega) _) ?_; rintro v wb ⟨rfl, hxb⟩; apply LW.nil; refine QW.headed (hS.ext hxb) ?_; refine Gko 7 fun hS => ?_; refine Lwl fun B wc hbB hxc hB => ?_; apply LW.nil; refine QW.headed (hS.ext hxc) ?_; refine Gko 8 fun hS => ?_; refine LW.append (lo := w3.heap.size) (k := i) rfl rfl rfl rfl rfl rfl (((hKi.ext hxa).ext hxb).ext hxc) (by have := hxa.size; have := hxb.size; have := hxc.size; omega) hB rfl rfl rfl (by show (i + 1) * 17 ≤ _; omega) rfl ?_; intro v2 wd hcd hKd hvd; obtain ⟨pd, cd, rfl⟩ := hKd.slice; have hSd : Chg (vblk (.slice pk i ck)) wi wd := (hS.same hcd); apply LW.nil; refine QW.headed hSd ?_; refine GW.tail rfl (by kernel_rfl) (fun hS => ?_); replace hOi := hOi.chg hSd n1; replace hRi := hRi.chg hSd n3; refine Su ?_; refine Lwt fun we hce hOe => ?_; replace hOe : Blk we O [.int .i64 3, .slice none 0 0, str [], .int .i64 0, .slice pd (i + 1) cd, .slice none 0 0, str []] 25 := hOe; refine Su ?_; exact QW.again (i + 1, .slice pd (i + 1) cd) ⟨by show i + 1 ≤ 5; omega, h1, (hxi.step hSd (fun b hb => by have := (hV b hb).1; omega)).step hce (by simp; omega), hRi.chg hce (by simp; exact hRO), hOe, by
   show Own we _ _ 1 _ (i + 1) ((kidsO zs (i + 1)).map str); rw [kidsO_step hzi, List.map_append]; exact hKd.chg hce (fun b hb => by have := (hKd.lt hb).1; simp; omega), by have := hSd.size; have := hce.size; omega⟩ Sub6 (by show 5 - (i + 1) < 5 - i; omega)
 have e3 : m4 = 3 := by simp at e3; omega
 subst e3; refine Su ?_; refine Lc0 rfl rfl (id_ret k hk w3) ?_; rintro v w4 ⟨rfl, hx4'⟩; replace hR := hR.ext hx4'; replace hO := hO.ext hx4'; have hx4 := hx3.trans hx4'; have hs4 := hx4'.size; refine Su ?_; refine Lwl fun KB w5 hbK hx5' hKB => ?_; replace hKB : Blk w5 KB [str (idO k)] 9 := hKB; replace hR := hR.ext hx5'; replace hO := hO.ext hx5'; have hx5 := hx4.trans hx5'; have hs5 := hx5'.size; have hKl := hKB.lt; have hKw : w.heap.size ≤ KB := by have := hx4.size; omega
 have hKO : KB ≠ O := by omega
 have hKR : KB ≠ R := by omega
 refine Su ?_; refine Lwt fun w6 hc6 hO => ?_; replace hO : Blk w6 O [.int .i64 4, .slice none 0 0, str [], .int .i64 0, .slice (some ⟨KB, 0, none⟩) 1 1, .slice none 0 0, str []] 25 := hO; replace hR := hR.chg hc6 (by simp; exact hRO); replace hKB := hKB.chg hc6 (by simp; exact hKO); have hx6 := hx5.step hc6 (by simp; omega); have hs6 := hc6.size; have hTKB : ∀ {w' : World} {T : TypeId}, Blk w' KB [str (idO k)] T → TextsW w' (.slice (some ⟨KB, 0, none⟩) 1 1) [idO k] := fun {w' T} hB => ⟨by simp, .inr ⟨⟨KB, 0, none⟩, 1, rfl, fun j x hj => by
  have hj0 : j = 0 := by have := (List.getElem?_eq_some_iff.1 hj).1; simp at this; exact this
  subst hj0; simp at hj; subst hj; exact ⟨str (idO k), by rw [add_addr]; exact hB.cell rfl, rfl, by rw [idO_len]; omega⟩⟩⟩
 refine Su ?_; refine CW.loop (ι := Nat × Value) (fun x w' => x.1 ≤ 2 ∧ x.1 ≤ zs.length ∧ Ext w w' ∧ Blk w' R objZ 25 ∧ Blk w' O [.int .i64 4, .slice none 0 0, str [], .int .i64 0, .slice (some ⟨KB, 0, none⟩) 1 1, x.2, str []] 25 ∧ Own w' w6.heap.size 9 1 x.2 x.1 ((kidsO zs x.1).map str) ∧ w6.heap.size ≤ w'.heap.size ∧ Blk w' KB [str (idO k)] 9) (fun x => [(0, .int .u8 (k : Int)), (1, .slice p zs.length c), (2, str t), (6, .pointer (some ⟨R, 0, none⟩)), (7, .pointer (some ⟨O, 0, none⟩)), (13, .int .i64 (x.1 : Int))]) (fun x => 2 - x.1) (0, .slice none 0 0) ⟨by omega, by omega, hx6, hR, hO, Own.nil _ _ _ _, Nat.le_refl _, hKB⟩ Sub6 ?_; rintro ⟨i, kv⟩ wi ⟨hil, hiz, hxi, hRi, hOi, hKi, hWi, hKBi⟩; dsimp only at hil hiz hOi hKi; obtain ⟨pk, ck, rfl⟩ := hKi.slice; show CW _ _ _ _ _ [(0, .int .u8 (k : Int)), (1, .slice p zs.length c), (2, str t), (6, .pointer (some ⟨R, 0, none⟩)), (7, .pointer (some ⟨O, 0, none⟩)), (13, .int .i64 (i : Int))] _; have hKl : (kidsO zs i).length = i := kidsO_length hiz; have hTK : TextsQ (fun a => w6.heap.size ≤ a.block) wi (.slice pk i ck) (kidsO zs i) := by
  have h := made_texts (l := kidsO zs i) (by rw [hKl]; exact hKi) (by rw [hKl]; omega) kidsO_small; exact h
 refine Su ?_; refine Lwp (fun h1 => ?_) fun h1 => ?_; rotate_left
 ·have h1 : zs.length ≤ i := by simp at h1; omega
  have hall := kidsO_all (zs := zs) (n := 2) hil (by omega); refine Su ?_; refine Cwc (fun h3 => ?_) fun h3 => ?_
  ·have h3 : t.length ≤ 60 := by simp at h3; omega
   refine Su ?_; refine Lwt fun wt hct hOt => ?_; replace hRi := hRi.chg hct (by simp; exact hRO); refine Su ?_; refine Lws fun wF hcF hRF => ?_; have hsF := hcF.size; refine Su ?_; refine QW.body_c Tryz.results17 rfl hRF rfl rfl rfl ⟨_, rfl, ?_, (hxi.step hct (by simp; omega)).step hcF (by simp; omega)⟩; have e : mkO k zs t = { obj0 4 with kids := [idO k], parents := kidsO zs i, note := t } := by rw [mkO, if_neg (by omega), if_neg (by omega), if_neg (by omega), hall, if_pos h3]
   rw [e]; exact ⟨_, _, _, rfl, RowsW.nil, hTKB ((hKBi.chg hct (by simp; exact hKO)).chg hcF (by simp; exact hKR)), ((hTK.chg hct (fun hn a ha => by simp; omega)).chg hcF (fun hn a ha => by simp; omega)).w, by simp [obj0], by show t.length ≤ _; omega, by simp [obj0], by simp [obj0], by simp [obj0], by simp [obj0]⟩
  have h3 : ¬ t.length ≤ 60 := by simp at h3; omega
  refine Su ?_; refine Lws fun wF hcF hRF => ?_; have hsF := hcF.size; refine Su ?_; refine QW.body_c Tryz.results17 rfl hRF rfl rfl rfl ⟨_, rfl, ?_, hxi.step hcF (by simp; omega)⟩; have e : mkO k zs t = { obj0 4 with kids := [idO k], parents := kidsO zs i } := by rw [mkO, if_neg (by omega), if_neg (by omega), if_neg (by omega), hall, if_neg h3]; rfl
  rw [e]; exact ⟨_, _, _, rfl, RowsW.nil, hTKB (hKBi.chg hcF (by simp; exact hKR)), (hTK.chg hcF (fun hn a ha => by simp; omega)).w, by simp [obj0], by simp [obj0], by simp [obj0], by simp [obj0], by simp [obj0], by simp [obj0]⟩
 have h1 : i < zs.length := by simp at h1; omega
 refine Su ?_; refine Cwc (fun h2 => ?_) fun h2 => ?_; rotate_left
 ·have h2 : 2 ≤ i := by simp at h2; omega
  have hall := kidsO_all (zs := zs) (n := 2) hil (by omega); refine Su ?_; refine Cwc (fun h3 => ?_) fun h3 => ?_
  ·have h3 : t.length ≤ 60 := by simp at h3; omega
   refine Su ?_; refine Lwt fun wt hct hOt => ?_; replace hRi := hRi.chg hct (by simp; exact hRO); refine Su ?_; refine Lws fun wF hcF hRF => ?_; have hsF := hcF.size; refine Su ?_; refine QW.body_c Tryz.results17 rfl hRF rfl rfl rfl ⟨_, rfl, ?_, (hxi.step hct (by simp; omega)).step hcF (by simp; omega)⟩; have e : mkO k zs t = { obj0 4 with kids := [idO k], parents := kidsO zs i, note := t } := by rw [mkO, if_neg (by omega), if_neg (by omega), if_neg (by omega), hall, if_pos h3]
   rw [e]; exact ⟨_, _, _, rfl, RowsW.nil, hTKB ((hKBi.chg hct (by simp; exact hKO)).chg hcF (by simp; exact hKR)), ((hTK.chg hct (fun hn a ha => by simp; omega)).chg hcF (fun hn a ha => by simp; omega)).w, by simp [obj0], by show t.length ≤ _; omega, by simp [obj0], by simp [obj0], by simp [obj0], by simp [obj0]⟩
  have h3 : ¬ t.length ≤ 60 := by simp at h3; omega
  refine Su ?_; refine Lws fun wF hcF hRF => ?_; have hsF := hcF.size; refine Su ?_; refine QW.body_c Tryz.results17 rfl hRF rfl rfl rfl ⟨_, rfl, ?_, hxi.step hcF (by simp; omega)⟩; have e : mkO k zs t = { obj0 4 with kids := [idO k], parents := kidsO zs i } := by rw [mkO, if_neg (by omega), if_neg (by omega), if_neg (by omega), hall, if_neg h3]; rfl
  rw [e]; exact ⟨_, _, _, rfl, RowsW.nil, hTKB (hKBi.chg hcF (by simp; exact hKR)), (hTK.chg hcF (fun hn a ha => by simp; omega)).w, by simp [obj0], by simp [obj0], by simp [obj0], by simp [obj0], by simp [obj0], by simp [obj0]⟩
 have h2 : i < 2 := by simp at h2; omega
 obtain ⟨z, hzi⟩ : ∃ z, zs[i]? = some z := ⟨_, List.getElem?_eq_getElem h1⟩; obtain ⟨hz0, hz1⟩ := hz z (List.mem_of_getElem? hzi); obtain ⟨m, rfl⟩ : ∃ m : Nat, z = m := ⟨z.toNat, by omega⟩; obtain ⟨a, rfl, hcz⟩ := hzs.at hzi; have hab : a.block < w.heap.size := by
  have := World.block_lt_of_cell? w _ hcz
  rwa [add_block] at this
 have hczi := cell_ext hxi hcz; have hV : ∀ b, b ∈ vblk (.slice pk i ck) → w6.heap.size ≤ b ∧ b < wi.heap.size := fun b hb => hKi.lt hb; have n1 : O ∉ vblk (.slice pk i ck) := fun hb => by have := (hV _ hb).1; omega
 have n2 : (a.add (((i : Nat) : Int).toNat * 1)).block ∉ vblk (.slice pk i ck) := fun hb => by
  have := (hV _ hb).1; rw [add_block] at this; omega
 have n3 : R ∉ vblk (.slice pk i ck) := fun hb => by have := (hV _ hb).1; omega
 refine Su ?_; refine CW.drawG (Chg (vblk (.slice pk i ck)) wi) 9 (fun w' h => h.chg) (by kernel_rfl) fun wa hxa => ?_; refine Sg ?_; refine Gko 6 fun hS => ?_; refine Lc0 rfl rfl (id_ret m (by omega) _) ?_; rintro v wb ⟨rfl, hxb⟩; apply LW.nil; refine QW.headed (hS.ext hxb) ?_; refine Gko 7 fun hS => ?_; refine Lwl fun B wc hbB hxc hB => ?_; apply LW.nil; refine QW.headed (hS.ext hxc) ?_; refine Gko 8 fun hS => ?_; refine LW.append (lo := w6.heap.size) (k := i) rfl rfl rfl rfl rfl rfl (((hKi.ext hxa).ext hxb).ext hxc) (by have := hxa.size; have := hxb.size; have := hxc.size; omega) hB rfl rfl rfl (by show (i + 1) * 17 ≤ _; omega) rfl ?_; intro v2 wd hcd hKd hvd; obtain ⟨pd, cd, rfl⟩ := hKd.slice; have hSd : Chg (vblk (.slice pk i ck)) wi wd := (hS.same hcd); apply LW.nil; refine QW.headed hSd ?_; refine GW.tail rfl (by kernel_rfl) (fun hS => ?_); replace hOi := hOi.chg hSd n1; replace hRi := hRi.chg hSd n3; refine Su ?_; refine Lwt fun we hce hOe => ?_; replace hOe : Blk we O [.int .i64 4, .slice none 0 0, str [], .int .i64 0, .slice (some ⟨KB, 0, none⟩) 1 1, .slice pd (i + 1) cd, str []] 25 := hOe; refine Su ?_; exact QW.again (i + 1, .slice pd (i + 1) cd) ⟨by show i + 1 ≤ 2; omega, h1, (hxi.step hSd (fun b hb => by have := (hV b hb).1; omega)).step hce (by simp; omega), hRi.chg hce (by simp; exact hRO), hOe, by
  show Own we _ _ 1 _ (i + 1) ((kidsO zs (i + 1)).map str); rw [kidsO_step hzi, List.map_append]; exact hKd.chg hce (fun b hb => by have := (hKd.lt hb).1; simp; omega), by have := hSd.size; have := hce.size; omega, (hKBi.chg hSd (fun hb => by have := (hV _ hb).1; omega)).chg hce (by simp; omega)⟩ Sub6 (by show 2 - (i + 1) < 2 - i; omega)
theorem putTs_le {m : Nat} (hm : m ≤ 1000000) : ∀ {l : List (List UInt8)}, (∀ s ∈ l, s.length ≤ m) → (l.flatMap putT).length ≤ l.length * (10 + m)
 | [], _ => by simp
 | s :: l, h => by
  have := putTs_le hm (l := l) fun u hu => h u (List.mem_cons_of_mem _ hu); have h1 := h s (List.mem_cons_self ..); have := putN_len10 (n := s.length) (by omega); rw [List.flatMap_cons, List.length_append, List.length_cons, Nat.add_mul, putT, List.length_append]; omega
theorem putL_le {l : List (List UInt8)} {n m : Nat} (hm : m ≤ 1000000) (hn : n ≤ 1000000) (hl : l.length ≤ n) (hs : ∀ s ∈ l, s.length ≤ m) : (putL l).length ≤ 10 + n * (10 + m) := by
 have h1 := putN_len10 (n := l.length) (by omega); have h2 := putTs_le hm hs; have h3 : l.length * (10 + m) ≤ n * (10 + m) := Nat.mul_le_mul_right _ hl; rw [putL, List.length_append]; omega
theorem ids_le {l : List (List UInt8)} (h : idsB l = true) : ∀ s ∈ l, s.length ≤ 32 := fun s hs => by
 have := List.all_eq_true.1 h s hs; simp at this; omega
theorem rows_le : ∀ {l : List (List (List UInt8))}, (∀ r ∈ l, r.length ≤ 12 ∧ ∀ s ∈ r, s.length ≤ 300) → (l.flatMap putL).length ≤ l.length * 3730
 | [], _ => by simp
 | r :: l, h => by
  have := rows_le (l := l) fun u hu => h u (List.mem_cons_of_mem _ hu); have h1 := h r (List.mem_cons_self ..); have := putL_le (m := 300) (n := 12) (by omega) (by omega) h1.1 h1.2; rw [List.flatMap_cons, List.length_append, List.length_cons, Nat.add_mul]; omega
theorem putO_le (o : ObjD) : (putO o).length ≤ 20000 := by
 rw [putO]
 split
 rotate_left
 ·simp
 rename_i hm; have hm' := hm; rw [mayO] at hm; simp only [Bool.and_eq_true] at hm; obtain ⟨⟨hk, hp⟩, hm⟩ := hm; have hk := ids_le hk; have hp := ids_le hp; rw [bytesO_eq, List.length_append]; rcases may_kind hm' with e | e | e | e <;> rw [e] at hm ⊢
 ·have h0 : (putN (1 : Int).toNat).length ≤ 10 := putN_len10 (by decide); simp only [if_pos, Bool.and_eq_true, decide_eq_true_eq] at hm; obtain ⟨-, hc⟩ := hm; simp only [chunkB, Bool.and_eq_true, decide_eq_true_eq, List.all_eq_true] at hc; obtain ⟨⟨⟨h1, h2⟩, h3⟩, h4⟩ := hc; have b1 := rows_le (l := o.rows) fun r hr => ⟨by rw [(h4 r hr).1]; exact h3, fun s hs => mayC_len300 ((h4 r hr).2 s hs)⟩; have b2 := putN_len10 (n := o.rows.length) (by omega); rw [bodyB, if_pos e, List.length_append]; omega
 ·have h0 : (putN (2 : Int).toNat).length ≤ 10 := putN_len10 (by decide); simp only [if_neg (show ¬ (2 : Int) = 1 by decide), if_pos, Bool.and_eq_true, decide_eq_true_eq] at hm; obtain ⟨⟨⟨⟨-, hn⟩, c1⟩, c2⟩, hl⟩ := hm; have hn12 := (name_parts hn).2.1; have b1 := putN_len10 (n := o.name.length) (by omega); have b2 := putN_len10 (n := o.cols.toNat) (by omega); have b3 := putL_le (m := 32) (by omega) (by omega) hl hk; rw [bodyB, if_neg (by rw [e]; decide), if_pos e, List.length_append, List.length_append, putT, List.length_append]; omega
 ·have h0 : (putN (3 : Int).toNat).length ≤ 10 := putN_len10 (by decide); simp only [if_neg (show ¬ (3 : Int) = 1 by decide), if_neg (show ¬ (3 : Int) = 2 by decide), if_pos, Bool.and_eq_true, decide_eq_true_eq] at hm; obtain ⟨-, hl⟩ := hm; have b3 := putL_le (m := 32) (by omega) (by omega) hl hk; rw [bodyB, if_neg (by rw [e]; decide), if_neg (by rw [e]; decide), if_pos e]; omega
 ·have h0 : (putN (4 : Int).toNat).length ≤ 10 := putN_len10 (by decide); simp only [if_neg (show ¬ (4 : Int) = 1 by decide), if_neg (show ¬ (4 : Int) = 2 by decide), if_neg (show ¬ (4 : Int) = 3 by decide), if_pos, Bool.and_eq_true, decide_eq_true_eq] at hm; obtain ⟨⟨⟨-, hl⟩, hl2⟩, hnt⟩ := hm; have b1 := putN_len10 (n := o.note.length) (by omega); have b2 := putL_le (m := 32) (by omega) (by omega) hl2 hp; have b3 := putL_le (m := 32) (n := 1) (by omega) (by omega) (by omega) hk; rw [bodyB, if_neg (by rw [e]; decide), if_neg (by rw [e]; decide), if_neg (by rw [e]; decide), List.length_append, List.length_append, putT, List.length_append]; omega
set_option maxRecDepth 8000 in
set_option maxHeartbeats 8000000 in
theorem ObjectBack_ret (k : Nat) (hk : k < 256) (zs : List Int) (pz : Option Addr) (cz : Nat) (t : List UInt8) (pm pr : Option Addr) (nm cm nr cr : Nat) (bm br : List UInt8) (w : World) (g : Glob w) (hzs : InS .u8 w (.slice pz zs.length cz) zs) (hz : ∀ z ∈ zs, 0 ≤ z ∧ z ≤ 255) (ht : t.length ≤ 9223372036854775807) (hM : ByW w pm nm cm bm) (hR : ByW w pr nr cr br) : Ret Tryz.prog 4 [.int .u8 (k : Int), .slice pz zs.length cz, str t, .slice pm nm cm, .slice pr nr cr] w (fun v w' => v = .bool true ∧ Ext w w') := by
 have hzl := hzs.1; obtain ⟨hmt, hmf⟩ := hM; obtain ⟨hrt, hrf⟩ := hR; refine Rte Tryz.func4 Tryz.ntmps4 ?_; refine Su ?_; refine Lwp (fun a1 => ?_) fun a1 => ?_
 ·refine Su ?_; refine Lc0 rfl rfl (awake21_ret w g) ?_; rintro v w1 ⟨rfl, hx1⟩; refine Su ?_; exact QW.body1 Tryz.results4 rfl ⟨rfl, hx1⟩
 have a1 : zs.length ≤ 40 := by simp at a1; omega
 refine Su ?_; refine Lwp (fun a2 => ?_) fun a2 => ?_
 ·refine Su ?_; refine Lc0 rfl rfl (awake21_ret w g) ?_; rintro v w1 ⟨rfl, hx1⟩; refine Su ?_; exact QW.body1 Tryz.results4 rfl ⟨rfl, hx1⟩
 have a2 : t.length ≤ 200 := by simp at a2; omega
 refine Su ?_; refine Lwp (fun a3 => ?_) fun a3 => ?_
 ·refine Su ?_; refine Lc0 rfl rfl (awake21_ret w g) ?_; rintro v w1 ⟨rfl, hx1⟩; refine Su ?_; exact QW.body1 Tryz.results4 rfl ⟨rfl, hx1⟩
 have a3 : nm ≠ 0 := by simp at a3; omega
 refine Su ?_; refine Lwp (fun a4 => ?_) fun a4 => ?_
 ·refine Su ?_; refine Lc0 rfl rfl (awake21_ret w g) ?_; rintro v w1 ⟨rfl, hx1⟩; refine Su ?_; exact QW.body1 Tryz.results4 rfl ⟨rfl, hx1⟩
 have a4 : nm ≤ 30 := by simp at a4; omega
 refine Su ?_; refine Cwc (fun a5 => ?_) fun a5 => ?_
 ·refine Su ?_; refine Lc0 rfl rfl (awake21_ret w g) ?_; rintro v w1 ⟨rfl, hx1⟩; refine Su ?_; exact QW.body1 Tryz.results4 rfl ⟨rfl, hx1⟩
 have a5 : nr ≤ 600 := by simp at a5; omega
 obtain ⟨hbm, hmc, hQm⟩ := hmf (by omega); obtain ⟨hbr, hrc, hQr⟩ := hrf (by omega); have hQr' : ∀ w', Ext w w' → BytesQ (fun a => a.block < w'.heap.size) w' (.slice pr nr cr) br := fun w' x => rGetO_low br pr nr cr w w' x hbr hQr; subst hbm hbr; have hmay := mkO_may (k := k) (zs := zs) (t := t) hk hz; have hlen := putO_le (mkO k zs t); have hpos : 0 < (putO (mkO k zs t)).length := by rw [putO, if_pos hmay]; exact bytesO_pos _
 have hget := getO_of hmay; refine Su ?_; refine Lc0 rfl rfl (Make_ret k hk zs pz cz t w hzs a1 hz a2) ?_; rintro v w1 ⟨cs, rfl, hW, hx1⟩; generalize mkO k zs t = o at *; obtain ⟨po0, po1, po2, po3, po4, po5, rfl⟩ := hW.cells; refine Su ?_; refine Lwa fun O w2 hbO hx2' hO => ?_; refine Su ?_; refine Lws fun w3 hc3 hO => ?_; replace hO : Blk w3 O [.int .i64 o.kind, .slice po0 o.rows.length po1, str o.name, .int .i64 o.cols, .slice po2 o.kids.length po3, .slice po4 o.parents.length po5, str o.note] 25 := hO; have hx13 : Ext w1 w3 := hx2'.step hc3 (by simp; omega); have hx3 := hx1.trans hx13; replace hW := hW.ext hx13; refine Su ?_; refine Lc0 rfl rfl (oPut_ret o _ w3 (g.ext hx3) hW) ?_; rintro v w4 ⟨hP, hx4'⟩; have hx4 := hx3.trans hx4'; replace hW := hW.ext hx4'; replace hO := hO.ext hx4'; generalize hb : putO o = b at *; obtain ⟨pb, cb, rfl⟩ := hP.slice; have hcap := BytesO.cap hP; have hL := BytesO.low hP (by omega); have hL' : ∀ w', Ext w4 w' → BytesQ (fun a => a.block < w'.heap.size) w' (.slice pb b.length cb) b := fun w' x => rGetO_low b pb b.length cb w4 w' x rfl hL; refine Su ?_; refine Lc0 rfl rfl (oGet_ret b pb cb w4 (g.ext hx4) hL hcap) ?_; rintro v w5 ⟨cx, rfl, hX, hx5'⟩; rw [hget] at hX ⊢; replace hX : ObjW w5 cx o := hX; have hx5 := hx4.trans hx5'; replace hW := hW.ext hx5'; replace hO := hO.ext hx5'; obtain ⟨px0, px1, px2, px3, px4, px5, rfl⟩ := hX.cells; refine Su ?_; refine Lwa fun X w6 hbX hx6' hBX => ?_; refine Su ?_; refine Lws fun w7 hc7 hBX => ?_; replace hBX : Blk w7 X [.int .i64 o.kind, .slice px0 o.rows.length px1, str o.name, .int .i64 o.cols, .slice px2 o.kids.length px3, .slice px4 o.parents.length px5, str o.note] 25 := hBX; have hx57 : Ext w5 w7 := hx6'.step hc7 (by simp; omega); have hx7 := hx5.trans hx57; have hx47 := hx5'.trans hx57; replace hW := hW.ext hx57; replace hO := hO.ext hx57; replace hX := hX.ext hx57; refine Su ?_; refine Lc0 rfl rfl (oMay_ret o _ w7 (g.ext hx7) hW) ?_; rintro v w8 ⟨rfl, hx8'⟩; rw [hmay]; have hx8 := hx7.trans hx8'; have hx48 := hx47.trans hx8'; replace hW := hW.ext hx8'; replace hO := hO.ext hx8'; replace hX := hX.ext hx8'; replace hBX := hBX.ext hx8'; refine Su ?_; refine Lc0 rfl rfl (SameO_ret o o _ _ w8 hX hW) ?_; rintro v w9 ⟨rfl, hx9'⟩; rw [show decide (o = o) = true by simp]; have hx9 := hx8.trans hx9'; have hx49 := hx48.trans hx9'; refine Su ?_; refine Cwc (fun c1 => ?_) fun c1 => ?_
 ·simp at c1; rw [c1] at hpos; simp at hpos
 clear hBX hX hO; have hn1 : ((b.length : Int) - 1) = ((b.length - 1 : Nat) : Int) := by omega
 refine Su ?_; refine LW.slice_hi (j := b.length - 1) rfl (by show some (Value.int .i64 _) = some (Value.int .i64 _); rw [hn1]) rfl rfl rfl (by omega) rfl ?_; have hcut : getO (b.take (b.length - 1)) = none := getO_cut (o := o) (r := b.drop (b.length - 1)) hmay (by rw [List.take_append_drop, hb]) (by
  intro e; have := congrArg List.length e; simp at this; omega)
 have htl : (b.take (b.length - 1)).length = b.length - 1 := by simp
 have hT : BytesQ (fun a => a.block < w9.heap.size) w9 (.slice pb (b.take (b.length - 1)).length cb) (b.take (b.length - 1)) := by
  rw [htl]; exact BytesQ.take (hL' w9 hx49) (by omega)
 have hcall := oGet_ret (b.take (b.length - 1)) pb cb w9 (g.ext hx9) hT (by omega); rw [htl, hcut] at hcall; refine Su ?_; refine Lc0 rfl rfl hcall ?_; rintro v w10 ⟨cu, rfl, hU, hx10'⟩; have hx10 := hx9.trans hx10'; have hx410 := hx49.trans hx10'; replace hU : ObjW w10 cu (obj0 0) := hU; obtain ⟨pu0, pu1, pu2, pu3, pu4, pu5, rfl⟩ := hU.cells; refine Su ?_; refine Lwa fun UB w11 hbU hx11' hBU => ?_; refine Su ?_; refine Lws fun w12 hc12 hBU => ?_; have hx1012 : Ext w10 w12 := hx11'.step hc12 (by simp; omega); have hx12 := hx10.trans hx1012; have hx412 := hx410.trans hx1012; clear hBU; refine Su ?_; refine LW.buildSlice0 rfl rfl rfl rfl ?_; intro B w13 hbB hx13' hB; have hx4_13 := hx412.trans hx13'; have hx_13 := hx12.trans hx13'; refine Su ?_; refine LW.append_any (lo := w12.heap.size) (k := 0) (xs := []) (news := bcells b) rfl rfl rfl rfl rfl rfl ⟨rfl, .inr ⟨B, 0, [], rfl, hB, Nat.le_refl _, by simp, by omega⟩⟩ hx13'.size (by rw [bcells_len']; show _ = _ * 1; omega) ((hL' _ hx4_13).cells) (bcells_one _) (by show (0 + b.length) * 2 ≤ _; omega) rfl ?_; intro v14 w14 hc14 hO14 hv14; rw [Nat.zero_add, List.nil_append] at hO14; have hx1214 : Ext w12 w14 := hx13'.step hc14 (fun b hb => by simp [vblk] at hb; omega); have hx14 := hx12.trans hx1214; have hQm14 := BytesQ.ext hQm hx14; refine Su ?_; refine LW.append_any (lo := w12.heap.size) (k := b.length) (xs := bcells b) (news := bcells bm) rfl rfl rfl rfl rfl rfl hO14 hx1214.size (by rw [bcells_len']; show _ = _ * 1; omega) hQm14.cells (bcells_one _) (by show (b.length + bm.length) * 2 ≤ _; omega) rfl ?_; intro v15 w15 hc15 hO15 hv15; have hO15' := BytesO.app hO15; clear hO15; have hx1215 : Ext w12 w15 := hx1214.step hc15 (fun b hb => by have := (Own.lt hO14 hb).1; omega); have hx15 := hx12.trans hx1215; obtain ⟨pl, cl, rfl⟩ := hO15'.slice; have hlong : getO (b ++ bm) = none := by
  rw [← hb]; exact getO_long hmay (by intro e; rw [e] at a3; simp at a3)
 have hcall2 := oGet_ret (b ++ bm) pl cl w15 (g.ext hx15) (BytesO.low hO15' (by rw [List.length_append]; omega)) (BytesO.cap hO15'); rw [hlong] at hcall2; refine Su ?_; refine Lc0 rfl rfl hcall2 ?_; rintro v w16 ⟨cl2, rfl, hLo, hx16'⟩; have hx16 := hx15.trans hx16'; replace hLo : ObjW w16 cl2 (obj0 0) := hLo; obtain ⟨pl0, pl1, pl2, pl3, pl4, pl5, rfl⟩ := hLo.cells; refine Su ?_; refine Lwa fun LB w17 hbL hx17' hBL => ?_; refine Su ?_; refine Lws fun w18 hc18 hBL => ?_; have hx18 : Ext w w18 := hx16.trans (hx17'.step hc18 (by simp; omega)); clear hBL; refine Su ?_; refine Lc0 rfl rfl (oGet_ret br pr cr w18 (g.ext hx18) (hQr' w18 hx18) hrc) ?_; rintro v w19 ⟨cy, rfl, hY, hx19'⟩; have hx19 := hx18.trans hx19'; obtain ⟨py0, py1, py2, py3, py4, py5, rfl⟩ := hY.cells; refine Su ?_; refine Lwa fun YB w20 hbY hx20' hBY => ?_; refine Su ?_; refine Lws fun w21 hc21 hBY => ?_; replace hBY : Blk w21 YB [.int .i64 ((getO br).getD (obj0 0)).kind, .slice py0 ((getO br).getD (obj0 0)).rows.length py1, str ((getO br).getD (obj0 0)).name, .int .i64 ((getO br).getD (obj0 0)).cols, .slice py2 ((getO br).getD (obj0 0)).kids.length py3, .slice py4 ((getO br).getD (obj0 0)).parents.length py5, str ((getO br).getD (obj0 0)).note] 25 := hBY; have hx1921 : Ext w19 w21 := hx20'.step hc21 (by simp; omega); have hx21 := hx19.trans hx1921; replace hY := hY.ext hx1921
 cases hgr : getO br with
 | none =>
  rw [hgr] at hBY; refine Su ?_; refine CW.drawG (Ext w21) 21 (fun w' h => h) (by kernel_rfl) fun w22 hx22' => ?_; refine Sg ?_; refine Gkw 3 ?_; refine Gkw 4 ?_; refine Sg ?_; refine Gkw 7 ?_; refine Gkw 8 ?_; refine Gkw 9 ?_; refine Gks 10 ?_; refine Gks 11 ?_; refine Gks 12 ?_; refine Gks 13 ?_; refine Gks 14 ?_; refine Gks 15 ?_; refine Gkw 16 ?_; refine Sg ?_; refine Gko 19 fun hS => ?_; refine Su ?_; refine Lc0 rfl rfl (awake21_ret w22 (g.ext (hx21.trans hx22'))) ?_; rintro v w23 ⟨rfl, hx23⟩; apply LW.nil; refine QW.headed (hx22'.trans hx23) ?_; refine Gkp 20 ?_; refine GW.tail rfl (by kernel_rfl) (fun hS => ?_); refine Su ?_
  exact QW.body1 Tryz.results4 rfl ⟨rfl, hx21.trans hS⟩
 | some y =>
  rw [hgr] at hBY hY; replace hY : ObjW w21 _ y := hY; replace hBY : Blk w21 YB [.int .i64 y.kind, .slice py0 y.rows.length py1, str y.name, .int .i64 y.cols, .slice py2 y.kids.length py3, .slice py4 y.parents.length py5, str y.note] 25 := hBY; obtain ⟨hmy, hpy⟩ := getO_put hgr; refine Su ?_; refine CW.drawG (Ext w21) 21 (fun w' h => h) (by kernel_rfl) fun w22 hx22' => ?_; have hx22 := hx21.trans hx22'; refine GW.rebase (Ext w22) (fun _ h => hx22'.trans h) (Chg.refl _ _) ?_; replace hBY := hBY.ext hx22'; replace hY := hY.ext hx22'; refine Sg ?_; refine Gkw 3 ?_; refine Gkw 4 ?_; refine Sg ?_; refine Gkw 7 ?_; refine Gkw 8 ?_; refine Gkw 9 ?_; refine GW.takeW 10 rfl rfl rfl rfl (fun w hw => Y.load_all rfl (Blk.ext (by assumption) hw) rfl rfl rfl) rfl rfl (by kernel_rfl) (by kernel_rfl) (by kernel_rfl) (fun _ _ _ h => h) ?_; refine Gkw 13 ?_; refine GW.takeW 14 rfl rfl rfl rfl (fun w' hw => Y.string_any rfl rfl ((BytesQ.ext hQr (hx22.trans hw)).cells) rfl rfl rfl rfl rfl rfl _ _) rfl rfl (by kernel_rfl) (by kernel_rfl) (by kernel_rfl) (fun _ _ _ h => h) ?_; refine Gko 11 fun hS => ?_; refine Su ?_; refine Lc0 rfl rfl (oPut_ret y _ w22 (g.ext hx22) hY) ?_; rintro v w23 ⟨hO23, hx23'⟩; rw [hpy] at hO23; obtain ⟨q23, d23, rfl⟩ := hO23.slice; have hx23 := hx22.trans hx23'; apply LW.nil; refine QW.rebased hx23' ?_; refine GW.takeW 12 rfl rfl rfl rfl (fun w' hw => Y.string_any (bs := br) rfl rfl (BytesO.bytes' (Own.ext hO23 hw)) rfl rfl rfl rfl rfl rfl _ _) rfl rfl (by kernel_rfl) (by kernel_rfl) (by kernel_rfl) (fun _ _ _ h => h) ?_; refine Gkw 15 ?_; refine Gkw 16 ?_; refine Sg ?_; refine GW.know (t := 115) (c := true) rfl (by simp) ?_; refine Gko 19 fun hS => ?_; refine Su ?_; refine Lc0 rfl rfl (awake21_ret w23 (g.ext hx23)) ?_; rintro v w24 ⟨rfl, hx24⟩; apply LW.nil; refine QW.headed hx24 ?_; refine Gkp 20 ?_; refine GW.tail rfl (by kernel_rfl) (fun hS => ?_); refine Su ?_; exact QW.body1 Tryz.results4 rfl ⟨rfl, hx23.trans hS⟩
end Go.Proofs.YtgdohpcnpgjpaaaGreatDoor
