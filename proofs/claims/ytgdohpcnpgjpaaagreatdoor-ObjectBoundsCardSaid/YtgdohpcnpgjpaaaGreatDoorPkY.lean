/-
  Joined by program out of the texts ObjJ.
-/
import Derived.Test.YtgdohpcnpgjpaaaGreatDoorPkX
namespace Go.Proofs.YtgdohpcnpgjpaaaGreatDoor
open Go Go.E
theorem may1 (k : Nat) : mayO { obj0 1 with rows := List.replicate k [] } = (Nat.ble 1 k && Nat.ble k 4) := by
 rw [Bool.eq_iff_iff]; cases k <;> simp [mayO, obj0, idsB, chunkB, List.replicate_succ] <;> omega
theorem nameA : nameB [65] = true := by decide
theorem may2 {l : List (List UInt8)} {k : Nat} {r : Bool} (h : idsB l = r) (hl : l.length = k) : mayO { obj0 2 with name := [65], kids := l } = (r && Nat.ble k 6) := by
 subst hl; subst h; rw [Bool.eq_iff_iff]; simp [mayO, obj0, nameA, show idsB [] = true from rfl]
theorem may3 {l : List (List UInt8)} {k : Nat} {r : Bool} (h : idsB l = r) (hl : l.length = k) : mayO { obj0 3 with kids := l } = (r && Nat.ble k 5) := by
 subst hl; subst h; rw [Bool.eq_iff_iff]; simp [mayO, obj0, show idsB [] = true from rfl]
theorem may4 {l : List (List UInt8)} {k m : Nat} {r : Bool} (h : idsB l = r) (hl : l.length = k) : mayO { obj0 4 with kids := [idO 1], parents := l, note := List.replicate m 0 } = (r && Nat.ble k 2 && Nat.ble m 60) := by
 subst hl; subst h; have e : idsB [idO 1] = true := by simp [idsB, idO_len]
 rw [Bool.eq_iff_iff]; simp [mayO, obj0, e, and_assoc]
theorem may5 (k : Nat) : mayO (obj0 (5 + k : Nat)) = false := by
 cases hm : mayO (obj0 (5 + k : Nat)) with
 | false => rfl
 | true =>
  have := may_kind hm; simp only [obj0] at this; omega
theorem ids_range (k : Nat) : idsB ((List.range k).map idO) = true := by
 rw [idsB, List.all_eq_true]; intro s hs; simp only [List.mem_map] at hs; obtain ⟨z, _, rfl⟩ := hs; simp [idO_len]
theorem ids_short {l : List (List UInt8)} (h : 0 < l.length) : idsB (l.set 0 [115, 104, 111, 114, 116]) = false := by
 cases l with
 | nil => simp at h
 | cons x t => simp [idsB]
set_option maxRecDepth 8000 in
set_option maxHeartbeats 8000000 in
theorem ObjectBounds_ret (n m : Nat) (cut : Bool) (w : World) (g : Glob w) (hn : n < 256) (hm : m < 256) : Ret Tryz.prog 5 [.int .u8 (n : Int), .int .u8 (m : Int), .bool cut] w (fun v w' => v = .bool true ∧ Ext w w') := by
 obtain ⟨k, hk, hk9⟩ : ∃ k, (n : Int) % 10 = (k : Nat) ∧ k ≤ 9 := ⟨n % 10, by omega, by omega⟩; refine Rte Tryz.func5 Tryz.ntmps5 ?_; refine Su ?_; rw [hk]; refine CW.loop (ι := Nat × Value) (fun x w' => x.1 ≤ k ∧ Ext w w' ∧ Own w' w.heap.size 9 1 x.2 x.1 (((List.range x.1).map idO).map str)) (fun x => [(1, .int .u8 (m : Int)), (2, .bool cut), (7, .int .i64 (k : Int)), (8, x.2), (9, .int .i64 (x.1 : Int))]) (fun x => k - x.1) (0, .slice none 0 0) ⟨by omega, Chg.refl _ _, Own.nil _ _ _ _⟩ Sub5 ?_; rintro ⟨i, lv⟩ w1 ⟨hi, hx1, hO1⟩; dsimp only at hi hO1; obtain ⟨p1, c1, rfl⟩ := hO1.slice; show CW _ _ _ _ _ [(1, .int .u8 (m : Int)), (2, .bool cut), (7, .int .i64 (k : Int)), (8, .slice p1 i c1), (9, .int .i64 (i : Int))] _; refine Su ?_; refine Cwc (fun h1 => ?_) fun h1 => ?_
 ·have h1 : i < k := by simp at h1; omega
  refine Su ?_; refine Lc0 rfl rfl (id_ret i (by omega) w1) ?_; rintro v w2 ⟨rfl, hx2⟩; refine Su ?_; refine Lwl fun B w3 hbB hx3 hB => ?_; refine LW.append (lo := w.heap.size) (k := i) rfl rfl rfl rfl rfl rfl ((hO1.ext hx2).ext hx3) (by have := hx1.size; have := hx2.size; have := hx3.size; omega) hB rfl rfl rfl (by show (i + 1) * 17 ≤ _; omega) rfl ?_; intro v4 w4 hc4 hO4 hv4; refine Su ?_; exact QW.again (i + 1, v4) ⟨h1, ((hx1.trans hx2).trans hx3).step hc4 (fun b hb => by have := (hO1.lt hb).1; omega), by
   show Own w4 w.heap.size 9 1 v4 (i + 1) (((List.range (i + 1)).map idO).map str); rw [List.range_succ, List.map_append, List.map_append]; exact hO4⟩ Sub5 (by show k - (i + 1) < k - i; omega)
 have h1 : i = k := by simp at h1; omega
 subst h1; refine Su ?_; refine LW.makeSlice (m := i) rfl rfl rfl rfl rfl rfl rfl (by omega) rfl rfl ?_; intro RB w2 hbR hx2' hR; have hx2 := hx1.trans hx2'; have hlt1 : ∀ b, b ∈ vblk (.slice p1 i c1) → b < w1.heap.size := fun b hb => (hO1.lt hb).2; replace hO1 := hO1.ext hx2'; refine Su ?_; refine LW.makeSlice (m := m) rfl rfl rfl rfl rfl rfl rfl (by omega) rfl rfl ?_; intro NB w3 hbN hx3' hN; have hx3 := hx2.trans hx3'; replace hO1 := hO1.ext hx3'; replace hR := hR.ext hx3'; refine Su ?_; have eN : List.replicate m (Value.int .u8 0) = bcells (List.replicate m 0) := by simp [bcells]
 replace hN : Blk w3 NB (List.replicate m (Value.int .u8 0)) 5 := hN; rw [eN] at hN; have hON : Own w3 w.heap.size 5 1 (.slice (some ⟨NB, 0, none⟩) m m) m (bcells (List.replicate m 0)) := ⟨by rw [bcells_len']; simp, .inr ⟨NB, m, [], rfl, by rw [List.append_nil]; exact hN, Nat.le_refl _, by simp, by have := hx2.size; omega⟩⟩; refine LW.string_own rfl hON rfl rfl rfl rfl rfl rfl rfl ?_; have hRl := hR.lt; have hsz1 := hx1.size; refine Sl ?_; apply LW.nil; apply QW.then_n; apply CW.seq; apply CW.region; refine Sl ?_; apply LW.nil; apply QW.then_n; refine CW.seq_cut (ι := Value × List (List UInt8)) (fun x w' => Ext w w' ∧ Blk w' RB (List.replicate i (.slice none 0 0)) 23 ∧ TextsW w' x.1 x.2 ∧ x.2.length = i ∧ idsB x.2 = (!cut || Nat.beq i 0)) (fun x => [(1, .int .u8 (m : Int)), (2, .bool cut), (7, .int .i64 (i : Int)), (8, x.1), (10, .slice (some ⟨RB, 0, none⟩) i i), (11, str (List.replicate m 0)), (12, str [115, 104, 111, 114, 116])]) ?_ ?_
 ·have hT : TextsW w3 (.slice p1 i c1) ((List.range i).map idO) := by
   have e : ((List.range i).map idO).length = i := by simp
   have h := made_texts (l := (List.range i).map idO) (by rw [e]; exact hO1) (by rw [e]; omega) (fun s hs => by
    simp only [List.mem_map] at hs; obtain ⟨z, _, rfl⟩ := hs; rw [idO_len]; omega)
   exact h.w
  cases cut with
  | false =>
   refine Su ?_
   exact QW.head (.slice p1 i c1, (List.range i).map idO) ⟨hx3, hR, hT, by simp, by rw [ids_range]; rfl⟩ Sub7
  | true =>
  refine Su ?_; refine Cwc (fun h2 => ?_) fun h2 => ?_; rotate_left
  ·have h2 : i = 0 := by simp at h2; omega
   refine Su ?_; exact QW.head (.slice p1 i c1, (List.range i).map idO) ⟨hx3, hR, hT, by simp, by rw [ids_range, h2]; rfl⟩ Sub7
  have h2 : 0 < i := by simp at h2; omega
  obtain ⟨hlen, ⟨e, e2⟩ | ⟨gb, cap, sp, e, hB, q1, q2, q3⟩⟩ := hO1
  ·omega
  simp only [Value.slice.injEq] at e; obtain ⟨rfl, -, rfl⟩ := e; have hgb := hlt1 gb (by simp [vblk]); have hpos : 0 < (((List.range i).map idO).map str).length := by simp; omega
  refine Su ?_; refine LW.store (i := 0) rfl rfl rfl hB (Nat.ble_eq_true_of_le (by rw [List.length_append]; omega)) rfl rfl fun w4 hc4 hB4 => ?_; rw [List.set_append_left _ _ hpos, ← List.map_set] at hB4; have el : (((List.range i).map idO).set 0 [115, 104, 111, 114, 116]).length = i := by simp
  have hO4 : Own w4 w.heap.size 9 1 (.slice (some ⟨gb, 0, none⟩) i c1) i ((((List.range i).map idO).set 0 [115, 104, 111, 114, 116]).map str) := ⟨by simp, .inr ⟨gb, c1, sp, rfl, hB4, q1, q2, q3⟩⟩; have hT4 := made_texts (l := ((List.range i).map idO).set 0 [115, 104, 111, 114, 116]) (by rw [el]; exact hO4) (by rw [el]; omega) (fun s hs => by
    rcases List.mem_or_eq_of_mem_set hs with hs | rfl
    ·simp only [List.mem_map] at hs; obtain ⟨z, _, rfl⟩ := hs; rw [idO_len]; omega
    ·simp)
  refine Su ?_; exact QW.head (.slice (some ⟨gb, 0, none⟩) i c1, ((List.range i).map idO).set 0 [115, 104, 111, 114, 116]) ⟨hx3.step hc4 (by simp; omega), hR.chg hc4 (by simp; omega), hT4.w, el, by
   rw [ids_short (by simp; omega)]; show false = (false || Nat.beq i 0)
   cases i with
   | zero => omega
   | succ i => rfl⟩ Sub7
 rintro ⟨lv, l⟩ w4 ⟨hx4, hR4, hT4, hl4, hi4⟩; dsimp only at hT4 hl4 hi4; obtain ⟨pl, cl, el⟩ := hT4.slice; rw [hl4] at el; subst el; show CW _ _ _ _ _ [(1, .int .u8 (m : Int)), (2, .bool cut), (7, .int .i64 (i : Int)), (8, .slice pl i cl), (10, .slice (some ⟨RB, 0, none⟩) i i), (11, str (List.replicate m 0)), (12, str [115, 104, 111, 114, 116])] _; have hrows : RowsW w4 (.slice (some ⟨RB, 0, none⟩) i i) (List.replicate i []) := by
  refine ⟨by simp; omega, .inr ⟨⟨RB, 0, none⟩, i, by simp, fun j x hj => ?_⟩⟩; obtain ⟨hj1, hj2⟩ := List.getElem?_eq_some_iff.1 hj; rw [List.getElem_replicate] at hj2; subst hj2; refine ⟨.slice none 0 0, ?_, TextsW.nil⟩; rw [add_addr]; refine hR4.cell ?_; rw [List.getElem?_replicate, if_pos (by simp at hj1; omega)]
 have hW1 : ObjW w4 [.int .i64 1, .slice (some ⟨RB, 0, none⟩) i i, str [], .int .i64 0, .slice none 0 0, .slice none 0 0, str []] { obj0 1 with rows := List.replicate i [] } := ⟨_, _, _, rfl, hrows, TextsW.nil, TextsW.nil, by simp [obj0], by simp [obj0], by simp [obj0], by simp [obj0], by simp [obj0], by simp [obj0]⟩; have hW2 : ∀ w', Ext w4 w' → ObjW w' [.int .i64 2, .slice none 0 0, str [65], .int .i64 0, .slice pl i cl, .slice none 0 0, str []] { obj0 2 with name := [65], kids := l } := fun w' x => ⟨_, _, _, rfl, RowsW.nil, TextsW.ext hT4 x, TextsW.nil, by simp, by simp [obj0], by simp [obj0], by simp [obj0], by simp [obj0], by simp [obj0]⟩; have hW3 : ∀ w', Ext w4 w' → ObjW w' [.int .i64 3, .slice none 0 0, str [], .int .i64 0, .slice pl i cl, .slice none 0 0, str []] { obj0 3 with kids := l } := fun w' x => ⟨_, _, _, rfl, RowsW.nil, TextsW.ext hT4 x, TextsW.nil, by simp [obj0], by simp [obj0], by simp [obj0], by simp [obj0], by simp [obj0], by simp [obj0]⟩; have hW4 : ∀ w' u, Ext w4 w' → TextsW w' u [idO 1] → ObjW w' [.int .i64 4, .slice none 0 0, str [], .int .i64 0, u, .slice pl i cl, str (List.replicate m 0)] { obj0 4 with kids := [idO 1], parents := l, note := List.replicate m 0 } := fun w' u x hu => ⟨_, _, _, rfl, RowsW.nil, hu, TextsW.ext hT4 x, by simp [obj0], by simp; omega, by simp [obj0], by simp [obj0], by simp [obj0], by simp [obj0]⟩; have hW5 : ∀ w', ObjW w' [.int .i64 ((5 + i : Nat) : Int), .slice none 0 0, str [], .int .i64 0, .slice none 0 0, .slice none 0 0, str []] (obj0 ((5 + i : Nat) : Int)) := fun w' => ⟨_, _, _, rfl, RowsW.nil, TextsW.nil, TextsW.nil, by simp [obj0], by simp [obj0], by simp only [obj0]; omega, by simp only [obj0]; omega, by simp [obj0], by simp [obj0]⟩; have m1 := may1 i; have m2 := may2 hi4 hl4; have m3 := may3 hi4 hl4; have m4 := may4 (m := m) hi4 hl4; have m5 := may5 i; have one : ∀ {w' : World} {B : Nat} {T : TypeId}, Blk w' B [str (idO 1)] T → TextsW w' (.slice (some ⟨B, 0, none⟩) 1 1) [idO 1] := fun {w' B T} hB => ⟨by simp, .inr ⟨⟨B, 0, none⟩, 1, rfl, fun j x hj => by
  have hj0 : j = 0 := by have := (List.getElem?_eq_some_iff.1 hj).1; simp at this; exact this
  subst hj0; simp at hj; subst hj; exact ⟨str (idO 1), by rw [add_addr]; exact hB.cell rfl, rfl, by rw [idO_len]; omega⟩⟩⟩
 clear hT4 hrows hR4 hR hN hON hO1 hlt1 hRl hbR hbN; generalize hC : Nat.ble m 60 = mm at m4; have hC' : decide ((m : Int) ≤ 60) = mm := by rw [← hC, Bool.eq_iff_iff]; simp; omega
 rcases (by omega : i = 0 ∨ i = 1 ∨ i = 2 ∨ i = 3 ∨ i = 4 ∨ i = 5 ∨ i = 6 ∨ i = 7 ∨ i = 8 ∨ i = 9) with rfl | rfl | rfl | rfl | rfl | rfl | rfl | rfl | rfl | rfl <;> cases cut
 all_goals
  refine Su ?_; refine Lc0 rfl rfl (oMay_ret _ _ w4 (g.ext hx4) hW1) ?_; rintro v w5 ⟨hv, hx5⟩; rw [m1] at hv; subst hv; have hx45 := hx5; replace hx5 := hx4.trans hx5; refine Su ?_; refine Lc0 rfl rfl (oMay_ret _ _ w5 (g.ext hx5) (hW2 _ hx45)) ?_; rintro v w6 ⟨hv, hx6⟩; rw [m2] at hv; subst hv; have hx46 := hx45.trans hx6; replace hx6 := hx5.trans hx6; refine Su ?_; refine Lc0 rfl rfl (oMay_ret _ _ w6 (g.ext hx6) (hW3 _ hx46)) ?_; rintro v w7 ⟨hv, hx7⟩; rw [m3] at hv; subst hv; have hx47 := hx46.trans hx7; replace hx7 := hx6.trans hx7; refine Su ?_; refine Lc0 rfl rfl (id_ret 1 (by omega) w7) ?_; rintro v w8 ⟨rfl, hx8⟩; refine Su ?_; refine Lwl fun B w9 hbB hx9 hB => ?_; have hx49 := (hx47.trans hx8).trans hx9; replace hx9 := (hx7.trans hx8).trans hx9; refine Su ?_; refine Lc0 rfl rfl (oMay_ret _ _ w9 (g.ext hx9) (hW4 _ _ hx49 (one hB))) ?_; rintro v w10 ⟨hv, hx10⟩; rw [m4] at hv; subst hv; replace hx10 := hx9.trans hx10; refine Su ?_
  try (refine LW.know (t := 99) (c := true) rfl (by rw [hC']; cases mm <;> rfl) ?_)
  refine Su ?_; refine Lc0 rfl rfl (oMay_ret _ _ w10 (g.ext hx10) (hW5 _)) ?_; rintro v w11 ⟨hv, hx11⟩; rw [m5] at hv; subst hv; replace hx11 := hx10.trans hx11; refine Su ?_; refine Lc0 rfl rfl (awake21_ret w11 (g.ext hx11)) ?_; rintro v w12 ⟨rfl, hx12⟩; refine Su ?_; exact QW.body1 Tryz.results5 rfl ⟨rfl, hx11.trans hx12⟩
end Go.Proofs.YtgdohpcnpgjpaaaGreatDoor
