/-
 Joined by program out of the texts BookS BookU BookO BookV.
-/
import Derived.Test.YtiaigmahdjhcoaaGreatDoorPkL
import Derived.Test.YtiaigmahdjhcoaaGreatDoorPkE
import Derived.Test.YtiaigmahdjhcoaaGreatDoorPkM
namespace Go.Proofs.YtiaigmahdjhcoaaGreatDoor
open Go Go.E
structure SpotD where
 nm : List UInt8
 row : Nat
 col : Nat
deriving DecidableEq
def rowSp (nm : List UInt8) (r n : Nat) : List SpotD := (List.range n).map fun c => ⟨nm, r, c⟩
def shSp (s : SheetD) (k : Nat) : List SpotD := (List.range k).flatMap fun r => rowSp s.name r (s.rows.getD r []).length
def bkSp (b : BookD) (k : Nat) : List SpotD := (b.take k).flatMap fun s => shSp s s.rows.length
def spotsB (b : BookD) : List SpotD := bkSp b b.length
theorem rowSp_succ (nm : List UInt8) (r n : Nat) : rowSp nm r (n + 1) = rowSp nm r n ++ [⟨nm, r, n⟩] := by simp [rowSp, List.range_succ]
theorem rowSp_len (nm : List UInt8) (r n : Nat) : (rowSp nm r n).length = n := by simp [rowSp]
theorem shSp_succ {s : SheetD} {k : Nat} {x : List (List UInt8)} (h : s.rows[k]? = some x) : shSp s (k + 1) = shSp s k ++ rowSp s.name k x.length := by
 simp [shSp, List.range_succ, List.flatMap_append, List.getD_eq_getElem?_getD, h]
theorem bkSp_succ {b : BookD} {k : Nat} {s : SheetD} (h : b[k]? = some s) : bkSp b (k + 1) = bkSp b k ++ shSp s s.rows.length := by
 simp [bkSp, List.take_add_one, h, List.flatMap_append]
theorem shSp_le {s : SheetD} : ∀ {k : Nat}, k ≤ s.rows.length → (shSp s k).length ≤ (shSp s s.rows.length).length := by
 intro k hk
 obtain ⟨d, hd⟩ : ∃ d, s.rows.length = k + d := ⟨s.rows.length - k, by omega⟩
 rw [hd]
 clear hd hk
 induction d with
 | zero => exact Nat.le_refl _
 | succ d ih =>
  refine Nat.le_trans ih ?_
  simp only [shSp, ← Nat.add_assoc, List.range_succ, List.flatMap_append, List.length_append]
  omega
theorem bkSp_le {b : BookD} : ∀ {k : Nat}, k ≤ b.length → (bkSp b k).length ≤ (bkSp b b.length).length := by
 intro k hk
 obtain ⟨d, hd⟩ : ∃ d, b.length = k + d := ⟨b.length - k, by omega⟩
 rw [hd]
 clear hd hk
 induction d with
 | zero => exact Nat.le_refl _
 | succ d ih =>
  refine Nat.le_trans ih ?_
  simp only [bkSp, ← Nat.add_assoc, List.take_add_one, List.flatMap_append, List.length_append]
  omega
theorem spots_room {b : BookD} {i r c : Nat} {s : SheetD} {x : List (List UInt8)} (hi : b[i]? = some s) (hr : s.rows[r]? = some x) (hc : c < x.length) : (bkSp b i ++ shSp s r ++ rowSp s.name r c).length < (spotsB b).length := by
 have h1 := bkSp_le (b := b) (k := i + 1) (by have := (List.getElem?_eq_some_iff.1 hi).1; omega)
 have h2 := shSp_le (s := s) (k := r + 1) (by have := (List.getElem?_eq_some_iff.1 hr).1; omega)
 rw [bkSp_succ hi, List.length_append] at h1
 rw [shSp_succ hr, List.length_append, rowSp_len] at h2
 rw [List.length_append, List.length_append, rowSp_len]
 unfold spotsB
 omega
theorem mem_rowSp {nm : List UInt8} {r n : Nat} {x : SpotD} : x ∈ rowSp nm r n ↔ x.nm = nm ∧ x.row = r ∧ x.col < n := by
 obtain ⟨a, b, c⟩ := x
 simp only [rowSp, List.mem_map, List.mem_range, SpotD.mk.injEq]
 constructor
 ·rintro ⟨c', h, rfl, rfl, rfl⟩; exact ⟨rfl, rfl, h⟩
 ·rintro ⟨rfl, rfl, h⟩; exact ⟨c, h, rfl, rfl, rfl⟩
theorem mem_spots {b : BookD} {x : SpotD} : x ∈ spotsB b ↔ ∃ (i : Nat) (s : SheetD) (y : List (List UInt8)), b[i]? = some s ∧ x.nm = s.name ∧ s.rows[x.row]? = some y ∧ x.col < y.length := by
 simp only [spotsB, bkSp, List.take_length, List.mem_flatMap, shSp, List.mem_range, mem_rowSp]
 constructor
 ·rintro ⟨s, hs, r, hr, h1, rfl, h3⟩
  obtain ⟨i, hi⟩ := List.getElem?_of_mem hs
  refine ⟨i, s, s.rows[x.row], hi, h1, List.getElem?_eq_getElem hr, ?_⟩
  simpa [List.getD_eq_getElem?_getD, List.getElem?_eq_getElem hr] using h3
 ·rintro ⟨i, s, y, hi, h1, hr, hc⟩
  refine ⟨s, List.mem_of_getElem? hi, x.row, (List.getElem?_eq_some_iff.1 hr).1, h1, rfl, ?_⟩
  simpa [List.getD_eq_getElem?_getD, hr] using hc
theorem has_of {b : BookD} (hb : b.Pairwise (fun s u => Op.bytesLess s.name u.name = true)) {i : Nat} {s : SheetD} {row col : Nat} {x : List (List UInt8)} (hi : b[i]? = some s) (hr : s.rows[row]? = some x) (hc : col < x.length) : hasB b s.name row col = true := by
 have := (List.getElem?_eq_some_iff.1 hr).1
 simp only [hasB, atB_of hb hi, hi, inB, List.getD_eq_getElem?_getD, Int.toNat_natCast, hr, Option.getD_some, Bool.and_eq_true, decide_eq_true_eq]
 omega
theorem get_of {b : BookD} (hb : b.Pairwise (fun s u => Op.bytesLess s.name u.name = true)) {i : Nat} {s : SheetD} {row col : Nat} {x : List (List UInt8)} (hi : b[i]? = some s) (hr : s.rows[row]? = some x) (hc : col < x.length) : getB b s.name row col = x.getD col [] := by
 have := (List.getElem?_eq_some_iff.1 hr).1
 have hin : inB s row col = true := by
  simp only [inB, List.getD_eq_getElem?_getD, Int.toNat_natCast, hr, Option.getD_some, Bool.and_eq_true, decide_eq_true_eq]
  omega
 unfold getB
 rw [atB_of hb hi]
 simp only [hi, if_pos hin, cellB]
 simp [List.getD_eq_getElem?_getD, hr]
theorem set_spot {b : BookD} (hb : mayBook b = true) {x : SpotD} (hx : x ∈ spotsB b) {t : List UInt8} (ht : mayC t = true) :
  ∃ b', setRes b x.nm x.row x.col t = (b', 0) ∧ mayBook b' = true ∧ (b' = b ↔ getB b x.nm x.row x.col = t) ∧ ∀ y ∈ spotsB b, getB b' y.nm y.row y.col = if y = x then t else getB b y.nm y.row y.col := by
 obtain ⟨i, s, l, hi, e, hr, hc⟩ := mem_spots.1 hx
 have hp := (mayBook_iff.1 hb).2.2
 have ha := atB_of hp hi
 have hh := has_of hp hi hr hc
 refine ⟨setB b i x.row x.col t, ?_, setB_may hb ht, ?_, fun y hy => ?_⟩
 ·rw [setRes, hb, ht, e]
  simp only [ha, hh]
  simp
 ·rw [setB_same hi hr hc, e, get_of hp hi hr hc]
 ·obtain ⟨j, u, m, hj, e2, hr2, hc2⟩ := mem_spots.1 hy
  rw [e2, setB_cell hp hi hr hc hj hr2 hc2]
  obtain ⟨xn, xr, xc⟩ := x
  obtain ⟨yn, yr, yc⟩ := y
  dsimp only at *
  have : (j = i ∧ yr = xr ∧ yc = xc) ↔ (⟨yn, yr, yc⟩ : SpotD) = ⟨xn, xr, xc⟩ := by
   rw [SpotD.mk.injEq, e, e2]
   constructor
   ·rintro ⟨rfl, h⟩
    rw [hi] at hj
    obtain rfl := Option.some.inj hj
    exact ⟨rfl, h⟩
   ·rintro ⟨h, h2⟩
    refine ⟨?_, h2⟩
    have h3 := atB_of hp hj
    rw [h, ha] at h3
    exact (Option.some.inj h3).symm
  simp only [this]
theorem spots_cells {b : BookD} {n : Nat} (h : ∀ s ∈ b, s.rows.length ≤ n ∧ ∀ r ∈ s.rows, r.length ≤ n) : (spotsB b).length ≤ b.length * (n * n) := by
 unfold spotsB bkSp
 rw [List.take_length]
 induction b with
 | nil => simp
 | cons s r ih =>
  have h0 := h s (List.mem_cons_self ..)
  have h1 := ih fun u hu => h u (List.mem_cons_of_mem _ hu)
  rw [List.flatMap_cons, List.length_append, List.length_cons, Nat.add_mul, Nat.one_mul]
  have h2 : ∀ k, k ≤ s.rows.length → (shSp s k).length ≤ k * n := fun k => by
   induction k with
   | zero => simp [shSp]
   | succ k ih =>
    intro hk
    obtain ⟨x, hx⟩ : ∃ x, s.rows[k]? = some x := ⟨_, List.getElem?_eq_getElem (by omega)⟩
    rw [shSp_succ hx, List.length_append, rowSp_len, Nat.add_mul, Nat.one_mul]
    have := ih (by omega)
    have := h0.2 x (List.mem_of_getElem? hx)
    omega
  have h3 := h2 s.rows.length (Nat.le_refl _)
  have h4 : s.rows.length * n ≤ n * n := Nat.mul_le_mul_right _ h0.1
  omega
end Go.Proofs.YtiaigmahdjhcoaaGreatDoor
namespace Go.Proofs.YtiaigmahdjhcoaaGreatDoor
open Go Go.E
def spotC (x : SpotD) : List Value := spotL x.nm x.row x.col
theorem spotC_len (x : SpotD) : (spotC x).length = 3 := rfl
abbrev SpotsO (lo : Nat) (w : World) (v : Value) (l : List SpotD) : Prop := Own w lo 29 3 v l.length (l.flatMap spotC)
theorem SpotsO.at {lo : Nat} {w : World} {p : Option Addr} {c : Nat} {l : List SpotD} (h : SpotsO lo w (.slice p l.length c) l) {i : Nat} {x : SpotD} (hi : l[i]? = some x) : ∃ a, p = some a ∧ lo ≤ a.block ∧ a.block < w.heap.size ∧ ∀ j u, (spotC x)[j]? = some u → w.cell? ((a.add (((i : Nat) : Int).toNat * 3)).add j) = some u := by
 have hil := (List.getElem?_eq_some_iff.1 hi).1
 obtain ⟨g, cap, sp, e, hB, hlo⟩ := h.get (by omega)
 simp only [Value.slice.injEq] at e
 refine ⟨_, e.1, hlo, hB.lt, fun j u hj => ?_⟩
 have hj3 : j < 3 := (List.getElem?_eq_some_iff.1 hj).1
 rw [add_addr, add_addr]
 refine hB.cell ?_
 rw [show 0 + ((i : Nat) : Int).toNat * 3 + j = i * 3 + j by omega, flat_get spotC_len l sp i x j hi hj3]
 exact hj
theorem eqg_spot : Tryz.prog.eqGuardType Tryz.prog.depth 29 = false := by kernel_rfl
theorem eq_spot (x y : SpotD) (d : Nat) (w : World) : (Op.equalIn (d + 2) 29 (.agg ⟨spotC x⟩) (.agg ⟨spotC y⟩)).run Tryz.prog w = .ok (decide (x = y)) w := by
 obtain ⟨s1, c1, r1⟩ := x
 obtain ⟨s2, c2, r2⟩ := y
 have ht : Tryz.prog.underlying 29 = some (.struct (Tryz.prog.fieldsOf 29)) := by simp [Program.fieldsOf, Tryz.underlying29]
 have hp : Tryz.prog.stoodInHeld 29 = false := by kernel_rfl
 simp only [spotC, spotL]
 rw [run_equalIn_agg w (d + 1) _ _ _ ht hp]
 simp only [Program.fieldsOf, Tryz.underlying29]
 refine (eqf_step (by decide) (run_part_one (v := str s1) rfl rfl rfl w) (run_part_one (v := str s2) rfl rfl rfl w) (eq_str rfl rfl _ _ w)
  (eqf_step (by decide) (run_part_one (v := .int .i64 c1) rfl rfl rfl w) (run_part_one (v := .int .i64 c2) rfl rfl rfl w) (eq_int rfl rfl _ _ w)
  (eqf_step (by decide) (run_part_one (v := .int .i64 r1) rfl rfl rfl w) (run_part_one (v := .int .i64 r2) rfl rfl rfl w) (eq_int rfl rfl _ _ w)
  (eqf_nil _ _ _ w)))).trans ?_
 refine congrArg (fun b => Result.ok b w) ?_
 rw [Bool.eq_iff_iff]
 simp only [Bool.and_eq_true, decide_eq_true_eq, SpotD.mk.injEq, and_true, Int.natCast_inj]
theorem AllSpots_ret (b : BookD) (sv : Value) (w : World) (h : SheetsR w sv b) (hs : (spotsB b).length ≤ 1000000) : Ret Tryz.prog 21 [.agg ⟨[sv]⟩] w (fun v w' => SpotsO w.heap.size w' v (spotsB b) ∧ Ext w w') := by
 obtain ⟨p, c, rfl⟩ := h.slice
 have hl := h.1
 refine Ret.enter Tryz.func21 rfl Tryz.ntmps21 (by kernel_rfl) rfl ?_
 apply CW.seq
 apply CW.region
 refine Sl ?_
 refine Lwb fun A w1 hbA hx1 hA => ?_
 replace hA : Blk w1 A [.slice p b.length c] 26 := hA
 have hAl := hA.lt
 have hz1 := hx1.size
 replace h := h.ext hx1
 refine Sa ?_
 refine CW.loop (ι := Nat × Value) (fun x w' => x.1 ≤ b.length ∧ Ext w1 w' ∧ SpotsO w1.heap.size w' x.2 (bkSp b x.1)) (fun x => [(1, .pointer (some ⟨A, 0, none⟩)), (3, x.2), (4, .int .i64 x.1)]) (fun x => b.length - x.1) (0, .slice none 0 0) ⟨by simp, Chg.refl _ _, Own.nil _ _ _ _⟩ (Sub.cons rfl (Sub.cons rfl (Sub.cons rfl (Sub.nil)))) ?_
 rintro ⟨i, v⟩ w2 ⟨hi, hx2, hO⟩
 dsimp only at hi hO
 show CW _ _ _ _ _ [(1, .pointer (some ⟨A, 0, none⟩)), (3, v), (4, .int .i64 (i : Int))] _
 have hA2 := hA.ext hx2
 refine Sa ?_
 refine Cwc (fun h2 => ?_) fun h2 => ?_
 rotate_left
 ·have h2 : i = b.length := by simp at h2; omega
  subst h2
  refine Sa ?_
  exact QW.body1 Tryz.results21 rfl ⟨hO.low hz1, hx1.trans hx2⟩
 have h2 : i < b.length := by simp at h2; omega
 obtain ⟨s, hs1⟩ : ∃ s, b[i]? = some s := ⟨_, List.getElem?_eq_getElem h2⟩
 obtain ⟨a, q, qc, rfl, -, hnl, hr, hcell⟩ := SheetsQ.at h hs1
 have hrl := hr.1
 have hal : a.block < w1.heap.size := by
  have := World.block_lt_of_cell? w1 _ (hcell 0 _ rfl)
  rwa [add_block, add_block] at this
 refine Sa ?_
 refine CW.loop (ι := Nat × Value) (fun x w' => x.1 ≤ s.rows.length ∧ Ext w1 w' ∧ SpotsO w1.heap.size w' x.2 (bkSp b i ++ shSp s x.1)) (fun x => [(1, .pointer (some ⟨A, 0, none⟩)), (3, x.2), (4, .int .i64 i), (5, .int .i64 x.1)]) (fun x => s.rows.length - x.1) (0, v) ⟨by simp, hx2, by simpa [shSp] using hO⟩ (Sub.cons rfl (Sub.cons rfl (Sub.cons rfl (Sub.cons rfl (Sub.nil))))) ?_
 rintro ⟨r, u⟩ w3 ⟨hr3, hx3, hO3⟩
 dsimp only at hr3 hO3
 show CW _ _ _ _ _ [(1, .pointer (some ⟨A, 0, none⟩)), (3, u), (4, .int .i64 (i : Int)), (5, .int .i64 (r : Int))] _
 have hA3 := hA.ext hx3
 have hc2 : w3.cell? ((a.add (((i : Nat) : Int).toNat * 3)).add 2) = some (.slice q s.rows.length qc) := cell_keep hx3 (hcell 2 _ rfl)
 refine Sw ?_
 refine Cwc (fun h3 => ?_) fun h3 => ?_
 rotate_left
 ·have h3 : r = s.rows.length := by simp at h3; omega
  subst h3
  refine Sa ?_
  exact QW.again (i + 1, u) ⟨by show i + 1 ≤ _; omega, hx3, by rw [bkSp_succ hs1]; exact hO3⟩ (Sub.cons rfl (Sub.cons rfl (Sub.cons rfl (Sub.nil)))) (by show b.length - (i + 1) < b.length - i; omega)
 have h3 : r < s.rows.length := by simp at h3; omega
 obtain ⟨y, hy⟩ : ∃ y, s.rows[r]? = some y := ⟨_, List.getElem?_eq_getElem h3⟩
 obtain ⟨a2, q2, qc2, rfl, -, ht2, hcr⟩ := RowsQ.at hr hy
 have htl := ht2.1
 refine Sa ?_
 refine CW.loop (ι := Nat × Value) (fun x w' => x.1 ≤ y.length ∧ Ext w1 w' ∧ SpotsO w1.heap.size w' x.2 (bkSp b i ++ shSp s r ++ rowSp s.name r x.1)) (fun x => [(1, .pointer (some ⟨A, 0, none⟩)), (3, x.2), (4, .int .i64 i), (5, .int .i64 r), (6, .int .i64 x.1)]) (fun x => y.length - x.1) (0, u) ⟨by simp, hx3, by simpa [rowSp] using hO3⟩ (Sub.cons rfl (Sub.cons rfl (Sub.cons rfl (Sub.cons rfl (Sub.cons rfl (Sub.nil)))))) ?_
 rintro ⟨k, z⟩ w4 ⟨hk, hx4, hO4⟩
 dsimp only at hk hO4
 show CW _ _ _ _ _ [(1, .pointer (some ⟨A, 0, none⟩)), (3, z), (4, .int .i64 (i : Int)), (5, .int .i64 (r : Int)), (6, .int .i64 (k : Int))] _
 have hA4 := hA.ext hx4
 have hc4 : w4.cell? ((a.add (((i : Nat) : Int).toNat * 3)).add 2) = some (.slice (some a2) s.rows.length qc) := cell_keep hx4 (hcell 2 _ rfl)
 have hc5 : w4.cell? (a2.add (((r : Nat) : Int).toNat * 1)) = some (.slice q2 y.length qc2) := cell_keep hx4 hcr
 have hc6 : w4.cell? ((a.add (((i : Nat) : Int).toNat * 3)).add 0) = some (str s.name) := cell_keep hx4 (hcell 0 _ rfl)
 refine Sw ?_
 refine Cwc (fun h4 => ?_) fun h4 => ?_
 rotate_left
 ·have h4 : k = y.length := by simp at h4; omega
  subst h4
  refine Sa ?_
  exact QW.again (r + 1, z) ⟨by show r + 1 ≤ _; omega, hx4, by rw [shSp_succ hy, ← List.append_assoc]; exact hO4⟩ (Sub.cons rfl (Sub.cons rfl (Sub.cons rfl (Sub.cons rfl (Sub.nil))))) (by show s.rows.length - (r + 1) < s.rows.length - r; omega)
 have h4 : k < y.length := by simp at h4; omega
 have hroom := spots_room hs1 hy h4
 refine Sw ?_
 refine Lwl fun B w5 hbB hx5 hB => ?_
 replace hB : Blk w5 B (spotL s.name (r : Int) (k : Int)) 29 := hB
 refine LW.append (lo := w1.heap.size) rfl rfl rfl rfl rfl rfl (hO4.ext hx5) (by have := hx4.size; have := hx5.size; omega) hB rfl rfl rfl (by show (_ + 1) * 33 ≤ _; omega) rfl ?_
 intro v6 w6 hc6' hO6 hv6
 refine Sa ?_
 refine QW.again (k + 1, v6) ⟨by show k + 1 ≤ _; omega, (hx4.trans hx5).step hc6' (fun b hb => by have := (hO4.lt hb).1; omega), ?_⟩ (Sub.cons rfl (Sub.cons rfl (Sub.cons rfl (Sub.cons rfl (Sub.cons rfl (Sub.nil)))))) (by show y.length - (k + 1) < y.length - k; omega)
 rw [rowSp_succ, ← List.append_assoc]
 have e : (bkSp b i ++ shSp s r ++ rowSp s.name r k ++ [(⟨s.name, r, k⟩ : SpotD)]).flatMap spotC = (bkSp b i ++ shSp s r ++ rowSp s.name r k).flatMap spotC ++ spotL s.name r k := by
  rw [List.flatMap_append]; rfl
 show Own _ _ _ _ _ (bkSp b i ++ shSp s r ++ rowSp s.name r k ++ [(⟨s.name, r, k⟩ : SpotD)]).length _
 rw [e, List.length_append]
 exact hO6
end Go.Proofs.YtiaigmahdjhcoaaGreatDoor
namespace Go.Proofs.YtiaigmahdjhcoaaGreatDoor
open Go Go.E
theorem spots_small {b : BookD} (hb : mayBook b = true) : (spotsB b).length ≤ 1000000 := by
 obtain ⟨h1, h2, -⟩ := mayBook_iff.1 hb
 have := spots_cells (b := b) (n := 24) fun s hs => by
  have h3 := h2 s hs
  simp only [maySh, Bool.and_eq_true, decide_eq_true_eq, List.all_eq_true] at h3
  obtain ⟨⟨⟨-, h4⟩, h5⟩, h6⟩ := h3
  exact ⟨h5, fun r hr => by have := (h6 r hr).1; omega⟩
 have : b.length * (24 * 24) ≤ 5 * (24 * 24) := Nat.mul_le_mul_right _ h1
 omega
theorem spots_some (zs : List Int) (sh : Nat) : spotsB (bookN zs sh) ≠ [] := by
 have h0 : (bookN zs sh)[0]? = some (sheetN zs sh 0) := by simp [bookN, List.getElem?_range (show 0 < 1 + sh % 3 by omega)]
 have h1 : (sheetN zs sh 0).rows[0]? = some (rowN zs (colsN sh) 0) := by
  simp only [sheetN, List.getElem?_map, List.getElem?_range (show 0 < rowsN sh by unfold rowsN; omega)]
  simp
 have h2 : (⟨(sheetN zs sh 0).name, 0, 0⟩ : SpotD) ∈ spotsB (bookN zs sh) := mem_spots.2 ⟨0, _, _, h0, rfl, h1, by simp [rowN, colsN]; omega⟩
 exact List.ne_nil_of_mem h2
set_option maxRecDepth 8000 in
set_option maxHeartbeats 2000000 in
theorem BookOne_ret (zs : List Int) (nv : Value) (sh at' pu : Nat) (w : World) (g : Glob w) (h : InS .u8 w nv zs) (hz : ∀ z ∈ zs, 0 ≤ z ∧ z ≤ 255) (h1 : sh < 256) (h2 : at' < 256) (h5 : pu < 256) : Ret Tryz.prog 4 [nv, .int .u8 sh, .int .u8 at', .int .u8 pu] w (fun v w' => v = .bool true ∧ Ext w w') := by
 obtain ⟨p, c, rfl⟩ := h.slice
 refine Ret.enter Tryz.func4 rfl Tryz.ntmps4 (by kernel_rfl) rfl ?_
 refine Sa ?_
 refine Cwc (fun a1 => ?_) fun a1 => ?_
 ·refine Sa ?_
  refine LW.call0 rfl rfl (awake10_ret w g) ?_
  rintro v w1 ⟨rfl, hx1⟩
  refine Sa ?_
  exact QW.body1 Tryz.results4 rfl ⟨rfl, hx1⟩
 have a1 : zs.length ≤ 80 := by simp at a1; omega
 refine Sa ?_
 refine LW.call0 rfl rfl (Book_ret zs _ sh w h hz a1 h1) ?_
 rintro v w1 ⟨u, rfl, hQ, hx1⟩
 have hmay := bookN_may hz h1
 have hsome := spots_some zs sh
 generalize bookN zs sh = b at hQ hmay hsome
 have hsl := spots_small hmay
 obtain ⟨pu', cu', rfl⟩ := ListR.slice hQ
 refine Sa ?_
 refine Lwa fun A w2 hbA hx2 hA => ?_
 refine Sa ?_
 refine Lws fun w3 hc3 hA => ?_
 replace hA : Blk w3 A [.slice pu' b.length cu'] 26 := hA
 have hx13 : Ext w1 w3 := hx2.step hc3 (by simp; omega)
 have hx3 := hx1.trans hx13
 replace hQ := SheetsQ.ext hQ hx13
 refine Sa ?_
 refine LW.call0 rfl rfl (AllSpots_ret b _ w3 hQ hsl) ?_
 rintro v w4 ⟨hO, hx4⟩
 obtain ⟨po, co, rfl⟩ := hO.slice
 replace hA := hA.ext hx4
 replace hQ := SheetsQ.ext hQ hx4
 replace hx3 := hx3.trans hx4
 have hlen : 0 < (spotsB b).length := List.length_pos_iff.2 hsome
 refine Sa ?_
 refine Cwc (fun a2 => ?_) fun a2 => ?_
 ·exact absurd (by simpa using a2) hsome
 obtain ⟨x, hx⟩ : ∃ x, (spotsB b)[at' % (spotsB b).length]? = some x := ⟨_, List.getElem?_eq_getElem (Nat.mod_lt _ hlen)⟩
 obtain ⟨ao, rfl, hao1, hao2, hcs⟩ := SpotsO.at hO hx
 have hcs1 : ∀ j u, (spotC x)[j]? = some u → w4.cell? ((ao.add (((at' : Int) % ((spotsB b).length : Int)).toNat * 3)).add j) = some u := hcs
 have i1 : 0 ≤ (at' : Int) % ((spotsB b).length : Int) := Int.emod_nonneg _ (by omega)
 have i2 : (at' : Int) % ((spotsB b).length : Int) < ((spotsB b).length : Int) := Int.emod_lt_of_pos _ (by omega)
 have hplen := cellN_len pu h5
 refine Sa ?_
 refine CW.cut (ι := Nat) (fun S w' => Ext w4 w' ∧ Blk w' S (spotC x) 29) (fun S => [(9, .pointer (some ⟨A, 0, none⟩)), (10, .slice (some ao) (spotsB b).length co), (11, .pointer (some ⟨S, 0, none⟩)), (12, str (cellN pu))]) ?_ ?_
 ·refine CW.drawG (Ext w4) 13 (fun w' h => h) (by kernel_rfl) fun w7 hx7 => ?_
  have hE := hx7
  refine Sg ?_
  refine GW.two 10 11 (by kernel_rfl) rfl rfl rfl rfl rfl rfl (fun hS => ?_) (fun hS => ?_)
  ·refine LW.call0 rfl rfl (text_ret pu h5 _) ?_
   rintro v wt ⟨rfl, hxn⟩
   have hszt := hxn.size
   have hE := hE.trans hxn
   apply LW.nil
   refine QW.headed hE ?_
   refine Sg ?_
   refine GW.one 11 (by kernel_rfl) rfl rfl rfl (fun hS => ?_)
   refine Lwa fun X wl hbX hxn hX => ?_
   have hXW : w4.heap.size ≤ X := by rw [hbX]; exact hE.size
   have hXlt := hX.lt
   have hE := hE.trans hxn
   apply LW.nil
   refine QW.headed hE ?_
   refine Sg ?_
   refine GW.one 12 (by kernel_rfl) rfl rfl rfl (fun hS => ?_)
   refine Lws fun we hce hX => ?_
   have hE := hE.step hce (by simp; omega)
   apply LW.nil
   refine QW.headed hE ?_
   refine GW.tail rfl (by kernel_rfl) (fun hS => ?_)
   refine Sa ?_
   exact QW.head X ⟨hE, hX⟩ (Sub.cons rfl (Sub.cons rfl (Sub.cons rfl (Sub.cons rfl (Sub.nil)))))
  ·refine Lwa fun X wl hbX hxn hX => ?_
   have hXW : w4.heap.size ≤ X := by rw [hbX]; exact hE.size
   have hXlt := hX.lt
   have hE := hE.trans hxn
   apply LW.nil
   refine QW.headed hE ?_
   refine Sg ?_
   refine GW.one 10 (by kernel_rfl) rfl rfl rfl (fun hS => ?_)
   refine LW.call0 rfl rfl (text_ret pu h5 _) ?_
   rintro v wt ⟨rfl, hxn⟩
   have hszt := hxn.size
   replace hX := by first | exact hX.ext hxn | exact ListR.ext' hX hxn (fun _ _ _ _ h => h) | exact SheetsQ.ext hX hxn
   have hE := hE.trans hxn
   apply LW.nil
   refine QW.headed hE ?_
   refine Sg ?_
   refine GW.one 12 (by kernel_rfl) rfl rfl rfl (fun hS => ?_)
   refine Lws fun we hce hX => ?_
   have hE := hE.step hce (by simp; omega)
   apply LW.nil
   refine QW.headed hE ?_
   refine GW.tail rfl (by kernel_rfl) (fun hS => ?_)
   refine Sa ?_
   exact QW.head X ⟨hE, hX⟩ (Sub.cons rfl (Sub.cons rfl (Sub.cons rfl (Sub.cons rfl (Sub.nil)))))
 rintro S w5 ⟨hE, hS⟩
 replace hA := hA.ext hE
 replace hQ := SheetsQ.ext hQ hE
 replace hx3 := hx3.trans hE
 have hO5 := Own.ext hO hE
 refine Sa ?_
 refine LW.call0 rfl rfl (CopyBook_ret b _ w5 hQ) ?_
 rintro v w6 ⟨uc, rvc, fc, rfl, hF, hx6⟩
 have hC := hF.list
 obtain ⟨pc, cc, rfl⟩ := ListR.slice hC
 replace hS := hS.ext hx6
 have hSl := hS.lt
 refine Sa ?_
 refine Lwa fun C w7 hbC hx7 hB => ?_
 replace hS := hS.ext hx7
 refine Sa ?_
 refine Lws fun w8 hc8 hB => ?_
 have hx68 : Ext w6 w8 := hx7.step hc8 (by simp; omega)
 have hx58 : Ext w5 w8 := hx6.trans hx68
 replace hS := hS.chg hc8 (by simp; omega)
 replace hB : Blk w8 C [.slice pc b.length cc] 26 := hB
 replace hC := SheetsQ.ext hC hx68
 replace hA := hA.ext hx58
 replace hQ := SheetsQ.ext hQ hx58
 replace hO5 := Own.ext hO5 hx58
 replace hx3 := hx3.trans hx58
 have hxm : x ∈ spotsB b := List.mem_of_getElem? hx
 obtain ⟨b', e1, hm', hsame, hcells⟩ := set_spot hmay hxm (cellN_may h5)
 have hset := Set_book b (.slice pu' b.length cu') x.nm x.row x.col (cellN pu) w8 (g.ext hx3) hQ (by omega)
 rw [e1] at hset
 refine Sa ?_
 refine LW.call0 rfl rfl hset ?_
 rintro v w9 ⟨us, rfl, hSs, hx9⟩
 replace hSs := SheetsQ.of hSs
 obtain ⟨ps, cs, rfl⟩ := ListR.slice hSs
 replace hS := hS.ext hx9
 replace hA := hA.ext hx9
 replace hB := hB.ext hx9
 have hAl := hA.lt
 have hBl := hB.lt
 have hSl2 := hS.lt
 refine Sa ?_
 refine Lwa fun D wa hbD hxa hD => ?_
 replace hS := hS.ext hxa
 replace hA := hA.ext hxa
 replace hB := hB.ext hxa
 refine Sa ?_
 refine Lws fun wb hcb hD => ?_
 replace hD : Blk wb D [.slice ps b'.length cs] 26 := hD
 have hx9b : Ext w9 wb := hxa.step hcb (by simp; omega)
 have hx8b := hx9.trans hx9b
 replace hS := hS.chg hcb (by simp; omega)
 replace hA := hA.chg hcb (by simp; omega)
 replace hB := hB.chg hcb (by simp; omega)
 replace hSs := SheetsQ.ext hSs hx9b
 replace hC := SheetsQ.ext hC hx8b
 replace hQ := SheetsQ.ext hQ hx8b
 replace hO5 := Own.ext hO5 hx8b
 replace hx3 := hx3.trans hx8b
 refine Sa ?_
 refine LW.call0 rfl rfl (Num_ret 0 wb) ?_
 rintro v wc ⟨rfl, hxc⟩
 replace hS := hS.ext hxc
 replace hA := hA.ext hxc
 replace hB := hB.ext hxc
 replace hD := hD.ext hxc
 refine Sa ?_
 refine LW.call0 rfl rfl (May_book b' _ wc (g.ext (hx3.trans hxc)) (SheetsQ.ext hSs hxc)) ?_
 rintro v wd ⟨rfl, hxd⟩
 replace hS := hS.ext hxd
 replace hA := hA.ext hxd
 replace hB := hB.ext hxd
 replace hD := hD.ext hxd
 have hxbd := hxc.trans hxd
 rw [hm']
 refine Sa ?_
 refine LW.call0 rfl rfl (SameBook_ret b b _ _ wd (SheetsQ.ext hQ hxbd) (SheetsQ.ext hC hxbd)) ?_
 rintro v we ⟨rfl, hxe⟩
 rw [decide_eq_true (p := b = b) rfl]
 replace hS := hS.ext hxe
 replace hA := hA.ext hxe
 replace hB := hB.ext hxe
 replace hD := hD.ext hxe
 have hxbe := hxbd.trans hxe
 replace hSs := SheetsQ.ext hSs hxbe
 replace hQ := SheetsQ.ext hQ hxbe
 replace hO5 := Own.ext hO5 hxbe
 replace hx3 := hx3.trans hxbe
 refine Sa ?_
 refine CW.loop (ι := Nat) (fun k w' => k ≤ (spotsB b).length ∧ Ext we w') (fun k => [(9, .pointer (some ⟨A, 0, none⟩)), (10, .slice (some ao) (spotsB b).length co), (11, .pointer (some ⟨S, 0, none⟩)), (12, str (cellN pu)), (14, .pointer (some ⟨D, 0, none⟩)), (16, .int .i64 k)]) (fun k => (spotsB b).length - k) 0 ⟨by omega, Chg.refl _ _⟩ (Sub.cons rfl (Sub.cons rfl (Sub.cons rfl (Sub.cons rfl (Sub.cons rfl (Sub.cons rfl (Sub.nil))))))) ?_
 rintro k wf ⟨hk, hxf⟩
 have hSf := hS.ext hxf
 have hAf := hA.ext hxf
 have hDf := hD.ext hxf
 have hQf := SheetsQ.ext hQ hxf
 have hSsf := SheetsQ.ext hSs hxf
 have hOf := Own.ext hO5 hxf
 have hx3f := hx3.trans hxf
 refine Sa ?_
 refine Cwc (fun a3 => ?_) fun a3 => ?_
 rotate_left
 ·refine Sa ?_
  refine CW.draw (by kernel_rfl) (by kernel_rfl) ?_
  refine Sqw ?_
  refine QL.call0 rfl rfl (fun wv hv => Same_book b' b _ _ wv (SheetsQ.ext hSsf hv) (SheetsQ.ext hQf hv)) ?_
  refine Sqw ?_
  refine QL.call0 rfl rfl (fun wv hv => GetCell_ret b _ x.nm x.row x.col wv (SheetsQ.ext hQf hv)) ?_
  refine Sqw ?_
  refine QL.know (t := 100) (c := true) rfl (by
   have e : decide (b' = b) = decide (getB b x.nm x.row x.col = cellN pu) := decide_eq_decide.2 hsame
   rw [e]
   simp) ?_
  refine Sqw ?_
  refine QL.call0 rfl rfl (fun wv hv => awake10_ret wv (g.ext (hx3f.trans hv))) ?_
  refine Sqw ?_
  refine QL.nil fun wv hv => ?_
  refine Sa ?_
  exact QW.body1 Tryz.results4 rfl ⟨rfl, hx3f.trans hv⟩
 have a3 : k < (spotsB b).length := by simp at a3; omega
 obtain ⟨y, hy⟩ : ∃ y, (spotsB b)[k]? = some y := ⟨_, List.getElem?_eq_getElem a3⟩
 have hym : y ∈ spotsB b := List.mem_of_getElem? hy
 obtain ⟨a', ea, -, -, hcy⟩ := SpotsO.at hOf hy
 obtain rfl := Option.some.inj ea
 have hgy := hcells y hym
 refine Sa ?_
 refine CW.draw (by kernel_rfl) (by kernel_rfl) ?_
 refine Sqw ?_
 refine QL.call0 rfl rfl (fun wv hv => GetCell_ret b _ y.nm y.row y.col wv (SheetsQ.ext hQf hv)) ?_
 refine Sqw ?_
 refine QL.nil fun wg hxg => ?_
 have hSg := hSf.ext hxg
 have hcyg : ∀ j u, (spotC y)[j]? = some u → wg.cell? ((ao.add (((k : Nat) : Int).toNat * 3)).add j) = some u := fun j u hj => cell_keep hxg (hcy j u hj)
 refine Sa ?_
 refine CW.draw (by kernel_rfl) (by kernel_rfl) ?_
 refine Sqw ?_
 refine QL.eql_agg rfl rfl eqg_spot (fun w' => eq_spot y x 9998 w') rfl ?_
 refine Sqw ?_
 refine QL.nil fun wh hxh => ?_
 have hxfh := hxg.trans hxh
 have hAh := hAf.ext hxfh
 have hSh := hSf.ext hxfh
 have hDh := hDf.ext hxfh
 have hSsh := SheetsQ.ext hSsf hxfh
 have hcyh : ∀ j u, (spotC y)[j]? = some u → wh.cell? ((ao.add (((k : Nat) : Int).toNat * 3)).add j) = some u := fun j u hj => cell_keep hxfh (hcy j u hj)
 apply QW.then_n
 refine CW.cut (ι := Unit) (fun _ w' => w' = wh) (fun _ => [(9, .pointer (some ⟨A, 0, none⟩)), (10, .slice (some ao) (spotsB b).length co), (11, .pointer (some ⟨S, 0, none⟩)), (12, str (cellN pu)), (14, .pointer (some ⟨D, 0, none⟩)), (16, .int .i64 k), (17, str (getB b' y.nm y.row y.col))]) ?_ ?_
 ·refine Sa ?_
  refine Cwc (fun a4 => ?_) fun a4 => ?_
  ·have a4 : y = x := by simpa using a4
   rw [if_pos a4] at hgy
   refine Sa ?_
   exact QW.head () rfl (by rw [hgy]; exact (Sub.cons rfl (Sub.cons rfl (Sub.cons rfl (Sub.cons rfl (Sub.cons rfl (Sub.cons rfl (Sub.cons rfl (Sub.nil)))))))))
  ·have a4 : ¬ y = x := by simpa using a4
   rw [if_neg a4] at hgy
   refine Sa ?_
   exact QW.head () rfl (by rw [hgy]; exact (Sub.cons rfl (Sub.cons rfl (Sub.cons rfl (Sub.cons rfl (Sub.cons rfl (Sub.cons rfl (Sub.cons rfl (Sub.nil)))))))))
 rintro _ _ rfl
 refine Sa ?_
 refine CW.draw (by kernel_rfl) (by kernel_rfl) ?_
 refine Sqw ?_
 refine QL.call0 rfl rfl (fun wv hv => Get_book b' _ y.nm y.row y.col wv (SheetsQ.ext hSsh hv)) ?_
 refine Sqw ?_
 refine QL.know (t := 90) (c := false) rfl (by simp) ?_
 refine Sqw ?_
 refine QL.nil fun wi hxi => ?_
 refine Sa ?_
 exact QW.again (k + 1) ⟨by omega, hxf.trans (hxfh.trans hxi)⟩ (Sub.cons rfl (Sub.cons rfl (Sub.cons rfl (Sub.cons rfl (Sub.cons rfl (Sub.cons rfl (Sub.nil))))))) (by omega)
end Go.Proofs.YtiaigmahdjhcoaaGreatDoor
namespace Go.Proofs.YtiaigmahdjhcoaaGreatDoor
open Go Go.E
theorem ListR.take1 {α : Type} {m : Nat} {ok : Addr → Prop} {R : Elem α} {w : World} {p : Option Addr} {c : Nat} {x : α} {l : List α} (h : ListR m ok R w (.slice p (x :: l).length c) (x :: l)) : ListR m ok R w (.slice p 1 c) [x] := by
 obtain ⟨h0, ⟨_, e⟩ | ⟨a, c', e, hk, h1⟩⟩ := h
 ·cases e
 ·simp only [Value.slice.injEq] at e
  refine ⟨by simp, .inr ⟨a, c, by rw [e.1]; rfl, fun _ => hk (by simp), fun i y hi => ?_⟩⟩
  cases i with
  | zero => exact h1 0 y (by simpa using hi)
  | succ i => simp at hi
def zzB : List UInt8 := [39, 122, 122]
def cutS (s : SheetD) : SheetD := { s with rows := s.rows.take 1 }
def cutB (b : BookD) : BookD := b.modify 0 cutS
theorem BookF.cut {lo : Nat} {w w' : World} {v : Value} {b : BookD} {rv : Nat → Value} {f : Nat → Nat → Nat} (h : BookF lo w v b rv f) {s : SheetD} {x : List (List UInt8)} {l : List (List (List UInt8))} {B cb cm M : Nat} {sp : List Value}
  (hs : b[0]? = some s) (hr : s.rows = x :: l) (hv : v = .slice (some ⟨B, 0, none⟩) b.length cb) (he : rv 0 = .slice (some ⟨M, 0, none⟩) s.rows.length cm)
  (hx : Chg [B] w w') (hB : Blk w' B (((sheetsC b rv).flatten ++ sp).set 2 (.slice (some ⟨M, 0, none⟩) 1 cm)) 47) : SheetsR w' v (cutB b) := by
 subst hv
 have hlen : (cutB b).length = b.length := by simp [cutB]
 have hf0 : (((sheetsC b rv).flatten ++ sp).set (0 * 3 + 2) (.slice (some ⟨M, 0, none⟩) 1 cm)) = ((sheetsC b rv).set 0 ((sheetL s (rv 0)).set 2 (.slice (some ⟨M, 0, none⟩) 1 cm))).flatten ++ sp := flatten_set (sheetsC_3 b rv) (sheetsC_get hs) (by omega)
 rw [show 0 * 3 + 2 = 2 from rfl, sheetsC_id hs] at hf0
 rw [hf0] at hB
 refine ⟨by rw [hlen]; exact h.small, .inr ⟨⟨B, 0, none⟩, cb, by rw [hlen], fun _ => trivial, fun i y hy => ?_⟩⟩
 have hl3 : ∀ cs ∈ sheetsC b (fun j => if j = 0 then Value.slice (some ⟨M, 0, none⟩) 1 cm else rv j), cs.length = 3 := sheetsC_3 b _
 obtain ⟨u, hu, ey⟩ : ∃ u, b[i]? = some u ∧ y = if i = 0 then cutS u else u := by
  rw [cutB, List.getElem?_modify] at hy
  cases hb : b[i]? with
  | none => rw [hb] at hy; simp at hy
  | some u =>
   rw [hb] at hy
   simp at hy
   refine ⟨u, rfl, ?_⟩
   by_cases e : i = 0
   ·rw [if_pos e.symm] at hy; rw [if_pos e]; exact hy.symm
   ·rw [if_neg (fun x => e x.symm)] at hy; rw [if_neg e]; exact hy.symm
 have hil := (List.getElem?_eq_some_iff.1 hu).1
 have hrow := (h.sub.rows i u hil hu).chg hx (fun z hz hm => by
  simp only [List.mem_singleton] at hm
  subst hm
  exact h.sub.apartV i u hil hu _ hz (by simp [vblk]))
 refine ⟨sheetL u (if i = 0 then Value.slice (some ⟨M, 0, none⟩) 1 cm else rv i), rfl, ?_, fun j z hj => ?_⟩
 ·refine ⟨if i = 0 then Value.slice (some ⟨M, 0, none⟩) 1 cm else rv i, ?_, ?_, ?_⟩
  ·rw [ey]; split <;> rfl
  ·have := h.names u (List.mem_of_getElem? hu)
   rw [ey]; split <;> exact this
  ·by_cases e : i = 0
   ·subst e
    rw [hs] at hu
    obtain rfl := Option.some.inj hu
    rw [ey, if_pos rfl, if_pos rfl]
    have h5 := hrow.list
    rw [he] at h5
    show RowsR w' _ (s.rows.take 1)
    rw [hr] at h5 ⊢
    exact ListR.take1 h5
   ·rw [ey, if_neg e, if_neg e]
    exact hrow.list
 ·have hj3 := (List.getElem?_eq_some_iff.1 hj).1
  rw [add_addr, add_addr]
  refine hB.cell ?_
  rw [show 0 + i * 3 + j = i * 3 + j by omega, flatten_get (sp := sp) hl3 (sheetsC_get hu) hj3]
  exact hj
theorem cut_eq {b : BookD} {s : SheetD} {x : List (List UInt8)} {l : List (List (List UInt8))} {t : List UInt8} {y : List (List UInt8)} (hs : b[0]? = some s) (hr : s.rows = x :: l) (hx : x = t :: y) : (b = cutB (setB b 0 0 0 zzB)) ↔ (l = [] ∧ t = zzB) := by
 have h0 : (cutB (setB b 0 0 0 zzB))[0]? = some (cutS (setS s 0 0 zzB)) := by
  rw [cutB, List.getElem?_modify, setB_get, hs]
  rfl
 have hset : (setS s 0 0 zzB).rows = (zzB :: y) :: l := by
  rw [setS, hr, hx]
  rfl
 constructor
 ·intro e
  rw [← e, hs] at h0
  have h1 := congrArg SheetD.rows (Option.some.inj h0)
  rw [cutS, hr] at h1
  simp only [hset, List.take_succ_cons, List.take_zero, List.cons.injEq, hx] at h1
  exact ⟨h1.2, h1.1.1⟩
 ·rintro ⟨rfl, rfl⟩
  apply List.ext_getElem?
  intro i
  cases i with
  | zero =>
   rw [h0, hs]
   refine congrArg some ?_
   have e1 : (cutS (setS s 0 0 zzB)).rows = s.rows := by
    rw [cutS]
    simp only [hset]
    rw [hr, hx]
    rfl
   have e2 : cutS (setS s 0 0 zzB) = { s with rows := (cutS (setS s 0 0 zzB)).rows } := rfl
   rw [e2, e1]
  | succ i =>
   rw [cutB, List.getElem?_modify, setB_get]
   simp
theorem bookN_first (zs : List Int) (sh : Nat) : ∃ s x l t y, (bookN zs sh)[0]? = some s ∧ s.rows = x :: l ∧ x = t :: y := by
 have h0 : (bookN zs sh)[0]? = some (sheetN zs sh 0) := by simp [bookN, List.getElem?_range (show 0 < 1 + sh % 3 by omega)]
 have h1 : (sheetN zs sh 0).rows.length = rowsN sh := by simp [sheetN]
 have h2 : 0 < rowsN sh := by unfold rowsN; omega
 obtain ⟨x, l, e⟩ := List.exists_cons_of_length_pos (l := (sheetN zs sh 0).rows) (by omega)
 have h3 : x ∈ (sheetN zs sh 0).rows := by rw [e]; exact List.mem_cons_self ..
 simp only [sheetN, List.mem_map] at h3
 obtain ⟨k, _, rfl⟩ := h3
 have h4 : (rowN zs (colsN sh) (0 * rowsN sh + k)).length = colsN sh := by simp [rowN]
 obtain ⟨t, y, e2⟩ := List.exists_cons_of_length_pos (l := rowN zs (colsN sh) (0 * rowsN sh + k)) (by rw [h4]; unfold colsN; omega)
 exact ⟨_, _, _, _, _, h0, e, e2⟩
set_option maxRecDepth 8000 in
set_option maxHeartbeats 2000000 in
theorem BookApart_ret (zs : List Int) (nv : Value) (sh : Nat) (w : World) (g : Glob w) (h : InS .u8 w nv zs) (hz : ∀ z ∈ zs, 0 ≤ z ∧ z ≤ 255) (h1 : sh < 256) : Ret Tryz.prog 5 [nv, .int .u8 sh] w (fun v w' => v = .bool true ∧ Ext w w') := by
 obtain ⟨p, c, rfl⟩ := h.slice
 refine Ret.enter Tryz.func5 rfl Tryz.ntmps5 (by kernel_rfl) rfl ?_
 refine Sa ?_
 refine Cwc (fun a1 => ?_) fun a1 => ?_
 ·refine Sa ?_
  refine LW.call0 rfl rfl (awake10_ret w g) ?_
  rintro v w1 ⟨rfl, hx1⟩
  refine Sa ?_
  exact QW.body1 Tryz.results5 rfl ⟨rfl, hx1⟩
 have a1 : zs.length ≤ 80 := by simp at a1; omega
 refine Sa ?_
 refine LW.call0 rfl rfl (Book_ret zs _ sh w h hz a1 h1) ?_
 rintro v w1 ⟨u, rfl, hQ, hx1⟩
 obtain ⟨s0, x0, l0, t0, y0, hs0, hr0, hx0⟩ := bookN_first zs sh
 generalize bookN zs sh = b at hQ hs0
 obtain ⟨pu', cu', rfl⟩ := ListR.slice hQ
 have hbl : 0 < b.length := (List.getElem?_eq_some_iff.1 hs0).1
 have hr00 : s0.rows[0]? = some x0 := by rw [hr0]; rfl
 have hrl : 0 < s0.rows.length := (List.getElem?_eq_some_iff.1 hr00).1
 have hxn : x0 ≠ [] := by rw [hx0]; simp
 have hxl : 0 < x0.length := List.length_pos_iff.2 hxn
 have hx00 : x0[0]? = some t0 := by rw [hx0]; rfl
 refine Sa ?_
 refine Lwa fun A w2 hbA hx2 hA => ?_
 refine Sa ?_
 refine Lws fun w3 hc3 hA => ?_
 replace hA : Blk w3 A [.slice pu' b.length cu'] 26 := hA
 have hx13 : Ext w1 w3 := hx2.step hc3 (by simp; omega)
 have hx3 := hx1.trans hx13
 replace hQ := SheetsQ.ext hQ hx13
 refine Sa ?_
 refine LW.call0 rfl rfl (CopyBook_ret b _ w3 hQ) ?_
 rintro v w4 ⟨ub, rvb, fb, rfl, hFb, hx4⟩
 have hW := hFb.list
 obtain ⟨pw, cw, rfl⟩ := ListR.slice hW
 replace hA := hA.ext hx4
 have hAl := hA.lt
 refine Sa ?_
 refine Lwa fun B w5 hbB hx5 hB => ?_
 replace hA := hA.ext hx5
 refine Sa ?_
 refine Lws fun w6 hc6 hB => ?_
 replace hB : Blk w6 B [.slice pw b.length cw] 26 := hB
 have hx46 : Ext w4 w6 := hx5.step hc6 (by simp; omega)
 have hx36 : Ext w3 w6 := hx4.trans hx46
 replace hA := hA.chg hc6 (by simp; omega)
 replace hW := SheetsQ.ext hW hx46
 replace hQ := SheetsQ.ext hQ hx36
 replace hx3 := hx3.trans hx36
 refine Sa ?_
 refine LW.call0 rfl rfl (Copy_book b _ w6 hQ) ?_
 rintro v w7 ⟨uc, rv, f, rfl, hF, hx7⟩
 obtain ⟨Q, cb, M, cm, cx, rfl, e2, hcell, hrow, hlo, sp, hG⟩ := hF.at hs0 hr00 hxn
 have hQl := (hF.own.lt (b := Q) (by simp [vblk]))
 have hGl := hG.lt
 have hAl6 := hA.lt
 have hBl6 := hB.lt
 replace hA := hA.ext hx7
 replace hB := hB.ext hx7
 refine Sa ?_
 refine Lwa fun C w8 hbC hx8 hC => ?_
 replace hA := hA.ext hx8
 replace hB := hB.ext hx8
 refine Sa ?_
 refine Lws fun w9 hc9 hC => ?_
 replace hC : Blk w9 C [.slice (some ⟨Q, 0, none⟩) b.length cb] 26 := hC
 have hx79 : Ext w7 w9 := hx8.step hc9 (by simp; omega)
 replace hA := hA.chg hc9 (by simp; omega)
 replace hB := hB.chg hc9 (by simp; omega)
 replace hF := hF.ext hx79
 replace hG := hG.ext hx79
 have hc2 : w9.cell? (((⟨Q, 0, none⟩ : Addr).add ((0 : Int).toNat * 3)).add 2) = some (.slice (some ⟨M, 0, none⟩) s0.rows.length cm) := cell_keep hx79 (hcell 2 _ (by rw [e2]; rfl))
 have hrow9 : w9.cell? ((⟨M, 0, none⟩ : Addr).add ((0 : Int).toNat * 1)) = some (.slice (some ⟨f 0 0, 0, none⟩) x0.length cx) := cell_keep hx79 hrow
 have hx69 := hx7.trans hx79
 refine Sw ?_
 refine LW.know (t := 26) (c := false) rfl (by simp) ?_
 refine Sw ?_
 refine LW.know (t := 32) (c := false) rfl (decide_eq_false (by omega)) ?_
 refine Sw ?_
 refine LW.know (t := 41) (c := false) rfl (decide_eq_false (by omega)) ?_
 refine Sw ?_
 refine Cwc (fun a2 => ?_) fun a2 => ?_
 ·exfalso
  have := of_decide_eq_true a2
  omega
 refine Sw ?_
 refine LW.store (i := 0 + 0 * 1) (by show some (Value.pointer (some (Addr.add ⟨f 0 0, 0, none⟩ (0 * 1)))) = _; rw [add_addr]) rfl rfl hG (Nat.ble_eq_true_of_le (by show _ + 1 ≤ _; rw [List.length_append, List.length_map]; omega)) rfl rfl fun wa hca hGa => ?_
 have e5 : (x0.map str ++ sp).set (0 + 0 * 1) (.string ⟨⟨[39, 122, 122]⟩⟩) = (x0.set 0 zzB).map str ++ sp := by
  rw [show 0 + 0 * 1 = 0 from rfl, List.set_append_left _ _ (by simpa using hxl), List.map_set]
  rfl
 rw [e5] at hGa
 have hFa := hF.set hs0 hr00 hxl (by decide) hca hGa
 have hx6a : Ext w6 wa := hx69.step hca (by simp; omega)
 have hCl := hC.lt
 have hA1 := hA.chg hca (by simp; omega)
 have hB1 := hB.chg hca (by simp; omega)
 have nC : C ≠ f 0 0 := by omega
 have hC1 := hC.chg hca (by simpa using nC)
 have hs1 : (setB b 0 0 0 zzB)[0]? = some (setS s0 0 0 zzB) := by rw [setB_get, hs0]; rfl
 have hset : (setS s0 0 0 zzB).rows = (zzB :: y0) :: l0 := by
  rw [setS, hr0, hx0]
  rfl
 have hlen1 : (setB b 0 0 0 zzB).length = b.length := by simp [setB]
 have hrl1 : (setS s0 0 0 zzB).rows.length = s0.rows.length := by rw [hset, hr0]; rfl
 obtain ⟨Q', cb', M', cm', cx', ev, e2', hcell', -, -, -⟩ := hFa.at (row := 0) (x := zzB :: y0) hs1 (by rw [hset]; rfl) (by simp)
 simp only [Value.slice.injEq, Option.some.injEq, Addr.mk.injEq, and_true] at ev
 obtain ⟨rfl, -, rfl⟩ := ev
 rw [e2] at e2'
 simp only [Value.slice.injEq, Option.some.injEq, Addr.mk.injEq, and_true] at e2'
 obtain ⟨rfl, -, rfl⟩ := e2'
 have hc2a : wa.cell? (((⟨Q, 0, none⟩ : Addr).add ((0 : Int).toNat * 3)).add 2) = some (.slice (some ⟨M, 0, none⟩) s0.rows.length cm) := hcell' 2 _ (by rw [e2]; rfl)
 have hcm : s0.rows.length ≤ cm := by
  obtain ⟨xs, ⟨-, ⟨e, -⟩ | ⟨gg, cap, sq, e, -, hk, -⟩⟩, -⟩ := (hFa.sub.rows 0 _ (by omega) hs1).own
  ·rw [e2] at e; cases e
  ·rw [e2] at e
   simp only [Value.slice.injEq] at e
   omega
 obtain ⟨Q2, cb2, sp2, ev, hBQ, -⟩ := hFa.own.get (by omega)
 simp only [Value.slice.injEq, Option.some.injEq, Addr.mk.injEq, and_true] at ev
 obtain ⟨rfl, -, rfl⟩ := ev
 refine Sa ?_
 refine CW.cut (ι := Unit) (fun _ w' => ∃ wb, Ext wa wb ∧ Chg [Q] wb w' ∧ Blk w' Q (((sheetsC (setB b 0 0 0 zzB) rv).flatten ++ sp2).set 2 (.slice (some ⟨M, 0, none⟩) 1 cm)) 47) (fun _ => [(5, .pointer (some ⟨A, 0, none⟩)), (6, .pointer (some ⟨B, 0, none⟩)), (7, .pointer (some ⟨C, 0, none⟩))]) ?_ ?_
 ·refine CW.drawG (Ext wa) 10 (fun w' h => h) (by kernel_rfl) fun wc hxc => ?_
  refine Sg ?_
  refine GW.one 7 (by kernel_rfl) rfl rfl rfl (fun hS => ?_)
  refine LW.slice_hi (j := 1) (c := cm) rfl rfl rfl rfl rfl (by omega) rfl ?_
  apply LW.nil
  refine QW.headed hS ?_
  refine Sg ?_
  refine GW.tail rfl (by kernel_rfl) (fun hS => ?_)
  refine LW.store (i := 0 + 0 * 3 + 2) (by show some (Value.pointer (some (((⟨Q, 0, none⟩ : Addr).add (0 * 3)).add 2))) = _; rw [add_addr, add_addr]) rfl rfl (hBQ.ext hS) (Nat.ble_eq_true_of_le (by show _ + 1 ≤ _; rw [List.length_append, flatten_len (sheetsC_3 _ _), sheetsC_len]; omega)) rfl rfl fun wd hcd hBd => ?_
  apply LW.nil
  exact QW.head () ⟨_, hS, hcd, hBd⟩ (Sub.cons rfl (Sub.cons rfl (Sub.cons rfl (Sub.nil))))
 rintro _ wd ⟨wb, hxb, hcd, hBd⟩
 have hcut := (hFa.ext hxb).cut (l := l0) (x := zzB :: y0) hs1 hset (by rw [hlen1]) (by rw [e2, hrl1]) hcd hBd
 have hx6d : Ext w6 wd := (hx6a.trans hxb).step hcd (by simp; omega)
 have hAd := (hA1.ext hxb).chg hcd (by simp; omega)
 have hBd' := (hB1.ext hxb).chg hcd (by simp; omega)
 have hCd := (hC1.ext hxb).chg hcd (by simp; omega)
 have hQd := SheetsQ.ext hQ hx6d
 have hWd := SheetsQ.ext hW hx6d
 obtain ⟨aq, q, qc, rfl, -, -, htr, hcc⟩ := SheetsQ.at hQd hs0
 obtain ⟨a2', q2, qc2, rfl, -, ht2, hcr⟩ := RowsQ.at htr hr00
 obtain ⟨a3', rfl, -, -, hct⟩ := TextsQ.at ht2 hx00
 have hq2 : wd.cell? ((aq.add ((0 : Int).toNat * 3)).add 2) = some (.slice (some a2') s0.rows.length qc) := hcc 2 _ rfl
 have hq3 : wd.cell? (a2'.add ((0 : Int).toNat * 1)) = some (.slice (some a3') x0.length qc2) := hcr
 have hq4 : wd.cell? (a3'.add ((0 : Int).toNat * 1)) = some (str t0) := hct
 have hx3d := hx3.trans hx6d
 have hce := cut_eq (b := b) hs0 hr0 hx0
 refine Sa ?_
 refine CW.draw (by kernel_rfl) (by kernel_rfl) ?_
 refine Sqw ?_
 refine QL.call0 rfl rfl (fun wv hv => SameBook_ret b b _ _ wv (SheetsQ.ext hQd hv) (SheetsQ.ext hWd hv)) ?_
 refine Sqw ?_
 refine QL.know (t := 73) (c := true) rfl (by simp) ?_
 refine Sqw ?_
 refine QL.call0 rfl rfl (fun wv hv => Same_book b (cutB (setB b 0 0 0 zzB)) _ _ wv (SheetsQ.ext hQd hv) (SheetsQ.ext hcut hv)) ?_
 refine Sqw ?_
 by_cases hl1 : 1 < s0.rows.length
 ·refine QL.know (t := 85) (c := true) rfl (decide_eq_true (by omega)) ?_
  refine Sqw ?_
  refine QL.know (t := 99) (c := true) rfl (by
   rw [decide_eq_false (p := b = cutB (setB b 0 0 0 zzB)) (fun e => by
    have := (hce.1 e).1
    rw [hr0, this] at hl1
    simp at hl1)]
   rfl) ?_
  refine Sqw ?_
  refine QL.call0 rfl rfl (fun wv hv => awake10_ret wv (g.ext (hx3d.trans hv))) ?_
  refine Sqw ?_
  refine QL.nil fun wv hv => ?_
  refine Sa ?_
  exact QW.body1 Tryz.results5 rfl ⟨rfl, hx3d.trans hv⟩
 ·have hl0 : l0 = [] := by
   rw [hr0] at hl1
   simpa using hl1
  refine QL.know (t := 85) (c := false) rfl (decide_eq_false (by omega)) ?_
  refine Sqw ?_
  refine QL.know (t := 99) (c := true) rfl (by
   have e9 : decide (b = cutB (setB b 0 0 0 zzB)) = decide (t0 = [39, 122, 122]) := decide_eq_decide.2 ⟨fun e => (hce.1 e).2, fun e => hce.2 ⟨hl0, e⟩⟩
   rw [e9]
   simp) ?_
  refine Sqw ?_
  refine QL.call0 rfl rfl (fun wv hv => awake10_ret wv (g.ext (hx3d.trans hv))) ?_
  refine Sqw ?_
  refine QL.nil fun wv hv => ?_
  refine Sa ?_
  exact QW.body1 Tryz.results5 rfl ⟨rfl, hx3d.trans hv⟩
end Go.Proofs.YtiaigmahdjhcoaaGreatDoor
