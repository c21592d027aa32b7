/-
 Walks: shifts by numbers.
-/
import Derived.Test.YtiaigmahdjhcoaaGreatDoorMovL
import Derived.Test.YtiaigmahdjhcoaaGreatDoorMovW
import Derived.Test.YtiaigmahdjhcoaaGreatDoorMovX
namespace Go.Proofs.YtiaigmahdjhcoaaGreatDoor
open Go Go.E

structure ZV where
 s : ShD
 rv : Value
 cv : Value
def zvL (x : ZV) : List Value := shL x.s x.rv x.cv
theorem zvL_len (x : ZV) : (zvL x).length = 6 := rfl
def ZvOk (w0 w : World) (x : ZV) : Prop := x.s.May ∧ Own1 w0 w x.rv x.s.rows ∧ Own1 w0 w x.cv x.s.cols
theorem ZvOk.chg {S : List Nat} {w0 w w' : World} {x : ZV} (h : ZvOk w0 w x) (hc : Chg S w w') (hT : ∀ b ∈ S, ∃ l T, Blk w b l T ∧ T ≠ 3) : ZvOk w0 w' x := ⟨h.1, h.2.1.chg hc hT, h.2.2.chg hc hT⟩
theorem ZvOk.ext {w0 w w' : World} {x : ZV} (h : ZvOk w0 w x) (e : Ext w w') : ZvOk w0 w' x := ⟨h.1, h.2.1.ext e, h.2.2.ext e⟩
theorem zv_one {w0 w : World} {x : ZV} (h : ZvOk w0 w x) : (zvL x).all (·.oneCell') = true := by
 simp only [zvL, shL, List.all_cons, List.all_nil, h.2.1.one, h.2.2.one]
 rfl
theorem zv_row {w0 w : World} {v : Value} {svs : List ZV} (h : Own w w0.heap.size 71 6 v svs.length (svs.flatMap zvL)) (hk : ∀ x ∈ svs, ZvOk w0 w x) (hl : svs.length ≤ 10) : ShiftsR w v (svs.map ZV.s) := by
 refine ⟨by simp; omega, ?_⟩
 obtain ⟨hlen, ⟨rfl, h0⟩ | ⟨g, cap, sp, rfl, hB, _⟩⟩ := h
 ·have : svs = [] := List.eq_nil_of_length_eq_zero h0
  subst this
  exact .inl ⟨rfl, rfl⟩
 ·refine .inr ⟨⟨g, 0, none⟩, cap, by simp, fun i s hi => ?_⟩
  rw [List.getElem?_map] at hi
  cases hx : svs[i]? with
  | none => rw [hx] at hi; cases hi
  | some x =>
   rw [hx] at hi
   obtain rfl := Option.some.inj hi
   have hok := hk x (List.mem_of_getElem? hx)
   refine ⟨x.rv, x.cv, hok.2.1.ints, hok.2.2.ints, fun j u hj => ?_⟩
   have hj6 : j < 6 := (List.getElem?_eq_some_iff.1 hj).1
   rw [Addr.add_add]
   refine hB.getElem _ _ ?_
   rw [flat_get zvL_len svs sp i _ j hx hj6]
   exact hj
theorem InS.sub {k : IntKind} {w : World} {p : Option Addr} {n c i j : Nat} {zs : List Int} (h : InS k w (.slice p n c) zs) (hn : n = zs.length) (hij : i ≤ j) (hj : j ≤ zs.length) (hc : zs.length ≤ c) : InS k w (.slice (if c = i then p else p.map (·.add (i * 1))) (j - i) (c - i)) ((zs.drop i).take (j - i)) := by
 have hl : ((zs.drop i).take (j - i)).length = j - i := by simp; omega
 have hzl := h.1
 refine ⟨by omega, ?_⟩
 by_cases h0 : j - i = 0
 ·rw [h0]
  simp only [List.take_zero]
  obtain ⟨_, ⟨e, e2⟩ | ⟨a, cap, e, hcell⟩⟩ := h
  ·simp only [Value.slice.injEq] at e
   obtain ⟨rfl, _, rfl⟩ := e
   have hi0 : i = 0 := by simp [e2] at hj; omega
   subst hi0
   exact .inl ⟨rfl, trivial⟩
  ·simp only [Value.slice.injEq] at e
   obtain ⟨rfl, _, rfl⟩ := e
   by_cases hci : c = i
   ·rw [if_pos hci]
    exact .inr ⟨a, _, rfl, fun x z hz => by simp at hz⟩
   ·rw [if_neg hci]
    exact .inr ⟨_, _, rfl, fun x z hz => by simp at hz⟩
 ·rw [if_neg (by omega)]
  obtain ⟨_, ⟨e, e2⟩ | ⟨a, cap, e, hcell⟩⟩ := h
  ·rw [e2] at hj; simp at hj; omega
  ·simp only [Value.slice.injEq] at e
   obtain ⟨rfl, _, rfl⟩ := e
   refine .inr ⟨_, _, by rw [hl]; rfl, fun x z hz => ?_⟩
   have hx : x < j - i := by
    have := (List.getElem?_eq_some_iff.1 hz).1
    omega
   rw [List.getElem?_take_of_lt hx, List.getElem?_drop] at hz
   rw [Addr.add_add, Nat.mul_one]
   exact hcell _ _ hz
theorem thirds {L i : Nat} (hi : i ≤ 2) : L * i / 3 ≤ L * (i + 1) / 3 ∧ L * (i + 1) / 3 ≤ L := by
 match i, hi with
 | 0, _ => omega
 | 1, _ => omega
 | 2, _ => omega
theorem third_cast (L i : Nat) : (L : Int) * (i : Int) / 3 = ((L * i / 3 : Nat) : Int) := by
 rw [Int.natCast_ediv, Int.natCast_mul]
 rfl
def nmT (i : Nat) : List UInt8 := if i = 0 then [65] else if i = 1 then [66] else [84]

set_option maxHeartbeats 8000000 in
theorem Shifts_ret (ns : List Int) (np : Option Addr) (nc : Nat) (wh : Int) (w : World) (hin : InS .u8 w (.slice np ns.length nc) ns) (hcap : ns.length ≤ nc) (hb : ∀ z ∈ ns, 0 ≤ z ∧ z ≤ 255) (hl : ns.length ≤ 1000) (h0 : 0 ≤ wh) (h1 : wh ≤ 255) : Ret Tryz.prog 34 [.slice np ns.length nc, .int .u8 wh] w (fun v w' => (∃ ss, ShiftsR w' v ss ∧ ∀ s ∈ ss, s.May) ∧ Ext w w') := by
 refine Ret.enter Tryz.func34 rfl Tryz.ntmps34 (by kernel_rfl) rfl ?_
 refine Sa ?_
 refine CW.loop (ι := List ZV × Option Addr × Nat) (fun x w' => x.1.length ≤ 3 ∧ Ext w w' ∧ Own w' w.heap.size 71 6 (.slice x.2.1 x.1.length x.2.2) x.1.length (x.1.flatMap zvL) ∧ ∀ y ∈ x.1, ZvOk w w' y) (fun x => [(0, .slice np ns.length nc), (1, .int .u8 wh), (5, .slice x.2.1 x.1.length x.2.2), (6, .int .i64 (x.1.length : Int))]) (fun x => 3 - x.1.length) ([], none, 0) ⟨by simp, Chg.refl _ _, Own.nil _ _ _ _, by simp⟩ (Sub.cons rfl (Sub.cons rfl (Sub.cons rfl (Sub.cons rfl (Sub.nil))))) ?_
 rintro ⟨svs, p, c⟩ w1 ⟨hk, hx1, ho, hok⟩
 dsimp only at hk ho hok
 show CW _ _ _ _ _ [(0, .slice np ns.length nc), (1, .int .u8 wh), (5, .slice p svs.length c), (6, .int .i64 (svs.length : Int))] _
 have hz1 := hx1.size
 refine Sa ?_
 refine Cwc (fun b => ?_) fun b => ?_
 rotate_left
 ·refine Sa ?_
  refine QW.body1 Tryz.results34 rfl ⟨⟨_, zv_row ho hok (by omega), fun s hs => ?_⟩, hx1⟩
  obtain ⟨x, hx, rfl⟩ := List.mem_map.1 hs
  exact (hok x hx).1
 have b : svs.length ≤ 2 := by simp at b; omega
 obtain ⟨t1, t2⟩ := thirds (L := ns.length) b
 have hq1 := third_cast ns.length svs.length
 have hq2 : (ns.length : Int) * ((svs.length : Int) + 1) / 3 = ((ns.length * (svs.length + 1) / 3 : Nat) : Int) := third_cast ns.length (svs.length + 1)
 have hm1 : (ns.length : Int) * (svs.length : Int) = ((ns.length * svs.length : Nat) : Int) := (Int.natCast_mul ..).symm
 have hm2 : (ns.length : Int) * ((svs.length : Int) + 1) = ((ns.length * (svs.length + 1) : Nat) : Int) := (Int.natCast_mul ns.length (svs.length + 1)).symm
 have hn1 : ns.length * svs.length ≤ 1000 * 2 := Nat.mul_le_mul hl b
 have hn2 : ns.length * (svs.length + 1) ≤ 1000 * 3 := Nat.mul_le_mul hl (by omega)
 have hk1 : ns.length * svs.length / 3 ≤ ns.length := Nat.le_trans t1 t2
 refine Sa ?_
 refine LW.slice_lh (i := ns.length * svs.length / 3) (j := ns.length * (svs.length + 1) / 3) rfl (congrArg (fun z => some (Value.int IntKind.i64 z)) hq1) (congrArg (fun z => some (Value.int IntKind.i64 z)) hq2) rfl rfl rfl t1 (by omega) rfl ?_
 refine Sa ?_
 obtain ⟨sub, hsub⟩ : ∃ sub, sub = (ns.drop (ns.length * svs.length / 3)).take (ns.length * (svs.length + 1) / 3 - ns.length * svs.length / 3) := ⟨_, rfl⟩
 have hsl : sub.length ≤ 1000 := by rw [hsub]; simp; omega
 have hsb : ∀ z ∈ sub, 0 ≤ z ∧ z ≤ 255 := fun z hz => hb z (by rw [hsub] at hz; exact List.mem_of_mem_drop (List.mem_of_mem_take hz))
 have hsin := (hin.ext hx1).sub rfl t1 t2 hcap
 rw [← hsub] at hsin
 refine LW.call0 rfl rfl (Make_ret sub _ w1 hsin hsb (by omega)) ?_
 rintro v w2 ⟨hv, hx2⟩
 obtain ⟨_, _, i3, _, _⟩ := make_inv sub hsb sub.length (Nat.le_refl _)
 rw [List.take_length] at i3
 obtain ⟨p1, c1, rfl, hO1⟩ := MapO.own1 (w0 := w) hv hz1 (by omega)
 have hmr := make_may hsb (show sub.length ≤ 100000 by omega)
 generalize makeM sub = rows at hO1 hmr i3
 refine Sa ?_
 refine Lwa fun M w3 hbM hx3 hM => ?_
 refine Sa ?_
 refine Lws fun w4 hc4 hM => ?_
 replace hM : Blk w4 M [.slice p1 rows.to.length c1, .int .i64 rows.new] 68 := hM
 have hx24 : Ext w2 w4 := hx3.step hc4 (by simp; omega)
 have hx14 : Ext w1 w4 := hx2.trans hx24
 replace hO1 := hO1.ext hx24
 replace ho := ho.ext hx14
 have hlt4 : ∀ b ∈ vblk (Value.slice p svs.length c), b < w4.heap.size := fun b hb => (ho.lt hb).2
 replace hok : ∀ y ∈ svs, ZvOk w w4 y := fun y hy => (hok y hy).ext hx14
 have hx4 := hx1.trans hx14
 have hz4 := hx4.size
 have hMlt := hM.lt
 obtain ⟨C, hC⟩ := Int.eq_ofNat_of_zero_le (show 0 ≤ wh % 6 by omega)
 have hCi : (insX 4 C).to.length ≤ 1000000 := by unfold insX; split <;> simp [insM, sameM, rangeZ_len]
 have hnm : ([str [65], str [66], str [84]] : List Value)[svs.length]? = some (str (nmT svs.length)) := by
  have : svs.length = 0 ∨ svs.length = 1 ∨ svs.length = 2 := by omega
  rcases this with h | h | h <;> rw [h] <;> rfl
 clear hq1 hq2 hm1 hm2 hn1 hn2 hk1 hsub hsl hsb hsin i3 t1 t2 hc4 hx3 hbM hx2 hx24 hx14 hx1 hz1
 apply LW.nil
 apply QW.then_n
 refine CW.seq_cut (ι := Nat × Option Addr × Nat) (fun x w' => Ext w4 w' ∧ Blk w' x.1 (shL ⟨nmT svs.length, rows, insX 4 C, false⟩ (.slice p1 rows.to.length c1) (.slice x.2.1 (insX 4 C).to.length x.2.2)) 71 ∧ Own1 w w' (.slice x.2.1 (insX 4 C).to.length x.2.2) (insX 4 C) ∧ w4.heap.size ≤ x.1) (fun x => [(0, .slice np ns.length nc), (1, .int .u8 wh), (5, .slice p svs.length c), (6, .int .i64 (svs.length : Int)), (8, .pointer (some ⟨M, 0, none⟩)), (9, .pointer (some ⟨x.1, 0, none⟩))]) ?_ ?_
 ·refine CW.drawHeld (fun w' => Ext w4 w') (fun w' h => h) (by kernel_rfl) fun w5 hx5 => ?_
  refine HW.take 1 rfl rfl rfl rfl (fun w _ => Y.pure rfl) rfl (by kernel_rfl) (by kernel_rfl) (by kernel_rfl) (fun _ _ _ h => h) ?_
  refine HW.take 4 rfl rfl rfl rfl (fun w hw => Y.load_all rfl (hM.ext hw) rfl rfl rfl) rfl (by kernel_rfl) (by kernel_rfl) (by kernel_rfl) (fun _ _ _ h => h) ?_
  refine HW.take 5 rfl rfl rfl rfl (fun w _ => Y.pure rfl) rfl (by kernel_rfl) (by kernel_rfl) (by kernel_rfl) (fun _ _ _ h => h) ?_
  first | refine HW.take 6 rfl rfl rfl rfl (fun w _ => Y.pure rfl) rfl (by kernel_rfl) (by kernel_rfl) (by kernel_rfl) (fun _ _ _ h => h) ?_ | refine HW.take 6 rfl rfl rfl rfl (fun w _ => Y.go rfl (by first | omega | exact ⟨by omega, by omega⟩ | exact ⟨by omega, by omega, by omega⟩ | (simp <;> omega))) rfl (by kernel_rfl) (by kernel_rfl) (by kernel_rfl) (fun _ _ _ h => h) ?_
  refine HW.take 7 rfl rfl rfl rfl (fun w _ => Y.go rfl (by first | omega | exact ⟨by omega, by omega⟩ | exact ⟨by omega, by omega, by omega⟩ | (simp <;> omega))) rfl (by kernel_rfl) (by kernel_rfl) (by kernel_rfl) (fun _ _ _ h => h) ?_
  rw [hC]
  refine HW.three 0 8 10 (by kernel_rfl) rfl rfl rfl rfl rfl rfl (fun hS => ?_) (fun hS => ?_) (fun hS => ?_)
  refine Lwl fun B wn hbB hx hB => ?_; replace hB : Blk wn B [str [65], str [66], str [84]] 9 := hB; apply LW.nil; refine QW.held (hS.trans hx) ?_; clear hx hS hbB; refine HW.take 2 rfl rfl rfl rfl (fun w _ => Y.idx_slice (j := svs.length) rfl rfl rfl rfl rfl (by omega) (by omega) (by show 0 + ((svs.length : Nat) : Int).toNat * 1 = svs.length; omega)) rfl (by kernel_rfl) (by kernel_rfl) (by kernel_rfl) (fun _ _ _ h => h) ?_
  refine HW.three 3 8 10 (by kernel_rfl) rfl rfl rfl rfl rfl rfl (fun hS => ?_) (fun hS => ?_) (fun hS => ?_)
  refine LW.load rfl hB hnm rfl rfl rfl ?_; apply LW.nil; refine QW.held hS ?_; clear hS hB
  refine HW.two 8 10 (by kernel_rfl) rfl rfl rfl rfl (fun hS => ?_) (fun hS => ?_)
  refine LW.call0 rfl rfl (Ins_ret 4 C (by omega) _) ?_; rintro v wn ⟨hv, hx⟩; obtain ⟨p2, c2, rfl, hO⟩ := MapO.own1 (w0 := w) hv (Nat.le_trans hz4 hS.size) hCi; apply LW.nil; refine QW.held (hS.trans hx) ?_; clear hx hS hv
  refine HW.two 9 10 (by kernel_rfl) rfl rfl rfl rfl (fun hS => ?_) (fun hS => ?_)
  refine Lh ?_; apply LW.nil; refine QW.held hS ?_; clear hS
  refine HW.one 10 (by kernel_rfl) rfl rfl (fun hS => ?_)
  refine Lwa fun X wn hbX hx hX => ?_; have hXg : w4.heap.size ≤ X := (by rw [hbX]; exact hS.size); replace hO := hO.ext hx; apply LW.nil; refine QW.held (hS.trans hx) ?_; clear hx hS hbX
  rotate_left
  refine Lwa fun X wn hbX hx hX => ?_; have hXg : w4.heap.size ≤ X := (by rw [hbX]; exact hS.size); replace hO := hO.ext hx; apply LW.nil; refine QW.held (hS.trans hx) ?_; clear hx hS hbX
  refine HW.one 9 (by kernel_rfl) rfl rfl (fun hS => ?_)
  refine Lh ?_; apply LW.nil; refine QW.held hS ?_; clear hS
  rotate_left
  refine Lwa fun X wn hbX hx hX => ?_; have hXg : w4.heap.size ≤ X := (by rw [hbX]; exact hS.size); apply LW.nil; refine QW.held (hS.trans hx) ?_; clear hx hS hbX
  refine HW.one 8 (by kernel_rfl) rfl rfl (fun hS => ?_)
  refine LW.call0 rfl rfl (Ins_ret 4 C (by omega) _) ?_; rintro v wn ⟨hv, hx⟩; replace hX := hX.ext hx; obtain ⟨p2, c2, rfl, hO⟩ := MapO.own1 (w0 := w) hv (Nat.le_trans hz4 hS.size) hCi; apply LW.nil; refine QW.held (hS.trans hx) ?_; clear hx hS hv
  refine HW.one 9 (by kernel_rfl) rfl rfl (fun hS => ?_)
  refine Lh ?_; apply LW.nil; refine QW.held hS ?_; clear hS
  rotate_left
  refine LW.call0 rfl rfl (Ins_ret 4 C (by omega) _) ?_; rintro v wn ⟨hv, hx⟩; replace hB := hB.ext hx; obtain ⟨p2, c2, rfl, hO⟩ := MapO.own1 (w0 := w) hv (Nat.le_trans hz4 hS.size) hCi; apply LW.nil; refine QW.held (hS.trans hx) ?_; clear hx hS hv
  refine HW.two 3 10 (by kernel_rfl) rfl rfl rfl rfl (fun hS => ?_) (fun hS => ?_)
  refine LW.load rfl hB hnm rfl rfl rfl ?_; apply LW.nil; refine QW.held hS ?_; clear hS hB
  refine HW.two 9 10 (by kernel_rfl) rfl rfl rfl rfl (fun hS => ?_) (fun hS => ?_)
  refine Lh ?_; apply LW.nil; refine QW.held hS ?_; clear hS
  refine HW.one 10 (by kernel_rfl) rfl rfl (fun hS => ?_)
  refine Lwa fun X wn hbX hx hX => ?_; have hXg : w4.heap.size ≤ X := (by rw [hbX]; exact hS.size); replace hO := hO.ext hx; apply LW.nil; refine QW.held (hS.trans hx) ?_; clear hx hS hbX
  rotate_left
  refine Lwa fun X wn hbX hx hX => ?_; have hXg : w4.heap.size ≤ X := (by rw [hbX]; exact hS.size); replace hO := hO.ext hx; apply LW.nil; refine QW.held (hS.trans hx) ?_; clear hx hS hbX
  refine HW.one 9 (by kernel_rfl) rfl rfl (fun hS => ?_)
  refine Lh ?_; apply LW.nil; refine QW.held hS ?_; clear hS
  rotate_left
  refine Lwa fun X wn hbX hx hX => ?_; have hXg : w4.heap.size ≤ X := (by rw [hbX]; exact hS.size); replace hB := hB.ext hx; replace hO := hO.ext hx; apply LW.nil; refine QW.held (hS.trans hx) ?_; clear hx hS hbX
  refine HW.one 3 (by kernel_rfl) rfl rfl (fun hS => ?_)
  refine LW.load rfl hB hnm rfl rfl rfl ?_; apply LW.nil; refine QW.held hS ?_; clear hS hB
  refine HW.one 9 (by kernel_rfl) rfl rfl (fun hS => ?_)
  refine Lh ?_; apply LW.nil; refine QW.held hS ?_; clear hS
  rotate_left
  refine Lwa fun X wn hbX hx hX => ?_; have hXg : w4.heap.size ≤ X := (by rw [hbX]; exact hS.size); replace hB := hB.ext hx; apply LW.nil; refine QW.held (hS.trans hx) ?_; clear hx hS hbX
  refine HW.two 3 8 (by kernel_rfl) rfl rfl rfl rfl (fun hS => ?_) (fun hS => ?_)
  refine LW.load rfl hB hnm rfl rfl rfl ?_; apply LW.nil; refine QW.held hS ?_; clear hS hB
  refine HW.one 8 (by kernel_rfl) rfl rfl (fun hS => ?_)
  refine LW.call0 rfl rfl (Ins_ret 4 C (by omega) _) ?_; rintro v wn ⟨hv, hx⟩; replace hX := hX.ext hx; obtain ⟨p2, c2, rfl, hO⟩ := MapO.own1 (w0 := w) hv (Nat.le_trans hz4 hS.size) hCi; apply LW.nil; refine QW.held (hS.trans hx) ?_; clear hx hS hv
  refine HW.one 9 (by kernel_rfl) rfl rfl (fun hS => ?_)
  refine Lh ?_; apply LW.nil; refine QW.held hS ?_; clear hS
  rotate_left
  refine LW.call0 rfl rfl (Ins_ret 4 C (by omega) _) ?_; rintro v wn ⟨hv, hx⟩; replace hB := hB.ext hx; replace hX := hX.ext hx; obtain ⟨p2, c2, rfl, hO⟩ := MapO.own1 (w0 := w) hv (Nat.le_trans hz4 hS.size) hCi; apply LW.nil; refine QW.held (hS.trans hx) ?_; clear hx hS hv
  refine HW.one 3 (by kernel_rfl) rfl rfl (fun hS => ?_)
  refine LW.load rfl hB hnm rfl rfl rfl ?_; apply LW.nil; refine QW.held hS ?_; clear hS hB
  refine HW.one 9 (by kernel_rfl) rfl rfl (fun hS => ?_)
  refine Lh ?_; apply LW.nil; refine QW.held hS ?_; clear hS
  rotate_left
  refine LW.call0 rfl rfl (Ins_ret 4 C (by omega) _) ?_; rintro v wn ⟨hv, hx⟩; obtain ⟨p2, c2, rfl, hO⟩ := MapO.own1 (w0 := w) hv (Nat.le_trans hz4 hS.size) hCi; apply LW.nil; refine QW.held (hS.trans hx) ?_; clear hx hS hv
  refine HW.two 0 10 (by kernel_rfl) rfl rfl rfl rfl (fun hS => ?_) (fun hS => ?_)
  refine Lwl fun B wn hbB hx hB => ?_; replace hO := hO.ext hx; replace hB : Blk wn B [str [65], str [66], str [84]] 9 := hB; apply LW.nil; refine QW.held (hS.trans hx) ?_; clear hx hS hbB; refine HW.take 2 rfl rfl rfl rfl (fun w _ => Y.idx_slice (j := svs.length) rfl rfl rfl rfl rfl (by omega) (by omega) (by show 0 + ((svs.length : Nat) : Int).toNat * 1 = svs.length; omega)) rfl (by kernel_rfl) (by kernel_rfl) (by kernel_rfl) (fun _ _ _ h => h) ?_
  refine HW.two 3 10 (by kernel_rfl) rfl rfl rfl rfl (fun hS => ?_) (fun hS => ?_)
  refine LW.load rfl hB hnm rfl rfl rfl ?_; apply LW.nil; refine QW.held hS ?_; clear hS hB
  refine HW.two 9 10 (by kernel_rfl) rfl rfl rfl rfl (fun hS => ?_) (fun hS => ?_)
  refine Lh ?_; apply LW.nil; refine QW.held hS ?_; clear hS
  refine HW.one 10 (by kernel_rfl) rfl rfl (fun hS => ?_)
  refine Lwa fun X wn hbX hx hX => ?_; have hXg : w4.heap.size ≤ X := (by rw [hbX]; exact hS.size); replace hO := hO.ext hx; apply LW.nil; refine QW.held (hS.trans hx) ?_; clear hx hS hbX
  rotate_left
  refine Lwa fun X wn hbX hx hX => ?_; have hXg : w4.heap.size ≤ X := (by rw [hbX]; exact hS.size); replace hO := hO.ext hx; apply LW.nil; refine QW.held (hS.trans hx) ?_; clear hx hS hbX
  refine HW.one 9 (by kernel_rfl) rfl rfl (fun hS => ?_)
  refine Lh ?_; apply LW.nil; refine QW.held hS ?_; clear hS
  rotate_left
  refine Lwa fun X wn hbX hx hX => ?_; have hXg : w4.heap.size ≤ X := (by rw [hbX]; exact hS.size); replace hB := hB.ext hx; replace hO := hO.ext hx; apply LW.nil; refine QW.held (hS.trans hx) ?_; clear hx hS hbX
  refine HW.one 3 (by kernel_rfl) rfl rfl (fun hS => ?_)
  refine LW.load rfl hB hnm rfl rfl rfl ?_; apply LW.nil; refine QW.held hS ?_; clear hS hB
  refine HW.one 9 (by kernel_rfl) rfl rfl (fun hS => ?_)
  refine Lh ?_; apply LW.nil; refine QW.held hS ?_; clear hS
  rotate_left
  refine Lwa fun X wn hbX hx hX => ?_; have hXg : w4.heap.size ≤ X := (by rw [hbX]; exact hS.size); replace hO := hO.ext hx; apply LW.nil; refine QW.held (hS.trans hx) ?_; clear hx hS hbX
  refine HW.one 0 (by kernel_rfl) rfl rfl (fun hS => ?_)
  refine Lwl fun B wn hbB hx hB => ?_; replace hO := hO.ext hx; replace hX := hX.ext hx; replace hB : Blk wn B [str [65], str [66], str [84]] 9 := hB; apply LW.nil; refine QW.held (hS.trans hx) ?_; clear hx hS hbB; refine HW.take 2 rfl rfl rfl rfl (fun w _ => Y.idx_slice (j := svs.length) rfl rfl rfl rfl rfl (by omega) (by omega) (by show 0 + ((svs.length : Nat) : Int).toNat * 1 = svs.length; omega)) rfl (by kernel_rfl) (by kernel_rfl) (by kernel_rfl) (fun _ _ _ h => h) ?_
  refine HW.one 3 (by kernel_rfl) rfl rfl (fun hS => ?_)
  refine LW.load rfl hB hnm rfl rfl rfl ?_; apply LW.nil; refine QW.held hS ?_; clear hS hB
  refine HW.one 9 (by kernel_rfl) rfl rfl (fun hS => ?_)
  refine Lh ?_; apply LW.nil; refine QW.held hS ?_; clear hS
  rotate_left
  refine Lwa fun X wn hbX hx hX => ?_; have hXg : w4.heap.size ≤ X := (by rw [hbX]; exact hS.size); apply LW.nil; refine QW.held (hS.trans hx) ?_; clear hx hS hbX
  refine HW.two 0 8 (by kernel_rfl) rfl rfl rfl rfl (fun hS => ?_) (fun hS => ?_)
  refine Lwl fun B wn hbB hx hB => ?_; replace hX := hX.ext hx; replace hB : Blk wn B [str [65], str [66], str [84]] 9 := hB; apply LW.nil; refine QW.held (hS.trans hx) ?_; clear hx hS hbB; refine HW.take 2 rfl rfl rfl rfl (fun w _ => Y.idx_slice (j := svs.length) rfl rfl rfl rfl rfl (by omega) (by omega) (by show 0 + ((svs.length : Nat) : Int).toNat * 1 = svs.length; omega)) rfl (by kernel_rfl) (by kernel_rfl) (by kernel_rfl) (fun _ _ _ h => h) ?_
  refine HW.two 3 8 (by kernel_rfl) rfl rfl rfl rfl (fun hS => ?_) (fun hS => ?_)
  refine LW.load rfl hB hnm rfl rfl rfl ?_; apply LW.nil; refine QW.held hS ?_; clear hS hB
  refine HW.one 8 (by kernel_rfl) rfl rfl (fun hS => ?_)
  refine LW.call0 rfl rfl (Ins_ret 4 C (by omega) _) ?_; rintro v wn ⟨hv, hx⟩; replace hX := hX.ext hx; obtain ⟨p2, c2, rfl, hO⟩ := MapO.own1 (w0 := w) hv (Nat.le_trans hz4 hS.size) hCi; apply LW.nil; refine QW.held (hS.trans hx) ?_; clear hx hS hv
  refine HW.one 9 (by kernel_rfl) rfl rfl (fun hS => ?_)
  refine Lh ?_; apply LW.nil; refine QW.held hS ?_; clear hS
  rotate_left
  refine LW.call0 rfl rfl (Ins_ret 4 C (by omega) _) ?_; rintro v wn ⟨hv, hx⟩; replace hB := hB.ext hx; replace hX := hX.ext hx; obtain ⟨p2, c2, rfl, hO⟩ := MapO.own1 (w0 := w) hv (Nat.le_trans hz4 hS.size) hCi; apply LW.nil; refine QW.held (hS.trans hx) ?_; clear hx hS hv
  refine HW.one 3 (by kernel_rfl) rfl rfl (fun hS => ?_)
  refine LW.load rfl hB hnm rfl rfl rfl ?_; apply LW.nil; refine QW.held hS ?_; clear hS hB
  refine HW.one 9 (by kernel_rfl) rfl rfl (fun hS => ?_)
  refine Lh ?_; apply LW.nil; refine QW.held hS ?_; clear hS
  rotate_left
  refine LW.call0 rfl rfl (Ins_ret 4 C (by omega) _) ?_; rintro v wn ⟨hv, hx⟩; replace hX := hX.ext hx; obtain ⟨p2, c2, rfl, hO⟩ := MapO.own1 (w0 := w) hv (Nat.le_trans hz4 hS.size) hCi; apply LW.nil; refine QW.held (hS.trans hx) ?_; clear hx hS hv
  refine HW.one 0 (by kernel_rfl) rfl rfl (fun hS => ?_)
  refine Lwl fun B wn hbB hx hB => ?_; replace hO := hO.ext hx; replace hX := hX.ext hx; replace hB : Blk wn B [str [65], str [66], str [84]] 9 := hB; apply LW.nil; refine QW.held (hS.trans hx) ?_; clear hx hS hbB; refine HW.take 2 rfl rfl rfl rfl (fun w _ => Y.idx_slice (j := svs.length) rfl rfl rfl rfl rfl (by omega) (by omega) (by show 0 + ((svs.length : Nat) : Int).toNat * 1 = svs.length; omega)) rfl (by kernel_rfl) (by kernel_rfl) (by kernel_rfl) (fun _ _ _ h => h) ?_
  refine HW.one 3 (by kernel_rfl) rfl rfl (fun hS => ?_)
  refine LW.load rfl hB hnm rfl rfl rfl ?_; apply LW.nil; refine QW.held hS ?_; clear hS hB
  refine HW.one 9 (by kernel_rfl) rfl rfl (fun hS => ?_)
  refine Lh ?_; apply LW.nil; refine QW.held hS ?_; clear hS
  rotate_left
  all_goals
   refine HW.one 11 (by kernel_rfl) rfl rfl (fun hS => ?_)
   have hXl := hX.lt
   refine LW.store_all rfl rfl rfl hX rfl rfl rfl ?_
   intro w9 hc9 hX9
   replace hX9 : Blk w9 X (shL ⟨nmT svs.length, rows, insX 4 C, false⟩ (.slice p1 rows.to.length c1) (.slice p2 (insX 4 C).to.length c2)) 71 := hX9
   have hx9 : Ext w4 w9 := hS.step hc9 (by simpa using hXg)
   apply LW.nil
   refine QW.held hx9 ?_
   refine HW.done (by kernel_rfl) ?_
   exact QW.head (X, p2, c2) ⟨hx9, hX9, hO.chg hc9 (fun b hb => by simp at hb; subst hb; exact ⟨_, _, hX, by decide⟩), hXg⟩ (Sub.cons rfl (Sub.cons rfl (Sub.cons rfl (Sub.cons rfl (Sub.cons rfl (Sub.cons rfl (Sub.nil)))))))
 rintro ⟨X, p2, c2⟩ w9 ⟨hx49, hX, hO2, hXw⟩
 dsimp only at hX hO2 hXw
 show CW _ _ _ _ _ [(0, .slice np ns.length nc), (1, .int .u8 wh), (5, .slice p svs.length c), (6, .int .i64 (svs.length : Int)), (8, .pointer (some ⟨M, 0, none⟩)), (9, .pointer (some ⟨X, 0, none⟩))] _
 have hM9 := hM.ext hx49
 replace ho := ho.ext hx49
 replace hok : ∀ y ∈ svs, ZvOk w w9 y := fun y hy => (hok y hy).ext hx49
 replace hO1 := hO1.ext hx49
 have hx9 := hx4.trans hx49
 have hz9 := hx9.size
 have hXM : X ≠ M := by omega
 have hXx : w.heap.size ≤ X := by omega
 refine Sa ?_
 refine LW.shr (m := svs.length) rfl rfl (by show svs.length ≤ 8; omega) rfl rfl ?_
 refine LW.and_ rfl rfl rfl (fun z1 => ?_)
 refine Sa ?_
 refine Cwc (fun g1 => ?_) fun g1 => ?_
 rotate_left
 ·have hvok : ZvOk w w9 (⟨⟨nmT svs.length, rows, insX 4 C, false⟩, .slice p1 rows.to.length c1, .slice p2 (insX 4 C).to.length c2⟩ : ZV) := ⟨⟨hmr, insX_may (by omega)⟩, hO1, hO2⟩
  obtain ⟨x0, hx0⟩ : ∃ x0 : ZV, x0 = ⟨⟨nmT svs.length, rows, insX 4 C, false⟩, .slice p1 rows.to.length c1, .slice p2 (insX 4 C).to.length c2⟩ := ⟨_, rfl⟩
  have hX12 : Blk w9 X (zvL ⟨⟨nmT svs.length, rows, insX 4 C, false⟩, .slice p1 rows.to.length c1, .slice p2 (insX 4 C).to.length c2⟩) 71 := hX
  rw [← hx0] at hvok hX12
  clear hx0
  have hx12 := hx9
  have hz12 := hx12.size
  refine Sa ?_
  refine Lwl fun F w13 hbF hx13 hF => ?_
  replace hF : Blk w13 F (zvL x0) 71 := hF
  have hx13' := hx12.trans hx13
  have hz13 := hx13'.size
  refine Sa ?_
  refine LW.append rfl rfl rfl rfl rfl rfl (ho.ext hx13) (by omega) hF rfl (zv_one hvok) rfl (by show (svs.length + 1) * 89 ≤ 140737488355328; omega) rfl ?_
  intro v' w14 hc14 ho14 hv14
  have e1 : svs.flatMap zvL ++ zvL x0 = (svs ++ [x0]).flatMap zvL := by simp
  rw [e1] at ho14
  obtain ⟨p', c', rfl⟩ := ho14.slice
  have hcc : Chg (vblk (.slice p svs.length c)) _ w14 := Chg.trans hx13 hc14
  have hTo : ∀ b ∈ vblk (Value.slice p svs.length c), ∃ l T, Blk _ b l T ∧ T ≠ 3 := fun b hb => by
   obtain ⟨_, ⟨e, _⟩ | ⟨g, cap, sp, e, hg, _⟩⟩ := ho
   ·rw [e] at hb; simp [vblk] at hb
   ·rw [e] at hb
    simp [vblk] at hb
    subst hb
    exact ⟨_, _, hg, by decide⟩
  have hx14 : Ext w w14 := hx12.step hcc (fun b hb => (ho.lt hb).1)
  have hel : (svs ++ [x0]).length = svs.length + 1 := by simp
  refine Sa ?_
  refine QW.again (svs ++ [x0], p', c') ⟨by show (svs ++ [x0]).length ≤ 3; rw [hel]; omega, hx14, ?_, ?_⟩ ?_ (by show 3 - (svs ++ [x0]).length < 3 - svs.length; rw [hel]; omega)
  ·dsimp only
   rw [hel]
   exact ho14
  ·intro y hy
   rcases List.mem_append.1 hy with hy | hy
   ·exact (hok y hy).chg hcc hTo
   ·simp at hy
    subst hy
    exact hvok.chg hcc hTo
  ·dsimp only
   rw [hel]
   exact (Sub.cons rfl (Sub.cons rfl (Sub.cons rfl (Sub.cons rfl (Sub.nil)))))
 refine CW.drawHeld (fun w' => Ext w w' ∧ Blk w' M [.slice p1 rows.to.length c1, .int .i64 rows.new] 68 ∧ ∃ L, Blk w' X (str (nmT svs.length) :: L) 71) (fun w' h => ⟨hx9.trans h, hM9.ext h, _, hX.ext h⟩) (by kernel_rfl) fun w10 hx10 => ?_
 refine HW.take 0 rfl rfl rfl rfl (fun w _ => Y.pure rfl) rfl (by kernel_rfl) (by kernel_rfl) (by kernel_rfl) (fun _ _ _ h => h) ?_
 refine HW.take 1 rfl rfl rfl rfl (fun w hw => hw.2.2.elim fun L hL => Y.load rfl hL rfl rfl rfl) rfl (by kernel_rfl) (by kernel_rfl) (by kernel_rfl) (fun _ _ _ h => h) ?_
 refine HW.take 2 rfl rfl rfl rfl (fun w _ => Y.pure rfl) rfl (by kernel_rfl) (by kernel_rfl) (by kernel_rfl) (fun _ _ _ h => h) ?_
 refine HW.take 3 rfl rfl rfl rfl (fun w _ => Y.pure rfl) rfl (by kernel_rfl) (by kernel_rfl) (by kernel_rfl) (fun _ _ _ h => h) ?_
 refine HW.take 4 rfl rfl rfl rfl (fun w _ => Y.conv (z := (svs.length : Int)) rfl rfl rfl rfl rfl (by simp [IntKind.wrap, IntKind.bits, IntKind.signed]; omega)) rfl (by kernel_rfl) (by kernel_rfl) (by kernel_rfl) (fun _ _ _ h => h) ?_
 refine HW.take 5 rfl rfl rfl rfl (fun w _ => Y.shr (m := svs.length) rfl rfl (by show svs.length ≤ 8; omega) rfl) rfl (by kernel_rfl) (by kernel_rfl) (by kernel_rfl) (fun _ _ _ h => h) ?_
 refine HW.take 6 rfl rfl rfl rfl (fun w _ => Y.and_ rfl rfl) rfl (by kernel_rfl) (by kernel_rfl) (by kernel_rfl) (fun _ _ _ h => h) ?_
 refine HW.take 7 rfl rfl rfl rfl (fun w _ => Y.pure rfl) rfl (by kernel_rfl) (by kernel_rfl) (by kernel_rfl) (fun _ _ _ h => h) ?_
 refine HW.take 9 rfl rfl rfl rfl (fun w hw => Y.load_all rfl hw.2.1 rfl rfl rfl) rfl (by kernel_rfl) (by kernel_rfl) (by kernel_rfl) (fun _ _ _ h => h) ?_
 refine HW.one 8 (by kernel_rfl) rfl rfl (fun hS => ?_)
 refine LW.call0 rfl rfl (Same_ret 2 (by omega) w10) ?_
 rintro v w11 ⟨hv, hx11⟩
 obtain ⟨p3, c3, rfl, hO3⟩ := MapO.own1 (w0 := w) hv hS.1.size (by simp [sameM, rangeZ_len])
 apply LW.nil
 refine QW.held ⟨hS.1.trans hx11, hS.2.1.ext hx11, hS.2.2.elim fun L hL => ⟨L, hL.ext hx11⟩⟩ ?_
 refine HW.one 10 (by kernel_rfl) rfl rfl (fun hS => ?_)
 refine Lh ?_
 apply LW.nil
 refine QW.held hS ?_
 refine HW.one 11 (by kernel_rfl) rfl rfl (fun hS => ?_)
 have hx911 := hx10.trans hx11
 have hX11 := hX.ext hx911
 refine LW.store_all rfl rfl rfl hX11 rfl rfl rfl ?_
 intro w12 hc12 hX12
 have hc912 : Chg [X] w9 w12 := Chg.trans hx911 hc12
 have hx12 : Ext w w12 := hx9.step hc912 (by simpa using hXx)
 apply LW.nil
 refine QW.held ⟨hx12, hM9.chg hc912 (by simpa using fun e => hXM e.symm), _, hX12⟩ ?_
 refine HW.done (by kernel_rfl) ?_
 have hTX : ∀ b ∈ [X], ∃ l T, Blk w9 b l T ∧ T ≠ 3 := fun b hb => by
  simp only [List.mem_singleton] at hb
  subst hb
  exact ⟨_, _, hX, by decide⟩
 have hTX' : ∀ b ∈ [X], ∃ l T, Blk w11 b l T ∧ T ≠ 3 := fun b hb => by
  simp only [List.mem_singleton] at hb
  subst hb
  exact ⟨_, _, hX11, by decide⟩
 replace ho := ho.chg hc912 (fun b hb hm => by
  simp only [List.mem_singleton] at hm
  have := hlt4 b hb
  omega)
 replace hok : ∀ y ∈ svs, ZvOk w w12 y := fun y hy => (hok y hy).chg hc912 hTX
 obtain ⟨gb, hX12⟩ : ∃ gb, Blk w12 X (zvL ⟨⟨nmT svs.length, sameM 2, rows, gb⟩, .slice p3 (sameM 2).to.length c3, .slice p1 rows.to.length c1⟩) 71 := ⟨_, hX12⟩
 have hvok : ZvOk w w12 (⟨⟨nmT svs.length, sameM 2, rows, gb⟩, .slice p3 (sameM 2).to.length c3, .slice p1 rows.to.length c1⟩ : ZV) := ⟨⟨same_may (by omega), hmr⟩, hO3.chg hc12 hTX', hO1.chg hc912 hTX⟩
 obtain ⟨x0, hx0⟩ : ∃ x0 : ZV, x0 = ⟨⟨nmT svs.length, sameM 2, rows, gb⟩, .slice p3 (sameM 2).to.length c3, .slice p1 rows.to.length c1⟩ := ⟨_, rfl⟩
 rw [← hx0] at hvok hX12
 clear hx0
 have hz12 := hx12.size
 refine Sa ?_
 refine Lwl fun F w13 hbF hx13 hF => ?_
 replace hF : Blk w13 F (zvL x0) 71 := hF
 have hx13' := hx12.trans hx13
 have hz13 := hx13'.size
 refine Sa ?_
 refine LW.append rfl rfl rfl rfl rfl rfl (ho.ext hx13) (by omega) hF rfl (zv_one hvok) rfl (by show (svs.length + 1) * 89 ≤ 140737488355328; omega) rfl ?_
 intro v' w14 hc14 ho14 hv14
 have e1 : svs.flatMap zvL ++ zvL x0 = (svs ++ [x0]).flatMap zvL := by simp
 rw [e1] at ho14
 obtain ⟨p', c', rfl⟩ := ho14.slice
 have hcc : Chg (vblk (.slice p svs.length c)) _ w14 := Chg.trans hx13 hc14
 have hTo : ∀ b ∈ vblk (Value.slice p svs.length c), ∃ l T, Blk _ b l T ∧ T ≠ 3 := fun b hb => by
  obtain ⟨_, ⟨e, _⟩ | ⟨g, cap, sp, e, hg, _⟩⟩ := ho
  ·rw [e] at hb; simp [vblk] at hb
  ·rw [e] at hb
   simp [vblk] at hb
   subst hb
   exact ⟨_, _, hg, by decide⟩
 have hx14 : Ext w w14 := hx12.step hcc (fun b hb => (ho.lt hb).1)
 have hel : (svs ++ [x0]).length = svs.length + 1 := by simp
 refine Sa ?_
 refine QW.again (svs ++ [x0], p', c') ⟨by show (svs ++ [x0]).length ≤ 3; rw [hel]; omega, hx14, ?_, ?_⟩ ?_ (by show 3 - (svs ++ [x0]).length < 3 - svs.length; rw [hel]; omega)
 ·dsimp only
  rw [hel]
  exact ho14
 ·intro y hy
  rcases List.mem_append.1 hy with hy | hy
  ·exact (hok y hy).chg hcc hTo
  ·simp at hy
   subst hy
   exact hvok.chg hcc hTo
 ·dsimp only
  rw [hel]
  exact (Sub.cons rfl (Sub.cons rfl (Sub.cons rfl (Sub.cons rfl (Sub.nil)))))
end Go.Proofs.YtiaigmahdjhcoaaGreatDoor

