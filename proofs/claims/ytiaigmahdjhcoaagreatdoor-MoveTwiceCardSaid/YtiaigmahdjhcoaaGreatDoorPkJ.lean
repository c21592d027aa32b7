/-
 Joined by program out of the texts Mov1 Mov2 Mov3 Mov4 Mov5 Mov6 Mov7 MovK MovA MovS.
-/
import Derived.Test.YtiaigmahdjhcoaaGreatDoorPkG
import Derived.Test.YtiaigmahdjhcoaaGreatDoorPkF
import Derived.Test.YtiaigmahdjhcoaaGreatDoorPkE
namespace Go.Proofs.YtiaigmahdjhcoaaGreatDoor
open Go Go.E
theorem shiftF_ret (s : ShD) (rp cp : Option Addr) (rl rc cl cc A : Nat) (x : List UInt8) (w : World) (hA : Blk w A [str x] 9) : Ret Tryz.prog 116 [.agg ⟨shL s (.slice rp rl rc) (.slice cp cl cc)⟩, .pointer (some ⟨A, 0, none⟩)] w (fun v w' => v = .bool (decide (s.sheet = x)) ∧ Ext w w') := by
 refine Ret.enter Tryz.func116 rfl Tryz.ntmps116 (by kernel_rfl) rfl ?_
 refine Sa ?_
 refine Lwb fun X w1 hbX hx1 hX => ?_
 replace hX : Blk w1 X (shL s (.slice rp rl rc) (.slice cp cl cc)) 71 := hX
 replace hA := hA.ext hx1
 refine Sa ?_
 exact QW.body1 Tryz.results116 rfl ⟨by simp, hx1⟩
theorem idxShift_ret (ss : List ShD) (sv : Value) (A : Nat) (x : List UInt8) (w : World) (h : ShiftsR w sv ss) (hA : Blk w A [str x] 9) : Ret Tryz.prog 115 [sv, .func (.func 116) ⟨[]⟩ ⟨[.pointer (some ⟨A, 0, none⟩)]⟩] w (fun v w' => v = .int .i64 (match idxS ss x with | some i => (i : Int) | none => -1) ∧ Ext w w') := by
 obtain ⟨p, c, rfl⟩ := h.slice
 have hl := h.1
 refine Ret.enter Tryz.func115 rfl Tryz.ntmps115 (by kernel_rfl) rfl ?_
 refine Sa ?_
 refine CW.loop (ι := Nat) (fun k w' => k ≤ ss.length ∧ Ext w w' ∧ ∀ i u, i < k → ss[i]? = some u → u.sheet ≠ x) (fun k => [(0, .slice p ss.length c), (1, .func (.func 116) ⟨[]⟩ ⟨[.pointer (some ⟨A, 0, none⟩)]⟩), (7, .int .i64 ss.length), (8, .int .i64 k)]) (fun k => ss.length - k) 0 ⟨by omega, Chg.refl _ _, fun i u h => by omega⟩ (Sub.cons rfl (Sub.cons rfl (Sub.cons rfl (Sub.cons rfl (Sub.nil))))) ?_
 rintro k w1 ⟨hk, hx, hno⟩
 replace h := h.ext hx
 replace hA := hA.ext hx
 refine Sa ?_
 refine Cwc (fun h2 => ?_) fun h2 => ?_
 ·have h2 : k < ss.length := by simp at h2; omega
  obtain ⟨s, hs⟩ : ∃ s, ss[k]? = some s := ⟨_, List.getElem?_eq_getElem h2⟩
  obtain ⟨a, rp, rc, cp, cc, rfl, hr, hc, hcell⟩ := h.at hs
  have hcell' : ∀ j u, (shL s (.slice rp s.rows.to.length rc) (.slice cp s.cols.to.length cc))[j]? = some u → w1.cell? ((a.add (((k : Nat) : Int).toNat * 6)).add j) = some u := fun j u hj => by rw [show ((k : Nat) : Int).toNat = k by omega]; exact hcell j u hj
  refine Sa ?_
  refine Lo ?_
  refine LW.load_cells rfl hcell' rfl rfl rfl rfl ?_
  refine Sa ?_
  refine LW.call (fs := []) (cs := [.pointer (some ⟨A, 0, none⟩)]) rfl rfl rfl (shiftF_ret s _ _ _ _ _ _ A x w1 hA) ?_
  rintro v w2 ⟨rfl, hx2⟩
  refine Sa ?_
  refine Cwc (fun h3 => ?_) fun h3 => ?_
  ·have h3 : s.sheet = x := by simpa using h3
   refine Sa ?_
   exact QW.body1 Tryz.results115 rfl ⟨by rw [idxS_some hs h3 hno], hx.trans hx2⟩
  ·have h3 : s.sheet ≠ x := by simpa using h3
   refine Sa ?_
   refine QW.again (k + 1) ⟨by omega, hx.trans hx2, fun i u hi hu => ?_⟩ (Sub.cons rfl (Sub.cons rfl (Sub.cons rfl (Sub.cons rfl (Sub.nil))))) (by omega)
   rcases Nat.lt_or_ge i k with h4 | h4
   ·exact hno i u h4 hu
   ·obtain rfl : i = k := by omega
    rw [hs] at hu
    obtain rfl := Option.some.inj hu
    exact h3
 ·have h2 : k = ss.length := by simp at h2; omega
  subst h2
  refine Sa ?_
  refine QW.body1 Tryz.results115 rfl ⟨?_, hx⟩
  rw [idxS_none (fun i s hi hs => hno i s hi hs)]
def ShV (w : World) (o : Option ShD) (v : Value) : Prop := match o with
 | none => ∃ cs, v = .tuple #[.agg ⟨cs⟩, .bool false] ∧ cs = shL ⟨[], ⟨[], 0⟩, ⟨[], 0⟩, false⟩ (.slice none 0 0) (.slice none 0 0)
 | some s => ∃ rp rc cp cc, v = .tuple #[.agg ⟨shL s (.slice rp s.rows.to.length rc) (.slice cp s.cols.to.length cc)⟩, .bool true] ∧ IntsR w (.slice rp s.rows.to.length rc) s.rows.to ∧ IntsR w (.slice cp s.cols.to.length cc) s.cols.to
theorem shift_ret (own : List UInt8) (ss : List ShD) (sv : Value) (x : List UInt8) (w : World) (h : ShiftsR w sv ss) : Ret Tryz.prog 82 [.agg ⟨[str own, sv]⟩, str x] w (fun v w' => ShV w' (findS ss (if x = [] then own else x)) v ∧ Ext w w') := by
 obtain ⟨p, c, rfl⟩ := h.slice
 have hl := h.1
 refine Ret.enter Tryz.func82 rfl Tryz.ntmps82 (by kernel_rfl) rfl ?_
 refine Sa ?_
 refine Lwb fun M w1 hbM hx1 hM => ?_
 replace hM : Blk w1 M [str own, .slice p ss.length c] 95 := hM
 have hz1 := hx1.size
 have hMlt := hM.lt
 refine Sa ?_
 refine Lwb fun A w2 hbA hx2 hA => ?_
 replace hA : Blk w2 A [str x] 9 := hA
 have hAlt := hA.lt
 replace hM := hM.ext hx2
 have hz2 := hx2.size
 refine Sa ?_
 refine Lwa fun R w3 hbR hx3 hR => ?_
 replace hM := hM.ext hx3
 replace hA := hA.ext hx3
 have hz3 := hx3.size
 have hx3' := (hx1.trans hx2).trans hx3
 have hRlt := hR.lt
 refine Sa ?_
 refine Cwc (fun b1 => ?_) fun b1 => ?_
 ·have b1 : x = [] := by simpa using b1
  refine Sa ?_
  refine Lwt fun w4 hc4 hA => ?_
  replace hA : Blk w4 A [str own] 9 := hA
  replace hM := hM.chg hc4 (by simp; omega)
  replace hR := hR.chg hc4 (by simp; omega)
  have hx4 : Ext w w4 := hx3'.step hc4 (by simp; omega)
  rw [if_pos b1]
  have hR4 := h.ext hx4
  refine Sa ?_
  refine LW.call0 rfl rfl (idxShift_ret ss _ A _ _ hR4 hA) ?_
  rintro v w5 ⟨rfl, hx5⟩
  replace hM := hM.ext hx5
  replace hR := hR.ext hx5
  have hx5' := hx4.trans hx5
  rw [idxS_find]
  refine Sa ?_
  cases hi : idxS ss _ with
  | none =>
   refine Sa ?_
   refine Lws fun w6 hc6 hR => ?_
   refine Sa ?_
   exact QW.body_ct Tryz.results82 rfl hR rfl rfl rfl rfl ⟨⟨_, rfl, rfl⟩, hx5'.step hc6 (by simp; omega)⟩
  | some i =>
   have hil : i < ss.length := by
    unfold idxS at hi
    exact (List.findIdx?_eq_some_iff_getElem.1 hi).1
   obtain ⟨s, hs⟩ : ∃ s, ss[i]? = some s := ⟨_, List.getElem?_eq_getElem hil⟩
   obtain ⟨a, rp, rc, cp, cc, rfl, hr, hc, hcell⟩ := h.at hs
   have hcell' : ∀ j u, (shL s (.slice rp s.rows.to.length rc) (.slice cp s.cols.to.length cc))[j]? = some u → w5.cell? ((a.add (((i : Nat) : Int).toNat * 6)).add j) = some u := fun j u hj => by rw [show ((i : Nat) : Int).toNat = i by omega]; exact cell_ext hx5' (hcell j u hj)
   simp only [Option.bind_some, hs]
   refine Sa ?_
   refine LW.know (t := 16) (c := false) rfl (decide_eq_false (by omega)) ?_
   refine Sa ?_
   refine Lo ?_
   refine LW.load_cells rfl hcell' rfl rfl rfl rfl ?_
   refine Sa ?_
   refine Lws fun w6 hc6 hR => ?_
   have hx6 := hx5'.step hc6 (by simp; omega)
   refine Sa ?_
   exact QW.body_ct Tryz.results82 rfl hR rfl rfl rfl rfl ⟨⟨rp, rc, cp, cc, rfl, hr.ext hx6, hc.ext hx6⟩, hx6⟩
 ·have b1 : ¬ x = [] := by simpa using b1
  have hx4 := hx3'
  rw [if_neg b1]
  have hR4 := h.ext hx4
  refine Sa ?_
  refine LW.call0 rfl rfl (idxShift_ret ss _ A _ _ hR4 hA) ?_
  rintro v w5 ⟨rfl, hx5⟩
  replace hM := hM.ext hx5
  replace hR := hR.ext hx5
  have hx5' := hx4.trans hx5
  rw [idxS_find]
  refine Sa ?_
  cases hi : idxS ss _ with
  | none =>
   refine Sa ?_
   refine Lws fun w6 hc6 hR => ?_
   refine Sa ?_
   exact QW.body_ct Tryz.results82 rfl hR rfl rfl rfl rfl ⟨⟨_, rfl, rfl⟩, hx5'.step hc6 (by simp; omega)⟩
  | some i =>
   have hil : i < ss.length := by
    unfold idxS at hi
    exact (List.findIdx?_eq_some_iff_getElem.1 hi).1
   obtain ⟨s, hs⟩ : ∃ s, ss[i]? = some s := ⟨_, List.getElem?_eq_getElem hil⟩
   obtain ⟨a, rp, rc, cp, cc, rfl, hr, hc, hcell⟩ := h.at hs
   have hcell' : ∀ j u, (shL s (.slice rp s.rows.to.length rc) (.slice cp s.cols.to.length cc))[j]? = some u → w5.cell? ((a.add (((i : Nat) : Int).toNat * 6)).add j) = some u := fun j u hj => by rw [show ((i : Nat) : Int).toNat = i by omega]; exact cell_ext hx5' (hcell j u hj)
   simp only [Option.bind_some, hs]
   refine Sa ?_
   refine LW.know (t := 16) (c := false) rfl (decide_eq_false (by omega)) ?_
   refine Sa ?_
   refine Lo ?_
   refine LW.load_cells rfl hcell' rfl rfl rfl rfl ?_
   refine Sa ?_
   refine Lws fun w6 hc6 hR => ?_
   have hx6 := hx5'.step hc6 (by simp; omega)
   refine Sa ?_
   exact QW.body_ct Tryz.results82 rfl hR rfl rfl rfl rfl ⟨⟨rp, rc, cp, cc, rfl, hr.ext hx6, hc.ext hx6⟩, hx6⟩
end Go.Proofs.YtiaigmahdjhcoaaGreatDoor
namespace Go.Proofs.YtiaigmahdjhcoaaGreatDoor
open Go Go.E
def MvV (n m : NodeD) (kv v : Value) : Prop := ∃ kv', v = .agg ⟨nvL ⟨m, kv'⟩⟩ ∧ (kv' = kv ∧ m.kids = n.kids ∨ kv' = .slice none 0 0 ∧ m.kids = [])
theorem not56 {go : ShD → NodeD → NodeD} {own : List UInt8} {ss : List ShD} {n : NodeD} (h5 : n.kind ≠ 5) (h6 : n.kind ≠ 6) : moveBy go own ss n = n := by rw [moveBy, if_pos ⟨h5, h6⟩]
theorem is56 {go : ShD → NodeD → NodeD} {own : List UInt8} {ss : List ShD} {n : NodeD} (h : n.kind = 5 ∨ n.kind = 6) : moveBy go own ss n = match findS ss (ownN own n) with | none => n | some s => go s n := by
 unfold moveBy
 rw [if_neg (by omega)]
 cases findS ss (ownN own n) <;> rfl
theorem rows_small {n : NodeD} (hp : plainB n = true) (h : n.kind = 5 ∨ n.kind = 6) : n.ref.row ≤ 998 ∧ n.ref.col ≤ 701 ∧ (lastN n).row ≤ 998 ∧ (lastN n).col ≤ 701 := by
 rcases h with h | h
 ·obtain ⟨h1, _⟩ := ref_plain hp h
  obtain ⟨b1, b2, b3, b4, _⟩ := mayB_parts h1
  rw [lastN, if_pos h]
  exact ⟨b4, b2, b4, b2⟩
 ·obtain ⟨h1, h2, _⟩ := range_plain hp h
  obtain ⟨b1, b2, b3, b4, _⟩ := mayB_parts h1
  obtain ⟨c1, c2, c3, c4, _⟩ := mayB_parts h2
  rw [lastN, if_neg (by omega)]
  exact ⟨b4, b2, c4, c2⟩
set_option maxHeartbeats 2000000 in
theorem node_ret (own : List UInt8) (ss : List ShD) (sv : Value) (n : NodeD) (kp : Option Addr) (kl kc : Nat) (w : World) (h : ShiftsR w sv ss) (hss : ∀ s ∈ ss, s.Fine) (hp : plainB n = true) : Ret Tryz.prog 62 [.agg ⟨[str own, sv]⟩, .agg ⟨nvL ⟨n, .slice kp kl kc⟩⟩] w (fun v w' => MvV n (moveBy goN own ss n) (.slice kp kl kc) v ∧ Ext w w') := by
 obtain ⟨p, c, rfl⟩ := h.slice
 have hl := h.1
 refine Ret.enter Tryz.func62 rfl Tryz.ntmps62 (by kernel_rfl) rfl ?_
 refine Sa ?_
 refine Lwb fun M w1 hbM hx1 hM => ?_
 replace hM : Blk w1 M [str own, .slice p ss.length c] 95 := hM
 have hz1 := hx1.size
 refine Sa ?_
 refine Lwb fun N w2 hbN hx2 hN => ?_
 replace hN : Blk w2 N (nvL ⟨n, .slice kp kl kc⟩) 57 := hN
 have hNlt := hN.lt
 replace hM := hM.ext hx2
 have hz2 := hx2.size
 refine Sa ?_
 refine Lwa fun R w3 hbR hx3 hR => ?_
 replace hM := hM.ext hx3
 replace hN := hN.ext hx3
 have hz3 := hx3.size
 have hx3' := (hx1.trans hx2).trans hx3
 have hRlt := hR.lt
 refine Sa ?_
 by_cases h5 : n.kind = 5
 rotate_left
 ·refine LW.know (t := 17) (c := true) rfl (by simp [h5]) ?_
  refine Sa ?_
  refine Cwc (fun h6 => ?_) fun h6 => ?_
  ·have h6 : n.kind ≠ 6 := by simpa using h6
   rw [not56 h5 h6]
   refine Sa ?_
   refine Lws fun w4 hc4 hR => ?_
   replace hR : Blk w4 R (nvL ⟨n, .slice kp kl kc⟩) 57 := hR
   refine Sa ?_
   exact QW.body_c Tryz.results62 rfl hR rfl rfl rfl ⟨⟨_, rfl, .inl ⟨rfl, rfl⟩⟩, hx3'.step hc4 (by simp; omega)⟩
  have h6 : n.kind = 6 := by simpa using h6
  have hk : n.kind = 5 ∨ n.kind = 6 := .inr h6
  rw [is56 hk]
  obtain ⟨s1, s2, s3, s4⟩ := rows_small hp hk
  refine Sa ?_
  refine LW.call0 rfl rfl (shift_ret own ss _ n.ref.sheet w3 (h.ext hx3')) ?_
  rintro v w4 ⟨hv, hx4⟩
  replace hN := hN.ext hx4
  replace hR := hR.ext hx4
  have hz4 := hx4.size
  have hx4' := hx3'.trans hx4
  have hnn : (if n.ref.sheet = [] then own else n.ref.sheet) = ownN own n := rfl
  rw [hnn] at hv
  cases hf : findS ss (ownN own n) with
  | none =>
   rw [hf] at hv
   obtain ⟨cs, rfl, rfl⟩ := hv
   refine Sa ?_
   refine Lwa fun S w5 hbS hx5 hS => ?_
   replace hN := hN.ext hx5
   replace hR := hR.ext hx5
   have hz5 := hx5.size
   have hx5' := hx4'.trans hx5
   refine Sa ?_
   refine Lws fun w6 hc6 hS => ?_
   replace hN := hN.chg hc6 (by simp; omega)
   replace hR := hR.chg hc6 (by simp; omega)
   have hx6' := hx5'.step hc6 (by simp; omega)
   refine Sa ?_
   refine Lws fun w7 hc7 hR => ?_
   replace hR : Blk w7 R (nvL ⟨n, .slice kp kl kc⟩) 57 := hR
   refine Sa ?_
   exact QW.body_c Tryz.results62 rfl hR rfl rfl rfl ⟨⟨_, rfl, .inl ⟨rfl, rfl⟩⟩, hx6'.step hc7 (by simp; omega)⟩
  | some s =>
   rw [hf] at hv
   obtain ⟨rp, rc, cp, cc, rfl, hr, hc⟩ := hv
   have hsf := hss s (findS_mem hf).1
   refine Sa ?_
   refine Lwa fun S w5 hbS hx5 hS => ?_
   replace hN := hN.ext hx5
   replace hR := hR.ext hx5
   have hz5 := hx5.size
   have hx5' := hx4'.trans hx5
   refine Sa ?_
   refine Lws fun w6 hc6 hS => ?_
   replace hS : Blk w6 S (shL s (.slice rp s.rows.to.length rc) (.slice cp s.cols.to.length cc)) 71 := hS
   replace hN := hN.chg hc6 (by simp; omega)
   replace hR := hR.chg hc6 (by simp; omega)
   have hx46 : Ext w4 w6 := hx5.step hc6 (by simp; omega)
   replace hr := hr.ext hx46
   replace hc := hc.ext hx46
   have hx6' := hx4'.trans hx46
   have hz6 := hx6'.size
   have hSlt := hS.lt
   refine Sa ?_
   cases hg : s.gone with
   | true =>
    have eg : goN s n = deadN := by rw [goN, if_pos hg]
    simp only [eg]
    have hxx := hx6'
    refine Sa ?_
    refine Lws fun w9 hc9 hR => ?_
    replace hR : Blk w9 R (nvL ⟨deadN, .slice none 0 0⟩) 57 := hR
    refine Sa ?_
    exact QW.body_c Tryz.results62 rfl hR rfl rfl rfl ⟨⟨_, rfl, .inr ⟨rfl, rfl⟩⟩, hxx.step hc9 (by simp; omega)⟩
   | false =>
    have eg : goN s n = if goneN s n then deadN else wentN s n := by rw [goN, if_neg (by rw [hg]; simp)]
    simp only [eg]
    refine Sa ?_
    refine LW.load_agg (cs := refL n.to) rfl hN rfl rfl rfl ⟨rfl, rfl, rfl, rfl, rfl, trivial⟩ rfl ?_
    refine Sa ?_
    refine Lwa fun L w7 hbL hx7 hL => ?_
    replace hN := hN.ext hx7
    replace hR := hR.ext hx7
    replace hS := hS.ext hx7
    have hx7' := hx6'.trans hx7
    have hz7 := hx7'.size
    refine Sa ?_
    refine Lws fun w8 hc8 hL => ?_
    replace hL : Blk w8 L [str n.to.sheet, .int .i64 n.to.col, .int .i64 n.to.row, .bool n.to.ac, .bool n.to.ar] 54 := hL
    have hx68 : Ext w6 w8 := hx7.step hc8 (by simp; omega)
    have hx8' := hx6'.trans hx68
    replace hN := hN.chg hc8 (by simp; omega)
    replace hR := hR.chg hc8 (by simp; omega)
    replace hS := hS.chg hc8 (by simp; omega)
    have hz8 := hx8'.size
    have hLlt := hL.lt
    rcases hP : spanP s.rows n.ref.row (lastN n).row with ⟨x1, x2, x3⟩
    rcases hQ : spanP s.cols n.ref.col (lastN n).col with ⟨y1, y2, y3⟩
    have hgn : goneN s n ↔ (x3 = false ∨ y3 = false ∨ 998 < x2 ∨ 701 < y2) := by unfold goneN; rw [hP, hQ]
    have hwn : wentN s n = { n with ref := { n.ref with row := x1, col := y1 }, to := if n.kind = 6 then { n.to with row := x2, col := y2 } else n.to } := by unfold wentN; rw [hP, hQ]
    refine Sa ?_
    by_cases k5 : n.kind = 5
    ·have el : lastN n = n.ref := by rw [lastN, if_pos k5]
     refine CW.yes rfl (decide_eq_true k5) ?_
     refine Sa ?_
     refine LW.load_agg (cs := refL n.ref) rfl hN rfl rfl rfl ⟨rfl, rfl, rfl, rfl, rfl, trivial⟩ rfl ?_
     refine Sa ?_
     refine Lws fun w9 hc9 hL => ?_
     replace hL : Blk w9 L [str n.ref.sheet, .int .i64 n.ref.col, .int .i64 n.ref.row, .bool n.ref.ac, .bool n.ref.ar] 54 := hL
     rw [← el] at hL
     have hx69 : Ext w6 w9 := hx68.step hc9 (by simp; omega)
     have hx9' := hx6'.trans hx69
     replace hN := hN.chg hc9 (by simp; omega)
     replace hR := hR.chg hc9 (by simp; omega)
     replace hS := hS.chg hc9 (by simp; omega)
     have k6 : ¬ n.kind = 6 := by omega
     rw [if_neg k6] at hwn
     refine Sa ?_
     refine LW.load_agg (cs := [.slice rp s.rows.to.length rc, .int .i64 s.rows.new]) rfl hS rfl rfl rfl ⟨rfl, rfl, trivial⟩ rfl ?_
     refine Sa ?_
     have hsp1 := Span_ret s.rows hsf.1 _ n.ref.row (lastN n).row (by omega) (by omega) _ ⟨_, rfl, hr.ext hx69⟩
     rw [hP] at hsp1
     refine LW.call0 rfl rfl hsp1 ?_
     rintro v w10 ⟨rfl, hx10⟩
     replace hN := hN.ext hx10
     replace hR := hR.ext hx10
     replace hS := hS.ext hx10
     replace hL := hL.ext hx10
     have hx610 := hx69.trans hx10
     refine Sa ?_
     refine LW.load_agg (cs := [.slice cp s.cols.to.length cc, .int .i64 s.cols.new]) rfl hS rfl rfl rfl ⟨rfl, rfl, trivial⟩ rfl ?_
     refine Sa ?_
     have hsp2 := Span_ret s.cols hsf.2 _ n.ref.col (lastN n).col (by omega) (by omega) _ ⟨_, rfl, hc.ext hx610⟩
     rw [hQ] at hsp2
     refine LW.call0 rfl rfl hsp2 ?_
     rintro v w11 ⟨rfl, hx11⟩
     replace hN := hN.ext hx11
     replace hR := hR.ext hx11
     have hxx := hx6'.trans (hx610.trans hx11)
     have hz11 := hxx.size
     cases x3 with
     | false =>
      rw [if_pos (hgn.2 (.inl rfl))]
      refine Sa ?_
      refine Lws fun w9 hc9 hR => ?_
      replace hR : Blk w9 R (nvL ⟨deadN, .slice none 0 0⟩) 57 := hR
      refine Sa ?_
      exact QW.body_c Tryz.results62 rfl hR rfl rfl rfl ⟨⟨_, rfl, .inr ⟨rfl, rfl⟩⟩, hxx.step hc9 (by simp; omega)⟩
     | true =>
     cases y3 with
     | false =>
      rw [if_pos (hgn.2 (.inr (.inl rfl)))]
      refine Sa ?_
      refine Lws fun w9 hc9 hR => ?_
      replace hR : Blk w9 R (nvL ⟨deadN, .slice none 0 0⟩) 57 := hR
      refine Sa ?_
      exact QW.body_c Tryz.results62 rfl hR rfl rfl rfl ⟨⟨_, rfl, .inr ⟨rfl, rfl⟩⟩, hxx.step hc9 (by simp; omega)⟩
     | true =>
     refine Sa ?_
     by_cases m1 : 998 < x2
     ·rw [if_pos (hgn.2 (.inr (.inr (.inl m1))))]
      refine LW.know (t := 80) (c := true) rfl (decide_eq_true m1) ?_
      refine Sa ?_
      refine Lws fun w9 hc9 hR => ?_
      replace hR : Blk w9 R (nvL ⟨deadN, .slice none 0 0⟩) 57 := hR
      refine Sa ?_
      exact QW.body_c Tryz.results62 rfl hR rfl rfl rfl ⟨⟨_, rfl, .inr ⟨rfl, rfl⟩⟩, hxx.step hc9 (by simp; omega)⟩
     refine LW.know (t := 80) (c := false) rfl (decide_eq_false m1) ?_
     refine Sa ?_
     refine Cwc (fun m2 => ?_) fun m2 => ?_
     ·have m2 : 701 < y2 := by simpa using m2
      rw [if_pos (hgn.2 (.inr (.inr (.inr m2))))]
      refine Sa ?_
      refine Lws fun w9 hc9 hR => ?_
      replace hR : Blk w9 R (nvL ⟨deadN, .slice none 0 0⟩) 57 := hR
      refine Sa ?_
      exact QW.body_c Tryz.results62 rfl hR rfl rfl rfl ⟨⟨_, rfl, .inr ⟨rfl, rfl⟩⟩, hxx.step hc9 (by simp; omega)⟩
     have m2 : ¬ 701 < y2 := by simpa using m2
     rw [if_neg (by rw [hgn]; simp; omega), hwn]
     refine Sa ?_
     refine Lwt fun w12 hc12 hN => ?_
     refine Sa ?_
     refine Lwt fun w13 hc13 hN => ?_
     have hx13' := (hxx.step hc12 (by simp; omega)).step hc13 (by simp; omega)
     replace hR := (hR.chg hc12 (by simp; omega)).chg hc13 (by simp; omega)
     refine Sa ?_
     refine CW.no rfl (decide_eq_false k6) ?_
     refine Sa ?_
     refine Lws fun w16 hc16 hR => ?_
     refine Sa ?_
     exact QW.body_c Tryz.results62 rfl hR rfl rfl rfl ⟨⟨_, rfl, .inl ⟨rfl, rfl⟩⟩, hx13'.step hc16 (by simp; omega)⟩
    ·have k6 : n.kind = 6 := by omega
     have el : lastN n = n.to := by rw [lastN, if_neg k5]
     refine CW.no rfl (decide_eq_false k5) ?_
     rw [← el] at hL
     have hx69 := hx68
     have hx9' := hx8'
     rw [if_pos k6] at hwn
     refine Sa ?_
     refine LW.load_agg (cs := [.slice rp s.rows.to.length rc, .int .i64 s.rows.new]) rfl hS rfl rfl rfl ⟨rfl, rfl, trivial⟩ rfl ?_
     refine Sa ?_
     have hsp1 := Span_ret s.rows hsf.1 _ n.ref.row (lastN n).row (by omega) (by omega) _ ⟨_, rfl, hr.ext hx69⟩
     rw [hP] at hsp1
     refine LW.call0 rfl rfl hsp1 ?_
     rintro v w10 ⟨rfl, hx10⟩
     replace hN := hN.ext hx10
     replace hR := hR.ext hx10
     replace hS := hS.ext hx10
     replace hL := hL.ext hx10
     have hx610 := hx69.trans hx10
     refine Sa ?_
     refine LW.load_agg (cs := [.slice cp s.cols.to.length cc, .int .i64 s.cols.new]) rfl hS rfl rfl rfl ⟨rfl, rfl, trivial⟩ rfl ?_
     refine Sa ?_
     have hsp2 := Span_ret s.cols hsf.2 _ n.ref.col (lastN n).col (by omega) (by omega) _ ⟨_, rfl, hc.ext hx610⟩
     rw [hQ] at hsp2
     refine LW.call0 rfl rfl hsp2 ?_
     rintro v w11 ⟨rfl, hx11⟩
     replace hN := hN.ext hx11
     replace hR := hR.ext hx11
     have hxx := hx6'.trans (hx610.trans hx11)
     have hz11 := hxx.size
     cases x3 with
     | false =>
      rw [if_pos (hgn.2 (.inl rfl))]
      refine Sa ?_
      refine Lws fun w9 hc9 hR => ?_
      replace hR : Blk w9 R (nvL ⟨deadN, .slice none 0 0⟩) 57 := hR
      refine Sa ?_
      exact QW.body_c Tryz.results62 rfl hR rfl rfl rfl ⟨⟨_, rfl, .inr ⟨rfl, rfl⟩⟩, hxx.step hc9 (by simp; omega)⟩
     | true =>
     cases y3 with
     | false =>
      rw [if_pos (hgn.2 (.inr (.inl rfl)))]
      refine Sa ?_
      refine Lws fun w9 hc9 hR => ?_
      replace hR : Blk w9 R (nvL ⟨deadN, .slice none 0 0⟩) 57 := hR
      refine Sa ?_
      exact QW.body_c Tryz.results62 rfl hR rfl rfl rfl ⟨⟨_, rfl, .inr ⟨rfl, rfl⟩⟩, hxx.step hc9 (by simp; omega)⟩
     | true =>
     refine Sa ?_
     by_cases m1 : 998 < x2
     ·rw [if_pos (hgn.2 (.inr (.inr (.inl m1))))]
      refine LW.know (t := 80) (c := true) rfl (decide_eq_true m1) ?_
      refine Sa ?_
      refine Lws fun w9 hc9 hR => ?_
      replace hR : Blk w9 R (nvL ⟨deadN, .slice none 0 0⟩) 57 := hR
      refine Sa ?_
      exact QW.body_c Tryz.results62 rfl hR rfl rfl rfl ⟨⟨_, rfl, .inr ⟨rfl, rfl⟩⟩, hxx.step hc9 (by simp; omega)⟩
     refine LW.know (t := 80) (c := false) rfl (decide_eq_false m1) ?_
     refine Sa ?_
     refine Cwc (fun m2 => ?_) fun m2 => ?_
     ·have m2 : 701 < y2 := by simpa using m2
      rw [if_pos (hgn.2 (.inr (.inr (.inr m2))))]
      refine Sa ?_
      refine Lws fun w9 hc9 hR => ?_
      replace hR : Blk w9 R (nvL ⟨deadN, .slice none 0 0⟩) 57 := hR
      refine Sa ?_
      exact QW.body_c Tryz.results62 rfl hR rfl rfl rfl ⟨⟨_, rfl, .inr ⟨rfl, rfl⟩⟩, hxx.step hc9 (by simp; omega)⟩
     have m2 : ¬ 701 < y2 := by simpa using m2
     rw [if_neg (by rw [hgn]; simp; omega), hwn]
     refine Sa ?_
     refine Lwt fun w12 hc12 hN => ?_
     refine Sa ?_
     refine Lwt fun w13 hc13 hN => ?_
     have hx13' := (hxx.step hc12 (by simp; omega)).step hc13 (by simp; omega)
     replace hR := (hR.chg hc12 (by simp; omega)).chg hc13 (by simp; omega)
     refine Sa ?_
     refine CW.yes rfl (decide_eq_true k6) ?_
     refine Sa ?_
     refine Lwt fun w14 hc14 hN => ?_
     refine Sa ?_
     refine Lwt fun w15 hc15 hN => ?_
     have hx13' := (hx13'.step hc14 (by simp; omega)).step hc15 (by simp; omega)
     replace hR := (hR.chg hc14 (by simp; omega)).chg hc15 (by simp; omega)
     refine Sa ?_
     refine Lws fun w16 hc16 hR => ?_
     refine Sa ?_
     exact QW.body_c Tryz.results62 rfl hR rfl rfl rfl ⟨⟨_, rfl, .inl ⟨rfl, rfl⟩⟩, hx13'.step hc16 (by simp; omega)⟩
 refine LW.know (t := 17) (c := false) rfl (by simp [h5]) ?_
 have hk : n.kind = 5 ∨ n.kind = 6 := .inl h5
 rw [is56 hk]
 obtain ⟨s1, s2, s3, s4⟩ := rows_small hp hk
 refine Sa ?_
 refine LW.call0 rfl rfl (shift_ret own ss _ n.ref.sheet w3 (h.ext hx3')) ?_
 rintro v w4 ⟨hv, hx4⟩
 replace hN := hN.ext hx4
 replace hR := hR.ext hx4
 have hz4 := hx4.size
 have hx4' := hx3'.trans hx4
 have hnn : (if n.ref.sheet = [] then own else n.ref.sheet) = ownN own n := rfl
 rw [hnn] at hv
 cases hf : findS ss (ownN own n) with
 | none =>
  rw [hf] at hv
  obtain ⟨cs, rfl, rfl⟩ := hv
  refine Sa ?_
  refine Lwa fun S w5 hbS hx5 hS => ?_
  replace hN := hN.ext hx5
  replace hR := hR.ext hx5
  have hz5 := hx5.size
  have hx5' := hx4'.trans hx5
  refine Sa ?_
  refine Lws fun w6 hc6 hS => ?_
  replace hN := hN.chg hc6 (by simp; omega)
  replace hR := hR.chg hc6 (by simp; omega)
  have hx6' := hx5'.step hc6 (by simp; omega)
  refine Sa ?_
  refine Lws fun w7 hc7 hR => ?_
  replace hR : Blk w7 R (nvL ⟨n, .slice kp kl kc⟩) 57 := hR
  refine Sa ?_
  exact QW.body_c Tryz.results62 rfl hR rfl rfl rfl ⟨⟨_, rfl, .inl ⟨rfl, rfl⟩⟩, hx6'.step hc7 (by simp; omega)⟩
 | some s =>
  rw [hf] at hv
  obtain ⟨rp, rc, cp, cc, rfl, hr, hc⟩ := hv
  have hsf := hss s (findS_mem hf).1
  refine Sa ?_
  refine Lwa fun S w5 hbS hx5 hS => ?_
  replace hN := hN.ext hx5
  replace hR := hR.ext hx5
  have hz5 := hx5.size
  have hx5' := hx4'.trans hx5
  refine Sa ?_
  refine Lws fun w6 hc6 hS => ?_
  replace hS : Blk w6 S (shL s (.slice rp s.rows.to.length rc) (.slice cp s.cols.to.length cc)) 71 := hS
  replace hN := hN.chg hc6 (by simp; omega)
  replace hR := hR.chg hc6 (by simp; omega)
  have hx46 : Ext w4 w6 := hx5.step hc6 (by simp; omega)
  replace hr := hr.ext hx46
  replace hc := hc.ext hx46
  have hx6' := hx4'.trans hx46
  have hz6 := hx6'.size
  have hSlt := hS.lt
  refine Sa ?_
  cases hg : s.gone with
  | true =>
   have eg : goN s n = deadN := by rw [goN, if_pos hg]
   simp only [eg]
   have hxx := hx6'
   refine Sa ?_
   refine Lws fun w9 hc9 hR => ?_
   replace hR : Blk w9 R (nvL ⟨deadN, .slice none 0 0⟩) 57 := hR
   refine Sa ?_
   exact QW.body_c Tryz.results62 rfl hR rfl rfl rfl ⟨⟨_, rfl, .inr ⟨rfl, rfl⟩⟩, hxx.step hc9 (by simp; omega)⟩
  | false =>
   have eg : goN s n = if goneN s n then deadN else wentN s n := by rw [goN, if_neg (by rw [hg]; simp)]
   simp only [eg]
   refine Sa ?_
   refine LW.load_agg (cs := refL n.to) rfl hN rfl rfl rfl ⟨rfl, rfl, rfl, rfl, rfl, trivial⟩ rfl ?_
   refine Sa ?_
   refine Lwa fun L w7 hbL hx7 hL => ?_
   replace hN := hN.ext hx7
   replace hR := hR.ext hx7
   replace hS := hS.ext hx7
   have hx7' := hx6'.trans hx7
   have hz7 := hx7'.size
   refine Sa ?_
   refine Lws fun w8 hc8 hL => ?_
   replace hL : Blk w8 L [str n.to.sheet, .int .i64 n.to.col, .int .i64 n.to.row, .bool n.to.ac, .bool n.to.ar] 54 := hL
   have hx68 : Ext w6 w8 := hx7.step hc8 (by simp; omega)
   have hx8' := hx6'.trans hx68
   replace hN := hN.chg hc8 (by simp; omega)
   replace hR := hR.chg hc8 (by simp; omega)
   replace hS := hS.chg hc8 (by simp; omega)
   have hz8 := hx8'.size
   have hLlt := hL.lt
   rcases hP : spanP s.rows n.ref.row (lastN n).row with ⟨x1, x2, x3⟩
   rcases hQ : spanP s.cols n.ref.col (lastN n).col with ⟨y1, y2, y3⟩
   have hgn : goneN s n ↔ (x3 = false ∨ y3 = false ∨ 998 < x2 ∨ 701 < y2) := by unfold goneN; rw [hP, hQ]
   have hwn : wentN s n = { n with ref := { n.ref with row := x1, col := y1 }, to := if n.kind = 6 then { n.to with row := x2, col := y2 } else n.to } := by unfold wentN; rw [hP, hQ]
   refine Sa ?_
   by_cases k5 : n.kind = 5
   ·have el : lastN n = n.ref := by rw [lastN, if_pos k5]
    refine CW.yes rfl (decide_eq_true k5) ?_
    refine Sa ?_
    refine LW.load_agg (cs := refL n.ref) rfl hN rfl rfl rfl ⟨rfl, rfl, rfl, rfl, rfl, trivial⟩ rfl ?_
    refine Sa ?_
    refine Lws fun w9 hc9 hL => ?_
    replace hL : Blk w9 L [str n.ref.sheet, .int .i64 n.ref.col, .int .i64 n.ref.row, .bool n.ref.ac, .bool n.ref.ar] 54 := hL
    rw [← el] at hL
    have hx69 : Ext w6 w9 := hx68.step hc9 (by simp; omega)
    have hx9' := hx6'.trans hx69
    replace hN := hN.chg hc9 (by simp; omega)
    replace hR := hR.chg hc9 (by simp; omega)
    replace hS := hS.chg hc9 (by simp; omega)
    have k6 : ¬ n.kind = 6 := by omega
    rw [if_neg k6] at hwn
    refine Sa ?_
    refine LW.load_agg (cs := [.slice rp s.rows.to.length rc, .int .i64 s.rows.new]) rfl hS rfl rfl rfl ⟨rfl, rfl, trivial⟩ rfl ?_
    refine Sa ?_
    have hsp1 := Span_ret s.rows hsf.1 _ n.ref.row (lastN n).row (by omega) (by omega) _ ⟨_, rfl, hr.ext hx69⟩
    rw [hP] at hsp1
    refine LW.call0 rfl rfl hsp1 ?_
    rintro v w10 ⟨rfl, hx10⟩
    replace hN := hN.ext hx10
    replace hR := hR.ext hx10
    replace hS := hS.ext hx10
    replace hL := hL.ext hx10
    have hx610 := hx69.trans hx10
    refine Sa ?_
    refine LW.load_agg (cs := [.slice cp s.cols.to.length cc, .int .i64 s.cols.new]) rfl hS rfl rfl rfl ⟨rfl, rfl, trivial⟩ rfl ?_
    refine Sa ?_
    have hsp2 := Span_ret s.cols hsf.2 _ n.ref.col (lastN n).col (by omega) (by omega) _ ⟨_, rfl, hc.ext hx610⟩
    rw [hQ] at hsp2
    refine LW.call0 rfl rfl hsp2 ?_
    rintro v w11 ⟨rfl, hx11⟩
    replace hN := hN.ext hx11
    replace hR := hR.ext hx11
    have hxx := hx6'.trans (hx610.trans hx11)
    have hz11 := hxx.size
    cases x3 with
    | false =>
     rw [if_pos (hgn.2 (.inl rfl))]
     refine Sa ?_
     refine Lws fun w9 hc9 hR => ?_
     replace hR : Blk w9 R (nvL ⟨deadN, .slice none 0 0⟩) 57 := hR
     refine Sa ?_
     exact QW.body_c Tryz.results62 rfl hR rfl rfl rfl ⟨⟨_, rfl, .inr ⟨rfl, rfl⟩⟩, hxx.step hc9 (by simp; omega)⟩
    | true =>
    cases y3 with
    | false =>
     rw [if_pos (hgn.2 (.inr (.inl rfl)))]
     refine Sa ?_
     refine Lws fun w9 hc9 hR => ?_
     replace hR : Blk w9 R (nvL ⟨deadN, .slice none 0 0⟩) 57 := hR
     refine Sa ?_
     exact QW.body_c Tryz.results62 rfl hR rfl rfl rfl ⟨⟨_, rfl, .inr ⟨rfl, rfl⟩⟩, hxx.step hc9 (by simp; omega)⟩
    | true =>
    refine Sa ?_
    by_cases m1 : 998 < x2
    ·rw [if_pos (hgn.2 (.inr (.inr (.inl m1))))]
     refine LW.know (t := 80) (c := true) rfl (decide_eq_true m1) ?_
     refine Sa ?_
     refine Lws fun w9 hc9 hR => ?_
     replace hR : Blk w9 R (nvL ⟨deadN, .slice none 0 0⟩) 57 := hR
     refine Sa ?_
     exact QW.body_c Tryz.results62 rfl hR rfl rfl rfl ⟨⟨_, rfl, .inr ⟨rfl, rfl⟩⟩, hxx.step hc9 (by simp; omega)⟩
    refine LW.know (t := 80) (c := false) rfl (decide_eq_false m1) ?_
    refine Sa ?_
    refine Cwc (fun m2 => ?_) fun m2 => ?_
    ·have m2 : 701 < y2 := by simpa using m2
     rw [if_pos (hgn.2 (.inr (.inr (.inr m2))))]
     refine Sa ?_
     refine Lws fun w9 hc9 hR => ?_
     replace hR : Blk w9 R (nvL ⟨deadN, .slice none 0 0⟩) 57 := hR
     refine Sa ?_
     exact QW.body_c Tryz.results62 rfl hR rfl rfl rfl ⟨⟨_, rfl, .inr ⟨rfl, rfl⟩⟩, hxx.step hc9 (by simp; omega)⟩
    have m2 : ¬ 701 < y2 := by simpa using m2
    rw [if_neg (by rw [hgn]; simp; omega), hwn]
    refine Sa ?_
    refine Lwt fun w12 hc12 hN => ?_
    refine Sa ?_
    refine Lwt fun w13 hc13 hN => ?_
    have hx13' := (hxx.step hc12 (by simp; omega)).step hc13 (by simp; omega)
    replace hR := (hR.chg hc12 (by simp; omega)).chg hc13 (by simp; omega)
    refine Sa ?_
    refine CW.no rfl (decide_eq_false k6) ?_
    refine Sa ?_
    refine Lws fun w16 hc16 hR => ?_
    refine Sa ?_
    exact QW.body_c Tryz.results62 rfl hR rfl rfl rfl ⟨⟨_, rfl, .inl ⟨rfl, rfl⟩⟩, hx13'.step hc16 (by simp; omega)⟩
   ·have k6 : n.kind = 6 := by omega
    have el : lastN n = n.to := by rw [lastN, if_neg k5]
    refine CW.no rfl (decide_eq_false k5) ?_
    rw [← el] at hL
    have hx69 := hx68
    have hx9' := hx8'
    rw [if_pos k6] at hwn
    refine Sa ?_
    refine LW.load_agg (cs := [.slice rp s.rows.to.length rc, .int .i64 s.rows.new]) rfl hS rfl rfl rfl ⟨rfl, rfl, trivial⟩ rfl ?_
    refine Sa ?_
    have hsp1 := Span_ret s.rows hsf.1 _ n.ref.row (lastN n).row (by omega) (by omega) _ ⟨_, rfl, hr.ext hx69⟩
    rw [hP] at hsp1
    refine LW.call0 rfl rfl hsp1 ?_
    rintro v w10 ⟨rfl, hx10⟩
    replace hN := hN.ext hx10
    replace hR := hR.ext hx10
    replace hS := hS.ext hx10
    replace hL := hL.ext hx10
    have hx610 := hx69.trans hx10
    refine Sa ?_
    refine LW.load_agg (cs := [.slice cp s.cols.to.length cc, .int .i64 s.cols.new]) rfl hS rfl rfl rfl ⟨rfl, rfl, trivial⟩ rfl ?_
    refine Sa ?_
    have hsp2 := Span_ret s.cols hsf.2 _ n.ref.col (lastN n).col (by omega) (by omega) _ ⟨_, rfl, hc.ext hx610⟩
    rw [hQ] at hsp2
    refine LW.call0 rfl rfl hsp2 ?_
    rintro v w11 ⟨rfl, hx11⟩
    replace hN := hN.ext hx11
    replace hR := hR.ext hx11
    have hxx := hx6'.trans (hx610.trans hx11)
    have hz11 := hxx.size
    cases x3 with
    | false =>
     rw [if_pos (hgn.2 (.inl rfl))]
     refine Sa ?_
     refine Lws fun w9 hc9 hR => ?_
     replace hR : Blk w9 R (nvL ⟨deadN, .slice none 0 0⟩) 57 := hR
     refine Sa ?_
     exact QW.body_c Tryz.results62 rfl hR rfl rfl rfl ⟨⟨_, rfl, .inr ⟨rfl, rfl⟩⟩, hxx.step hc9 (by simp; omega)⟩
    | true =>
    cases y3 with
    | false =>
     rw [if_pos (hgn.2 (.inr (.inl rfl)))]
     refine Sa ?_
     refine Lws fun w9 hc9 hR => ?_
     replace hR : Blk w9 R (nvL ⟨deadN, .slice none 0 0⟩) 57 := hR
     refine Sa ?_
     exact QW.body_c Tryz.results62 rfl hR rfl rfl rfl ⟨⟨_, rfl, .inr ⟨rfl, rfl⟩⟩, hxx.step hc9 (by simp; omega)⟩
    | true =>
    refine Sa ?_
    by_cases m1 : 998 < x2
    ·rw [if_pos (hgn.2 (.inr (.inr (.inl m1))))]
     refine LW.know (t := 80) (c := true) rfl (decide_eq_true m1) ?_
     refine Sa ?_
     refine Lws fun w9 hc9 hR => ?_
     replace hR : Blk w9 R (nvL ⟨deadN, .slice none 0 0⟩) 57 := hR
     refine Sa ?_
     exact QW.body_c Tryz.results62 rfl hR rfl rfl rfl ⟨⟨_, rfl, .inr ⟨rfl, rfl⟩⟩, hxx.step hc9 (by simp; omega)⟩
    refine LW.know (t := 80) (c := false) rfl (decide_eq_false m1) ?_
    refine Sa ?_
    refine Cwc (fun m2 => ?_) fun m2 => ?_
    ·have m2 : 701 < y2 := by simpa using m2
     rw [if_pos (hgn.2 (.inr (.inr (.inr m2))))]
     refine Sa ?_
     refine Lws fun w9 hc9 hR => ?_
     replace hR : Blk w9 R (nvL ⟨deadN, .slice none 0 0⟩) 57 := hR
     refine Sa ?_
     exact QW.body_c Tryz.results62 rfl hR rfl rfl rfl ⟨⟨_, rfl, .inr ⟨rfl, rfl⟩⟩, hxx.step hc9 (by simp; omega)⟩
    have m2 : ¬ 701 < y2 := by simpa using m2
    rw [if_neg (by rw [hgn]; simp; omega), hwn]
    refine Sa ?_
    refine Lwt fun w12 hc12 hN => ?_
    refine Sa ?_
    refine Lwt fun w13 hc13 hN => ?_
    have hx13' := (hxx.step hc12 (by simp; omega)).step hc13 (by simp; omega)
    replace hR := (hR.chg hc12 (by simp; omega)).chg hc13 (by simp; omega)
    refine Sa ?_
    refine CW.yes rfl (decide_eq_true k6) ?_
    refine Sa ?_
    refine Lwt fun w14 hc14 hN => ?_
    refine Sa ?_
    refine Lwt fun w15 hc15 hN => ?_
    have hx13' := (hx13'.step hc14 (by simp; omega)).step hc15 (by simp; omega)
    replace hR := (hR.chg hc14 (by simp; omega)).chg hc15 (by simp; omega)
    refine Sa ?_
    refine Lws fun w16 hc16 hR => ?_
    refine Sa ?_
    exact QW.body_c Tryz.results62 rfl hR rfl rfl rfl ⟨⟨_, rfl, .inl ⟨rfl, rfl⟩⟩, hx13'.step hc16 (by simp; omega)⟩
end Go.Proofs.YtiaigmahdjhcoaaGreatDoor
namespace Go.Proofs.YtiaigmahdjhcoaaGreatDoor
open Go Go.E
theorem clone_ret (zs : List Int) (v : Value) (w : World) (h : IntsR w v zs) (hl : zs.length ≤ 100000) : Ret Tryz.prog 63 [v] w (fun v' w' => (∃ p c, v' = .slice p zs.length c) ∧ KidsOk w' v' zs ∧ (∀ b ∈ vblk v', w.heap.size ≤ b) ∧ Ext w w') := by
 refine Ret.enter Tryz.func63 rfl Tryz.ntmps63 (by kernel_rfl) rfl ?_
 obtain ⟨_, ⟨rfl, rfl⟩ | ⟨a, cap, rfl, hc⟩⟩ := h
 ·refine Sa ?_
  refine LW.eql_sn rfl rfl rfl rfl ?_
  refine Sa ?_
  exact QW.body1 Tryz.results63 rfl ⟨⟨_, _, rfl⟩, .inl ⟨rfl, rfl⟩, by simp [vblk], Chg.refl _ _⟩
 ·refine Sa ?_
  refine LW.eql_sn rfl rfl rfl rfl ?_
  refine Sa ?_
  (apply LW.buildSlice0; exact rfl; exact rfl; exact rfl; exact rfl; intro B w5 hbB hx5 hB)
  refine Sa ?_
  refine LW.append_any (lo := w.heap.size) (xs := []) (news := icells zs) rfl rfl rfl rfl rfl rfl (⟨rfl, .inr ⟨B, 0, [], rfl, hB, by simp, by simp, by omega⟩⟩) (by have := hx5.size; omega) (by rw [icells_len]; show _ = _ * 1; omega) (.inr ⟨a, rfl, fun j u hj => by
   simp only [icells, List.getElem?_map] at hj
   cases hg : zs[j]? with
   | none => rw [hg] at hj; cases hj
   | some y =>
    rw [hg] at hj
    obtain rfl := Option.some.inj hj
    exact cell_ext hx5 (hc j y hg)⟩) (fun u hu => by
   simp only [icells, List.mem_map] at hu
   obtain ⟨_, _, rfl⟩ := hu
   rfl) (by show (0 + _) * 9 ≤ _; omega) rfl ?_
  intro v' w6 hc6 hown' hv'
  obtain ⟨p', c', rfl⟩ := hown'.slice
  have hx6 : Ext w w6 := hx5.step hc6 (by simp [vblk]; omega)
  have hm : 0 + zs.length = zs.length := by omega
  rw [hm] at hown' hv' ⊢
  simp only [List.nil_append] at hown'
  refine Sa ?_
  refine QW.body1 Tryz.results63 rfl ⟨⟨_, _, rfl⟩, own_kids hown', fun b hb => ?_, hx6⟩
  rcases hv' b hb with h2 | h2
  ·simp [vblk] at h2; omega
  ·have := hx5.size; omega
set_option maxHeartbeats 1000000 in
theorem Nodes_new (l : List NodeD) (v : Value) (own : List UInt8) (ss : List ShD) (sv : Value) (w : World) (g : Glob w) (hN : NodesR w v l) (hs : ShortT l) (h : ShiftsR w sv ss) (hss : ∀ s ∈ ss, s.Fine) : Ret Tryz.prog 29 [v, str own, sv] w (fun v' w' => (NodesR w' v' (moveL goN own ss l) ∧ ∀ b ∈ vblk v', w.heap.size ≤ b) ∧ Ext w w') := by
 obtain ⟨p, c, rfl⟩ := hN.slice
 have hll := hN.1
 refine Ret.enter Tryz.func29 rfl Tryz.ntmps29 (by kernel_rfl) rfl ?_
 refine Sa ?_
 refine LW.call0 rfl rfl (Tree_any l _ w g hN hs) ?_
 rintro v w1 ⟨rfl, hx1⟩
 refine Sa ?_
 cases ht : treeB l with
 | false =>
  refine Sa ?_
  exact QW.body1 Tryz.results29 rfl ⟨⟨by rw [moveL, if_neg (by rw [ht]; simp)]; exact nodesR_nil _, by simp [vblk]⟩, hx1⟩
 | true =>
 have htp := tree_plain ht
 have hkk := treeB_kids ht
 obtain ⟨q, qc, rfl⟩ := h.slice
 refine Sa ?_
 refine CW.loop (ι := Nat × Option Addr × Nat) (fun x w' => x.1 ≤ l.length ∧ Ext w w' ∧ NP w w' ((l.take x.1).map (moveBy goN own ss)) (.slice x.2.1 x.1 x.2.2) (.slice none 0 0)) (fun x => [(7, .func (.func 62) ⟨[.agg ⟨[str own, .slice q ss.length qc]⟩]⟩ ⟨[]⟩), (8, .slice x.2.1 x.1 x.2.2), (18, .slice p l.length c), (19, .int .i64 l.length), (20, .int .i64 (x.1 : Int))]) (fun x => l.length - x.1) (0, none, 0) ⟨by simp, hx1, ⟨[], Own.nil _ _ _ _, rfl, by simp⟩⟩ (Sub.cons rfl (Sub.cons rfl (Sub.cons rfl (Sub.cons rfl (Sub.cons rfl (Sub.nil)))))) ?_
 rintro ⟨k, op, oc⟩ w2 ⟨hk, hx2, hP⟩
 dsimp only at hk hP
 show CW _ _ _ _ _ [(7, .func (.func 62) ⟨[.agg ⟨[str own, .slice q ss.length qc]⟩]⟩ ⟨[]⟩), (8, .slice op k oc), (18, .slice p l.length c), (19, .int .i64 l.length), (20, .int .i64 (k : Int))] _
 have hzw := hx2.size
 refine Sa ?_
 refine Cwc (fun h2 => ?_) fun h2 => ?_
 rotate_left
 ·have h2 : k = l.length := by simp at h2; omega
  subst h2
  obtain ⟨nvs, hon, hm, hk⟩ := hP
  rw [List.take_length] at hm
  have hnl : nvs.length = l.length := by rw [← List.length_map (f := NV.node), hm, List.length_map]
  have hNn : Nodes w2 w.heap.size (.slice op l.length oc) (l.map (moveBy goN own ss)) := ⟨nvs, hon, hm, fun x hx => (hk x hx).1⟩
  have hkb : ∀ n ∈ l.map (moveBy goN own ss), n.kids.length ≤ 100000 := fun n hn => by
   obtain ⟨m, h1, rfl⟩ := List.mem_map.1 hn
   have h3 := hkk m h1
   unfold moveBy
   split
   ·omega
   ·split
    ·omega
    ·unfold goN
     split
     ·simp [deadN]
     ·split
      ·simp [deadN]
      ·show m.kids.length ≤ _
       omega
  refine Sa ?_
  exact QW.body1 Tryz.results29 rfl ⟨⟨by rw [moveL, if_pos ht]; exact hNn.row (by rw [List.length_map]; exact hll) hkb, fun b hb => (hon.lt hb).1⟩, hx2⟩
 have h2 : k < l.length := by simp at h2; omega
 obtain ⟨nd, hnd⟩ : ∃ nd, l[k]? = some nd := ⟨_, List.getElem?_eq_getElem h2⟩
 have hmem := List.mem_of_getElem? hnd
 obtain ⟨a, kp, kc, rfl, hkid, hcell⟩ := hN.at hnd
 have hcell' : ∀ j u, (nvL ⟨nd, .slice kp nd.kids.length kc⟩)[j]? = some u → w2.cell? ((a.add (((k : Nat) : Int).toNat * 14)).add j) = some u := fun j u hj => by rw [show ((k : Nat) : Int).toNat = k by omega]; exact cell_ext hx2 (hcell j u hj)
 refine Sa ?_
 refine Lo ?_
 refine LW.load_cells rfl hcell' rfl rfl rfl rfl ?_
 refine Sa ?_
 refine Lwa fun X w3 hbX hx3 hX => ?_
 have hPlt : ∀ b ∈ vblk (Value.slice op k oc), b < w2.heap.size := fun b hb => by
  obtain ⟨nvs, ho, _⟩ := hP
  exact (ho.lt hb).2
 replace hP := hP.ext hx3
 have hx3' := hx2.trans hx3
 have hX0 := hX
 refine Sa ?_
 refine Lws fun w4 hc4 hX => ?_
 replace hX : Blk w4 X (nvL ⟨nd, .slice kp nd.kids.length kc⟩) 57 := hX
 replace hP := hP.chg hc4 (fun b hb => by have := hPlt b hb; simp; omega) (fun b hb => by
  simp only [List.mem_singleton] at hb
  subst hb
  exact .inr ⟨_, _, hX0, by decide⟩)
 have hx4' : Ext w w4 := hx3'.step hc4 (by simp; omega)
 refine Sa ?_
 refine LW.call0 rfl rfl (clone_ret nd.kids _ w4 (hkid.ext hx4') (by have := hkk nd hmem; omega)) ?_
 rintro v w5 ⟨⟨kp', kc', rfl⟩, hK, hKf, hx5⟩
 replace hP := hP.ext hx5
 replace hX := hX.ext hx5
 have hx5' := hx4'.trans hx5
 have hz4 := hx4'.size
 have hX1 := hX
 refine Sa ?_
 refine Lwt fun w6 hc6 hX => ?_
 replace hX : Blk w6 X (nvL ⟨nd, .slice kp' nd.kids.length kc'⟩) 57 := hX
 replace hP := hP.chg hc6 (fun b hb => by have := hPlt b hb; simp; omega) (fun b hb => by
  simp only [List.mem_singleton] at hb
  subst hb
  exact .inr ⟨_, _, hX1, by decide⟩)
 replace hK : KidsOk w6 (.slice kp' nd.kids.length kc') nd.kids := hK.chg (stv := .slice none 0 0) (by simp [vblk]) hc6 (fun b hb => by
  simp only [List.mem_singleton] at hb
  subst hb
  exact .inr ⟨_, _, hX1, by decide⟩)
 have hx6' : Ext w w6 := hx5'.step hc6 (by simp; omega)
 refine Sa ?_
 refine LW.call (fs := [.agg ⟨[str own, .slice q ss.length qc]⟩]) (cs := []) rfl rfl rfl (node_ret own ss _ nd kp' nd.kids.length kc' w6 (h.ext hx6') hss (htp nd hmem)) ?_
 rintro v w7 ⟨⟨kv, rfl, hkv⟩, hx7⟩
 replace hP := hP.ext hx7
 replace hK : KidsOk w7 (.slice kp' nd.kids.length kc') nd.kids := hK.chg (stv := .slice none 0 0) (by simp [vblk]) hx7 (by simp)
 have hx7' := hx6'.trans hx7
 have hK' : KidsOk w7 kv (moveBy goN own ss nd).kids := by
  rcases hkv with ⟨rfl, e⟩ | ⟨rfl, e⟩
  ·rw [e]; exact hK
  ·exact .inl ⟨rfl, e⟩
 clear hK hkv hX hX1 hX0 hc6 hc4
 refine Sa ?_
 refine Lwl fun C w10 hbC hx10 hC => ?_
 replace hC : Blk w10 C (nvL ⟨moveBy goN own ss nd, kv⟩) 57 := hC
 have hx10' := hx7'.trans hx10
 have hz10 := hx10'.size
 have hnv : (nvL ⟨moveBy goN own ss nd, kv⟩).all (·.oneCell') = true := by
  simp only [nvL, List.all_cons, List.all_nil, hK'.one]
  rfl
 obtain ⟨nvs, hon, hm, hkk2⟩ := hP
 have hnl : nvs.length = k := by rw [← List.length_map (f := NV.node), hm, List.length_map, List.length_take]; omega
 subst hnl
 refine Sa ?_
 refine LW.append rfl rfl rfl rfl rfl rfl (hon.ext hx10) (by omega) hC rfl hnv rfl (by show (nvs.length + 1) * 137 ≤ 140737488355328; omega) rfl ?_
 intro v2 w11 hc11 hon2 hv11
 have e1 : (nvs.flatMap nvL ++ nvL ⟨moveBy goN own ss nd, kv⟩) = (nvs ++ [(⟨moveBy goN own ss nd, kv⟩ : NV)]).flatMap nvL := by simp
 have e2 : nvs.length + 1 = (nvs ++ [(⟨moveBy goN own ss nd, kv⟩ : NV)]).length := by simp
 rw [e1] at hon2
 obtain ⟨p4, c4, rfl⟩ := hon2.slice
 have hcc2 : Chg (vblk (.slice op nvs.length oc)) w7 w11 := by
  have := Chg.trans hx10 hc11
  simpa using this
 have hTy : ∀ b ∈ vblk (Value.slice op nvs.length oc), ∀ L T, Blk w7 b L T → T = 57 := fun b hb L T hL => Own.type hon hb hL
 have hS : ∀ b ∈ vblk (Value.slice op nvs.length oc), b ∈ vblk (Value.slice none 0 0) ∨ ∃ l T, Blk w7 b l T ∧ T ≠ 3 := fun b hb => by
  obtain ⟨_, ⟨e, _⟩ | ⟨g, cap, sp, e, hg, _⟩⟩ := hon
  ·rw [e] at hb; simp [vblk] at hb
  ·rw [e] at hb
   simp [vblk] at hb
   subst hb
   exact .inr ⟨_, _, hg, by decide⟩
 have hx11' : Ext w w11 := hx7'.step hcc2 (fun b hb => (hon.lt hb).1)
 have ht1 : l.take (nvs.length + 1) = l.take nvs.length ++ [nd] := by rw [List.take_add_one, hnd]; rfl
 refine Sa ?_
 refine QW.again (nvs.length + 1, p4, c4) ⟨by show nvs.length + 1 ≤ _; omega, hx11', ?_⟩ ?_ (by show l.length - (nvs.length + 1) < l.length - nvs.length; omega)
 ·dsimp only
  rw [ht1]
  refine ⟨nvs ++ [⟨moveBy goN own ss nd, kv⟩], by rw [← e2]; exact hon2, by simp [hm], fun x hx => ?_⟩
  rcases List.mem_append.1 hx with hx | hx
  ·exact ⟨(hkk2 x hx).1.chg (hkk2 x hx).2 hcc2 hS, (hkk2 x hx).2⟩
  ·simp at hx
   subst hx
   exact ⟨hK'.chg (stv := .slice none 0 0) (by simp [vblk]) hcc2 hS, by simp [vblk]⟩
 ·exact (Sub.cons rfl (Sub.cons rfl (Sub.cons rfl (Sub.cons rfl (Sub.cons rfl (Sub.nil))))))
theorem Nodes_ret (l : List NodeD) (v : Value) (own : List UInt8) (ss : List ShD) (sv : Value) (w : World) (g : Glob w) (hN : NodesR w v l) (hs : ShortT l) (h : ShiftsR w sv ss) (hss : ∀ s ∈ ss, s.Fine) : Ret Tryz.prog 29 [v, str own, sv] w (fun v' w' => NodesR w' v' (moveL goN own ss l) ∧ Ext w w') :=
 (Nodes_new l v own ss sv w g hN hs h hss).mono fun _ _ ⟨⟨h1, _⟩, h2⟩ => ⟨h1, h2⟩
end Go.Proofs.YtiaigmahdjhcoaaGreatDoor
namespace Go.Proofs.YtiaigmahdjhcoaaGreatDoor
open Go Go.E
set_option maxHeartbeats 1000000 in
theorem rSpan_ret (m : MapD) (hm : mayM m = true) (vs : List Value) (lo hi : Int) (hlo : lo ≤ 1000000000) (hhi : hi ≤ 1000000000) (w : World) (h : MapR w vs m) : Ret Tryz.prog 87 [.agg ⟨vs⟩, .int .i64 lo, .int .i64 hi] w (fun v w' => v = .tuple #[.int .i64 (spanP m lo hi).1, .int .i64 (spanP m lo hi).2.1, .bool (spanP m lo hi).2.2] ∧ Ext w w') := by
 have hR := h
 obtain ⟨tv, rfl, ht⟩ := h
 obtain ⟨p, c, rfl⟩ := ht.slice
 have hmf := mayM_fine hm
 obtain ⟨n0, n1, n2, hrise⟩ := mayM_spec hm
 refine Ret.enter Tryz.func87 rfl Tryz.ntmps87 (by kernel_rfl) rfl ?_
 refine Sa ?_
 refine Lwb fun A w1 hbA hx1 hA => ?_
 replace hA : Blk w1 A [.slice p m.to.length c, .int .i64 m.new] 68 := hA
 refine Sa ?_
 by_cases a1 : lo < 0
 ·refine LW.know (t := 13) (c := true) rfl (decide_eq_true a1) ?_
  refine Sa ?_
  exact QW.body3 Tryz.results87 rfl rfl rfl ⟨by rw [spanP, if_pos (.inl a1)], hx1⟩
 refine LW.know (t := 13) (c := false) rfl (decide_eq_false a1) ?_
 refine Sa ?_
 refine Cwc (fun a2 => ?_) fun a2 => ?_
 ·have a2 : hi < lo := by simpa using a2
  refine Sa ?_
  exact QW.body3 Tryz.results87 rfl rfl rfl ⟨by rw [spanP, if_pos (.inr a2)], hx1⟩
 have a2 : ¬ hi < lo := by simpa using a2
 obtain ⟨L, rfl⟩ := Int.eq_ofNat_of_zero_le (show 0 ≤ lo by omega)
 obtain ⟨H, rfl⟩ := Int.eq_ofNat_of_zero_le (show 0 ≤ hi by omega)
 refine Sa ?_
 refine CW.loop (ι := Nat) (fun a w' => L ≤ a ∧ a ≤ H + 1 ∧ Ext w w' ∧ Ext w1 w' ∧ ∀ j, L ≤ j → j < a → j < m.to.length ∧ m.to.getD j 0 < 0) (fun a => [(2, .int .i64 (H : Int)), (3, .pointer (some ⟨A, 0, none⟩)), (9, .int .i64 (a : Int))]) (fun a => H + 1 - a) L ⟨by omega, by omega, hx1, Chg.refl _ _, fun j h1 h2 => by omega⟩ (Sub.cons rfl (Sub.cons rfl (Sub.cons rfl (Sub.nil)))) ?_
 rintro a w2 ⟨k0, k1, hx2, hx12, hdead⟩
 have hA2 := hA.ext hx12
 have ht2 := ht.ext hx2
 refine Sa ?_
 by_cases b1 : (a : Int) ≤ (H : Int)
 rotate_left
 ·refine LW.know (t := 22) (c := false) rfl (decide_eq_false b1) ?_
  have hal : a ≤ H → a < m.to.length → 0 ≤ m.to.getD a 0 := fun h1 => by omega
  refine Sa ?_
  refine CW.loop (ι := Nat) (fun b w' => b ≤ H ∧ (a ≤ H → a ≤ b) ∧ Ext w w' ∧ Ext w1 w' ∧ ∀ j, b < j → j ≤ H → j < m.to.length ∧ m.to.getD j 0 < 0) (fun b => [(3, .pointer (some ⟨A, 0, none⟩)), (9, .int .i64 (a : Int)), (10, .int .i64 (b : Int))]) (fun b => b) H ⟨by omega, by omega, hx2, hx12, fun j h1 h2 => by omega⟩ (Sub.cons rfl (Sub.cons rfl (Sub.cons rfl (Sub.nil)))) ?_
  rintro b w3 ⟨m0, m1, hx3, hx13, hdead2⟩
  have hA3 := hA.ext hx13
  have ht3 := ht.ext hx3
  have hR3 := hR.ext hx3
  refine Sa ?_
  by_cases c1 : (a : Int) ≤ (b : Int)
  rotate_left
  ·refine LW.know (t := 43) (c := false) rfl (decide_eq_false (by omega)) ?_
   have hno : spanP m (L : Int) (H : Int) = (0, 0, false) := span_none (fun j h1 h2 => hdead j h1 (by omega)) (by omega)
   rw [hno]
   refine Sa ?_
   refine CW.yes rfl (decide_eq_true (show (b : Int) < (a : Int) by omega)) ?_
   refine Sa ?_
   exact QW.body3 Tryz.results87 rfl rfl rfl ⟨rfl, hx3⟩
  refine LW.know (t := 43) (c := true) rfl (decide_eq_true c1) ?_
  refine Sa ?_
  by_cases c2 : (b : Int) < (m.to.length : Int)
  rotate_left
  ·refine LW.know (t := 50) (c := false) rfl (decide_eq_false c2) ?_
   have hyes : spanP m (L : Int) (H : Int) = (imgM m a, imgM m b, true) := span_alive hrise n0 k0 (by omega) m0 hdead (hal (by omega)) hdead2 (fun h1 => by omega)
   rw [hyes]
   refine Sa ?_
   refine CW.no rfl (decide_eq_false (show ¬ (b : Int) < (a : Int) by omega)) ?_
   refine Sa ?_
   refine CW.draw (by kernel_rfl) (by kernel_rfl) ?_
   refine Sq ?_
   refine QL.call0 (v := .int .i64 (imgM m a)) rfl rfl (fun w' hw => rImage_ret m hmf _ a (by omega) w' (hR3.ext hw)) ?_
   refine Sq ?_
   refine QL.call0 (v := .int .i64 (imgM m b)) rfl rfl (fun w' hw => rImage_ret m hmf _ b (by omega) w' (hR3.ext hw)) ?_
   refine Sq ?_
   refine QL.nil fun w4 hx4 => ?_
   refine Sa ?_
   exact QW.body3 Tryz.results87 rfl rfl rfl ⟨rfl, hx3.trans hx4⟩
  refine LW.know (t := 50) (c := true) rfl (decide_eq_true c2) ?_
  obtain ⟨ab, hab, hcb⟩ := ht3.at (i := b) (by omega)
  have hcb' : w3.cell? (ab.add (((b : Nat) : Int).toNat * 1)) = some (.int .i64 (m.to.getD b 0)) := by
   rw [show ((b : Nat) : Int).toNat * 1 = b by omega]
   exact hcb
  first | subst hab | obtain rfl := Option.some.inj hab
  refine Sa ?_
  refine Lo ?_
  first | refine Lp hcb' ?_ | (refine Lb ?_; refine Lp hcb' ?_)
  refine Sa ?_
  by_cases c3 : m.to.getD b 0 < 0
  rotate_left
  ·refine CW.no rfl (decide_eq_false c3) ?_
   have hyes : spanP m (L : Int) (H : Int) = (imgM m a, imgM m b, true) := span_alive hrise n0 k0 (by omega) m0 hdead (hal (by omega)) hdead2 (fun h1 => by omega)
   rw [hyes]
   refine Sa ?_
   refine CW.no rfl (decide_eq_false (show ¬ (b : Int) < (a : Int) by omega)) ?_
   refine Sa ?_
   refine CW.draw (by kernel_rfl) (by kernel_rfl) ?_
   refine Sq ?_
   refine QL.call0 (v := .int .i64 (imgM m a)) rfl rfl (fun w' hw => rImage_ret m hmf _ a (by omega) w' (hR3.ext hw)) ?_
   refine Sq ?_
   refine QL.call0 (v := .int .i64 (imgM m b)) rfl rfl (fun w' hw => rImage_ret m hmf _ b (by omega) w' (hR3.ext hw)) ?_
   refine Sq ?_
   refine QL.nil fun w4 hx4 => ?_
   refine Sa ?_
   exact QW.body3 Tryz.results87 rfl rfl rfl ⟨rfl, hx3.trans hx4⟩
  refine CW.yes rfl (decide_eq_true c3) ?_
  have hne : a ≠ b := fun e => by
   subst e
   have := hal (by omega) (by omega)
   omega
  refine Sa ?_
  have hb1 : ((b - 1 : Nat) : Int) = (b : Int) - 1 := by omega
  refine QW.again (b - 1) ⟨by omega, fun h1 => by omega, hx3, hx13, fun j h1 h2 => ?_⟩ (by rw [hb1]; exact (Sub.cons rfl (Sub.cons rfl (Sub.cons rfl (Sub.nil))))) (by omega)
  rcases Nat.lt_or_ge b j with h3 | h3
  ·exact hdead2 j h3 h2
  ·obtain rfl : j = b := by omega
   exact ⟨by omega, c3⟩
 refine LW.know (t := 22) (c := true) rfl (decide_eq_true b1) ?_
 refine Sa ?_
 by_cases b2 : (a : Int) < (m.to.length : Int)
 rotate_left
 ·refine LW.know (t := 29) (c := false) rfl (decide_eq_false b2) ?_
  have hal : a ≤ H → a < m.to.length → 0 ≤ m.to.getD a 0 := fun h1 h2 => by omega
  refine Sa ?_
  refine CW.loop (ι := Nat) (fun b w' => b ≤ H ∧ (a ≤ H → a ≤ b) ∧ Ext w w' ∧ Ext w1 w' ∧ ∀ j, b < j → j ≤ H → j < m.to.length ∧ m.to.getD j 0 < 0) (fun b => [(3, .pointer (some ⟨A, 0, none⟩)), (9, .int .i64 (a : Int)), (10, .int .i64 (b : Int))]) (fun b => b) H ⟨by omega, by omega, hx2, hx12, fun j h1 h2 => by omega⟩ (Sub.cons rfl (Sub.cons rfl (Sub.cons rfl (Sub.nil)))) ?_
  rintro b w3 ⟨m0, m1, hx3, hx13, hdead2⟩
  have hA3 := hA.ext hx13
  have ht3 := ht.ext hx3
  have hR3 := hR.ext hx3
  refine Sa ?_
  by_cases c1 : (a : Int) ≤ (b : Int)
  rotate_left
  ·refine LW.know (t := 43) (c := false) rfl (decide_eq_false (by omega)) ?_
   have hno : spanP m (L : Int) (H : Int) = (0, 0, false) := span_none (fun j h1 h2 => hdead j h1 (by omega)) (by omega)
   rw [hno]
   refine Sa ?_
   refine CW.yes rfl (decide_eq_true (show (b : Int) < (a : Int) by omega)) ?_
   refine Sa ?_
   exact QW.body3 Tryz.results87 rfl rfl rfl ⟨rfl, hx3⟩
  refine LW.know (t := 43) (c := true) rfl (decide_eq_true c1) ?_
  refine Sa ?_
  by_cases c2 : (b : Int) < (m.to.length : Int)
  rotate_left
  ·refine LW.know (t := 50) (c := false) rfl (decide_eq_false c2) ?_
   have hyes : spanP m (L : Int) (H : Int) = (imgM m a, imgM m b, true) := span_alive hrise n0 k0 (by omega) m0 hdead (hal (by omega)) hdead2 (fun h1 => by omega)
   rw [hyes]
   refine Sa ?_
   refine CW.no rfl (decide_eq_false (show ¬ (b : Int) < (a : Int) by omega)) ?_
   refine Sa ?_
   refine CW.draw (by kernel_rfl) (by kernel_rfl) ?_
   refine Sq ?_
   refine QL.call0 (v := .int .i64 (imgM m a)) rfl rfl (fun w' hw => rImage_ret m hmf _ a (by omega) w' (hR3.ext hw)) ?_
   refine Sq ?_
   refine QL.call0 (v := .int .i64 (imgM m b)) rfl rfl (fun w' hw => rImage_ret m hmf _ b (by omega) w' (hR3.ext hw)) ?_
   refine Sq ?_
   refine QL.nil fun w4 hx4 => ?_
   refine Sa ?_
   exact QW.body3 Tryz.results87 rfl rfl rfl ⟨rfl, hx3.trans hx4⟩
  refine LW.know (t := 50) (c := true) rfl (decide_eq_true c2) ?_
  obtain ⟨ab, hab, hcb⟩ := ht3.at (i := b) (by omega)
  have hcb' : w3.cell? (ab.add (((b : Nat) : Int).toNat * 1)) = some (.int .i64 (m.to.getD b 0)) := by
   rw [show ((b : Nat) : Int).toNat * 1 = b by omega]
   exact hcb
  first | subst hab | obtain rfl := Option.some.inj hab
  refine Sa ?_
  refine Lo ?_
  first | refine Lp hcb' ?_ | (refine Lb ?_; refine Lp hcb' ?_)
  refine Sa ?_
  by_cases c3 : m.to.getD b 0 < 0
  rotate_left
  ·refine CW.no rfl (decide_eq_false c3) ?_
   have hyes : spanP m (L : Int) (H : Int) = (imgM m a, imgM m b, true) := span_alive hrise n0 k0 (by omega) m0 hdead (hal (by omega)) hdead2 (fun h1 => by omega)
   rw [hyes]
   refine Sa ?_
   refine CW.no rfl (decide_eq_false (show ¬ (b : Int) < (a : Int) by omega)) ?_
   refine Sa ?_
   refine CW.draw (by kernel_rfl) (by kernel_rfl) ?_
   refine Sq ?_
   refine QL.call0 (v := .int .i64 (imgM m a)) rfl rfl (fun w' hw => rImage_ret m hmf _ a (by omega) w' (hR3.ext hw)) ?_
   refine Sq ?_
   refine QL.call0 (v := .int .i64 (imgM m b)) rfl rfl (fun w' hw => rImage_ret m hmf _ b (by omega) w' (hR3.ext hw)) ?_
   refine Sq ?_
   refine QL.nil fun w4 hx4 => ?_
   refine Sa ?_
   exact QW.body3 Tryz.results87 rfl rfl rfl ⟨rfl, hx3.trans hx4⟩
  refine CW.yes rfl (decide_eq_true c3) ?_
  have hne : a ≠ b := fun e => by
   subst e
   have := hal (by omega) (by omega)
   omega
  refine Sa ?_
  have hb1 : ((b - 1 : Nat) : Int) = (b : Int) - 1 := by omega
  refine QW.again (b - 1) ⟨by omega, fun h1 => by omega, hx3, hx13, fun j h1 h2 => ?_⟩ (by rw [hb1]; exact (Sub.cons rfl (Sub.cons rfl (Sub.cons rfl (Sub.nil))))) (by omega)
  rcases Nat.lt_or_ge b j with h3 | h3
  ·exact hdead2 j h3 h2
  ·obtain rfl : j = b := by omega
   exact ⟨by omega, c3⟩
 refine LW.know (t := 29) (c := true) rfl (decide_eq_true b2) ?_
 obtain ⟨aa, rfl, hc⟩ := ht2.at (i := a) (by omega)
 have hc' : w2.cell? (aa.add (((a : Nat) : Int).toNat * 1)) = some (.int .i64 (m.to.getD a 0)) := by
  rw [show ((a : Nat) : Int).toNat * 1 = a by omega]
  exact hc
 refine Sa ?_
 refine Lo ?_
 first | refine Lp hc' ?_ | (refine Lb ?_; refine Lp hc' ?_)
 refine Sa ?_
 by_cases b3 : m.to.getD a 0 < 0
 rotate_left
 ·refine CW.no rfl (decide_eq_false b3) ?_
  have hal : a ≤ H → a < m.to.length → 0 ≤ m.to.getD a 0 := fun h1 h2 => by omega
  clear hc hc'
  refine Sa ?_
  refine CW.loop (ι := Nat) (fun b w' => b ≤ H ∧ (a ≤ H → a ≤ b) ∧ Ext w w' ∧ Ext w1 w' ∧ ∀ j, b < j → j ≤ H → j < m.to.length ∧ m.to.getD j 0 < 0) (fun b => [(3, .pointer (some ⟨A, 0, none⟩)), (9, .int .i64 (a : Int)), (10, .int .i64 (b : Int))]) (fun b => b) H ⟨by omega, by omega, hx2, hx12, fun j h1 h2 => by omega⟩ (Sub.cons rfl (Sub.cons rfl (Sub.cons rfl (Sub.nil)))) ?_
  rintro b w3 ⟨m0, m1, hx3, hx13, hdead2⟩
  have hA3 := hA.ext hx13
  have ht3 := ht.ext hx3
  have hR3 := hR.ext hx3
  refine Sa ?_
  by_cases c1 : (a : Int) ≤ (b : Int)
  rotate_left
  ·refine LW.know (t := 43) (c := false) rfl (decide_eq_false (by omega)) ?_
   have hno : spanP m (L : Int) (H : Int) = (0, 0, false) := span_none (fun j h1 h2 => hdead j h1 (by omega)) (by omega)
   rw [hno]
   refine Sa ?_
   refine CW.yes rfl (decide_eq_true (show (b : Int) < (a : Int) by omega)) ?_
   refine Sa ?_
   exact QW.body3 Tryz.results87 rfl rfl rfl ⟨rfl, hx3⟩
  refine LW.know (t := 43) (c := true) rfl (decide_eq_true c1) ?_
  refine Sa ?_
  by_cases c2 : (b : Int) < (m.to.length : Int)
  rotate_left
  ·refine LW.know (t := 50) (c := false) rfl (decide_eq_false c2) ?_
   have hyes : spanP m (L : Int) (H : Int) = (imgM m a, imgM m b, true) := span_alive hrise n0 k0 (by omega) m0 hdead (hal (by omega)) hdead2 (fun h1 => by omega)
   rw [hyes]
   refine Sa ?_
   refine CW.no rfl (decide_eq_false (show ¬ (b : Int) < (a : Int) by omega)) ?_
   refine Sa ?_
   refine CW.draw (by kernel_rfl) (by kernel_rfl) ?_
   refine Sq ?_
   refine QL.call0 (v := .int .i64 (imgM m a)) rfl rfl (fun w' hw => rImage_ret m hmf _ a (by omega) w' (hR3.ext hw)) ?_
   refine Sq ?_
   refine QL.call0 (v := .int .i64 (imgM m b)) rfl rfl (fun w' hw => rImage_ret m hmf _ b (by omega) w' (hR3.ext hw)) ?_
   refine Sq ?_
   refine QL.nil fun w4 hx4 => ?_
   refine Sa ?_
   exact QW.body3 Tryz.results87 rfl rfl rfl ⟨rfl, hx3.trans hx4⟩
  refine LW.know (t := 50) (c := true) rfl (decide_eq_true c2) ?_
  obtain ⟨ab, hab, hcb⟩ := ht3.at (i := b) (by omega)
  have hcb' : w3.cell? (ab.add (((b : Nat) : Int).toNat * 1)) = some (.int .i64 (m.to.getD b 0)) := by
   rw [show ((b : Nat) : Int).toNat * 1 = b by omega]
   exact hcb
  first | subst hab | obtain rfl := Option.some.inj hab
  refine Sa ?_
  refine Lo ?_
  first | refine Lp hcb' ?_ | (refine Lb ?_; refine Lp hcb' ?_)
  refine Sa ?_
  by_cases c3 : m.to.getD b 0 < 0
  rotate_left
  ·refine CW.no rfl (decide_eq_false c3) ?_
   have hyes : spanP m (L : Int) (H : Int) = (imgM m a, imgM m b, true) := span_alive hrise n0 k0 (by omega) m0 hdead (hal (by omega)) hdead2 (fun h1 => by omega)
   rw [hyes]
   refine Sa ?_
   refine CW.no rfl (decide_eq_false (show ¬ (b : Int) < (a : Int) by omega)) ?_
   refine Sa ?_
   refine CW.draw (by kernel_rfl) (by kernel_rfl) ?_
   refine Sq ?_
   refine QL.call0 (v := .int .i64 (imgM m a)) rfl rfl (fun w' hw => rImage_ret m hmf _ a (by omega) w' (hR3.ext hw)) ?_
   refine Sq ?_
   refine QL.call0 (v := .int .i64 (imgM m b)) rfl rfl (fun w' hw => rImage_ret m hmf _ b (by omega) w' (hR3.ext hw)) ?_
   refine Sq ?_
   refine QL.nil fun w4 hx4 => ?_
   refine Sa ?_
   exact QW.body3 Tryz.results87 rfl rfl rfl ⟨rfl, hx3.trans hx4⟩
  refine CW.yes rfl (decide_eq_true c3) ?_
  have hne : a ≠ b := fun e => by
   subst e
   have := hal (by omega) (by omega)
   omega
  refine Sa ?_
  have hb1 : ((b - 1 : Nat) : Int) = (b : Int) - 1 := by omega
  refine QW.again (b - 1) ⟨by omega, fun h1 => by omega, hx3, hx13, fun j h1 h2 => ?_⟩ (by rw [hb1]; exact (Sub.cons rfl (Sub.cons rfl (Sub.cons rfl (Sub.nil))))) (by omega)
  rcases Nat.lt_or_ge b j with h3 | h3
  ·exact hdead2 j h3 h2
  ·obtain rfl : j = b := by omega
   exact ⟨by omega, c3⟩
 refine CW.yes rfl (decide_eq_true b3) ?_
 refine Sa ?_
 refine QW.again (a + 1) ⟨by omega, by omega, hx2, hx12, fun j h1 h2 => ?_⟩ (Sub.cons rfl (Sub.cons rfl (Sub.cons rfl (Sub.nil)))) (by omega)
 rcases Nat.lt_or_ge j a with h3 | h3
 ·exact hdead j h1 h3
 ·obtain rfl : j = a := by omega
  exact ⟨by omega, b3⟩
theorem riseB_app (new : Int) : ∀ (l : List Int) (last z : Int), riseB new last (l ++ [z]) = (riseB new last l && (decide (z = -1) || decide (l.foldl (fun a y => if y = -1 then a else y) last < z ∧ z < new)))
 | [], last, z => by
  show (if z = -1 then true else if z ≤ last ∨ new ≤ z then false else true) = (true && (decide (z = -1) || decide (last < z ∧ z < new)))
  by_cases h : z = -1
  ·simp [h]
  ·by_cases h2 : z ≤ last ∨ new ≤ z
   ·have h3 : ¬ (last < z ∧ z < new) := by omega
    rw [if_neg h, if_pos h2]
    simp [h, h3]
   ·have h3 : last < z ∧ z < new := by omega
    rw [if_neg h, if_neg h2]
    simp [h3]
 | y :: r, last, z => by
  show (if y = -1 then riseB new last (r ++ [z]) else if y ≤ last ∨ new ≤ y then false else riseB new y (r ++ [z])) = ((if y = -1 then riseB new last r else if y ≤ last ∨ new ≤ y then false else riseB new y r) && (decide (z = -1) || decide (r.foldl (fun a y => if y = -1 then a else y) (if y = -1 then last else y) < z ∧ z < new)))
  by_cases h : y = -1
  ·simp only [if_pos h]
   exact riseB_app new r last z
  ·simp only [if_neg h]
   by_cases h2 : y ≤ last ∨ new ≤ y
   ·simp only [if_pos h2]
    rfl
   ·simp only [if_neg h2]
    exact riseB_app new r y z
def lastT (l : List Int) : Int := l.foldl (fun a y => if y = -1 then a else y) (-1)
theorem lastT_snoc (l : List Int) (z : Int) : lastT (l ++ [z]) = if z = -1 then lastT l else z := by simp [lastT, List.foldl_append]
end Go.Proofs.YtiaigmahdjhcoaaGreatDoor
namespace Go.Proofs.YtiaigmahdjhcoaaGreatDoor
open Go Go.E
def maySh (ss : List ShD) : Bool := ss.all fun s => mayM s.rows && mayM s.cols
theorem mayB_short {x : RefD} (h : mayB x = true) : x.sheet.length ≤ 1000000 := by have := sheet_short h; omega
set_option maxHeartbeats 2000000 in
theorem moved_ret (s : ShD) (hm : s.May) (n : NodeD) (hp : plainB n = true) (hk : n.kind = 5 ∨ n.kind = 6) (kp : Option Addr) (kl kc : Nat) (rp cp : Option Addr) (rc cc : Nat) (w : World) (hr : IntsR w (.slice rp s.rows.to.length rc) s.rows.to) (hc : IntsR w (.slice cp s.cols.to.length cc) s.cols.to) : Ret Tryz.prog 65 [.agg ⟨nvL ⟨n, .slice kp kl kc⟩⟩, .agg ⟨shL s (.slice rp s.rows.to.length rc) (.slice cp s.cols.to.length cc)⟩] w (fun v w' => MvV n (goD s n) (.slice kp kl kc) v ∧ Ext w w') := by
 obtain ⟨s1, s2, s3, s4⟩ := rows_small hp hk
 have hf1 := mayM_fine hm.1
 have hf2 := mayM_fine hm.2
 refine Ret.enter Tryz.func65 rfl Tryz.ntmps65 (by kernel_rfl) rfl ?_
 refine Sa ?_
 refine Lwb fun N w1 hbN hx1 hN => ?_
 replace hN : Blk w1 N (nvL ⟨n, .slice kp kl kc⟩) 57 := hN
 have hz1 := hx1.size
 have hNlt := hN.lt
 refine Sa ?_
 refine Lwb fun S w2 hbS hx2 hS => ?_
 replace hS : Blk w2 S (shL s (.slice rp s.rows.to.length rc) (.slice cp s.cols.to.length cc)) 71 := hS
 replace hN := hN.ext hx2
 have hz2 := hx2.size
 have hSlt := hS.lt
 refine Sa ?_
 refine Lwa fun R w3 hbR hx3 hR => ?_
 replace hN := hN.ext hx3
 replace hS := hS.ext hx3
 have hz3 := hx3.size
 have hx3' := (hx1.trans hx2).trans hx3
 have hRlt := hR.lt
 refine Sa ?_
 cases hg : s.gone with
 | true =>
  have eg : goD s n = deadN := by rw [goD, if_pos hg]
  rw [eg]
  have hxx := hx3'
  refine Sa ?_
  refine Lws fun w19 hc19 hR => ?_
  replace hR : Blk w19 R (nvL ⟨deadN, .slice none 0 0⟩) 57 := hR
  refine Sa ?_
  exact QW.body_c Tryz.results65 rfl hR rfl rfl rfl ⟨⟨_, rfl, .inr ⟨rfl, rfl⟩⟩, hxx.step hc19 (by simp; omega)⟩
 | false =>
 refine Sa ?_
 by_cases k5 : n.kind = 5
 ·have eg : goD s n = if mayB { n.ref with row := imgM s.rows n.ref.row, col := imgM s.cols n.ref.col } = true then { n with ref := { n.ref with row := imgM s.rows n.ref.row, col := imgM s.cols n.ref.col } } else deadN := by rw [goD, if_neg (by rw [hg]; simp), if_pos k5]
  rw [eg]
  obtain ⟨p1, p2, p3, p4⟩ := ref_plain hp k5
  refine CW.yes rfl (decide_eq_true k5) ?_
  refine Sa ?_
  refine LW.load_agg (cs := [.slice rp s.rows.to.length rc, .int .i64 s.rows.new]) rfl hS rfl rfl rfl ⟨rfl, rfl, trivial⟩ rfl ?_
  refine Sa ?_
  refine LW.call0 rfl rfl (rImage_ret s.rows hf1 _ n.ref.row (by omega) w3 ⟨_, rfl, hr.ext hx3'⟩) ?_
  rintro v w4 ⟨rfl, hx4⟩
  replace hN := hN.ext hx4
  replace hS := hS.ext hx4
  replace hR := hR.ext hx4
  have hx4' := hx3'.trans hx4
  have hz4 := hx4.size
  generalize imgM s.rows n.ref.row = x1
  refine Sa ?_
  refine Lwt fun w5 hc5 hN => ?_
  replace hS := hS.chg hc5 (by simp; omega)
  replace hR := hR.chg hc5 (by simp; omega)
  have hx5' : Ext w w5 := hx4'.step hc5 (by simp; omega)
  refine Sa ?_
  refine LW.load_agg (cs := [.slice cp s.cols.to.length cc, .int .i64 s.cols.new]) rfl hS rfl rfl rfl ⟨rfl, rfl, trivial⟩ rfl ?_
  refine Sa ?_
  refine LW.call0 rfl rfl (rImage_ret s.cols hf2 _ n.ref.col (by omega) w5 ⟨_, rfl, hc.ext hx5'⟩) ?_
  rintro v w6 ⟨rfl, hx6⟩
  replace hN := hN.ext hx6
  replace hR := hR.ext hx6
  have hx6' := hx5'.trans hx6
  generalize imgM s.cols n.ref.col = y1
  refine Sa ?_
  refine Lwt fun w7 hc7 hN => ?_
  replace hN : Blk w7 N (nvL ⟨{ n with ref := { n.ref with row := x1, col := y1 } }, .slice kp kl kc⟩) 57 := hN
  replace hR := hR.chg hc7 (by simp; omega)
  have hx7' : Ext w w7 := hx6'.step hc7 (by simp; omega)
  refine Sa ?_
  refine LW.load_agg (cs := refL { n.ref with row := x1, col := y1 }) rfl hN rfl rfl rfl ⟨rfl, rfl, rfl, rfl, rfl, trivial⟩ rfl ?_
  refine Sa ?_
  refine LW.call0 rfl rfl (rMay_ret { n.ref with row := x1, col := y1 } (by show n.ref.sheet.length ≤ 9223372036854775807; exact Nat.le_trans (mayB_short p1) (by omega)) w7) ?_
  rintro v w8 ⟨rfl, hx8⟩
  replace hN := hN.ext hx8
  replace hR := hR.ext hx8
  have hxx := hx7'.trans hx8
  refine Sa ?_
  cases hb : mayB { n.ref with row := x1, col := y1 } with
  | false =>
   rw [if_neg (by simp)]
   refine Sa ?_
   refine Lws fun w19 hc19 hR => ?_
   replace hR : Blk w19 R (nvL ⟨deadN, .slice none 0 0⟩) 57 := hR
   refine Sa ?_
   exact QW.body_c Tryz.results65 rfl hR rfl rfl rfl ⟨⟨_, rfl, .inr ⟨rfl, rfl⟩⟩, hxx.step hc19 (by simp; omega)⟩
  | true =>
   rw [if_pos rfl]
   refine Sa ?_
   refine Lws fun w19 hc19 hR => ?_
   refine Sa ?_
   exact QW.body_c Tryz.results65 rfl hR rfl rfl rfl ⟨⟨_, rfl, .inl ⟨rfl, rfl⟩⟩, hxx.step hc19 (by simp; omega)⟩
 ·have k6 : n.kind = 6 := by omega
  have hl : lastN n = n.to := by rw [lastN, if_neg k5]
  rw [hl] at s3 s4
  obtain ⟨p1, p2, p3, p4, p5⟩ := range_plain hp k6
  rcases hP : spanP s.rows n.ref.row n.to.row with ⟨x1, x2, x3⟩
  rcases hQ : spanP s.cols n.ref.col n.to.col with ⟨y1, y2, y3⟩
  have eg : goD s n = if x3 = true ∧ y3 = true ∧ mayB { n.ref with row := x1, col := y1 } = true ∧ mayB { n.to with row := x2, col := y2 } = true then { n with ref := { n.ref with row := x1, col := y1 }, to := { n.to with row := x2, col := y2 } } else deadN := by
   rw [goD, if_neg (by rw [hg]; simp), if_neg k5, hP, hQ]
  rw [eg]
  refine CW.no rfl (decide_eq_false k5) ?_
  refine Sa ?_
  refine LW.load_agg (cs := [.slice rp s.rows.to.length rc, .int .i64 s.rows.new]) rfl hS rfl rfl rfl ⟨rfl, rfl, trivial⟩ rfl ?_
  refine Sa ?_
  have hsp1 := rSpan_ret s.rows hm.1 _ n.ref.row n.to.row (by omega) (by omega) w3 ⟨_, rfl, hr.ext hx3'⟩
  rw [hP] at hsp1
  refine LW.call0 rfl rfl hsp1 ?_
  rintro v w4 ⟨rfl, hx4⟩
  replace hN := hN.ext hx4
  replace hS := hS.ext hx4
  replace hR := hR.ext hx4
  have hx4' := hx3'.trans hx4
  have hz4 := hx4.size
  refine Sa ?_
  refine LW.load_agg (cs := [.slice cp s.cols.to.length cc, .int .i64 s.cols.new]) rfl hS rfl rfl rfl ⟨rfl, rfl, trivial⟩ rfl ?_
  refine Sa ?_
  have hsp2 := rSpan_ret s.cols hm.2 _ n.ref.col n.to.col (by omega) (by omega) w4 ⟨_, rfl, hc.ext hx4'⟩
  rw [hQ] at hsp2
  refine LW.call0 rfl rfl hsp2 ?_
  rintro v w5 ⟨rfl, hx5⟩
  replace hN := hN.ext hx5
  replace hR := hR.ext hx5
  have hx5' := hx4'.trans hx5
  refine Sa ?_
  refine Lwt fun w6 hc6 hN => ?_
  replace hR := hR.chg hc6 (by simp; omega)
  refine Sa ?_
  refine Lwt fun w7 hc7 hN => ?_
  replace hR := hR.chg hc7 (by simp; omega)
  refine Sa ?_
  refine Lwt fun w8 hc8 hN => ?_
  replace hR := hR.chg hc8 (by simp; omega)
  refine Sa ?_
  refine Lwt fun w9 hc9 hN => ?_
  replace hR := hR.chg hc9 (by simp; omega)
  have hN9 : Blk w9 N (nvL ⟨{ n with ref := { n.ref with row := x1, col := y1 }, to := { n.to with row := x2, col := y2 } }, .slice kp kl kc⟩) 57 := hN
  have hxx : Ext w w9 := (((hx5'.step hc6 (by simp; omega)).step hc7 (by simp; omega)).step hc8 (by simp; omega)).step hc9 (by simp; omega)
  refine Sa ?_
  cases x3 with
  | false =>
   rw [if_neg (fun h => by cases h.1)]
   refine Sa ?_
   refine Lws fun w19 hc19 hR => ?_
   replace hR : Blk w19 R (nvL ⟨deadN, .slice none 0 0⟩) 57 := hR
   refine Sa ?_
   exact QW.body_c Tryz.results65 rfl hR rfl rfl rfl ⟨⟨_, rfl, .inr ⟨rfl, rfl⟩⟩, hxx.step hc19 (by simp; omega)⟩
  | true =>
  cases y3 with
  | false =>
   rw [if_neg (fun h => by cases h.2.1)]
   refine Sa ?_
   refine Lws fun w19 hc19 hR => ?_
   replace hR : Blk w19 R (nvL ⟨deadN, .slice none 0 0⟩) 57 := hR
   refine Sa ?_
   exact QW.body_c Tryz.results65 rfl hR rfl rfl rfl ⟨⟨_, rfl, .inr ⟨rfl, rfl⟩⟩, hxx.step hc19 (by simp; omega)⟩
  | true =>
  clear hN
  refine Sa ?_
  refine LW.load_agg (cs := refL { n.ref with row := x1, col := y1 }) rfl hN9 rfl rfl rfl ⟨rfl, rfl, rfl, rfl, rfl, trivial⟩ rfl ?_
  refine Sa ?_
  refine LW.call0 rfl rfl (rMay_ret { n.ref with row := x1, col := y1 } (by show n.ref.sheet.length ≤ 9223372036854775807; exact Nat.le_trans (mayB_short p1) (by omega)) w9) ?_
  rintro v w10 ⟨rfl, hx10⟩
  have hN10 := hN9.ext hx10
  replace hR := hR.ext hx10
  replace hxx := hxx.trans hx10
  cases hb1 : mayB { n.ref with row := x1, col := y1 } with
  | false =>
   rw [if_neg (fun h => by cases h.2.2.1)]
   refine Sa ?_
   refine Lws fun w19 hc19 hR => ?_
   replace hR : Blk w19 R (nvL ⟨deadN, .slice none 0 0⟩) 57 := hR
   refine Sa ?_
   exact QW.body_c Tryz.results65 rfl hR rfl rfl rfl ⟨⟨_, rfl, .inr ⟨rfl, rfl⟩⟩, hxx.step hc19 (by simp; omega)⟩
  | true =>
  refine Sa ?_
  refine LW.load_agg (cs := refL { n.to with row := x2, col := y2 }) rfl hN10 rfl rfl rfl ⟨rfl, rfl, rfl, rfl, rfl, trivial⟩ rfl ?_
  refine Sa ?_
  refine LW.call0 rfl rfl (rMay_ret { n.to with row := x2, col := y2 } (by show n.to.sheet.length ≤ 9223372036854775807; exact Nat.le_trans (mayB_short p2) (by omega)) w10) ?_
  rintro v w11 ⟨rfl, hx11⟩
  have hN11 := hN10.ext hx11
  replace hR := hR.ext hx11
  replace hxx := hxx.trans hx11
  cases hb2 : mayB { n.to with row := x2, col := y2 } with
  | false =>
   rw [if_neg (fun h => by cases h.2.2.2)]
   refine Sa ?_
   refine Lws fun w19 hc19 hR => ?_
   replace hR : Blk w19 R (nvL ⟨deadN, .slice none 0 0⟩) 57 := hR
   refine Sa ?_
   exact QW.body_c Tryz.results65 rfl hR rfl rfl rfl ⟨⟨_, rfl, .inr ⟨rfl, rfl⟩⟩, hxx.step hc19 (by simp; omega)⟩
  | true =>
   rw [if_pos ⟨rfl, rfl, rfl, rfl⟩]
   refine Sa ?_
   refine Lws fun w19 hc19 hR => ?_
   refine Sa ?_
   exact QW.body_c Tryz.results65 rfl hR rfl rfl rfl ⟨⟨_, rfl, .inl ⟨rfl, rfl⟩⟩, hxx.step hc19 (by simp; omega)⟩
end Go.Proofs.YtiaigmahdjhcoaaGreatDoor
namespace Go.Proofs.YtiaigmahdjhcoaaGreatDoor
open Go Go.E
set_option maxHeartbeats 4000000 in
theorem rNodes_ret (l : List NodeD) (v : Value) (own : List UInt8) (ss : List ShD) (sv : Value) (w : World) (hN : NodesR w v l) (hs : ShortT l) (hkl : ∀ n ∈ l, n.kids.length ≤ 1000000) (h : ShiftsR w sv ss) (hss : ∀ s ∈ ss, s.May) : Ret Tryz.prog 30 [v, str own, sv] w (fun v' w' => NodesR w' v' (moveL goD own ss l) ∧ Ext w w') := by
 obtain ⟨p, c, rfl⟩ := hN.slice
 have hll := hN.1
 refine Ret.enter Tryz.func30 rfl Tryz.ntmps30 (by kernel_rfl) rfl ?_
 refine Sa ?_
 refine LW.call0 rfl rfl (rTree_any l _ w hN hs hkl) ?_
 rintro v w1 ⟨rfl, hx1⟩
 refine Sa ?_
 cases ht : treeB l with
 | false =>
  refine Sa ?_
  exact QW.body1 Tryz.results30 rfl ⟨by rw [moveL, if_neg (by rw [ht]; simp)]; exact nodesR_nil _, hx1⟩
 | true =>
 have htp := tree_plain ht
 have hkk := treeB_kids ht
 obtain ⟨q, qc, rfl⟩ := h.slice
 have hsl := h.1
 refine Sa ?_
 refine CW.loop (ι := Nat × Option Addr × Nat) (fun x w' => x.1 ≤ l.length ∧ Ext w w' ∧ NP w w' ((l.take x.1).map (moveBy goD own ss)) (.slice x.2.1 x.1 x.2.2) (.slice none 0 0)) (fun x => [(0, .slice p l.length c), (1, str own), (2, .slice q ss.length qc), (7, .slice x.2.1 x.1 x.2.2), (8, .int .i64 (x.1 : Int))]) (fun x => l.length - x.1) (0, none, 0) ⟨by simp, hx1, ⟨[], Own.nil _ _ _ _, rfl, by simp⟩⟩ (Sub.cons rfl (Sub.cons rfl (Sub.cons rfl (Sub.cons rfl (Sub.cons rfl (Sub.nil)))))) ?_
 rintro ⟨k, op, oc⟩ w2 ⟨hk, hx2, hP⟩
 dsimp only at hk hP
 show CW _ _ _ _ _ [(0, .slice p l.length c), (1, str own), (2, .slice q ss.length qc), (7, .slice op k oc), (8, .int .i64 (k : Int))] _
 have hzw := hx2.size
 refine Sa ?_
 refine Cwc (fun h2 => ?_) fun h2 => ?_
 rotate_left
 ·have h2 : k = l.length := by simp at h2; omega
  subst h2
  obtain ⟨nvs, hon, hm, hk⟩ := hP
  rw [List.take_length] at hm
  have hnl : nvs.length = l.length := by rw [← List.length_map (f := NV.node), hm, List.length_map]
  have hNn : Nodes w2 w.heap.size (.slice op l.length oc) (l.map (moveBy goD own ss)) := ⟨nvs, hon, hm, fun x hx => (hk x hx).1⟩
  have hkb : ∀ n ∈ l.map (moveBy goD own ss), n.kids.length ≤ 100000 := fun n hn => by
   obtain ⟨m, h1, rfl⟩ := List.mem_map.1 hn
   have h3 := hkk m h1
   have e : l.map (moveBy goD own ss) = l.map (moveBy goN own ss) := by
    have := moveL_eq (own := own) hss l
    rw [moveL, moveL, if_pos ht, if_pos ht] at this
    exact this.symm
   rw [e] at hn
   obtain ⟨m', h1', e'⟩ := List.mem_map.1 hn
   have h3' := hkk m' h1'
   rw [← e']
   have := (moveBy_short (own := own) hss (htp m' h1')).2.2.2
   omega
  refine Sa ?_
  exact QW.body1 Tryz.results30 rfl ⟨by rw [moveL, if_pos ht]; exact hNn.row (by rw [List.length_map]; exact hll) hkb, hx2⟩
 have h2 : k < l.length := by simp at h2; omega
 obtain ⟨nd, hnd⟩ : ∃ nd, l[k]? = some nd := ⟨_, List.getElem?_eq_getElem h2⟩
 have hmem := List.mem_of_getElem? hnd
 obtain ⟨a, kp, kc, rfl, hkid, hcell⟩ := hN.at hnd
 have hcell' : ∀ j u, (nvL ⟨nd, .slice kp nd.kids.length kc⟩)[j]? = some u → w2.cell? ((a.add (((k : Nat) : Int).toNat * 14)).add j) = some u := fun j u hj => by rw [show ((k : Nat) : Int).toNat = k by omega]; exact cell_ext hx2 (hcell j u hj)
 have hpn := htp nd hmem
 have hkn := hkk nd hmem
 refine Sa ?_
 refine Lo ?_
 refine LW.load_cells rfl hcell' rfl rfl rfl rfl ?_
 refine Sa ?_
 refine Lwa fun X w3 hbX hx3 hX => ?_
 have hPlt : ∀ b ∈ vblk (Value.slice op k oc), b < w2.heap.size := fun b hb => by
  obtain ⟨nvs, ho, _⟩ := hP
  exact (ho.lt hb).2
 replace hP := hP.ext hx3
 have hx3' := hx2.trans hx3
 have hX0 := hX
 refine Sa ?_
 refine Lws fun w4 hc4 hX => ?_
 replace hX : Blk w4 X (nvL ⟨nd, .slice kp nd.kids.length kc⟩) 57 := hX
 replace hP := hP.chg hc4 (fun b hb => by have := hPlt b hb; simp; omega) (fun b hb => by
  simp only [List.mem_singleton] at hb
  subst hb
  exact .inr ⟨_, _, hX0, by decide⟩)
 have hx4' : Ext w w4 := hx3'.step hc4 (by simp; omega)
 have hXlt := hX.lt
 refine Sa ?_
 (apply LW.buildSlice0; exact rfl; exact rfl; exact rfl; exact rfl; intro B w5 hbB hx5 hB)
 have hX5 := hX.ext hx5
 refine Sa ?_
 refine LW.append_any (lo := w.heap.size) (xs := []) (news := icells nd.kids) rfl rfl rfl rfl rfl rfl (⟨rfl, .inr ⟨B, 0, [], rfl, hB, by simp, by simp, by have := hx4'.size; omega⟩⟩) (by have := hx5.size; have := hx4'.size; omega) (by rw [icells_len]; show _ = _ * 1; omega) (by
  have hkx := (hkid.ext hx4').ext hx5
  obtain ⟨_, ⟨e, e2⟩ | ⟨a', cap, e, hc⟩⟩ := hkx
  ·simp only [Value.slice.injEq] at e
   exact .inl ⟨e.1, by simp [e2]⟩
  ·simp only [Value.slice.injEq] at e
   refine .inr ⟨a', e.1, fun j u hj => ?_⟩
   simp only [icells, List.getElem?_map] at hj
   cases hg : nd.kids[j]? with
   | none => rw [hg] at hj; cases hj
   | some y =>
    rw [hg] at hj
    obtain rfl := Option.some.inj hj
    exact hc j y hg) (fun u hu => by
  simp only [icells, List.mem_map] at hu
  obtain ⟨_, _, rfl⟩ := hu
  rfl) (by show (0 + _) * 9 ≤ _; omega) rfl ?_
 intro v' w6 hc6 hown' hv'
 obtain ⟨kp', kc', rfl⟩ := hown'.slice
 have hx46 : Ext w4 w6 := hx5.step hc6 (by simp [vblk]; omega)
 have hm0 : 0 + nd.kids.length = nd.kids.length := by omega
 rw [hm0] at hown' hv' ⊢
 simp only [List.nil_append] at hown'
 have hK : KidsOk w6 (.slice kp' nd.kids.length kc') nd.kids := own_kids hown'
 replace hX := hX.ext hx46
 replace hP := hP.ext hx46
 have hx6' := hx4'.trans hx46
 clear hown' hv' hc6 hB hX5
 have hX1 := hX
 refine Sa ?_
 refine Lwt fun w7 hc7 hX => ?_
 replace hX : Blk w7 X (nvL ⟨nd, .slice kp' nd.kids.length kc'⟩) 57 := hX
 replace hP := hP.chg hc7 (fun b hb => by have := hPlt b hb; simp; omega) (fun b hb => by
  simp only [List.mem_singleton] at hb
  subst hb
  exact .inr ⟨_, _, hX1, by decide⟩)
 replace hK : KidsOk w7 (.slice kp' nd.kids.length kc') nd.kids := hK.chg (stv := .slice none 0 0) (by simp [vblk]) hc7 (fun b hb => by
  simp only [List.mem_singleton] at hb
  subst hb
  exact .inr ⟨_, _, hX1, by decide⟩)
 have hx7' : Ext w w7 := hx6'.step hc7 (by simp; omega)
 clear hX1 hX0 hc7 hc4
 obtain ⟨nm, hnm⟩ : ∃ nm, nm = ownN own nd := ⟨_, rfl⟩
 refine Sa ?_
 refine Cwc (fun b1 => ?_) fun b1 => ?_
 ·have b1 : nd.ref.sheet = [] := by simpa using b1
  have en : own = nm := by rw [hnm, ownN, if_pos b1]
  refine Sa ?_
  refine CW.loop (ι := Nat) (fun j w' => j ≤ ss.length ∧ Ext w7 w' ∧ ∀ i u, i < j → ss[i]? = some u → u.sheet ≠ nm) (fun j => [(0, .slice (some a) l.length c), (1, str own), (2, .slice q ss.length qc), (7, .slice op k oc), (8, .int .i64 (k : Int)), (9, .pointer (some ⟨X, 0, none⟩)), (10, str nm), (11, .int .i64 (j : Int))]) (fun j => ss.length - j) 0 ⟨by omega, Chg.refl _ _, fun i u h => by omega⟩ (Sub.cons rfl (Sub.cons rfl (Sub.cons rfl (Sub.cons rfl (Sub.cons rfl (Sub.cons rfl (Sub.cons (by rw [← en]; rfl) (Sub.cons rfl Sub.nil)))))))) ?_
  clear en b1
  rintro j w8 ⟨hj, hx78, hno⟩
  have hx8' := hx7'.trans hx78
  replace hX := hX.ext hx78
  replace hP := hP.ext hx78
  replace hK : KidsOk w8 (.slice kp' nd.kids.length kc') nd.kids := hK.chg (stv := .slice none 0 0) (by simp [vblk]) hx78 (by simp)
  refine Sa ?_
  by_cases b2 : (j : Int) < (ss.length : Int)
  rotate_left
  ·refine LW.know (t := 40) (c := false) rfl (decide_eq_false b2) ?_
   have hm : moveBy goD own ss nd = nd := by
    by_cases hk5 : nd.kind = 5 ∨ nd.kind = 6
    ·rw [is56 hk5, ← hnm, idxS_find, idxS_none (fun i s hi hs => hno i s (by omega) hs)]
     rfl
    ·exact not56 (by omega) (by omega)
   have hx10' := hx8'
   obtain ⟨kv, hkve⟩ : ∃ kv, kv = Value.slice kp' nd.kids.length kc' := ⟨_, rfl⟩
   rw [← hkve] at hX hK
   rw [← hm] at hX hK
   clear hkve
   refine Sa ?_
   refine Lwl fun C w20 hbC hx20 hC => ?_
   replace hC : Blk w20 C (nvL ⟨moveBy goD own ss nd, kv⟩) 57 := hC
   have hx20' := hx10'.trans hx20
   have hz20 := hx20'.size
   have hnv : (nvL ⟨moveBy goD own ss nd, kv⟩).all (·.oneCell') = true := by
    simp only [nvL, List.all_cons, List.all_nil, hK.one]
    rfl
   obtain ⟨nvs, hon, hmp, hkk2⟩ := hP
   have hnl : nvs.length = k := by rw [← List.length_map (f := NV.node), hmp, List.length_map, List.length_take]; omega
   subst hnl
   refine Sa ?_
   refine LW.append rfl rfl rfl rfl rfl rfl (hon.ext hx20) (by omega) hC rfl hnv rfl (by show (nvs.length + 1) * 137 ≤ 140737488355328; omega) rfl ?_
   intro v2 w21 hc21 hon2 hv21
   have e1 : (nvs.flatMap nvL ++ nvL ⟨moveBy goD own ss nd, kv⟩) = (nvs ++ [(⟨moveBy goD own ss nd, kv⟩ : NV)]).flatMap nvL := by simp
   have e2 : nvs.length + 1 = (nvs ++ [(⟨moveBy goD own ss nd, kv⟩ : NV)]).length := by simp
   rw [e1] at hon2
   obtain ⟨p4, c4, rfl⟩ := hon2.slice
   have hcc2 : Chg (vblk (.slice op nvs.length oc)) _ w21 := Chg.trans hx20 hc21
   have hS : ∀ b ∈ vblk (Value.slice op nvs.length oc), b ∈ vblk (Value.slice none 0 0) ∨ ∃ l T, Blk _ b l T ∧ T ≠ 3 := fun b hb => by
    obtain ⟨_, ⟨e, _⟩ | ⟨g, cap, sp, e, hg, _⟩⟩ := hon
    ·rw [e] at hb; simp [vblk] at hb
    ·rw [e] at hb
     simp [vblk] at hb
     subst hb
     exact .inr ⟨_, _, hg, by decide⟩
   have hx21' : Ext w w21 := hx10'.step hcc2 (fun b hb => (hon.lt hb).1)
   have ht1 : l.take (nvs.length + 1) = l.take nvs.length ++ [nd] := by rw [List.take_add_one, hnd]; rfl
   refine Sa ?_
   refine QW.again (nvs.length + 1, p4, c4) ⟨by show nvs.length + 1 ≤ _; omega, hx21', ?_⟩ ?_ (by show l.length - (nvs.length + 1) < l.length - nvs.length; omega)
   ·dsimp only
    rw [ht1]
    refine ⟨nvs ++ [⟨moveBy goD own ss nd, kv⟩], by rw [← e2]; exact hon2, by simp [hmp], fun x hx => ?_⟩
    rcases List.mem_append.1 hx with hx | hx
    ·exact ⟨(hkk2 x hx).1.chg (hkk2 x hx).2 hcc2 hS, (hkk2 x hx).2⟩
    ·simp at hx
     subst hx
     exact ⟨hK.chg (stv := .slice none 0 0) (by simp [vblk]) hcc2 hS, by simp [vblk]⟩
   ·exact (Sub.cons rfl (Sub.cons rfl (Sub.cons rfl (Sub.cons rfl (Sub.cons rfl (Sub.nil))))))
  refine LW.know (t := 40) (c := true) rfl (decide_eq_true b2) ?_
  refine Sa ?_
  by_cases b3 : nd.kind = 5
  ·refine LW.know (t := 44) (c := true) rfl (decide_eq_true b3) ?_
   have hk5 : nd.kind = 5 ∨ nd.kind = 6 := .inl b3
   obtain ⟨s, hsj⟩ : ∃ s, ss[j]? = some s := ⟨_, List.getElem?_eq_getElem (by omega)⟩
   obtain ⟨sa, rp, rc, cp, cc, hq, hr, hc, hscell⟩ := h.at hsj
   subst hq
   have hmay := hss s (List.mem_of_getElem? hsj)
   have hsc0 : w8.cell? ((sa.add (((j : Nat) : Int).toNat * 6)).add 0) = some (str s.sheet) := by
    rw [show ((j : Nat) : Int).toNat = j by omega]
    exact cell_ext hx8' (hscell 0 _ rfl)
   have hsc' : ∀ w', Ext w w' → ∀ i u, (shL s (.slice rp s.rows.to.length rc) (.slice cp s.cols.to.length cc))[i]? = some u → w'.cell? ((sa.add (((j : Nat) : Int).toNat * 6)).add i) = some u := fun w' hw i u hi => by
    rw [show ((j : Nat) : Int).toNat = j by omega]
    exact cell_ext hw (hscell i u hi)
   refine Sa ?_
   refine Lo ?_
   refine Ln ?_
   refine Lp hsc0 ?_
   refine Sa ?_
   refine Cwc (fun b5 => ?_) fun b5 => ?_
   rotate_left
   ·have b5 : s.sheet ≠ nm := by simpa using b5
    refine Sa ?_
    refine QW.again (j + 1) ⟨by omega, hx78, fun i u hi hu => ?_⟩ (Sub.cons rfl (Sub.cons rfl (Sub.cons rfl (Sub.cons rfl (Sub.cons rfl (Sub.cons rfl (Sub.cons rfl (Sub.cons rfl (Sub.nil))))))))) (by omega)
    rcases Nat.lt_or_ge i j with h4 | h4
    ·exact hno i u h4 hu
    ·obtain rfl : i = j := by omega
     rw [hsj] at hu
     obtain rfl := Option.some.inj hu
     exact b5
   have b5 : s.sheet = nm := by simpa using b5
   have hfind : findS ss (ownN own nd) = some s := by
    rw [← hnm, idxS_find, idxS_some hsj b5 hno]
    exact hsj
   have hm : moveBy goD own ss nd = goD s nd := by rw [is56 hk5, hfind]
   refine Sa ?_
   refine CW.drawHeld (fun w' => Ext w w') (fun w' h => hx8'.trans h) (by kernel_rfl) fun w9 hx9 => ?_
   refine HW.take 1 rfl rfl rfl rfl (fun w _ => Y.pure rfl) rfl (by kernel_rfl) (by kernel_rfl) (by kernel_rfl) (fun _ _ _ h => h) ?_
   refine HW.take 2 rfl rfl rfl rfl (fun w _ => Y.pure rfl) rfl (by kernel_rfl) (by kernel_rfl) (by kernel_rfl) (fun _ _ _ h => h) ?_
   refine HW.take 3 rfl rfl rfl rfl (fun w _ => Y.idx_addr rfl rfl rfl rfl rfl (by omega) (by omega)) rfl (by kernel_rfl) (by kernel_rfl) (by kernel_rfl) (fun _ _ _ h => h) ?_
   refine HW.take 4 rfl rfl rfl rfl (fun w' hw => Y.load_cells (cs := shL s (.slice rp s.rows.to.length rc) (.slice cp s.cols.to.length cc)) rfl (hsc' w' hw) rfl rfl rfl) rfl (by kernel_rfl) (by kernel_rfl) (by kernel_rfl) (fun _ _ _ h => h) ?_
   refine HW.one 0 (by kernel_rfl) rfl rfl (fun hS => ?_)
   replace hX := hX.ext hx9
   have hx9' := hx8'.trans hx9
   refine Lg ?_
   apply LW.nil
   refine QW.held hx9' ?_
   refine HW.one 5 (by kernel_rfl) rfl rfl (fun hS => ?_)
   refine LW.call0 rfl rfl (moved_ret s hmay nd hpn hk5 kp' nd.kids.length kc' rp cp rc cc w9 (hr.ext hx9') (hc.ext hx9')) ?_
   rintro v w10 ⟨⟨kv, rfl, hkv⟩, hx10⟩
   replace hX := hX.ext hx10
   have hx8_10 := hx9.trans hx10
   have hx10' := hx8'.trans hx8_10
   replace hP := hP.ext hx8_10
   replace hK : KidsOk w10 (.slice kp' nd.kids.length kc') nd.kids := hK.chg (stv := .slice none 0 0) (by simp [vblk]) hx8_10 (by simp)
   replace hK : KidsOk w10 kv (goD s nd).kids := by
    rcases hkv with ⟨rfl, e⟩ | ⟨rfl, e⟩
    ·rw [e]; exact hK
    ·exact .inl ⟨rfl, e⟩
   have hone : kv.oneCell' = true := hK.one
   apply LW.nil
   refine QW.held hx10' ?_
   refine HW.one 6 (by kernel_rfl) rfl rfl (fun hS => ?_)
   have hX1 := hX
   refine LW.store_all rfl rfl (by simp only [nvL, List.all_cons, List.all_nil, hone]; rfl) hX rfl rfl rfl ?_
   intro w11 hc11 hX
   replace hX : Blk w11 X (nvL ⟨goD s nd, kv⟩) 57 := hX
   replace hP := hP.chg hc11 (fun b hb => by have := hPlt b hb; simp; omega) (fun b hb => by
    simp only [List.mem_singleton] at hb
    subst hb
    exact .inr ⟨_, _, hX1, by decide⟩)
   replace hK : KidsOk w11 kv (goD s nd).kids := hK.chg (stv := .slice none 0 0) (by simp [vblk]) hc11 (fun b hb => by
    simp only [List.mem_singleton] at hb
    subst hb
    exact .inr ⟨_, _, hX1, by decide⟩)
   have hx10' : Ext w w11 := hx10'.step hc11 (by simp; omega)
   apply LW.nil
   refine QW.held hx10' ?_
   refine HW.done (by kernel_rfl) ?_
   rw [← hm] at hX hK
   clear hc11 hX1 hkv
   refine Sa ?_
   refine Lwl fun C w20 hbC hx20 hC => ?_
   replace hC : Blk w20 C (nvL ⟨moveBy goD own ss nd, kv⟩) 57 := hC
   have hx20' := hx10'.trans hx20
   have hz20 := hx20'.size
   have hnv : (nvL ⟨moveBy goD own ss nd, kv⟩).all (·.oneCell') = true := by
    simp only [nvL, List.all_cons, List.all_nil, hK.one]
    rfl
   obtain ⟨nvs, hon, hmp, hkk2⟩ := hP
   have hnl : nvs.length = k := by rw [← List.length_map (f := NV.node), hmp, List.length_map, List.length_take]; omega
   subst hnl
   refine Sa ?_
   refine LW.append rfl rfl rfl rfl rfl rfl (hon.ext hx20) (by omega) hC rfl hnv rfl (by show (nvs.length + 1) * 137 ≤ 140737488355328; omega) rfl ?_
   intro v2 w21 hc21 hon2 hv21
   have e1 : (nvs.flatMap nvL ++ nvL ⟨moveBy goD own ss nd, kv⟩) = (nvs ++ [(⟨moveBy goD own ss nd, kv⟩ : NV)]).flatMap nvL := by simp
   have e2 : nvs.length + 1 = (nvs ++ [(⟨moveBy goD own ss nd, kv⟩ : NV)]).length := by simp
   rw [e1] at hon2
   obtain ⟨p4, c4, rfl⟩ := hon2.slice
   have hcc2 : Chg (vblk (.slice op nvs.length oc)) _ w21 := Chg.trans hx20 hc21
   have hS : ∀ b ∈ vblk (Value.slice op nvs.length oc), b ∈ vblk (Value.slice none 0 0) ∨ ∃ l T, Blk _ b l T ∧ T ≠ 3 := fun b hb => by
    obtain ⟨_, ⟨e, _⟩ | ⟨g, cap, sp, e, hg, _⟩⟩ := hon
    ·rw [e] at hb; simp [vblk] at hb
    ·rw [e] at hb
     simp [vblk] at hb
     subst hb
     exact .inr ⟨_, _, hg, by decide⟩
   have hx21' : Ext w w21 := hx10'.step hcc2 (fun b hb => (hon.lt hb).1)
   have ht1 : l.take (nvs.length + 1) = l.take nvs.length ++ [nd] := by rw [List.take_add_one, hnd]; rfl
   refine Sa ?_
   refine QW.again (nvs.length + 1, p4, c4) ⟨by show nvs.length + 1 ≤ _; omega, hx21', ?_⟩ ?_ (by show l.length - (nvs.length + 1) < l.length - nvs.length; omega)
   ·dsimp only
    rw [ht1]
    refine ⟨nvs ++ [⟨moveBy goD own ss nd, kv⟩], by rw [← e2]; exact hon2, by simp [hmp], fun x hx => ?_⟩
    rcases List.mem_append.1 hx with hx | hx
    ·exact ⟨(hkk2 x hx).1.chg (hkk2 x hx).2 hcc2 hS, (hkk2 x hx).2⟩
    ·simp at hx
     subst hx
     exact ⟨hK.chg (stv := .slice none 0 0) (by simp [vblk]) hcc2 hS, by simp [vblk]⟩
   ·exact (Sub.cons rfl (Sub.cons rfl (Sub.cons rfl (Sub.cons rfl (Sub.cons rfl (Sub.nil))))))
  refine LW.know (t := 44) (c := false) rfl (decide_eq_false b3) ?_
  refine Sa ?_
  refine Cwc (fun b4 => ?_) fun b4 => ?_
  rotate_left
  ·have b4 : nd.kind ≠ 6 := by simpa using b4
   have hm : moveBy goD own ss nd = nd := not56 b3 b4
   have hx10' := hx8'
   obtain ⟨kv, hkve⟩ : ∃ kv, kv = Value.slice kp' nd.kids.length kc' := ⟨_, rfl⟩
   rw [← hkve] at hX hK
   rw [← hm] at hX hK
   clear hkve
   refine Sa ?_
   refine Lwl fun C w20 hbC hx20 hC => ?_
   replace hC : Blk w20 C (nvL ⟨moveBy goD own ss nd, kv⟩) 57 := hC
   have hx20' := hx10'.trans hx20
   have hz20 := hx20'.size
   have hnv : (nvL ⟨moveBy goD own ss nd, kv⟩).all (·.oneCell') = true := by
    simp only [nvL, List.all_cons, List.all_nil, hK.one]
    rfl
   obtain ⟨nvs, hon, hmp, hkk2⟩ := hP
   have hnl : nvs.length = k := by rw [← List.length_map (f := NV.node), hmp, List.length_map, List.length_take]; omega
   subst hnl
   refine Sa ?_
   refine LW.append rfl rfl rfl rfl rfl rfl (hon.ext hx20) (by omega) hC rfl hnv rfl (by show (nvs.length + 1) * 137 ≤ 140737488355328; omega) rfl ?_
   intro v2 w21 hc21 hon2 hv21
   have e1 : (nvs.flatMap nvL ++ nvL ⟨moveBy goD own ss nd, kv⟩) = (nvs ++ [(⟨moveBy goD own ss nd, kv⟩ : NV)]).flatMap nvL := by simp
   have e2 : nvs.length + 1 = (nvs ++ [(⟨moveBy goD own ss nd, kv⟩ : NV)]).length := by simp
   rw [e1] at hon2
   obtain ⟨p4, c4, rfl⟩ := hon2.slice
   have hcc2 : Chg (vblk (.slice op nvs.length oc)) _ w21 := Chg.trans hx20 hc21
   have hS : ∀ b ∈ vblk (Value.slice op nvs.length oc), b ∈ vblk (Value.slice none 0 0) ∨ ∃ l T, Blk _ b l T ∧ T ≠ 3 := fun b hb => by
    obtain ⟨_, ⟨e, _⟩ | ⟨g, cap, sp, e, hg, _⟩⟩ := hon
    ·rw [e] at hb; simp [vblk] at hb
    ·rw [e] at hb
     simp [vblk] at hb
     subst hb
     exact .inr ⟨_, _, hg, by decide⟩
   have hx21' : Ext w w21 := hx10'.step hcc2 (fun b hb => (hon.lt hb).1)
   have ht1 : l.take (nvs.length + 1) = l.take nvs.length ++ [nd] := by rw [List.take_add_one, hnd]; rfl
   refine Sa ?_
   refine QW.again (nvs.length + 1, p4, c4) ⟨by show nvs.length + 1 ≤ _; omega, hx21', ?_⟩ ?_ (by show l.length - (nvs.length + 1) < l.length - nvs.length; omega)
   ·dsimp only
    rw [ht1]
    refine ⟨nvs ++ [⟨moveBy goD own ss nd, kv⟩], by rw [← e2]; exact hon2, by simp [hmp], fun x hx => ?_⟩
    rcases List.mem_append.1 hx with hx | hx
    ·exact ⟨(hkk2 x hx).1.chg (hkk2 x hx).2 hcc2 hS, (hkk2 x hx).2⟩
    ·simp at hx
     subst hx
     exact ⟨hK.chg (stv := .slice none 0 0) (by simp [vblk]) hcc2 hS, by simp [vblk]⟩
   ·exact (Sub.cons rfl (Sub.cons rfl (Sub.cons rfl (Sub.cons rfl (Sub.cons rfl (Sub.nil))))))
  have b4 : nd.kind = 6 := by simpa using b4
  have hk5 : nd.kind = 5 ∨ nd.kind = 6 := .inr b4
  obtain ⟨s, hsj⟩ : ∃ s, ss[j]? = some s := ⟨_, List.getElem?_eq_getElem (by omega)⟩
  obtain ⟨sa, rp, rc, cp, cc, hq, hr, hc, hscell⟩ := h.at hsj
  subst hq
  have hmay := hss s (List.mem_of_getElem? hsj)
  have hsc0 : w8.cell? ((sa.add (((j : Nat) : Int).toNat * 6)).add 0) = some (str s.sheet) := by
   rw [show ((j : Nat) : Int).toNat = j by omega]
   exact cell_ext hx8' (hscell 0 _ rfl)
  have hsc' : ∀ w', Ext w w' → ∀ i u, (shL s (.slice rp s.rows.to.length rc) (.slice cp s.cols.to.length cc))[i]? = some u → w'.cell? ((sa.add (((j : Nat) : Int).toNat * 6)).add i) = some u := fun w' hw i u hi => by
   rw [show ((j : Nat) : Int).toNat = j by omega]
   exact cell_ext hw (hscell i u hi)
  refine Sa ?_
  refine Lo ?_
  refine Ln ?_
  refine Lp hsc0 ?_
  refine Sa ?_
  refine Cwc (fun b5 => ?_) fun b5 => ?_
  rotate_left
  ·have b5 : s.sheet ≠ nm := by simpa using b5
   refine Sa ?_
   refine QW.again (j + 1) ⟨by omega, hx78, fun i u hi hu => ?_⟩ (Sub.cons rfl (Sub.cons rfl (Sub.cons rfl (Sub.cons rfl (Sub.cons rfl (Sub.cons rfl (Sub.cons rfl (Sub.cons rfl (Sub.nil))))))))) (by omega)
   rcases Nat.lt_or_ge i j with h4 | h4
   ·exact hno i u h4 hu
   ·obtain rfl : i = j := by omega
    rw [hsj] at hu
    obtain rfl := Option.some.inj hu
    exact b5
  have b5 : s.sheet = nm := by simpa using b5
  have hfind : findS ss (ownN own nd) = some s := by
   rw [← hnm, idxS_find, idxS_some hsj b5 hno]
   exact hsj
  have hm : moveBy goD own ss nd = goD s nd := by rw [is56 hk5, hfind]
  refine Sa ?_
  refine CW.drawHeld (fun w' => Ext w w') (fun w' h => hx8'.trans h) (by kernel_rfl) fun w9 hx9 => ?_
  refine HW.take 1 rfl rfl rfl rfl (fun w _ => Y.pure rfl) rfl (by kernel_rfl) (by kernel_rfl) (by kernel_rfl) (fun _ _ _ h => h) ?_
  refine HW.take 2 rfl rfl rfl rfl (fun w _ => Y.pure rfl) rfl (by kernel_rfl) (by kernel_rfl) (by kernel_rfl) (fun _ _ _ h => h) ?_
  refine HW.take 3 rfl rfl rfl rfl (fun w _ => Y.idx_addr rfl rfl rfl rfl rfl (by omega) (by omega)) rfl (by kernel_rfl) (by kernel_rfl) (by kernel_rfl) (fun _ _ _ h => h) ?_
  refine HW.take 4 rfl rfl rfl rfl (fun w' hw => Y.load_cells (cs := shL s (.slice rp s.rows.to.length rc) (.slice cp s.cols.to.length cc)) rfl (hsc' w' hw) rfl rfl rfl) rfl (by kernel_rfl) (by kernel_rfl) (by kernel_rfl) (fun _ _ _ h => h) ?_
  refine HW.one 0 (by kernel_rfl) rfl rfl (fun hS => ?_)
  replace hX := hX.ext hx9
  have hx9' := hx8'.trans hx9
  refine Lg ?_
  apply LW.nil
  refine QW.held hx9' ?_
  refine HW.one 5 (by kernel_rfl) rfl rfl (fun hS => ?_)
  refine LW.call0 rfl rfl (moved_ret s hmay nd hpn hk5 kp' nd.kids.length kc' rp cp rc cc w9 (hr.ext hx9') (hc.ext hx9')) ?_
  rintro v w10 ⟨⟨kv, rfl, hkv⟩, hx10⟩
  replace hX := hX.ext hx10
  have hx8_10 := hx9.trans hx10
  have hx10' := hx8'.trans hx8_10
  replace hP := hP.ext hx8_10
  replace hK : KidsOk w10 (.slice kp' nd.kids.length kc') nd.kids := hK.chg (stv := .slice none 0 0) (by simp [vblk]) hx8_10 (by simp)
  replace hK : KidsOk w10 kv (goD s nd).kids := by
   rcases hkv with ⟨rfl, e⟩ | ⟨rfl, e⟩
   ·rw [e]; exact hK
   ·exact .inl ⟨rfl, e⟩
  have hone : kv.oneCell' = true := hK.one
  apply LW.nil
  refine QW.held hx10' ?_
  refine HW.one 6 (by kernel_rfl) rfl rfl (fun hS => ?_)
  have hX1 := hX
  refine LW.store_all rfl rfl (by simp only [nvL, List.all_cons, List.all_nil, hone]; rfl) hX rfl rfl rfl ?_
  intro w11 hc11 hX
  replace hX : Blk w11 X (nvL ⟨goD s nd, kv⟩) 57 := hX
  replace hP := hP.chg hc11 (fun b hb => by have := hPlt b hb; simp; omega) (fun b hb => by
   simp only [List.mem_singleton] at hb
   subst hb
   exact .inr ⟨_, _, hX1, by decide⟩)
  replace hK : KidsOk w11 kv (goD s nd).kids := hK.chg (stv := .slice none 0 0) (by simp [vblk]) hc11 (fun b hb => by
   simp only [List.mem_singleton] at hb
   subst hb
   exact .inr ⟨_, _, hX1, by decide⟩)
  have hx10' : Ext w w11 := hx10'.step hc11 (by simp; omega)
  apply LW.nil
  refine QW.held hx10' ?_
  refine HW.done (by kernel_rfl) ?_
  rw [← hm] at hX hK
  clear hc11 hX1 hkv
  refine Sa ?_
  refine Lwl fun C w20 hbC hx20 hC => ?_
  replace hC : Blk w20 C (nvL ⟨moveBy goD own ss nd, kv⟩) 57 := hC
  have hx20' := hx10'.trans hx20
  have hz20 := hx20'.size
  have hnv : (nvL ⟨moveBy goD own ss nd, kv⟩).all (·.oneCell') = true := by
   simp only [nvL, List.all_cons, List.all_nil, hK.one]
   rfl
  obtain ⟨nvs, hon, hmp, hkk2⟩ := hP
  have hnl : nvs.length = k := by rw [← List.length_map (f := NV.node), hmp, List.length_map, List.length_take]; omega
  subst hnl
  refine Sa ?_
  refine LW.append rfl rfl rfl rfl rfl rfl (hon.ext hx20) (by omega) hC rfl hnv rfl (by show (nvs.length + 1) * 137 ≤ 140737488355328; omega) rfl ?_
  intro v2 w21 hc21 hon2 hv21
  have e1 : (nvs.flatMap nvL ++ nvL ⟨moveBy goD own ss nd, kv⟩) = (nvs ++ [(⟨moveBy goD own ss nd, kv⟩ : NV)]).flatMap nvL := by simp
  have e2 : nvs.length + 1 = (nvs ++ [(⟨moveBy goD own ss nd, kv⟩ : NV)]).length := by simp
  rw [e1] at hon2
  obtain ⟨p4, c4, rfl⟩ := hon2.slice
  have hcc2 : Chg (vblk (.slice op nvs.length oc)) _ w21 := Chg.trans hx20 hc21
  have hS : ∀ b ∈ vblk (Value.slice op nvs.length oc), b ∈ vblk (Value.slice none 0 0) ∨ ∃ l T, Blk _ b l T ∧ T ≠ 3 := fun b hb => by
   obtain ⟨_, ⟨e, _⟩ | ⟨g, cap, sp, e, hg, _⟩⟩ := hon
   ·rw [e] at hb; simp [vblk] at hb
   ·rw [e] at hb
    simp [vblk] at hb
    subst hb
    exact .inr ⟨_, _, hg, by decide⟩
  have hx21' : Ext w w21 := hx10'.step hcc2 (fun b hb => (hon.lt hb).1)
  have ht1 : l.take (nvs.length + 1) = l.take nvs.length ++ [nd] := by rw [List.take_add_one, hnd]; rfl
  refine Sa ?_
  refine QW.again (nvs.length + 1, p4, c4) ⟨by show nvs.length + 1 ≤ _; omega, hx21', ?_⟩ ?_ (by show l.length - (nvs.length + 1) < l.length - nvs.length; omega)
  ·dsimp only
   rw [ht1]
   refine ⟨nvs ++ [⟨moveBy goD own ss nd, kv⟩], by rw [← e2]; exact hon2, by simp [hmp], fun x hx => ?_⟩
   rcases List.mem_append.1 hx with hx | hx
   ·exact ⟨(hkk2 x hx).1.chg (hkk2 x hx).2 hcc2 hS, (hkk2 x hx).2⟩
   ·simp at hx
    subst hx
    exact ⟨hK.chg (stv := .slice none 0 0) (by simp [vblk]) hcc2 hS, by simp [vblk]⟩
  ·exact (Sub.cons rfl (Sub.cons rfl (Sub.cons rfl (Sub.cons rfl (Sub.cons rfl (Sub.nil))))))
 ·have b1 : ¬ nd.ref.sheet = [] := by simpa using b1
  have en : nd.ref.sheet = nm := by rw [hnm, ownN, if_neg b1]
  refine Sa ?_
  refine CW.loop (ι := Nat) (fun j w' => j ≤ ss.length ∧ Ext w7 w' ∧ ∀ i u, i < j → ss[i]? = some u → u.sheet ≠ nm) (fun j => [(0, .slice (some a) l.length c), (1, str own), (2, .slice q ss.length qc), (7, .slice op k oc), (8, .int .i64 (k : Int)), (9, .pointer (some ⟨X, 0, none⟩)), (10, str nm), (11, .int .i64 (j : Int))]) (fun j => ss.length - j) 0 ⟨by omega, Chg.refl _ _, fun i u h => by omega⟩ (Sub.cons rfl (Sub.cons rfl (Sub.cons rfl (Sub.cons rfl (Sub.cons rfl (Sub.cons rfl (Sub.cons (by rw [← en]; rfl) (Sub.cons rfl Sub.nil)))))))) ?_
  clear en b1
  rintro j w8 ⟨hj, hx78, hno⟩
  have hx8' := hx7'.trans hx78
  replace hX := hX.ext hx78
  replace hP := hP.ext hx78
  replace hK : KidsOk w8 (.slice kp' nd.kids.length kc') nd.kids := hK.chg (stv := .slice none 0 0) (by simp [vblk]) hx78 (by simp)
  refine Sa ?_
  by_cases b2 : (j : Int) < (ss.length : Int)
  rotate_left
  ·refine LW.know (t := 40) (c := false) rfl (decide_eq_false b2) ?_
   have hm : moveBy goD own ss nd = nd := by
    by_cases hk5 : nd.kind = 5 ∨ nd.kind = 6
    ·rw [is56 hk5, ← hnm, idxS_find, idxS_none (fun i s hi hs => hno i s (by omega) hs)]
     rfl
    ·exact not56 (by omega) (by omega)
   have hx10' := hx8'
   obtain ⟨kv, hkve⟩ : ∃ kv, kv = Value.slice kp' nd.kids.length kc' := ⟨_, rfl⟩
   rw [← hkve] at hX hK
   rw [← hm] at hX hK
   clear hkve
   refine Sa ?_
   refine Lwl fun C w20 hbC hx20 hC => ?_
   replace hC : Blk w20 C (nvL ⟨moveBy goD own ss nd, kv⟩) 57 := hC
   have hx20' := hx10'.trans hx20
   have hz20 := hx20'.size
   have hnv : (nvL ⟨moveBy goD own ss nd, kv⟩).all (·.oneCell') = true := by
    simp only [nvL, List.all_cons, List.all_nil, hK.one]
    rfl
   obtain ⟨nvs, hon, hmp, hkk2⟩ := hP
   have hnl : nvs.length = k := by rw [← List.length_map (f := NV.node), hmp, List.length_map, List.length_take]; omega
   subst hnl
   refine Sa ?_
   refine LW.append rfl rfl rfl rfl rfl rfl (hon.ext hx20) (by omega) hC rfl hnv rfl (by show (nvs.length + 1) * 137 ≤ 140737488355328; omega) rfl ?_
   intro v2 w21 hc21 hon2 hv21
   have e1 : (nvs.flatMap nvL ++ nvL ⟨moveBy goD own ss nd, kv⟩) = (nvs ++ [(⟨moveBy goD own ss nd, kv⟩ : NV)]).flatMap nvL := by simp
   have e2 : nvs.length + 1 = (nvs ++ [(⟨moveBy goD own ss nd, kv⟩ : NV)]).length := by simp
   rw [e1] at hon2
   obtain ⟨p4, c4, rfl⟩ := hon2.slice
   have hcc2 : Chg (vblk (.slice op nvs.length oc)) _ w21 := Chg.trans hx20 hc21
   have hS : ∀ b ∈ vblk (Value.slice op nvs.length oc), b ∈ vblk (Value.slice none 0 0) ∨ ∃ l T, Blk _ b l T ∧ T ≠ 3 := fun b hb => by
    obtain ⟨_, ⟨e, _⟩ | ⟨g, cap, sp, e, hg, _⟩⟩ := hon
    ·rw [e] at hb; simp [vblk] at hb
    ·rw [e] at hb
     simp [vblk] at hb
     subst hb
     exact .inr ⟨_, _, hg, by decide⟩
   have hx21' : Ext w w21 := hx10'.step hcc2 (fun b hb => (hon.lt hb).1)
   have ht1 : l.take (nvs.length + 1) = l.take nvs.length ++ [nd] := by rw [List.take_add_one, hnd]; rfl
   refine Sa ?_
   refine QW.again (nvs.length + 1, p4, c4) ⟨by show nvs.length + 1 ≤ _; omega, hx21', ?_⟩ ?_ (by show l.length - (nvs.length + 1) < l.length - nvs.length; omega)
   ·dsimp only
    rw [ht1]
    refine ⟨nvs ++ [⟨moveBy goD own ss nd, kv⟩], by rw [← e2]; exact hon2, by simp [hmp], fun x hx => ?_⟩
    rcases List.mem_append.1 hx with hx | hx
    ·exact ⟨(hkk2 x hx).1.chg (hkk2 x hx).2 hcc2 hS, (hkk2 x hx).2⟩
    ·simp at hx
     subst hx
     exact ⟨hK.chg (stv := .slice none 0 0) (by simp [vblk]) hcc2 hS, by simp [vblk]⟩
   ·exact (Sub.cons rfl (Sub.cons rfl (Sub.cons rfl (Sub.cons rfl (Sub.cons rfl (Sub.nil))))))
  refine LW.know (t := 40) (c := true) rfl (decide_eq_true b2) ?_
  refine Sa ?_
  by_cases b3 : nd.kind = 5
  ·refine LW.know (t := 44) (c := true) rfl (decide_eq_true b3) ?_
   have hk5 : nd.kind = 5 ∨ nd.kind = 6 := .inl b3
   obtain ⟨s, hsj⟩ : ∃ s, ss[j]? = some s := ⟨_, List.getElem?_eq_getElem (by omega)⟩
   obtain ⟨sa, rp, rc, cp, cc, hq, hr, hc, hscell⟩ := h.at hsj
   subst hq
   have hmay := hss s (List.mem_of_getElem? hsj)
   have hsc0 : w8.cell? ((sa.add (((j : Nat) : Int).toNat * 6)).add 0) = some (str s.sheet) := by
    rw [show ((j : Nat) : Int).toNat = j by omega]
    exact cell_ext hx8' (hscell 0 _ rfl)
   have hsc' : ∀ w', Ext w w' → ∀ i u, (shL s (.slice rp s.rows.to.length rc) (.slice cp s.cols.to.length cc))[i]? = some u → w'.cell? ((sa.add (((j : Nat) : Int).toNat * 6)).add i) = some u := fun w' hw i u hi => by
    rw [show ((j : Nat) : Int).toNat = j by omega]
    exact cell_ext hw (hscell i u hi)
   refine Sa ?_
   refine Lo ?_
   refine Ln ?_
   refine Lp hsc0 ?_
   refine Sa ?_
   refine Cwc (fun b5 => ?_) fun b5 => ?_
   rotate_left
   ·have b5 : s.sheet ≠ nm := by simpa using b5
    refine Sa ?_
    refine QW.again (j + 1) ⟨by omega, hx78, fun i u hi hu => ?_⟩ (Sub.cons rfl (Sub.cons rfl (Sub.cons rfl (Sub.cons rfl (Sub.cons rfl (Sub.cons rfl (Sub.cons rfl (Sub.cons rfl (Sub.nil))))))))) (by omega)
    rcases Nat.lt_or_ge i j with h4 | h4
    ·exact hno i u h4 hu
    ·obtain rfl : i = j := by omega
     rw [hsj] at hu
     obtain rfl := Option.some.inj hu
     exact b5
   have b5 : s.sheet = nm := by simpa using b5
   have hfind : findS ss (ownN own nd) = some s := by
    rw [← hnm, idxS_find, idxS_some hsj b5 hno]
    exact hsj
   have hm : moveBy goD own ss nd = goD s nd := by rw [is56 hk5, hfind]
   refine Sa ?_
   refine CW.drawHeld (fun w' => Ext w w') (fun w' h => hx8'.trans h) (by kernel_rfl) fun w9 hx9 => ?_
   refine HW.take 1 rfl rfl rfl rfl (fun w _ => Y.pure rfl) rfl (by kernel_rfl) (by kernel_rfl) (by kernel_rfl) (fun _ _ _ h => h) ?_
   refine HW.take 2 rfl rfl rfl rfl (fun w _ => Y.pure rfl) rfl (by kernel_rfl) (by kernel_rfl) (by kernel_rfl) (fun _ _ _ h => h) ?_
   refine HW.take 3 rfl rfl rfl rfl (fun w _ => Y.idx_addr rfl rfl rfl rfl rfl (by omega) (by omega)) rfl (by kernel_rfl) (by kernel_rfl) (by kernel_rfl) (fun _ _ _ h => h) ?_
   refine HW.take 4 rfl rfl rfl rfl (fun w' hw => Y.load_cells (cs := shL s (.slice rp s.rows.to.length rc) (.slice cp s.cols.to.length cc)) rfl (hsc' w' hw) rfl rfl rfl) rfl (by kernel_rfl) (by kernel_rfl) (by kernel_rfl) (fun _ _ _ h => h) ?_
   refine HW.one 0 (by kernel_rfl) rfl rfl (fun hS => ?_)
   replace hX := hX.ext hx9
   have hx9' := hx8'.trans hx9
   refine Lg ?_
   apply LW.nil
   refine QW.held hx9' ?_
   refine HW.one 5 (by kernel_rfl) rfl rfl (fun hS => ?_)
   refine LW.call0 rfl rfl (moved_ret s hmay nd hpn hk5 kp' nd.kids.length kc' rp cp rc cc w9 (hr.ext hx9') (hc.ext hx9')) ?_
   rintro v w10 ⟨⟨kv, rfl, hkv⟩, hx10⟩
   replace hX := hX.ext hx10
   have hx8_10 := hx9.trans hx10
   have hx10' := hx8'.trans hx8_10
   replace hP := hP.ext hx8_10
   replace hK : KidsOk w10 (.slice kp' nd.kids.length kc') nd.kids := hK.chg (stv := .slice none 0 0) (by simp [vblk]) hx8_10 (by simp)
   replace hK : KidsOk w10 kv (goD s nd).kids := by
    rcases hkv with ⟨rfl, e⟩ | ⟨rfl, e⟩
    ·rw [e]; exact hK
    ·exact .inl ⟨rfl, e⟩
   have hone : kv.oneCell' = true := hK.one
   apply LW.nil
   refine QW.held hx10' ?_
   refine HW.one 6 (by kernel_rfl) rfl rfl (fun hS => ?_)
   have hX1 := hX
   refine LW.store_all rfl rfl (by simp only [nvL, List.all_cons, List.all_nil, hone]; rfl) hX rfl rfl rfl ?_
   intro w11 hc11 hX
   replace hX : Blk w11 X (nvL ⟨goD s nd, kv⟩) 57 := hX
   replace hP := hP.chg hc11 (fun b hb => by have := hPlt b hb; simp; omega) (fun b hb => by
    simp only [List.mem_singleton] at hb
    subst hb
    exact .inr ⟨_, _, hX1, by decide⟩)
   replace hK : KidsOk w11 kv (goD s nd).kids := hK.chg (stv := .slice none 0 0) (by simp [vblk]) hc11 (fun b hb => by
    simp only [List.mem_singleton] at hb
    subst hb
    exact .inr ⟨_, _, hX1, by decide⟩)
   have hx10' : Ext w w11 := hx10'.step hc11 (by simp; omega)
   apply LW.nil
   refine QW.held hx10' ?_
   refine HW.done (by kernel_rfl) ?_
   rw [← hm] at hX hK
   clear hc11 hX1 hkv
   refine Sa ?_
   refine Lwl fun C w20 hbC hx20 hC => ?_
   replace hC : Blk w20 C (nvL ⟨moveBy goD own ss nd, kv⟩) 57 := hC
   have hx20' := hx10'.trans hx20
   have hz20 := hx20'.size
   have hnv : (nvL ⟨moveBy goD own ss nd, kv⟩).all (·.oneCell') = true := by
    simp only [nvL, List.all_cons, List.all_nil, hK.one]
    rfl
   obtain ⟨nvs, hon, hmp, hkk2⟩ := hP
   have hnl : nvs.length = k := by rw [← List.length_map (f := NV.node), hmp, List.length_map, List.length_take]; omega
   subst hnl
   refine Sa ?_
   refine LW.append rfl rfl rfl rfl rfl rfl (hon.ext hx20) (by omega) hC rfl hnv rfl (by show (nvs.length + 1) * 137 ≤ 140737488355328; omega) rfl ?_
   intro v2 w21 hc21 hon2 hv21
   have e1 : (nvs.flatMap nvL ++ nvL ⟨moveBy goD own ss nd, kv⟩) = (nvs ++ [(⟨moveBy goD own ss nd, kv⟩ : NV)]).flatMap nvL := by simp
   have e2 : nvs.length + 1 = (nvs ++ [(⟨moveBy goD own ss nd, kv⟩ : NV)]).length := by simp
   rw [e1] at hon2
   obtain ⟨p4, c4, rfl⟩ := hon2.slice
   have hcc2 : Chg (vblk (.slice op nvs.length oc)) _ w21 := Chg.trans hx20 hc21
   have hS : ∀ b ∈ vblk (Value.slice op nvs.length oc), b ∈ vblk (Value.slice none 0 0) ∨ ∃ l T, Blk _ b l T ∧ T ≠ 3 := fun b hb => by
    obtain ⟨_, ⟨e, _⟩ | ⟨g, cap, sp, e, hg, _⟩⟩ := hon
    ·rw [e] at hb; simp [vblk] at hb
    ·rw [e] at hb
     simp [vblk] at hb
     subst hb
     exact .inr ⟨_, _, hg, by decide⟩
   have hx21' : Ext w w21 := hx10'.step hcc2 (fun b hb => (hon.lt hb).1)
   have ht1 : l.take (nvs.length + 1) = l.take nvs.length ++ [nd] := by rw [List.take_add_one, hnd]; rfl
   refine Sa ?_
   refine QW.again (nvs.length + 1, p4, c4) ⟨by show nvs.length + 1 ≤ _; omega, hx21', ?_⟩ ?_ (by show l.length - (nvs.length + 1) < l.length - nvs.length; omega)
   ·dsimp only
    rw [ht1]
    refine ⟨nvs ++ [⟨moveBy goD own ss nd, kv⟩], by rw [← e2]; exact hon2, by simp [hmp], fun x hx => ?_⟩
    rcases List.mem_append.1 hx with hx | hx
    ·exact ⟨(hkk2 x hx).1.chg (hkk2 x hx).2 hcc2 hS, (hkk2 x hx).2⟩
    ·simp at hx
     subst hx
     exact ⟨hK.chg (stv := .slice none 0 0) (by simp [vblk]) hcc2 hS, by simp [vblk]⟩
   ·exact (Sub.cons rfl (Sub.cons rfl (Sub.cons rfl (Sub.cons rfl (Sub.cons rfl (Sub.nil))))))
  refine LW.know (t := 44) (c := false) rfl (decide_eq_false b3) ?_
  refine Sa ?_
  refine Cwc (fun b4 => ?_) fun b4 => ?_
  rotate_left
  ·have b4 : nd.kind ≠ 6 := by simpa using b4
   have hm : moveBy goD own ss nd = nd := not56 b3 b4
   have hx10' := hx8'
   obtain ⟨kv, hkve⟩ : ∃ kv, kv = Value.slice kp' nd.kids.length kc' := ⟨_, rfl⟩
   rw [← hkve] at hX hK
   rw [← hm] at hX hK
   clear hkve
   refine Sa ?_
   refine Lwl fun C w20 hbC hx20 hC => ?_
   replace hC : Blk w20 C (nvL ⟨moveBy goD own ss nd, kv⟩) 57 := hC
   have hx20' := hx10'.trans hx20
   have hz20 := hx20'.size
   have hnv : (nvL ⟨moveBy goD own ss nd, kv⟩).all (·.oneCell') = true := by
    simp only [nvL, List.all_cons, List.all_nil, hK.one]
    rfl
   obtain ⟨nvs, hon, hmp, hkk2⟩ := hP
   have hnl : nvs.length = k := by rw [← List.length_map (f := NV.node), hmp, List.length_map, List.length_take]; omega
   subst hnl
   refine Sa ?_
   refine LW.append rfl rfl rfl rfl rfl rfl (hon.ext hx20) (by omega) hC rfl hnv rfl (by show (nvs.length + 1) * 137 ≤ 140737488355328; omega) rfl ?_
   intro v2 w21 hc21 hon2 hv21
   have e1 : (nvs.flatMap nvL ++ nvL ⟨moveBy goD own ss nd, kv⟩) = (nvs ++ [(⟨moveBy goD own ss nd, kv⟩ : NV)]).flatMap nvL := by simp
   have e2 : nvs.length + 1 = (nvs ++ [(⟨moveBy goD own ss nd, kv⟩ : NV)]).length := by simp
   rw [e1] at hon2
   obtain ⟨p4, c4, rfl⟩ := hon2.slice
   have hcc2 : Chg (vblk (.slice op nvs.length oc)) _ w21 := Chg.trans hx20 hc21
   have hS : ∀ b ∈ vblk (Value.slice op nvs.length oc), b ∈ vblk (Value.slice none 0 0) ∨ ∃ l T, Blk _ b l T ∧ T ≠ 3 := fun b hb => by
    obtain ⟨_, ⟨e, _⟩ | ⟨g, cap, sp, e, hg, _⟩⟩ := hon
    ·rw [e] at hb; simp [vblk] at hb
    ·rw [e] at hb
     simp [vblk] at hb
     subst hb
     exact .inr ⟨_, _, hg, by decide⟩
   have hx21' : Ext w w21 := hx10'.step hcc2 (fun b hb => (hon.lt hb).1)
   have ht1 : l.take (nvs.length + 1) = l.take nvs.length ++ [nd] := by rw [List.take_add_one, hnd]; rfl
   refine Sa ?_
   refine QW.again (nvs.length + 1, p4, c4) ⟨by show nvs.length + 1 ≤ _; omega, hx21', ?_⟩ ?_ (by show l.length - (nvs.length + 1) < l.length - nvs.length; omega)
   ·dsimp only
    rw [ht1]
    refine ⟨nvs ++ [⟨moveBy goD own ss nd, kv⟩], by rw [← e2]; exact hon2, by simp [hmp], fun x hx => ?_⟩
    rcases List.mem_append.1 hx with hx | hx
    ·exact ⟨(hkk2 x hx).1.chg (hkk2 x hx).2 hcc2 hS, (hkk2 x hx).2⟩
    ·simp at hx
     subst hx
     exact ⟨hK.chg (stv := .slice none 0 0) (by simp [vblk]) hcc2 hS, by simp [vblk]⟩
   ·exact (Sub.cons rfl (Sub.cons rfl (Sub.cons rfl (Sub.cons rfl (Sub.cons rfl (Sub.nil))))))
  have b4 : nd.kind = 6 := by simpa using b4
  have hk5 : nd.kind = 5 ∨ nd.kind = 6 := .inr b4
  obtain ⟨s, hsj⟩ : ∃ s, ss[j]? = some s := ⟨_, List.getElem?_eq_getElem (by omega)⟩
  obtain ⟨sa, rp, rc, cp, cc, hq, hr, hc, hscell⟩ := h.at hsj
  subst hq
  have hmay := hss s (List.mem_of_getElem? hsj)
  have hsc0 : w8.cell? ((sa.add (((j : Nat) : Int).toNat * 6)).add 0) = some (str s.sheet) := by
   rw [show ((j : Nat) : Int).toNat = j by omega]
   exact cell_ext hx8' (hscell 0 _ rfl)
  have hsc' : ∀ w', Ext w w' → ∀ i u, (shL s (.slice rp s.rows.to.length rc) (.slice cp s.cols.to.length cc))[i]? = some u → w'.cell? ((sa.add (((j : Nat) : Int).toNat * 6)).add i) = some u := fun w' hw i u hi => by
   rw [show ((j : Nat) : Int).toNat = j by omega]
   exact cell_ext hw (hscell i u hi)
  refine Sa ?_
  refine Lo ?_
  refine Ln ?_
  refine Lp hsc0 ?_
  refine Sa ?_
  refine Cwc (fun b5 => ?_) fun b5 => ?_
  rotate_left
  ·have b5 : s.sheet ≠ nm := by simpa using b5
   refine Sa ?_
   refine QW.again (j + 1) ⟨by omega, hx78, fun i u hi hu => ?_⟩ (Sub.cons rfl (Sub.cons rfl (Sub.cons rfl (Sub.cons rfl (Sub.cons rfl (Sub.cons rfl (Sub.cons rfl (Sub.cons rfl (Sub.nil))))))))) (by omega)
   rcases Nat.lt_or_ge i j with h4 | h4
   ·exact hno i u h4 hu
   ·obtain rfl : i = j := by omega
    rw [hsj] at hu
    obtain rfl := Option.some.inj hu
    exact b5
  have b5 : s.sheet = nm := by simpa using b5
  have hfind : findS ss (ownN own nd) = some s := by
   rw [← hnm, idxS_find, idxS_some hsj b5 hno]
   exact hsj
  have hm : moveBy goD own ss nd = goD s nd := by rw [is56 hk5, hfind]
  refine Sa ?_
  refine CW.drawHeld (fun w' => Ext w w') (fun w' h => hx8'.trans h) (by kernel_rfl) fun w9 hx9 => ?_
  refine HW.take 1 rfl rfl rfl rfl (fun w _ => Y.pure rfl) rfl (by kernel_rfl) (by kernel_rfl) (by kernel_rfl) (fun _ _ _ h => h) ?_
  refine HW.take 2 rfl rfl rfl rfl (fun w _ => Y.pure rfl) rfl (by kernel_rfl) (by kernel_rfl) (by kernel_rfl) (fun _ _ _ h => h) ?_
  refine HW.take 3 rfl rfl rfl rfl (fun w _ => Y.idx_addr rfl rfl rfl rfl rfl (by omega) (by omega)) rfl (by kernel_rfl) (by kernel_rfl) (by kernel_rfl) (fun _ _ _ h => h) ?_
  refine HW.take 4 rfl rfl rfl rfl (fun w' hw => Y.load_cells (cs := shL s (.slice rp s.rows.to.length rc) (.slice cp s.cols.to.length cc)) rfl (hsc' w' hw) rfl rfl rfl) rfl (by kernel_rfl) (by kernel_rfl) (by kernel_rfl) (fun _ _ _ h => h) ?_
  refine HW.one 0 (by kernel_rfl) rfl rfl (fun hS => ?_)
  replace hX := hX.ext hx9
  have hx9' := hx8'.trans hx9
  refine Lg ?_
  apply LW.nil
  refine QW.held hx9' ?_
  refine HW.one 5 (by kernel_rfl) rfl rfl (fun hS => ?_)
  refine LW.call0 rfl rfl (moved_ret s hmay nd hpn hk5 kp' nd.kids.length kc' rp cp rc cc w9 (hr.ext hx9') (hc.ext hx9')) ?_
  rintro v w10 ⟨⟨kv, rfl, hkv⟩, hx10⟩
  replace hX := hX.ext hx10
  have hx8_10 := hx9.trans hx10
  have hx10' := hx8'.trans hx8_10
  replace hP := hP.ext hx8_10
  replace hK : KidsOk w10 (.slice kp' nd.kids.length kc') nd.kids := hK.chg (stv := .slice none 0 0) (by simp [vblk]) hx8_10 (by simp)
  replace hK : KidsOk w10 kv (goD s nd).kids := by
   rcases hkv with ⟨rfl, e⟩ | ⟨rfl, e⟩
   ·rw [e]; exact hK
   ·exact .inl ⟨rfl, e⟩
  have hone : kv.oneCell' = true := hK.one
  apply LW.nil
  refine QW.held hx10' ?_
  refine HW.one 6 (by kernel_rfl) rfl rfl (fun hS => ?_)
  have hX1 := hX
  refine LW.store_all rfl rfl (by simp only [nvL, List.all_cons, List.all_nil, hone]; rfl) hX rfl rfl rfl ?_
  intro w11 hc11 hX
  replace hX : Blk w11 X (nvL ⟨goD s nd, kv⟩) 57 := hX
  replace hP := hP.chg hc11 (fun b hb => by have := hPlt b hb; simp; omega) (fun b hb => by
   simp only [List.mem_singleton] at hb
   subst hb
   exact .inr ⟨_, _, hX1, by decide⟩)
  replace hK : KidsOk w11 kv (goD s nd).kids := hK.chg (stv := .slice none 0 0) (by simp [vblk]) hc11 (fun b hb => by
   simp only [List.mem_singleton] at hb
   subst hb
   exact .inr ⟨_, _, hX1, by decide⟩)
  have hx10' : Ext w w11 := hx10'.step hc11 (by simp; omega)
  apply LW.nil
  refine QW.held hx10' ?_
  refine HW.done (by kernel_rfl) ?_
  rw [← hm] at hX hK
  clear hc11 hX1 hkv
  refine Sa ?_
  refine Lwl fun C w20 hbC hx20 hC => ?_
  replace hC : Blk w20 C (nvL ⟨moveBy goD own ss nd, kv⟩) 57 := hC
  have hx20' := hx10'.trans hx20
  have hz20 := hx20'.size
  have hnv : (nvL ⟨moveBy goD own ss nd, kv⟩).all (·.oneCell') = true := by
   simp only [nvL, List.all_cons, List.all_nil, hK.one]
   rfl
  obtain ⟨nvs, hon, hmp, hkk2⟩ := hP
  have hnl : nvs.length = k := by rw [← List.length_map (f := NV.node), hmp, List.length_map, List.length_take]; omega
  subst hnl
  refine Sa ?_
  refine LW.append rfl rfl rfl rfl rfl rfl (hon.ext hx20) (by omega) hC rfl hnv rfl (by show (nvs.length + 1) * 137 ≤ 140737488355328; omega) rfl ?_
  intro v2 w21 hc21 hon2 hv21
  have e1 : (nvs.flatMap nvL ++ nvL ⟨moveBy goD own ss nd, kv⟩) = (nvs ++ [(⟨moveBy goD own ss nd, kv⟩ : NV)]).flatMap nvL := by simp
  have e2 : nvs.length + 1 = (nvs ++ [(⟨moveBy goD own ss nd, kv⟩ : NV)]).length := by simp
  rw [e1] at hon2
  obtain ⟨p4, c4, rfl⟩ := hon2.slice
  have hcc2 : Chg (vblk (.slice op nvs.length oc)) _ w21 := Chg.trans hx20 hc21
  have hS : ∀ b ∈ vblk (Value.slice op nvs.length oc), b ∈ vblk (Value.slice none 0 0) ∨ ∃ l T, Blk _ b l T ∧ T ≠ 3 := fun b hb => by
   obtain ⟨_, ⟨e, _⟩ | ⟨g, cap, sp, e, hg, _⟩⟩ := hon
   ·rw [e] at hb; simp [vblk] at hb
   ·rw [e] at hb
    simp [vblk] at hb
    subst hb
    exact .inr ⟨_, _, hg, by decide⟩
  have hx21' : Ext w w21 := hx10'.step hcc2 (fun b hb => (hon.lt hb).1)
  have ht1 : l.take (nvs.length + 1) = l.take nvs.length ++ [nd] := by rw [List.take_add_one, hnd]; rfl
  refine Sa ?_
  refine QW.again (nvs.length + 1, p4, c4) ⟨by show nvs.length + 1 ≤ _; omega, hx21', ?_⟩ ?_ (by show l.length - (nvs.length + 1) < l.length - nvs.length; omega)
  ·dsimp only
   rw [ht1]
   refine ⟨nvs ++ [⟨moveBy goD own ss nd, kv⟩], by rw [← e2]; exact hon2, by simp [hmp], fun x hx => ?_⟩
   rcases List.mem_append.1 hx with hx | hx
   ·exact ⟨(hkk2 x hx).1.chg (hkk2 x hx).2 hcc2 hS, (hkk2 x hx).2⟩
   ·simp at hx
    subst hx
    exact ⟨hK.chg (stv := .slice none 0 0) (by simp [vblk]) hcc2 hS, by simp [vblk]⟩
  ·exact (Sub.cons rfl (Sub.cons rfl (Sub.cons rfl (Sub.cons rfl (Sub.cons rfl (Sub.nil))))))
end Go.Proofs.YtiaigmahdjhcoaaGreatDoor
namespace Go.Proofs.YtiaigmahdjhcoaaGreatDoor
open Go Go.E
theorem May.fine {s : ShD} (h : s.May) : s.Fine := ⟨mayM_fine h.1, mayM_fine h.2⟩
theorem moved_len {own : List UInt8} {ss : List ShD} (hss : ∀ s ∈ ss, s.May) {l : List NodeD} (hsh : Short l) (hno : NumOk l) (hl : l.length ≤ 100000) (hk : ∀ n ∈ l, n.kids.length ≤ 100000) :
  Short (moveL goN own ss l) ∧ NumOk (moveL goN own ss l) ∧ (∀ n ∈ moveL goN own ss l, n.kids.length ≤ 100000) ∧ (printT (moveL goN own ss l)).length ≤ 400000000 := by
 obtain ⟨h1, h2, h3, h4⟩ := moved_facts (own := own) hss hsh hno 100000 hk
 have ht : moveL goN own ss l = [] ∨ treeB (moveL goN own ss l) = true := by
  by_cases h : treeB l = true
  ·obtain ⟨t, rfl, hf⟩ := tree_of h
   obtain ⟨e, hf'⟩ := moved_tree (own := own) hss hf
   rw [e]
   exact .inr (Tr.tree _ hf')
  ·exact .inl (by rw [moveL, if_neg h])
 exact ⟨h1, h2, h3, (made_facts h1 h2 (by omega) ht).2.1⟩
theorem moveTx_form {own : List UInt8} {ss : List ShD} {s : List UInt8} {l : List NodeD} (h1 : byte s 0 = 61) (h2 : s ≠ []) (h3 : mayC s = true) (h4 : parseT (s.drop 1) = .ok l) : moveTx own ss s = if 300 < (printT (moveL goN own ss l)).length + 1 then refT else 61 :: printT (moveL goN own ss l) := by
 rw [moveTx, if_pos ⟨h2, h1, h3⟩, h4]
 rfl
theorem moveTx_not {own : List UInt8} {ss : List ShD} {s : List UInt8} (h : s = [] ∨ byte s 0 ≠ 61 ∨ mayC s = false) : moveTx own ss s = s := by
 rw [moveTx, if_neg]
 rintro ⟨h1, h2, h3⟩
 rcases h with h | h | h
 ·exact h1 h
 ·exact h h2
 ·rw [h] at h3; cases h3
theorem mvText_ret (s own : List UInt8) (ss : List ShD) (sv : Value) (hs : s.length ≤ 9223372036854775807) (w : World) (g : Glob w) (h : ShiftsR w sv ss) (hss : ∀ s ∈ ss, s.May) : Ret Tryz.prog 31 [str s, str own, sv] w (fun v w' => v = str (moveTx own ss s) ∧ Ext w w') := by
 refine Ret.enter Tryz.func31 rfl Tryz.ntmps31 (by kernel_rfl) rfl ?_
 refine Sa ?_
 refine LW.call0 rfl rfl (Formula_ret s hs w g) ?_
 rintro v w1 ⟨hv, hx⟩
 rcases hv with ⟨l, nv, rfl, h1, h2, h3, h4, hN⟩ | ⟨rfl, hno⟩
 ·obtain ⟨_, f1, f2, f3, f4⟩ := parse_facts h4
  have hpi : PIs (s.drop 1) l 0 := .inl ⟨h4, rfl⟩
  obtain ⟨m1, m2, m3, m4⟩ := moved_len (own := own) hss f2 hpi.num (by omega) (fun n hn => by have := f4 n hn; omega)
  refine Sa ?_
  refine LW.call0 rfl rfl (Nodes_ret l nv own ss sv w1 (g.ext hx) hN f2.t (h.ext hx) (fun s hs => May.fine (hss s hs))) ?_
  rintro v w2 ⟨hN2, hx2⟩
  have hx2' := hx.trans hx2
  refine Sa ?_
  refine LW.call0 rfl rfl (Print_ret _ v w2 (g.ext hx2') hN2 m1 m2) ?_
  rintro v w3 ⟨rfl, hx3⟩
  have hx3' := hx2'.trans hx3
  rw [moveTx_form h1 h2 h3 h4]
  refine Sa ?_
  refine Cwc (fun q1 => ?_) fun q1 => ?_
  ·have q1 : 300 < (printT (moveL goN own ss l)).length + 1 := by simp at q1; omega
   rw [if_pos q1]
   refine Sa ?_
   exact QW.body1 Tryz.results31 rfl ⟨rfl, hx3'⟩
  ·have q1 : ¬ 300 < (printT (moveL goN own ss l)).length + 1 := by simp at q1; omega
   rw [if_neg q1]
   refine Sa ?_
   exact QW.body1 Tryz.results31 rfl ⟨rfl, hx3'⟩
 ·rw [moveTx_not hno]
  refine Sa ?_
  exact QW.body1 Tryz.results31 rfl ⟨rfl, hx⟩
theorem rmvText_ret (s own : List UInt8) (ss : List ShD) (sv : Value) (hs : s.length ≤ 9223372036854775807) (w : World) (h : ShiftsR w sv ss) (hss : ∀ s ∈ ss, s.May) : Ret Tryz.prog 32 [str s, str own, sv] w (fun v w' => v = str (moveTx own ss s) ∧ Ext w w') := by
 refine Ret.enter Tryz.func32 rfl Tryz.ntmps32 (by kernel_rfl) rfl ?_
 refine Sa ?_
 refine LW.call0 rfl rfl (rFormula_ret s hs w) ?_
 rintro v w1 ⟨hv, hx⟩
 rcases hv with ⟨l, nv, rfl, h1, h2, h3, h4, hN⟩ | ⟨rfl, hno⟩
 ·obtain ⟨_, f1, f2, f3, f4⟩ := parse_facts h4
  have hpi : PIs (s.drop 1) l 0 := .inl ⟨h4, rfl⟩
  obtain ⟨m1, m2, m3, m4⟩ := moved_len (own := own) hss f2 hpi.num (by omega) (fun n hn => by have := f4 n hn; omega)
  refine Sa ?_
  refine LW.call0 rfl rfl (rNodes_ret l nv own ss sv w1 hN f2.t (fun n hn => by have := f4 n hn; omega) (h.ext hx) hss) ?_
  rw [← moveL_eq hss l]
  rintro v w2 ⟨hN2, hx2⟩
  have hx2' := hx.trans hx2
  refine Sa ?_
  refine LW.call0 rfl rfl (rPrint_ret _ v w2 hN2 m1 (fun n hn => by have := m3 n hn; omega) m2) ?_
  rintro v w3 ⟨rfl, hx3⟩
  have hx3' := hx2'.trans hx3
  rw [moveTx_form h1 h2 h3 h4]
  refine Sa ?_
  refine Cwc (fun q1 => ?_) fun q1 => ?_
  ·have q1 : 300 < (printT (moveL goN own ss l)).length + 1 := by simp at q1; omega
   rw [if_pos q1]
   refine Sa ?_
   exact QW.body1 Tryz.results32 rfl ⟨rfl, hx3'⟩
  ·have q1 : ¬ 300 < (printT (moveL goN own ss l)).length + 1 := by simp at q1; omega
   rw [if_neg q1]
   refine Sa ?_
   exact QW.body1 Tryz.results32 rfl ⟨rfl, hx3'⟩
 ·rw [moveTx_not hno]
  refine Sa ?_
  exact QW.body1 Tryz.results32 rfl ⟨rfl, hx⟩
end Go.Proofs.YtiaigmahdjhcoaaGreatDoor
namespace Go.Proofs.YtiaigmahdjhcoaaGreatDoor
open Go Go.E
def rangeZ (k : Nat) (f : Nat → Int) : List Int := (List.range k).map f
theorem rangeZ_len (k : Nat) (f : Nat → Int) : (rangeZ k f).length = k := by simp [rangeZ]
theorem rangeZ_get {k : Nat} {f : Nat → Int} {j : Nat} (h : j < k) : (rangeZ k f).getD j 0 = f j := by
 simp [rangeZ, List.getD_eq_getElem?_getD, h]
theorem rangeZ_snoc (k : Nat) (f : Nat → Int) : rangeZ (k + 1) f = rangeZ k f ++ [f k] := by simp [rangeZ, List.range_succ]
theorem rangeZ_set {k : Nat} {f g : Nat → Int} {j : Nat} (hg : ∀ i, i < k → g i = if i = j then g j else f i) : (icells (rangeZ k f)).set j (.int .i64 (g j)) = icells (rangeZ k g) := by
 apply List.ext_getElem?
 intro i
 rw [List.getElem?_set]
 simp only [icells, List.getElem?_map, rangeZ, List.length_map, List.length_range]
 by_cases hi : i < k
 ·have := hg i hi
  by_cases hj : j = i
  ·subst hj
   simp [hi]
  ·rw [if_neg (fun h => hj h.symm)] at this
   simp [hj, hi, this]
 ·by_cases hj : j = i
  ·subst hj
   simp [hi]
  ·simp [hj, hi]
def sameM (k : Nat) : MapD := ⟨rangeZ k fun i => i, k⟩
def insF (a : Nat) (i : Nat) : Int := if i < a then i else i + 1
def insM (k a : Nat) : MapD := ⟨rangeZ k (insF a), k + 1⟩
def delF (a : Nat) (i : Nat) : Int := if i < a then i else if i = a then -1 else i - 1
def delM (k a : Nat) : MapD := ⟨rangeZ k (delF a), k - 1⟩
theorem riseB_of (new : Int) : ∀ (l : List Int) (last : Int), (∀ j, j < l.length → l.getD j 0 = -1 ∨ (last < l.getD j 0 ∧ l.getD j 0 < new ∧ ∀ i, i < j → l.getD i 0 < l.getD j 0)) → riseB new last l = true
 | [], _, _ => rfl
 | z :: r, last, h => by
  rw [riseB]
  have h0 := h 0 (by simp)
  simp only [List.getD_cons_zero] at h0
  by_cases hz : z = -1
  ·rw [if_pos hz]
   refine riseB_of new r last fun j hj => ?_
   have := h (j + 1) (by simpa using hj)
   simp only [List.getD_cons_succ] at this
   rcases this with h1 | ⟨h1, h2, h3⟩
   ·exact .inl h1
   ·exact .inr ⟨h1, h2, fun i hi => by have := h3 (i + 1) (by omega); simpa using this⟩
  ·rw [if_neg hz, if_neg (by rcases h0 with h0 | ⟨h1, h2, _⟩ <;> omega)]
   refine riseB_of new r z fun j hj => ?_
   have := h (j + 1) (by simpa using hj)
   simp only [List.getD_cons_succ] at this
   rcases this with h1 | ⟨h1, h2, h3⟩
   ·exact .inl h1
   ·refine .inr ⟨?_, h2, fun i hi => by have := h3 (i + 1) (by omega); simpa using this⟩
    have := h3 0 (by omega)
    simpa using this
theorem mayM_of {m : MapD} (h0 : 0 ≤ m.new) (h1 : m.new ≤ 1048576) (h2 : m.to.length ≤ 1048576) (h : ∀ j, j < m.to.length → m.to.getD j 0 = -1 ∨ (0 ≤ m.to.getD j 0 ∧ m.to.getD j 0 < m.new ∧ ∀ i, i < j → m.to.getD i 0 < m.to.getD j 0)) : mayM m = true := by
 rw [mayM, decide_eq_true h0, decide_eq_true h1, decide_eq_true h2, riseB_of]
 ·rfl
 ·intro j hj
  rcases h j hj with h | ⟨a, b, c⟩
  ·exact .inl h
  ·exact .inr ⟨by omega, b, c⟩
theorem same_may {k : Nat} (h : k ≤ 1000000) : mayM (sameM k) = true := by
 refine mayM_of (by simp [sameM]) (by simp only [sameM]; omega) (by simp only [sameM, rangeZ_len]; omega) fun j hj => ?_
 simp only [sameM, rangeZ_len] at hj ⊢
 rw [rangeZ_get hj]
 exact .inr ⟨by omega, by omega, fun i hi => by rw [rangeZ_get (by omega)]; omega⟩
theorem ins_may {k a : Nat} (h : k ≤ 1000000) : mayM (insM k a) = true := by
 refine mayM_of (by simp only [insM]; omega) (by simp only [insM]; omega) (by simp only [insM, rangeZ_len]; omega) fun j hj => ?_
 simp only [insM, rangeZ_len] at hj ⊢
 rw [rangeZ_get hj]
 refine .inr ⟨by unfold insF; split <;> omega, by unfold insF; split <;> omega, fun i hi => ?_⟩
 rw [rangeZ_get (by omega)]
 unfold insF
 split <;> split <;> omega
def insX (k a : Nat) : MapD := if a ≤ k then insM k a else sameM k
def delX (k a : Nat) : MapD := if a < k then delM k a else sameM k
theorem insX_may {k a : Nat} (h : k ≤ 1000000) : mayM (insX k a) = true := by
 unfold insX; split
 ·exact ins_may h
 ·exact same_may h
theorem Own.ints {w : World} {lo : Nat} {v : Value} {zs : List Int} {n : Nat} (h : Own w lo 3 1 v n (icells zs)) (hn : zs.length = n) (hb : zs.length ≤ 100000000) : IntsR w v zs := by
 refine ⟨by omega, ?_⟩
 by_cases h0 : n = 0
 ·have hz : zs = [] := List.eq_nil_of_length_eq_zero (by omega)
  subst hz
  obtain ⟨_, ⟨e, e2⟩ | ⟨g, cap, sp, e, hg, _⟩⟩ := h
  ·exact .inl ⟨e, rfl⟩
  ·exact .inr ⟨_, cap, by rw [e, h0]; rfl, fun i z hz => by simp at hz⟩
 ·obtain ⟨g, cap, sp, rfl, hB, _⟩ := h.get (by omega)
  refine .inr ⟨_, cap, by rw [hn], fun i z hz => hB.getElem _ _ ?_⟩
  have hi : i < zs.length := (List.getElem?_eq_some_iff.1 hz).1
  rw [List.getElem?_append_left (by rw [icells_len]; exact hi)]
  exact icells_get hz
def MapO (w0 w : World) (v : Value) (m : MapD) : Prop := ∃ tv, v = .agg ⟨[tv, .int .i64 m.new]⟩ ∧ Own w w0.heap.size 3 1 tv m.to.length (icells m.to)
theorem MapO.map {w0 w : World} {v : Value} {m : MapD} (h : MapO w0 w v m) (hb : m.to.length ≤ 100000000) : ∃ p c, v = .agg ⟨[.slice p m.to.length c, .int .i64 m.new]⟩ ∧ IntsR w (.slice p m.to.length c) m.to := by
 obtain ⟨tv, rfl, ho⟩ := h
 obtain ⟨p, c, rfl⟩ := ho.slice
 exact ⟨p, c, rfl, Own.ints ho rfl hb⟩
theorem Same_ret (n : Nat) (hn : n ≤ 1000000) (w : World) : Ret Tryz.prog 37 [.int .i64 (n : Int)] w (fun v w' => MapO w w' v (sameM n) ∧ Ext w w') := by
 refine Ret.enter Tryz.func37 rfl Tryz.ntmps37 (by kernel_rfl) rfl ?_
 refine Sa ?_
 refine Lwa fun R w1 hbR hx1 hR => ?_
 have hz1 := hx1.size
 have hRlt := hR.lt
 refine Sa ?_
 refine LW.min2 rfl rfl rfl ?_
 rw [show (if (1048576 : Int) < (n : Int) then (1048576 : Int) else (n : Int)) = (n : Int) by rw [if_neg (by omega)]]
 refine Sa ?_
 refine LW.max2 rfl rfl rfl ?_
 rw [show (if (0 : Int) < (n : Int) then (n : Int) else 0) = (n : Int) by split <;> omega]
 refine Sa ?_
 refine Lwa fun M w2 hbM hx2 hM => ?_
 replace hR := hR.ext hx2
 have hz2 := hx2.size
 refine Sa ?_
 refine Lws fun w3 hc3 hM => ?_
 replace hM : Blk w3 M [.slice none 0 0, .int .i64 (n : Int)] 68 := hM
 replace hR : Blk w3 R [.slice none 0 0, .int .i64 0] 68 := hR.chg hc3 (by simp; omega)
 have hx3 : Ext w w3 := (hx1.trans hx2).step hc3 (by simp; omega)
 have hRM : R ≠ M := by omega
 refine Sa ?_
 refine CW.loop (ι := Nat × Option Addr × Nat) (fun x w' => x.1 ≤ n ∧ Ext w w' ∧ Blk w' R [.slice none 0 0, .int .i64 0] 68 ∧ Blk w' M [.slice x.2.1 x.1 x.2.2, .int .i64 (n : Int)] 68 ∧ Own w' w.heap.size 3 1 (.slice x.2.1 x.1 x.2.2) x.1 (icells (rangeZ x.1 fun i => (i : Int)))) (fun x => [(2, .pointer (some ⟨R, 0, none⟩)), (3, .int .i64 (n : Int)), (4, .pointer (some ⟨M, 0, none⟩)), (5, .int .i64 (x.1 : Int))]) (fun x => n - x.1) (0, none, 0) ⟨by simp, hx3, hR, hM, Own.nil _ _ _ _⟩ (Sub.cons rfl (Sub.cons rfl (Sub.cons rfl (Sub.cons rfl (Sub.nil))))) ?_
 clear hR hM hx3 hc3 hz1 hz2
 rintro ⟨i, p, c⟩ w4 ⟨hi, hx4, hR4, hM4, ho⟩
 dsimp only at hi hM4 ho
 show CW _ _ _ _ _ [(2, .pointer (some ⟨R, 0, none⟩)), (3, .int .i64 (n : Int)), (4, .pointer (some ⟨M, 0, none⟩)), (5, .int .i64 (i : Int))] _
 have hz4 := hx4.size
 refine Sa ?_
 refine Cwc (fun b => ?_) fun b => ?_
 rotate_left
 ·have b : i = n := by simp at b; omega
  subst b
  refine Sa ?_
  refine Lws fun w5 hc5 hR5 => ?_
  refine Sa ?_
  refine QW.body_c Tryz.results37 rfl hR5 rfl rfl rfl ⟨⟨_, rfl, ?_⟩, hx4.step hc5 (by simp; omega)⟩
  show Own _ _ _ _ _ (rangeZ i _).length _
  rw [rangeZ_len]
  exact ho.chg hc5 (fun b hb hm => absurd (by simp at hm; subst hm; exact Own.type ho hb hR4) (by decide))
 have b : i < n := by simp at b; omega
 refine Sa ?_
 refine Lwl fun B w5 hbB hx5 hB => ?_
 replace hB : Blk w5 B [.int .i64 (i : Int)] 3 := hB
 have hM5 := hM4.ext hx5
 have hR5 := hR4.ext hx5
 have ho5 := ho.ext hx5
 have hz5 := hx5.size
 refine Sa ?_
 refine LW.append rfl rfl rfl rfl rfl rfl ho5 (by omega) hB rfl rfl rfl (by show (i + 1) * 9 ≤ 140737488355328; omega) rfl ?_
 intro v' w6 hc6 ho6 hv6
 obtain ⟨p', c', rfl⟩ := ho6.slice
 have hM6 := hM5.chg hc6 (fun hm => absurd (Own.type ho5 hm hM5) (by decide))
 have hR6 := hR5.chg hc6 (fun hm => absurd (Own.type ho5 hm hR5) (by decide))
 have hx6 : Ext w w6 := (hx4.trans hx5).step hc6 (fun b hb => (ho5.lt hb).1)
 refine Sa ?_
 refine Lwt fun w7 hc7 hM7 => ?_
 replace hM7 : Blk w7 M [.slice p' (i + 1) c', .int .i64 (n : Int)] 68 := hM7
 have hR7 := hR6.chg hc7 (by simpa using hRM)
 have ho7 := ho6.chg hc7 (fun b hb hm => absurd (by simp at hm; subst hm; exact Own.type ho6 hb hM6) (by decide))
 have e : icells (rangeZ (i + 1) fun i => (i : Int)) = icells (rangeZ i fun i => (i : Int)) ++ [.int .i64 (i : Int)] := by rw [rangeZ_snoc]; simp [icells]
 rw [← e] at ho7
 refine Sa ?_
 exact QW.again (i + 1, p', c') ⟨b, hx6.step hc7 (by simp; omega), hR7, hM7, ho7⟩ (Sub.cons rfl (Sub.cons rfl (Sub.cons rfl (Sub.cons rfl (Sub.nil))))) (by show n - (i + 1) < n - i; omega)
theorem Own.cells1 {w : World} {lo e n : Nat} {v : Value} {xs : List Value} (h : Own w lo e 1 v n xs) (hn : 0 < n) : ∃ g cap sp, v = .slice (some ⟨g, 0, none⟩) n cap ∧ Blk w g (xs ++ sp) e ∧ lo ≤ g ∧ ∀ w' ys, ys.length = xs.length → Blk w' g (ys ++ sp) e → Own w' lo e 1 v n ys := by
 obtain ⟨hl, ⟨rfl, rfl⟩ | ⟨g, cap, sp, rfl, hB, h1, h2, h3⟩⟩ := h
 ·omega
 ·exact ⟨g, cap, sp, rfl, hB, h3, fun w' ys hy hB' => ⟨by omega, .inr ⟨g, cap, sp, rfl, hB', h1, h2, h3⟩⟩⟩
theorem rz_at {k : Nat} {f : Nat → Int} {sp : List Value} {j : Nat} (h : j < k) : (icells (rangeZ k f) ++ sp)[j]? = some (.int .i64 (f j)) := by
 rw [List.getElem?_append_left (by rw [icells_len, rangeZ_len]; exact h)]
 simp [icells, rangeZ, h]
theorem rz_blt {k : Nat} {f : Nat → Int} {sp : List Value} {j : Nat} (h : j < k) : Nat.blt j (icells (rangeZ k f) ++ sp).length = true := by
 rw [Nat.blt_eq, List.length_append, icells_len, rangeZ_len]
 omega
theorem rz_set {k : Nat} {f g : Nat → Int} {sp : List Value} {j : Nat} (h : j < k) (hg : ∀ i, i < k → g i = if i = j then g j else f i) : (icells (rangeZ k f) ++ sp).set j (.int .i64 (g j)) = icells (rangeZ k g) ++ sp := by
 rw [List.set_append_left _ _ (by rw [icells_len, rangeZ_len]; exact h), rangeZ_set hg]
theorem rz_ext {k : Nat} {f g : Nat → Int} (h : ∀ i, i < k → f i = g i) : rangeZ k f = rangeZ k g := List.map_congr_left fun i hi => h i (by simpa using hi)
set_option maxHeartbeats 1000000 in
theorem Ins_ret (n a : Nat) (hn : n ≤ 1000000) (w : World) : Ret Tryz.prog 39 [.int .i64 (n : Int), .int .i64 (a : Int)] w (fun v w' => MapO w w' v (insX n a) ∧ Ext w w') := by
 refine Ret.enter Tryz.func39 rfl Tryz.ntmps39 (by kernel_rfl) rfl ?_
 refine Sa ?_
 refine Lwa fun R w1 hbR hx1 hR => ?_
 replace hR : Blk w1 R [.slice none 0 0, .int .i64 0] 68 := hR
 have hz1 := hx1.size
 have hRlt := hR.lt
 refine Sa ?_
 refine LW.call0 rfl rfl (Same_ret n hn w1) ?_
 rintro v w2 ⟨⟨tv, rfl, ho⟩, hx2⟩
 replace ho : Own w2 w1.heap.size 3 1 tv n (icells (rangeZ n fun i => (i : Int))) := by
  have h : Own _ _ _ _ _ (rangeZ n _).length _ := ho
  rwa [rangeZ_len] at h
 replace ho := ho.low hz1
 obtain ⟨p, c, rfl⟩ := ho.slice
 have hlt2 : ∀ b ∈ vblk (Value.slice p n c), b < w2.heap.size := fun b hb => (ho.lt hb).2
 replace hR := hR.ext hx2
 have hz2 := hx2.size
 refine Sa ?_
 refine Lwa fun M w3 hbM hx3 hM => ?_
 replace hR := hR.ext hx3
 replace ho := ho.ext hx3
 refine Sa ?_
 refine Lws fun w4 hc4 hM => ?_
 replace hM : Blk w4 M [.slice p n c, .int .i64 (n : Int)] 68 := hM
 replace hR := hR.chg hc4 (by simp; omega)
 replace ho := ho.chg hc4 (fun b hb hm => by have := hlt2 b hb; simp at hm; omega)
 have hx4 : Ext w w4 := ((hx1.trans hx2).trans hx3).step hc4 (by simp; omega)
 have hRM : R ≠ M := by omega
 have hMw : w.heap.size ≤ M := by omega
 refine Sa ?_
 refine Cwc (fun b => ?_) fun b => ?_
 ·have b : n < a := by simp at b; omega
  have e : insX n a = sameM n := by rw [insX, if_neg (by omega)]
  rw [e]
  refine Sa ?_
  refine Lws fun w5 hc5 hR5 => ?_
  refine Sa ?_
  refine QW.body_c Tryz.results39 rfl hR5 rfl rfl rfl ⟨⟨_, rfl, ?_⟩, hx4.step hc5 (by simp; omega)⟩
  show Own _ _ _ _ _ (rangeZ n _).length _
  rw [rangeZ_len]
  exact ho.chg hc5 (fun b hb hm => absurd (by simp at hm; subst hm; exact Own.type ho hb hR) (by decide))
 have b : a ≤ n := by simp at b; omega
 have e : insX n a = insM n a := by rw [insX, if_pos b]
 rw [e]
 clear e
 refine Sa ?_
 refine Lwt fun w5 hc5 hM5 => ?_
 replace hM5 : Blk w5 M [.slice p n c, .int .i64 ((n : Int) + 1)] 68 := hM5
 have hR5 := hR.chg hc5 (by simpa using hRM)
 have ho5 := ho.chg hc5 (fun b hb hm => absurd (by simp at hm; subst hm; exact Own.type ho hb hM) (by decide))
 have hx5 := hx4.step hc5 (by simp; omega)
 clear hR hM ho hlt2
 refine Sa ?_
 refine CW.loop (ι := Nat) (fun j w' => a ≤ j ∧ j ≤ n ∧ Ext w w' ∧ Blk w' R [.slice none 0 0, .int .i64 0] 68 ∧ Blk w' M [.slice p n c, .int .i64 ((n : Int) + 1)] 68 ∧ Own w' w.heap.size 3 1 (.slice p n c) n (icells (rangeZ n fun i => if a ≤ i ∧ i < j then (i : Int) + 1 else (i : Int)))) (fun j => [(4, .pointer (some ⟨R, 0, none⟩)), (5, .pointer (some ⟨M, 0, none⟩)), (6, .int .i64 (j : Int))]) (fun j => n - j) (a) ⟨by omega, by omega, hx5, hR5, hM5, by rw [rz_ext (g := fun i => (i : Int)) (fun i hi => if_neg (by omega))]; exact ho5⟩ (Sub.cons rfl (Sub.cons rfl (Sub.cons rfl (Sub.nil)))) ?_
 clear hx5 hR5 hM5 ho5
 rintro j w6 ⟨j0, j1, hx6, hR6, hM6, ho6⟩
 refine Sa ?_
 refine Cwc (fun b1 => ?_) fun b1 => ?_
 rotate_left
 ·have b1 : j = n := by simp at b1; omega
  subst b1
  refine Sa ?_
  refine Lws fun w7 hc7 hR7 => ?_
  refine Sa ?_
  refine QW.body_c Tryz.results39 rfl hR7 rfl rfl rfl ⟨⟨_, rfl, ?_⟩, hx6.step hc7 (by simp; omega)⟩
  show Own _ _ _ _ _ (rangeZ j (insF a)).length (icells (rangeZ j (insF a)))
  rw [rangeZ_len, rz_ext (f := insF a) (g := fun i => if a ≤ i ∧ i < j then (i : Int) + 1 else (i : Int)) (fun i hi => by unfold insF; split <;> (try split) <;> (try split) <;> omega)]
  exact ho6.chg hc7 (fun b hb hm => absurd (by simp at hm; subst hm; exact Own.type ho6 hb hR6) (by decide))
 have b1 : j < n := by simp at b1; omega
 obtain ⟨g, cap, sp, hv, hB, hlo, hback⟩ := Own.cells1 ho6 (by omega)
 simp only [Value.slice.injEq] at hv
 obtain ⟨rfl, _, rfl⟩ := hv
 have hl : (icells (rangeZ n fun i => if a ≤ i ∧ i < j then (i : Int) + 1 else (i : Int)) ++ sp)[j]? = some (.int .i64 (j : Int)) := (rz_at b1).trans (by congr 2; exact if_neg (by omega))
 refine Sa ?_
 refine LW.idx_slice (j := j) rfl rfl rfl rfl rfl (by omega) (by omega) (by show 0 + ((j : Nat) : Int).toNat * 1 = j; omega) rfl ?_
 refine LW.load rfl hB hl rfl rfl rfl ?_
 refine Sa ?_
 refine LW.idx_slice (j := j) rfl rfl rfl rfl rfl (by omega) (by omega) (by show 0 + ((j : Nat) : Int).toNat * 1 = j; omega) rfl ?_
 refine LW.store (i := j) rfl rfl rfl hB (rz_blt b1) rfl rfl ?_
 intro w7 hc7 hB7
 have es : (icells (rangeZ n fun i => if a ≤ i ∧ i < j then (i : Int) + 1 else (i : Int)) ++ sp).set j (.int .i64 ((j : Int) + 1)) = icells (rangeZ n fun i => if a ≤ i ∧ i < j + 1 then (i : Int) + 1 else (i : Int)) ++ sp := (congrArg (fun z => (icells (rangeZ n fun i => if a ≤ i ∧ i < j then (i : Int) + 1 else (i : Int)) ++ sp).set j (Value.int .i64 z)) ((if_pos (show a ≤ j ∧ j < j + 1 by omega)).symm)).trans (rz_set (g := fun i => if a ≤ i ∧ i < j + 1 then (i : Int) + 1 else (i : Int)) b1 (fun i hi => by
  try dsimp only
  (repeat' split) <;> omega))
 rw [es] at hB7
 have ho7 := hback w7 _ (by rw [icells_len, icells_len, rangeZ_len, rangeZ_len]) hB7
 have hR7 := hR6.chg hc7 (fun hm => by simp at hm; subst hm; exact absurd (hR6.inj hB) (by decide))
 have hM7 := hM6.chg hc7 (fun hm => by simp at hm; subst hm; exact absurd (hM6.inj hB) (by decide))
 refine Sa ?_
 exact QW.again (j + 1) ⟨by omega, by omega, hx6.step hc7 (by simpa using hlo), hR7, hM7, ho7⟩ (Sub.cons rfl (Sub.cons rfl (Sub.cons rfl (Sub.nil)))) (by omega)
end Go.Proofs.YtiaigmahdjhcoaaGreatDoor
namespace Go.Proofs.YtiaigmahdjhcoaaGreatDoor
open Go Go.E Go.ChangeShapes Go.WideShapes Go.ChangeAt Go.RowKit Go.Joins Go.ChangeMaps
def exN (row : Int) : NodeD := { kind := 5, ref := ⟨[], 0, row, false, false⟩ }
theorem exN_print (row : Int) (h : plainB (exN row) = true) : printT [exN row] = (leafK (exN row)).flatMap tokT :=
 printT_of (t := .leaf (exN row)) ⟨by show (1 : Int) ≤ 5; omega, by show (5 : Int) ≤ 6; omega, rfl, h⟩
theorem ex12_parse : parseT [65, 50] = .ok [exN 1] := parseT_eval (n := 60) (isOk_eq (by decide +kernel))
theorem ex12_may : mayC [61, 65, 50] = true := by
 have e : printT [exN 1] = [65, 50] := (exN_print 1 (by decide +kernel)).trans (by decide +kernel)
 rw [mayC, if_neg (by decide), if_neg (by decide), if_pos (by decide)]
 show (match parseT [65, 50] with | .error _ => false | .ok l => decide (printT l = [65, 50])) = true
 rw [ex12_parse]
 simp only
 rw [e]
 rfl
def ex12S : List ShD := [⟨[65], insX 3 1, sameM 3, false⟩]
theorem ex12_move : moveL goN [65] ex12S [exN 1] = [exN 2] := by decide +kernel
theorem ex12 : moveTx [65] ex12S [61, 65, 50] = [61, 65, 51] := by
 have e : printT [exN 2] = [65, 51] := (exN_print 2 (by decide +kernel)).trans (by decide +kernel)
 rw [moveTx_form (by decide) (by simp) ex12_may ex12_parse, ex12_move, e]
 rfl
theorem ex12_all : ∀ s ∈ ex12S, s.May := fun s hs => by
 simp only [ex12S, List.mem_singleton] at hs
 subst hs
 exact ⟨insX_may (by omega), same_may (by omega)⟩
theorem shifts_one {w : World} {B : Nat} {s : ShD} {rv cv : Value} {T : TypeId} (h : Blk w B (shL s rv cv) T) (hr : IntsR w rv s.rows.to) (hc : IntsR w cv s.cols.to) : ShiftsR w (.slice (some ⟨B, 0, none⟩) 1 1) [s] := by
 refine ⟨by simp, .inr ⟨_, 1, rfl, fun i u hi => ?_⟩⟩
 match i, hi with
 | 0, hi =>
  obtain rfl : s = u := by simpa using hi
  refine ⟨rv, cv, hr, hc, fun j v hj => ?_⟩
  rw [Addr.add_add]
  exact h.getElem _ _ (by simpa using hj)
theorem awake12_ret (w : World) (g : Glob w) : Ret Tryz.prog 27 [] w (fun v w' => v = .bool true ∧ Ext w w') := by
 refine Ret.enter Tryz.func27 rfl Tryz.ntmps27 (by kernel_rfl) rfl ?_
 refine Sa ?_
 refine LW.call0 rfl rfl (Ins_ret 3 1 (by omega) w) ?_
 rintro v w1 ⟨hv, hx1⟩
 obtain ⟨p1, c1, rfl, hi1⟩ := hv.map (by decide)
 refine Sa ?_
 refine LW.call0 rfl rfl (Same_ret 3 (by omega) w1) ?_
 rintro v w2 ⟨hv, hx2⟩
 obtain ⟨p2, c2, rfl, hi2⟩ := hv.map (by decide)
 have hx2' := hx1.trans hx2
 refine Sa ?_
 refine Lwl fun B w3 hbB hx3 hB => ?_
 replace hB : Blk w3 B (shL ⟨[65], insX 3 1, sameM 3, false⟩ (.slice p1 (insX 3 1).to.length c1) (.slice p2 (sameM 3).to.length c2)) 71 := hB
 have hx3' := hx2'.trans hx3
 refine Sa ?_
 refine LW.call0 rfl rfl (mvText_ret [61, 65, 50] [65] ex12S _ (by simp) w3 (g.ext hx3') (shifts_one hB ((hi1.ext hx2).ext hx3) (hi2.ext hx3)) ex12_all) ?_
 rw [ex12]
 rintro v w4 ⟨rfl, hx4⟩
 refine Sa ?_
 exact QW.body1 Tryz.results27 rfl ⟨rfl, hx3'.trans hx4⟩
def ShiftsO (w : World) (v : Value) (l : List ShD) : Prop :=
 l.length ≤ 9223372036854775807 ∧ (∀ s ∈ l, s.sheet.length ≤ 9223372036854775807) ∧ (v = .slice none 0 0 ∧ l = [] ∨ ∃ a cap, v = .slice (some a) l.length cap ∧ ∀ i s, l[i]? = some s → ∃ rv cv, InS .i64 w rv s.rows.to ∧ InS .i64 w cv s.cols.to ∧ ∀ j u, (shL s rv cv)[j]? = some u → w.cell? ((a.add (i * 6)).add j) = some u)
theorem ShiftsO.ext {w w' : World} {v : Value} {l : List ShD} (h : ShiftsO w v l) (x : Ext w w') : ShiftsO w' v l := by
 obtain ⟨h0, h1, h | ⟨a, cap, e, h⟩⟩ := h
 ·exact ⟨h0, h1, .inl h⟩
 ·exact ⟨h0, h1, .inr ⟨a, cap, e, fun i s hi => let ⟨rv, cv, h1, h2, hc⟩ := h i s hi; ⟨rv, cv, h1.ext x, h2.ext x, fun j u hj => cell_ext x (hc j u hj)⟩⟩⟩
theorem ShiftsO.slice {w : World} {v : Value} {l : List ShD} (h : ShiftsO w v l) : ∃ p c, v = .slice p l.length c := by
 obtain ⟨h0, h1, ⟨rfl, rfl⟩ | ⟨a, cap, e, h⟩⟩ := h
 ·exact ⟨_, _, rfl⟩
 ·exact ⟨_, _, e⟩
theorem ShiftsO.at {w : World} {p : Option Addr} {c : Nat} {l : List ShD} (h : ShiftsO w (.slice p l.length c) l) {i : Nat} {s : ShD} (hi : l[i]? = some s) :
  ∃ a rp rc cp cc, p = some a ∧ InS .i64 w (.slice rp s.rows.to.length rc) s.rows.to ∧ InS .i64 w (.slice cp s.cols.to.length cc) s.cols.to ∧ ∀ j u, (shL s (.slice rp s.rows.to.length rc) (.slice cp s.cols.to.length cc))[j]? = some u → w.cell? ((a.add (i * 6)).add j) = some u := by
 obtain ⟨h0, h1, ⟨e, e2⟩ | ⟨a, cap, e, h⟩⟩ := h
 ·rw [e2] at hi; simp at hi
 ·simp only [Value.slice.injEq] at e
  obtain ⟨rv, cv, h1, h2, hc⟩ := h i s hi
  obtain ⟨rp, rc, rfl⟩ := h1.slice
  obtain ⟨cp, cc, rfl⟩ := h2.slice
  exact ⟨a, rp, rc, cp, cc, e.1, h1, h2, hc⟩
def Light (ss : List ShD) : Prop := ss.length ≤ 10 ∧ ∀ s ∈ ss, s.rows.to.length ≤ 100 ∧ s.cols.to.length ≤ 100
theorem ShiftsO.row {w : World} {v : Value} {l : List ShD} (h : ShiftsO w v l) (hl : Light l) : ShiftsR w v l := by
 obtain ⟨_, _, h | ⟨a, cap, e, h⟩⟩ := h
 ·exact ⟨by have := hl.1; omega, .inl h⟩
 ·refine ⟨by have := hl.1; omega, .inr ⟨a, cap, e, fun i s hi => ?_⟩⟩
  obtain ⟨rv, cv, h1, h2, hc⟩ := h i s hi
  obtain ⟨l1, l2⟩ := hl.2 s (List.mem_of_getElem? hi)
  exact ⟨rv, cv, ⟨by omega, h1.2⟩, ⟨by omega, h2.2⟩, hc⟩
section
variable {H : Type} {enc : TypeId × Value → H} {W : World} {base : Nat} {sp : Nat → Bool} {held : Bool}
instance : Inhabited ShD := ⟨⟨[], ⟨[], 0⟩, ⟨[], 0⟩, false⟩⟩
end
end Go.Proofs.YtiaigmahdjhcoaaGreatDoor
namespace Go.Proofs.YtiaigmahdjhcoaaGreatDoor
open Go Go.E
theorem same_img {k : Nat} {i : Nat} : imgM (sameM k) (i : Int) = i := by
 by_cases h : i < k
 ·rw [img_at (by simp only [sameM, rangeZ_len]; exact h)]
  simp only [sameM]
  rw [rangeZ_get h]
 ·rw [img_out (by simp only [sameM, rangeZ_len]; omega)]
  simp only [sameM, rangeZ_len]
  omega
theorem same_all {k : Nat} : ∀ j, j < (sameM k).to.length → 0 ≤ (sameM k).to.getD j 0 := fun j hj => by
 simp only [sameM, rangeZ_len] at hj ⊢
 rw [rangeZ_get hj]
 omega
def Idle (ss : List ShD) (l : List NodeD) (own : List UInt8) : Prop := ∀ n ∈ l, n.kind = 5 ∨ n.kind = 6 → ∀ s, findS ss (ownN own n) = some s → goN s n = n
theorem form_print {t : List UInt8} {l : List NodeD} (hb : byte t 0 = 61) (h0 : t ≠ []) (hm : mayC t = true) (hp : parseT (t.drop 1) = .ok l) : 61 :: printT l = t ∧ t.length ≤ 300 := by
 unfold mayC at hm
 split at hm
 ·cases hm
 rename_i hl
 rw [if_neg (by rintro (h | h); exact h0 h; omega)] at hm
 rw [hp] at hm
 simp only [decide_eq_true_eq] at hm
 refine ⟨?_, by omega⟩
 rw [hm]
 cases t with
 | nil => exact absurd rfl h0
 | cons c r =>
  have : byte (c :: r) 0 = (c.toNat : Int) := rfl
  rw [this] at hb
  have hc : c = 61 := by
   apply UInt8.toNat_inj.1
   simp
   omega
  rw [hc]; rfl
def thenM (a b : MapD) : MapD := ⟨a.to.map (imgM b), b.new⟩
theorem ins_img {k a : Nat} {i : Nat} (ha : a ≤ k) : imgM (insM k a) (i : Int) = insF a i := by
 by_cases h : i < k
 ·rw [img_at (by simp only [insM, rangeZ_len]; exact h)]
  simp only [insM]
  rw [rangeZ_get h]
 ·rw [img_out (by simp only [insM, rangeZ_len]; omega)]
  simp only [insM, rangeZ_len]
  unfold insF
  rw [if_neg (by omega)]
  omega
theorem ins_all {k a : Nat} : ∀ j, j < (insM k a).to.length → 0 ≤ (insM k a).to.getD j 0 := fun j hj => by
 simp only [insM, rangeZ_len] at hj ⊢
 rw [rangeZ_get hj]
 unfold insF
 split <;> omega
theorem insF_nat (a i : Nat) : insF a i = ((if i < a then i else i + 1 : Nat) : Int) := by
 unfold insF
 split <;> rfl
theorem then_to {k a b : Nat} (hb : b ≤ k + 1) : thenM (insM k a) (insM (k + 1) b) = ⟨rangeZ k fun i => insF b (if i < a then i else i + 1), (k : Int) + 1 + 1⟩ := by
 unfold thenM
 congr 1
 simp only [insM, rangeZ, List.map_map]
 refine List.map_congr_left fun i hi => ?_
 show imgM _ (insF a i) = _
 rw [insF_nat, ← ins_img (k := k + 1) hb]
 rfl
theorem then_may {k a b : Nat} (hk : k ≤ 100000) (hb : b ≤ k + 1) : mayM (thenM (insM k a) (insM (k + 1) b)) = true := by
 rw [then_to hb]
 refine mayM_of (by show (0 : Int) ≤ (k : Int) + 1 + 1; omega) (by show (k : Int) + 1 + 1 ≤ 1048576; omega) (by simp only [rangeZ_len]; omega) fun j hj => ?_
 simp only [rangeZ_len] at hj ⊢
 rw [rangeZ_get hj]
 refine .inr ⟨by unfold insF; split <;> omega, by unfold insF; (repeat' split) <;> omega, fun i hi => ?_⟩
 rw [rangeZ_get (by omega)]
 unfold insF
 (repeat' split) <;> omega
theorem then_all {k a b : Nat} (hb : b ≤ k + 1) : ∀ j, j < (thenM (insM k a) (insM (k + 1) b)).to.length → 0 ≤ (thenM (insM k a) (insM (k + 1) b)).to.getD j 0 := fun j hj => by
 rw [then_to hb] at hj ⊢
 simp only [rangeZ_len] at hj ⊢
 rw [rangeZ_get hj]
 unfold insF
 split <;> omega
theorem then_img {k a b : Nat} (ha : a ≤ k) (hb : b ≤ k + 1) (i : Nat) : imgM (thenM (insM k a) (insM (k + 1) b)) (i : Int) = imgM (insM (k + 1) b) (imgM (insM k a) (i : Int)) := by
 rw [ins_img ha, insF_nat, ins_img hb, then_to hb]
 by_cases h : i < k
 ·rw [img_at (by simp only [rangeZ_len]; exact h)]
  simp only
  rw [rangeZ_get h]
 ·rw [img_out (by simp only [rangeZ_len]; omega)]
  simp only [rangeZ_len]
  unfold insF
  rw [if_neg (by split <;> omega)]
  split <;> omega
structure Keep (m : MapD) : Prop where
 may : mayM m = true
 all : ∀ j, j < m.to.length → 0 ≤ m.to.getD j 0
theorem Keep.span {m : MapD} (h : Keep m) {lo hi : Int} (h0 : 0 ≤ lo) (hl : lo ≤ hi) : spanP m lo hi = (imgM m lo, imgM m hi, true) ∧ 0 ≤ imgM m lo ∧ imgM m lo ≤ imgM m hi := by
 obtain ⟨a, rfl⟩ := Int.eq_ofNat_of_zero_le h0
 obtain ⟨b, rfl⟩ := Int.eq_ofNat_of_zero_le (show 0 ≤ hi by omega)
 obtain ⟨h1, _, _, h4⟩ := mayM_spec h.may
 exact ⟨span_full h4 h1 h.all (by omega), img_ge h1 (h.all a), img_le h4 (by omega) (h.all b) (h.all a)⟩
theorem goN_keep {s : ShD} (hr : Keep s.rows) (hc : Keep s.cols) (hg : s.gone = false) {n : NodeD} (hp : plainB n = true) (hk : n.kind = 5 ∨ n.kind = 6) :
  goN s n = if 998 < imgM s.rows (lastN n).row ∨ 701 < imgM s.cols (lastN n).col then deadN else { n with ref := { n.ref with row := imgM s.rows n.ref.row, col := imgM s.cols n.ref.col }, to := if n.kind = 6 then { n.to with row := imgM s.rows n.to.row, col := imgM s.cols n.to.col } else n.to } := by
 have hb : 0 ≤ n.ref.row ∧ n.ref.row ≤ (lastN n).row ∧ 0 ≤ n.ref.col ∧ n.ref.col ≤ (lastN n).col := by
  rcases hk with hk | hk
  ·obtain ⟨h1, _⟩ := ref_plain hp hk
   obtain ⟨b1, b2, b3, b4, _⟩ := mayB_parts h1
   rw [lastN, if_pos hk]
   exact ⟨b3, Int.le_refl _, b1, Int.le_refl _⟩
  ·obtain ⟨h1, _, h3, _⟩ := range_plain hp hk
   obtain ⟨b1, b2, b3, b4, _⟩ := mayB_parts h1
   obtain ⟨q1, q2, q3⟩ := ranges_parts h3
   rw [lastN, if_neg (by omega)]
   exact ⟨b3, q3, b1, q2⟩
 obtain ⟨er, er0, er1⟩ := hr.span hb.1 hb.2.1
 obtain ⟨ec, ec0, ec1⟩ := hc.span hb.2.2.1 hb.2.2.2
 rw [goN, if_neg (by rw [hg]; simp)]
 have hiff : goneN s n ↔ (998 < imgM s.rows (lastN n).row ∨ 701 < imgM s.cols (lastN n).col) := by
  unfold goneN
  rw [er, ec]
  simp
 by_cases hh : 998 < imgM s.rows (lastN n).row ∨ 701 < imgM s.cols (lastN n).col
 ·rw [if_pos hh, if_pos (hiff.2 hh)]
 ·rw [if_neg hh, if_neg (fun h => hh (hiff.1 h))]
  unfold wentN
  rw [er, ec]
  by_cases h6 : n.kind = 6
  ·have hl : lastN n = n.to := by rw [lastN, if_neg (by omega)]
   rw [if_pos h6, if_pos h6, hl]
  ·rw [if_neg h6, if_neg h6]
end Go.Proofs.YtiaigmahdjhcoaaGreatDoor
