/-
  Walks: what the document tells of a text as a formula; whether two rows of nodes are one.
-/
import Derived.Test.YtiloogjageledaaGreatDoorRPar5
import Derived.Test.YtiloogjageledaaGreatDoorTree
namespace Go.Proofs.YtiloogjageledaaGreatDoor
open Go Go.E

/-- What the document tells. -/
def RResV (w : World) (lo : Nat) (v : Value) (o : Except Int (List NodeD)) : Prop := match o with
  | .error e => v = .agg ⟨[.slice none 0 0, .int .i64 e]⟩
  | .ok l => ∃ sv, v = .agg ⟨[sv, .int .i64 0]⟩ ∧ Nodes w lo sv l
theorem parseT_long {s : List UInt8} (h : 300 < s.length) : parseT s = .error 4 := by unfold parseT; rw [if_pos h]
theorem parseT_none {s : List UInt8} (h : ¬ 300 < s.length) (e : lexT s = none) : parseT s = .error 5 := by unfold parseT; rw [if_neg h, e]

theorem RParse_ret (s : List UInt8) (hs : s.length ≤ 9223372036854775807) (w : World) : Ret Tryz.prog 23 [str s] w (fun v w' => RResV w' w.heap.size v (parseT s) ∧ Ext w w') := by
  refine Ret.enter Tryz.func23 rfl Tryz.ntmps23 (by kernel_rfl) rfl ?_
  refine Sa ?_
  (apply LW.alloc; exact rfl; exact rfl; exact rfl; intro L w1 hbL hx1 hL)
  refine Sa ?_
  refine LW.call0 rfl rfl (rLex_ret s hs w1) ?_
  rintro v w2 ⟨hv, hx2⟩
  replace hL := hL.ext hx2
  have hx2' := hx1.trans hx2
  have hz1 := hx1.size
  have hLw : w.heap.size ≤ L := by omega
  by_cases hbig : 300 < s.length
  · rw [RLexV, if_pos hbig] at hv
    subst hv
    have hpt := parseT_long hbig
    refine Sa ?_
    (apply LW.alloc; exact rfl; exact rfl; exact rfl; intro K w3 hbK hx3 hK)
    replace hL := hL.ext hx3
    refine Sa ?_
    (apply LW.store_all; exact rfl; exact rfl; exact rfl; assumption; exact rfl; exact rfl; exact rfl; intro w4 hc4 hK)
    have hx4' : Ext w2 w4 := hx3.step hc4 (by simp; omega)
    replace hL := hL.chg hc4 (by simp; intro h; subst h; exact absurd (hL.inj (by assumption)) (by decide))
    refine Sa ?_
    (apply LW.store_all; exact rfl; exact rfl; exact rfl; assumption; exact rfl; exact rfl; exact rfl; intro w5 hc5 hL)
    refine Sa ?_
    refine QW.body_c Tryz.results23 rfl hL rfl rfl rfl ⟨by rw [hpt]; rfl, (hx2'.trans hx4').step hc5 (by simpa using hLw)⟩
  cases hlex : lexT s with
  | none =>
    rw [RLexV, if_neg hbig, hlex] at hv
    subst hv
    have hpt := parseT_none hbig hlex
    refine Sa ?_
    (apply LW.alloc; exact rfl; exact rfl; exact rfl; intro K w3 hbK hx3 hK)
    replace hL := hL.ext hx3
    refine Sa ?_
    (apply LW.store_all; exact rfl; exact rfl; exact rfl; assumption; exact rfl; exact rfl; exact rfl; intro w4 hc4 hK)
    have hx4' : Ext w2 w4 := hx3.step hc4 (by simp; omega)
    replace hL := hL.chg hc4 (by simp; intro h; subst h; exact absurd (hL.inj (by assumption)) (by decide))
    refine Sa ?_
    (apply LW.store_all; exact rfl; exact rfl; exact rfl; assumption; exact rfl; exact rfl; exact rfl; intro w5 hc5 hL)
    refine Sa ?_
    refine QW.body_c Tryz.results23 rfl hL rfl rfl rfl ⟨by rw [hpt]; rfl, (hx2'.trans hx4').step hc5 (by simpa using hLw)⟩
  | some T =>
  rw [RLexV, if_neg hbig, hlex] at hv
  obtain ⟨sv, rfl, hown⟩ := hv
  obtain ⟨k0, k1, k2⟩ := lexF_kinds _ s 0 (Nat.le_refl _) hlex
  have htl := lexT_len hlex
  obtain ⟨tb, tcap, tsp, rfl, hT, _⟩ := hown.get (List.length_pos_iff.2 k0)
  refine Sa ?_
  (apply LW.alloc; exact rfl; exact rfl; exact rfl; intro K w3 hbK hx3 hK)
  replace hL := hL.ext hx3
  replace hT := hT.ext hx3
  refine Sa ?_
  (apply LW.store_all; exact rfl; exact rfl; exact rfl; assumption; exact rfl; exact rfl; exact rfl; intro w4 hc4 hK)
  have hx4' : Ext w2 w4 := hx3.step hc4 (by simp; omega)
  have hx4 : Ext w w4 := hx2'.trans hx4'
  replace hL := hL.chg hc4 (by have := hL.lt; simp; intro h; subst h; exact absurd (hL.inj (by assumption)) (by decide))
  replace hT := hT.chg hc4 (by simp; intro h; subst h; exact absurd (hT.inj (by assumption)) (by decide))
  refine Sa ?_
  (apply LW.box; exact rfl; exact rfl; exact rfl; intro R w5 hbR hx5 hR)
  replace hL := hL.ext hx5
  obtain ⟨c, hc0⟩ : ∃ c : PCtx, c = ⟨T, tb, tcap, tsp, R, w4⟩ := ⟨_, rfl⟩
  have hc : c.Ok := by
    subst hc0
    exact ⟨hT, by show T.length ≤ 301; omega, k2, k1, by show w4.heap.size ≤ R; omega⟩
  have hcT : c.T = T := by rw [hc0]
  have hcR : c.rb = R := by rw [hc0]
  have hcw : c.w0 = w4 := by rw [hc0]
  have hcv : c.tokv = .slice (some ⟨tb, 0, none⟩) T.length tcap := by rw [hc0]; rfl
  have hct : c.tb = tb := by rw [hc0]
  have hcs : c.tsp = tsp := by rw [hc0]
  have hrd : Rq c [] w5 ⟨0, [], 0⟩ := by
    refine ⟨by rw [hcw]; exact hx5, by rw [hcT]; exact List.length_pos_iff.2 k0, by simp, by simp, .slice none 0 0, [], ?_, Own.nil _ _ _ _, rfl, by simp⟩
    rw [hcR, hcv]
    exact hR
  have hrow := (rreaders hc _ ⟨0, [], 0⟩ (Nat.le_refl _)).1 0 (by omega) w5 [] (by simp) hrd
  rw [hcR] at hrow
  refine Sa ?_
  refine LW.call0 rfl rfl hrow ?_
  rintro v w6 ⟨z, rfl, hf6, hres⟩
  replace hL := hf6.blk _ _ _ hL (by decide) (by decide)
  rcases hres with ⟨s1, a, rfl, hp, hr, g1, g2, g3⟩ | ⟨e, d, hp, hdd, hr⟩
  rotate_left
  · have hpt : parseT s = .error e := parseT_of (by omega) hlex (.inl (by rw [← hcT]; exact hp))
    obtain ⟨h0, he, i, outv, m, xs, hB, ho, hle⟩ := hr
    rw [hcR] at hB
    rw [hcw] at h0
    refine Sa ?_
    refine CW.draw (by kernel_rfl) (by kernel_rfl) ?_
    refine Sq ?_
    refine QL.know (t := 24) (c := false) rfl (by simp [he]) ?_
    refine Sq ?_
    refine QL.nil fun w7 hx7 => ?_
    replace hB := hB.ext hx7
    replace hL := hL.ext hx7
    replace h0 := h0.trans hx7
    refine Sa ?_
    try refine CW.yes rfl (by simp [he]) ?_
    refine Sa ?_
    (apply LW.store_all; exact rfl; exact rfl; exact rfl; assumption; exact rfl; exact rfl; exact rfl; intro w9 hc9 hL)
    refine Sa ?_
    refine QW.body_c Tryz.results23 rfl hL rfl rfl rfl ⟨by rw [hpt]; rfl, (hx4.trans h0).step hc9 (by simpa using hLw)⟩
  have hl := hr.len
  have hr0 := hr
  obtain ⟨h0, h1, h2, h3, outv, nvs, hB, ho, hm, hk⟩ := hr
  have hT6 := hc.tok.ext h0
  have hgt : c.T[s1.at_]? = some (tokAt c.T s1) := by simp only [tokAt, List.getD_eq_getElem?_getD, List.getElem?_eq_getElem h1, Option.getD_some]
  have hi0 : (c.T.flatMap tokL ++ c.tsp)[0 + s1.at_ * 9 + 0]? = some (.int .i64 (tokAt c.T s1).kind) := by
    rw [Nat.zero_add]
    exact flat_get tok_len c.T c.tsp s1.at_ _ 0 hgt (by decide)
  rw [hcR, hcv] at hB
  rw [hct] at hT6
  have hlen := hc.len
  have hTl : c.T.length = T.length := by rw [hcT]
  refine Sa ?_
  refine CW.draw (by kernel_rfl) (by kernel_rfl) ?_
  refine Sq ?_
  refine QL.know (t := 24) (c := true) rfl (by simp) ?_
  refine Sqz ?_
  refine QL.load (i := 0 + s1.at_ * 9 + 0) rfl hT6 hi0 rfl rfl rfl ?_
  refine Sqz ?_
  refine QL.nil fun w7 hx7 => ?_
  replace hB := hB.ext hx7
  replace hL := hL.ext hx7
  replace hr0 := hr0.ext hx7
  refine Sa ?_
  refine CW.cond rfl (fun hk0 => ?_) (fun hk0 => ?_)
  · have hk0 : (tokAt c.T s1).kind ≠ 0 := by simpa using hk0
    have hpt : parseT s = .error 5 := parseT_of (by omega) hlex (.inr ⟨rfl, s1, a, by rw [← hcT]; exact hp, by rw [← hcT]; exact hk0⟩)
    have hfail := rfail_ok hc hr0 5 (by decide)
    rw [hcR] at hfail
    refine Sa ?_
    refine LW.call0 rfl rfl hfail ?_
    rintro v w8 ⟨rfl, hr8, hf8⟩
    replace hL := hf8.blk _ _ _ hL (by decide) (by decide)
    obtain ⟨h0, he, i, outv, m, xs, hB, ho, hle⟩ := hr8
    rw [hcR] at hB
    rw [hcw] at h0
    refine Sa ?_
    try refine CW.yes rfl (by simp [he]) ?_
    refine Sa ?_
    (apply LW.store_all; exact rfl; exact rfl; exact rfl; assumption; exact rfl; exact rfl; exact rfl; intro w9 hc9 hL)
    refine Sa ?_
    refine QW.body_c Tryz.results23 rfl hL rfl rfl rfl ⟨by rw [hpt]; rfl, (hx4.trans h0).step hc9 (by simpa using hLw)⟩
  have hk0 : (tokAt c.T s1).kind = 0 := by simpa using hk0
  have hpt : parseT s = .ok s1.out := parseT_of (by omega) hlex ⟨s1, a, by rw [← hcT]; exact hp, by rw [← hcT]; exact hk0, rfl⟩
  have ho7 := ho.ext hx7
  rw [hcw] at ho7 h0
  obtain ⟨q1, q2, rfl⟩ := ho7.slice
  refine Sa ?_
  have hoL : ∀ b, b ∈ vblk (Value.slice q1 nvs.length q2) → b ∉ [L] := fun b hb h => by
    simp only [List.mem_singleton] at h
    subst h
    exact absurd (Own.type ho7 hb hL) (by decide)
  have hL0 := hL
  (apply LW.store_all; exact rfl; exact rfl; exact rfl; assumption; exact rfl; exact rfl; exact rfl; intro w8 hc8 hL)
  refine Sa ?_
  refine QW.body_c Tryz.results23 rfl hL rfl rfl rfl ⟨?_, (hx4.trans (h0.trans hx7)).step hc8 (by simpa using hLw)⟩
  rw [hpt]
  refine ⟨_, rfl, nvs, (ho7.chg hc8 hoL).low hx4.size, hm, fun x hx => ?_⟩
  have hkx := ((hk x hx).1.fq (.ext hx7))
  rcases hkx with e | ⟨g, cap, sp, e, hg⟩
  · exact .inl e
  · exact .inr ⟨g, cap, sp, e, hg.chg hc8 (fun hm => by simp at hm; subst hm; exact absurd (hg.inj hL0) (by decide))⟩
end Go.Proofs.YtiloogjageledaaGreatDoor
