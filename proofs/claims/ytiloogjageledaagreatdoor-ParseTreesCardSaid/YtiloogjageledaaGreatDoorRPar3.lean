/-
  Walks: the document's reader of a formula's tokens: references, calls, what operators stand between; all of them; a text as a formula.
-/
import Derived.Test.YtiloogjageledaaGreatDoorRPar2
import Derived.Test.YtiloogjageledaaGreatDoorShowS
namespace Go.Proofs.YtiloogjageledaaGreatDoor
open Go Go.E

/-- A node without kids. -/
theorem rput0_ok {c : PCtx} {X : List Nat} (hc : c.Ok) {w : World} {s : PSt} (h : Rq c X w s) (n : NodeD) (hn : n.kids = []) (hs : s.out.length + 1 ≤ s.at_) : Ret Tryz.prog 116 [.pointer (some ⟨c.rb, 0, none⟩), .agg ⟨nvL ⟨n, .slice none 0 0⟩⟩] w
    (fun v w' => v = .int .i64 s.out.length ∧ Rq c X w' (putS s n) ∧ Fq w w') :=
  rput_ok hc h ⟨n, .slice none 0 0⟩ (.inl ⟨rfl, hn⟩) (by simp [vblk]) hs

theorem rref_ret {c : PCtx} {X : List Nat} (hc : c.Ok) (s : PSt) (hk4 : (tokAt c.T s).kind = 4) (w : World) (h : Rq c X w s) :
    Ret Tryz.prog 189 [.pointer (some ⟨c.rb, 0, none⟩), .agg ⟨refL (tokAt c.T s).ref⟩] w (fun v w' => ∃ z, v = .int .i64 z ∧ Fq w w' ∧ (RG c X .prim s w' z ∨ RB c .prim s w')) := by
  have hlen := hc.len
  have hl := h.len
  obtain ⟨a0, a1, a2, a3, outv, nvs, hB, ho, hm, hk⟩ := h
  have hnx := rd_next hc a1 (by omega)
  refine Ret.enter Tryz.func189 rfl Tryz.ntmps189 (by kernel_rfl) rfl ?_
  refine Sa ?_
  (apply LW.box; exact rfl; exact rfl; exact rfl; intro A w1 hbA hx1 hA)
  replace hA : Blk w1 A (refL (tokAt c.T s).ref) 35 := hA
  have h1 : Rq c X w1 s := Rq.ext ⟨a0, a1, a2, a3, outv, nvs, hB, ho, hm, hk⟩ hx1
  obtain ⟨a0, a1, a2, a3, outv, nvs, hB, ho, hm, hk⟩ := h1
  have hB0 := hB
  refine Sa ?_
  (apply LW.store; exact rfl; exact rfl; exact rfl; assumption; exact rfl; exact rfl; exact rfl; intro w2 hc2 hB)
  replace hB : Blk w2 c.rb [c.tokv, .int .i64 (adv s).at_, .int .i64 (adv s).deep, .int .i64 0, outv] 110 := hB
  obtain ⟨h2, hf2⟩ := Rq.set hc (s := s) (s' := adv s) a0 ho hm hk hB0 hc2 hB rfl hnx a2 (by show s.out.length ≤ s.at_ + 1; omega)
  replace hA := hf2.blk _ _ _ hA (by decide) (by decide)
  have hf := (Fq.ext hx1).trans hf2
  refine Sa ?_
  refine LW.call0 rfl rfl (is_ok hc h2 [58]) ?_
  rintro v w3 ⟨rfl, hx3⟩
  replace h2 := h2.ext hx3
  replace hA := hA.ext hx3
  replace hf := hf.trans (.ext hx3)
  refine Sa ?_
  refine CW.cond rfl (fun hi => ?_) (fun hi => ?_)
  · have hi : isS c.T (adv s) [58] = false := by simpa using hi
    refine Sa ?_
    refine LW.call0 (vs := [.pointer (some ⟨c.rb, 0, none⟩), .agg ⟨nvL ⟨{ kind := 5, ref := (tokAt c.T s).ref }, .slice none 0 0⟩⟩]) rfl rfl (rput0_ok hc h2 { kind := 5, ref := (tokAt c.T s).ref } rfl (by show s.out.length + 1 ≤ s.at_ + 1; omega)) ?_
    rintro v w4 ⟨rfl, hr, hf4⟩
    refine Sa ?_
    exact QW.body1 Tryz.results189 rfl ⟨_, rfl, hf.trans hf4, .inl ⟨_, _, rfl, .pr_ref hk4 hi, hr, by show s.at_ < s.at_ + 1; omega, rfl, by simp [putS, adv]; omega⟩⟩
  have hi : isS c.T (adv s) [58] = true := by simpa using hi
  obtain ⟨a0, a1, a2, a3, outv, nvs, hB, ho, hm, hk⟩ := h2
  have hnx2 := rd_next hc a1 (by rw [(isS_kind hi).1]; decide)
  have hnx3 : s.at_ + 1 + 1 < c.T.length := hnx2
  have hB0 := hB
  refine Sa ?_
  (apply LW.store; exact rfl; exact rfl; exact rfl; assumption; exact rfl; exact rfl; exact rfl; intro w4 hc4 hB)
  replace hB : Blk w4 c.rb [c.tokv, .int .i64 (adv (adv s)).at_, .int .i64 (adv (adv s)).deep, .int .i64 0, outv] 110 := hB
  obtain ⟨h4, hf4⟩ := Rq.set hc (s := adv s) (s' := adv (adv s)) a0 ho hm hk hB0 hc4 hB rfl hnx2 a2 (by show s.out.length ≤ s.at_ + 1 + 1; omega)
  replace hA := hf4.blk _ _ _ hA (by decide) (by decide)
  replace hf := hf.trans hf4
  have hh4 := h4
  obtain ⟨a0, a1, a2, a3, outv, nvs, hB, ho, hm, hk⟩ := h4
  have hT := hc.tok.ext a0
  have hg : c.T[(adv (adv s)).at_]? = some (tokAt c.T (adv (adv s))) := by simp only [tokAt, List.getD_eq_getElem?_getD, List.getElem?_eq_getElem a1, Option.getD_some]
  unfold PCtx.tokv at hB
  refine Sa ?_
  refine CW.drawHeld (fun w' => Ext w4 w') (fun w' h => h) (by kernel_rfl) fun w5 hx5 => ?_
  refine Sh ?_
  refine HW.take 8 rfl rfl rfl rfl (fun w _ => Y.gs rfl ⟨by omega, by show (((s.at_ + 1 + 1 : Nat) : Int)) < _; omega⟩) rfl (by kernel_rfl) (by kernel_rfl) (by kernel_rfl) (fun _ _ _ h => h) ?_
  refine HW.take 9 rfl rfl rfl rfl (fun w hw => Y.load_agg (cs := tokL (tokAt c.T (adv (adv s)))) (i := 0 + (adv (adv s)).at_ * 9) rfl (hT.ext hw) rfl rfl rfl (by rw [Nat.zero_add]; exact flat_agg tok_len hg)) rfl (by kernel_rfl) (by kernel_rfl) (by kernel_rfl) (fun _ _ _ h => h) ?_
  refine HW.one 10 (by kernel_rfl) rfl rfl (fun hS => ?_)
  (apply LW.alloc; exact rfl; exact rfl; exact rfl; intro R w6 hbR hx6 hR)
  apply LW.nil
  refine QW.held (hS.trans hx6) ?_
  refine HW.one 11 (by kernel_rfl) rfl rfl (fun hS => ?_)
  (apply LW.store_all; exact rfl; exact rfl; exact rfl; assumption; exact rfl; exact rfl; exact rfl; intro w7 hc7 hR)
  replace hR : Blk w7 R (tokL (tokAt c.T (adv (adv s)))) 102 := hR
  have hx7 : Ext w4 w7 := (hx5.trans hx6).step hc7 (by simp; have := hx5.size; omega)
  apply LW.nil
  refine QW.held hx7 ?_
  refine HW.done (by kernel_rfl) ?_
  replace hh4 := hh4.ext hx7
  replace hA := hA.ext hx7
  replace hf := hf.trans (.ext hx7)
  refine Sa ?_
  have fin : ((tokAt c.T (adv (adv s))).kind ≠ 4 ∨ rangesB (tokAt c.T s).ref (tokAt c.T (adv (adv s))).ref = false) → ∀ w8, Re c w8 5 (adv (adv s)).deep (adv (adv s)).out.length → RG c X .prim s w8 0 ∨ RB c .prim s w8 := fun hn w8 hr =>
    .inr ⟨5, s.deep, .pr_norange hk4 hi hn, .inl rfl, Re.mono hr (by have := kc_le .prim s.deep; show s.out.length ≤ _; omega)⟩
  refine LW.part rfl rfl rfl (fun h5 => ?_) (fun h5 => ?_)
  · have h5 : (tokAt c.T (adv (adv s))).kind ≠ 4 := by simpa using h5
    refine Sa ?_
    refine LW.call0 rfl rfl (rfail_ok hc hh4 5 (by decide)) ?_
    rintro v w8 ⟨rfl, hr, hf8⟩
    refine Sa ?_
    exact QW.body1 Tryz.results189 rfl ⟨0, rfl, hf.trans hf8, fin (.inl h5) _ hr⟩
  have h5 : (tokAt c.T (adv (adv s))).kind = 4 := by simpa using h5
  refine Sa ?_
  refine LW.load_agg (cs := refL (tokAt c.T (adv (adv s))).ref) rfl hR rfl rfl rfl ⟨rfl, rfl, rfl, rfl, rfl, trivial⟩ rfl ?_
  refine Sa ?_
  refine LW.call0 rfl rfl (span_ret (tokAt c.T s).ref (tokAt c.T (adv (adv s))).ref w7) ?_
  rintro v w8 ⟨rfl, hx8⟩
  replace hh4 := hh4.ext hx8
  replace hA := hA.ext hx8
  replace hR := hR.ext hx8
  replace hf := hf.trans (.ext hx8)
  refine Sa ?_
  refine CW.cond rfl (fun h6 => ?_) (fun h6 => ?_)
  · have h6 : rangesB (tokAt c.T s).ref (tokAt c.T (adv (adv s))).ref = false := by simpa using h6
    refine Sa ?_
    refine LW.call0 rfl rfl (rfail_ok hc hh4 5 (by decide)) ?_
    rintro v w9 ⟨rfl, hr, hf9⟩
    refine Sa ?_
    exact QW.body1 Tryz.results189 rfl ⟨0, rfl, hf.trans hf9, fin (.inr h6) _ hr⟩
  have h6 : rangesB (tokAt c.T s).ref (tokAt c.T (adv (adv s))).ref = true := by simpa using h6
  obtain ⟨a0, a1, a2, a3, outv, nvs, hB, ho, hm, hk⟩ := hh4
  have hnx4 := rd_next hc a1 (by rw [h5]; decide)
  have hB0 := hB
  refine Sa ?_
  (apply LW.store; exact rfl; exact rfl; exact rfl; assumption; exact rfl; exact rfl; exact rfl; intro w9 hc9 hB)
  replace hB : Blk w9 c.rb [c.tokv, .int .i64 (adv (adv (adv s))).at_, .int .i64 (adv (adv (adv s))).deep, .int .i64 0, outv] 110 := hB
  obtain ⟨h9, hf9⟩ := Rq.set hc (s := adv (adv s)) (s' := adv (adv (adv s))) a0 ho hm hk hB0 hc9 hB rfl hnx4 a2 (by show s.out.length ≤ s.at_ + 1 + 1 + 1; omega)
  replace hA := hf9.blk _ _ _ hA (by decide) (by decide)
  replace hR := hf9.blk _ _ _ hR (by decide) (by decide)
  replace hf := hf.trans hf9
  refine Sa ?_
  refine LW.load_agg (cs := refL (tokAt c.T (adv (adv s))).ref) rfl hR rfl rfl rfl ⟨rfl, rfl, rfl, rfl, rfl, trivial⟩ rfl ?_
  refine Sa ?_
  refine LW.call0 (vs := [.pointer (some ⟨c.rb, 0, none⟩), .agg ⟨nvL ⟨{ kind := 6, ref := (tokAt c.T s).ref, to := (tokAt c.T (adv (adv s))).ref }, .slice none 0 0⟩⟩]) rfl rfl (rput0_ok hc h9 { kind := 6, ref := (tokAt c.T s).ref, to := (tokAt c.T (adv (adv s))).ref } rfl (by show s.out.length + 1 ≤ s.at_ + 1 + 1 + 1; omega)) ?_
  rintro v w10 ⟨rfl, hr, hf10⟩
  refine Sa ?_
  exact QW.body1 Tryz.results189 rfl ⟨_, rfl, hf.trans hf10, .inl ⟨_, _, rfl, .pr_range hk4 hi h5 h6, hr, by show s.at_ < s.at_ + 1 + 1 + 1; omega, rfl, by simp [putS, adv]; omega⟩⟩
end Go.Proofs.YtiloogjageledaaGreatDoor
