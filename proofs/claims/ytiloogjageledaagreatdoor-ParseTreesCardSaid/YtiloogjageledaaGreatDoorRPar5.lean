/-
  Walks: the document's reader of a formula's tokens: what operators stand between; all of them; a text as a formula.
-/
import Derived.Test.YtiloogjageledaaGreatDoorRPar4
namespace Go.Proofs.YtiloogjageledaaGreatDoor
open Go Go.E

theorem rprim_ret {c : PCtx} (hc : c.Ok) (s : PSt) (hE : ∀ s', s.at_ < s'.at_ → RC c 71 [.int .i64 0] (.lev 0) s') : RC c 162 [] .prim s := by
  intro w X hX h
  have hlen := hc.len
  have hrange := tok_kinds hc h.2.1
  have hl := h.len
  have hkp := kc_le .prim s.deep
  have h0 := h
  obtain ⟨a0, a1, a2, a3, outv, nvs, hB, ho, hm, hk⟩ := h0
  have hT := hc.tok.ext a0
  have hg : c.T[s.at_]? = some (tokAt c.T s) := by simp only [tokAt, List.getD_eq_getElem?_getD, List.getElem?_eq_getElem a1, Option.getD_some]
  have hB0 := hB
  unfold PCtx.tokv at hB
  refine Ret.enter Tryz.func162 rfl Tryz.ntmps162 (by kernel_rfl) rfl ?_
  refine Sa ?_
  refine CW.drawHeld (fun w' => Ext w w') (fun w' h => h) (by kernel_rfl) fun w5 hx5 => ?_
  refine Sh ?_
  refine HW.take 8 rfl rfl rfl rfl (fun w _ => Y.gs rfl ⟨by omega, by omega⟩) rfl (by kernel_rfl) (by kernel_rfl) (by kernel_rfl) (fun _ _ _ h => h) ?_
  refine HW.take 9 rfl rfl rfl rfl (fun w hw => Y.load_agg (cs := tokL (tokAt c.T s)) (i := 0 + s.at_ * 9) rfl (hT.ext hw) rfl rfl rfl (by rw [Nat.zero_add]; exact flat_agg tok_len hg)) rfl (by kernel_rfl) (by kernel_rfl) (by kernel_rfl) (fun _ _ _ h => h) ?_
  refine HW.one 10 (by kernel_rfl) rfl rfl (fun hS => ?_)
  (apply LW.alloc; exact rfl; exact rfl; exact rfl; intro R w6 hbR hx6 hR)
  apply LW.nil
  refine QW.held (hS.trans hx6) ?_
  refine HW.one 11 (by kernel_rfl) rfl rfl (fun hS => ?_)
  (apply LW.store_all; exact rfl; exact rfl; exact rfl; assumption; exact rfl; exact rfl; exact rfl; intro w7 hc7 hR)
  replace hR : Blk w7 R (tokL (tokAt c.T s)) 102 := hR
  have hx7 : Ext w w7 := (hx5.trans hx6).step hc7 (by simp; have := hx5.size; omega)
  apply LW.nil
  refine QW.held hx7 ?_
  refine HW.done (by kernel_rfl) ?_
  replace h := h.ext hx7
  have hf := Fq.ext hx7
  replace hX : ∀ b ∈ X, b < w7.heap.size := fun b hb => Nat.lt_of_lt_of_le (hX b hb) hx7.size
  refine Sa ?_
  refine LW.call0 rfl rfl (is_ok hc h [40]) ?_
  rintro v w8 ⟨rfl, hx8⟩
  replace h := h.ext hx8
  replace hR := hR.ext hx8
  replace hf := hf.trans (.ext hx8)
  replace hX : ∀ b ∈ X, b < w8.heap.size := fun b hb => Nat.lt_of_lt_of_le (hX b hb) hx8.size
  refine Sa ?_
  refine CW.cond rfl (fun hi => ?_) (fun hi => ?_)
  · have hi : isS c.T s [40] = true := hi
    refine Sa ?_
    refine LW.call0 rfl rfl (ropen_ok hc h (by rw [(isS_kind hi).1]; decide)) ?_
    rintro v w9 ⟨rfl, hf9, ⟨hd, hr⟩ | ⟨hd, hr⟩⟩
    rotate_left
    · have hr0 := hr
      obtain ⟨_, he, i, outv, m, xs, hB, ho, hle⟩ := hr
      refine Sa ?_
      exact QW.body1 Tryz.results162 rfl ⟨0, rfl, hf.trans hf9, .inr ⟨6, s.deep, .pr_deep hi hd, .inl rfl, hr0.mono (by omega)⟩⟩
    have hr0 := hr
    obtain ⟨_, _, _, _, outv1, nvs1, hB1, _⟩ := hr
    replace hf := hf.trans hf9
    refine Sa ?_
    refine LW.call0 rfl rfl (hE (deeper (adv s)) (by show s.at_ < s.at_ + 1; omega) w9 X (fun b hb => Nat.lt_of_lt_of_le (hX b hb) hf9.size) hr0) ?_
    rintro v w10 ⟨z, rfl, hf10, hres⟩
    replace hf := hf.trans hf10
    rcases hres with ⟨s1, a, rfl, hp, hr, g1, g2, g3⟩ | ⟨e, d, hp, hdd, hr⟩
    rotate_left
    · have hdd : d = ((s.deep + 1 : Nat) : Int) ∨ d = ((s.deep + 1 : Nat) : Int) - 1 := hdd
      have hkk : kc (.lev 0) (deeper (adv s)).deep ≤ kc .prim s.deep := by
        show 400 + 6 * (12 - (s.deep + 1)) + (4 - 0) ≤ 400 + 6 * (12 - s.deep) + 0
        omega
      refine Sa ?_
      refine LW.call0 rfl rfl (rwant_bad hr [41]) ?_
      rintro v w11 ⟨rfl, hx11⟩
      replace hr := hr.ext hx11
      obtain ⟨h0, he, i, outv, m, xs, hB, ho, hle⟩ := hr
      have hB0 := hB
      refine Sa ?_
      (apply LW.store; exact rfl; exact rfl; exact rfl; assumption; exact rfl; exact rfl; exact rfl; intro w12 hc12 hB)
      replace hB : Blk w12 c.rb [c.tokv, .int .i64 i, .int .i64 (d - 1), .int .i64 e, outv] 110 := hB
      obtain ⟨hr12, hf12⟩ := Re.set hc h0 ho hB0 hc12 he hB hle
      refine Sa ?_
      exact QW.body1 Tryz.results162 rfl ⟨z, rfl, (hf.trans (.ext hx11)).trans hf12, .inr ⟨e, d - 1, .pr_err hi hd hp, by omega, hr12.mono hkk⟩⟩
    have g1' : s.at_ + 1 < s1.at_ := g1
    have g2' : s1.deep = s.deep + 1 := g2
    have g3' : s.at_ + 1 + s1.out.length ≤ s1.at_ + s.out.length := g3
    have hl1 := hr.len
    refine Sa ?_
    refine LW.call0 rfl rfl (rwant_ok hc hr [41]) ?_
    rintro v w11 ⟨rfl, hf11, ⟨h41, hr⟩ | ⟨h41, hr⟩⟩
    rotate_left
    · obtain ⟨h0, he, i, outv, m, xs, hB, ho, hle⟩ := hr
      have hB0 := hB
      refine Sa ?_
      (apply LW.store; exact rfl; exact rfl; exact rfl; assumption; exact rfl; exact rfl; exact rfl; intro w12 hc12 hB)
      replace hB : Blk w12 c.rb [c.tokv, .int .i64 i, .int .i64 ((s1.deep : Int) - 1), .int .i64 5, outv] 110 := hB
      obtain ⟨hr12, hf12⟩ := Re.set hc h0 ho hB0 hc12 he hB hle
      refine Sa ?_
      exact QW.body1 Tryz.results162 rfl ⟨_, rfl, (hf.trans hf11).trans hf12, .inr ⟨5, _, .pr_open hi hd hp h41, by omega, hr12.mono (by omega)⟩⟩
    obtain ⟨b0, b1, b2, b3, outv, nvs, hB, ho, hm, hk⟩ := hr
    have hB0 := hB
    refine Sa ?_
    (apply LW.store; exact rfl; exact rfl; exact rfl; assumption; exact rfl; exact rfl; exact rfl; intro w12 hc12 hB)
    have e12 : (s1.deep : Int) - 1 = (((upper (adv s1)).deep : Nat) : Int) := by show (s1.deep : Int) - 1 = ((s1.deep - 1 : Nat) : Int); omega
    replace hB : Blk w12 c.rb [c.tokv, .int .i64 (adv s1).at_, .int .i64 ((s1.deep : Int) - 1), .int .i64 0, outv] 110 := hB
    rw [e12] at hB
    obtain ⟨hr12, hf12⟩ := Rq.set hc (s := adv s1) (s' := upper (adv s1)) b0 ho hm hk hB0 hc12 hB rfl b1 (by show s1.deep - 1 ≤ 12; omega) b3
    refine Sa ?_
    exact QW.body1 Tryz.results162 rfl ⟨_, rfl, (hf.trans hf11).trans hf12, .inl ⟨upper (adv s1), a, rfl, .pr_ok hi hd hp h41, hr12, by show s.at_ < s1.at_ + 1; omega, by show s1.deep - 1 = s.deep; omega, by show s.at_ + s1.out.length ≤ s1.at_ + 1 + s.out.length; omega⟩⟩
  have hi : isS c.T s [40] = false := hi
  have q1 : s.at_ < s.at_ + 1 := by omega
  have q3 : ∀ n : NodeD, s.at_ + (s.out ++ [n]).length ≤ s.at_ + 1 + s.out.length := fun n => by simp; omega
  have hsl : (adv s).out.length + 1 ≤ (adv s).at_ := by show s.out.length + 1 ≤ s.at_ + 1; omega
  refine Sa ?_
  refine CW.cond rfl (fun h1 => ?_) (fun h1 => ?_)
  · have h1 : (tokAt c.T s).kind = 1 := by simpa using h1
    obtain ⟨a0, a1, a2, a3, outv, nvs, hB, ho, hm, hk⟩ := h
    have hnx := rd_next hc a1 (by omega)
    have hB0 := hB
    refine Sa ?_
    (apply LW.store; exact rfl; exact rfl; exact rfl; assumption; exact rfl; exact rfl; exact rfl; intro w9 hc9 hB)
    replace hB : Blk w9 c.rb [c.tokv, .int .i64 (adv s).at_, .int .i64 (adv s).deep, .int .i64 0, outv] 110 := hB
    obtain ⟨h9, hf9⟩ := Rq.set hc (s := s) (s' := adv s) a0 ho hm hk hB0 hc9 hB rfl hnx a2 (by show s.out.length ≤ s.at_ + 1; omega)
    replace hf := hf.trans hf9
    replace hR := hf9.blk _ _ _ hR (by decide) (by decide)
    refine Sa ?_
    refine LW.call0 (vs := [.pointer (some ⟨c.rb, 0, none⟩), .agg ⟨nvL ⟨{ kind := 1, num := (tokAt c.T s).num }, .slice none 0 0⟩⟩]) rfl rfl (rput0_ok hc h9 { kind := 1, num := (tokAt c.T s).num } rfl hsl) ?_
    rintro v w10 ⟨rfl, hr, hf10⟩
    refine Sa ?_
    exact QW.body1 Tryz.results162 rfl ⟨_, rfl, hf.trans hf10, .inl ⟨_, _, rfl, .pr_num h1, hr, q1, rfl, q3 _⟩⟩
  have h1 : (tokAt c.T s).kind ≠ 1 := by simpa using h1
  refine Sa ?_
  refine CW.cond rfl (fun h2 => ?_) (fun h2 => ?_)
  · have h2 : (tokAt c.T s).kind = 2 := by simpa using h2
    obtain ⟨a0, a1, a2, a3, outv, nvs, hB, ho, hm, hk⟩ := h
    have hnx := rd_next hc a1 (by omega)
    have hB0 := hB
    refine Sa ?_
    (apply LW.store; exact rfl; exact rfl; exact rfl; assumption; exact rfl; exact rfl; exact rfl; intro w9 hc9 hB)
    replace hB : Blk w9 c.rb [c.tokv, .int .i64 (adv s).at_, .int .i64 (adv s).deep, .int .i64 0, outv] 110 := hB
    obtain ⟨h9, hf9⟩ := Rq.set hc (s := s) (s' := adv s) a0 ho hm hk hB0 hc9 hB rfl hnx a2 (by show s.out.length ≤ s.at_ + 1; omega)
    replace hf := hf.trans hf9
    replace hR := hf9.blk _ _ _ hR (by decide) (by decide)
    refine Sa ?_
    refine LW.call0 (vs := [.pointer (some ⟨c.rb, 0, none⟩), .agg ⟨nvL ⟨{ kind := 2, text := (tokAt c.T s).text }, .slice none 0 0⟩⟩]) rfl rfl (rput0_ok hc h9 { kind := 2, text := (tokAt c.T s).text } rfl hsl) ?_
    rintro v w10 ⟨rfl, hr, hf10⟩
    refine Sa ?_
    exact QW.body1 Tryz.results162 rfl ⟨_, rfl, hf.trans hf10, .inl ⟨_, _, rfl, .pr_text h2, hr, q1, rfl, q3 _⟩⟩
  have h2 : (tokAt c.T s).kind ≠ 2 := by simpa using h2
  refine Sa ?_
  refine CW.cond rfl (fun h6 => ?_) (fun h6 => ?_)
  · have h6 : (tokAt c.T s).kind = 6 := by simpa using h6
    obtain ⟨a0, a1, a2, a3, outv, nvs, hB, ho, hm, hk⟩ := h
    have hnx := rd_next hc a1 (by omega)
    have hB0 := hB
    refine Sa ?_
    (apply LW.store; exact rfl; exact rfl; exact rfl; assumption; exact rfl; exact rfl; exact rfl; intro w9 hc9 hB)
    replace hB : Blk w9 c.rb [c.tokv, .int .i64 (adv s).at_, .int .i64 (adv s).deep, .int .i64 0, outv] 110 := hB
    obtain ⟨h9, hf9⟩ := Rq.set hc (s := s) (s' := adv s) a0 ho hm hk hB0 hc9 hB rfl hnx a2 (by show s.out.length ≤ s.at_ + 1; omega)
    replace hf := hf.trans hf9
    replace hR := hf9.blk _ _ _ hR (by decide) (by decide)
    refine Sa ?_
    refine LW.call0 (vs := [.pointer (some ⟨c.rb, 0, none⟩), .agg ⟨nvL ⟨{ kind := 4 }, .slice none 0 0⟩⟩]) rfl rfl (rput0_ok hc h9 { kind := 4 } rfl hsl) ?_
    rintro v w10 ⟨rfl, hr, hf10⟩
    refine Sa ?_
    exact QW.body1 Tryz.results162 rfl ⟨_, rfl, hf.trans hf10, .inl ⟨_, _, rfl, .pr_dead h6, hr, q1, rfl, q3 _⟩⟩
  have h6 : (tokAt c.T s).kind ≠ 6 := by simpa using h6
  refine Sa ?_
  refine CW.cond rfl (fun h4 => ?_) (fun h4 => ?_)
  · have h4 : (tokAt c.T s).kind = 4 := by simpa using h4
    refine Sa ?_
    refine LW.load_agg (cs := refL (tokAt c.T s).ref) rfl hR rfl rfl rfl ⟨rfl, rfl, rfl, rfl, rfl, trivial⟩ rfl ?_
    refine Sa ?_
    refine LW.call0 rfl rfl (rref_ret hc s h4 w8 h) ?_
    rintro v w9 ⟨z, rfl, hf9, hres⟩
    refine Sa ?_
    exact QW.body1 Tryz.results162 rfl ⟨z, rfl, hf.trans hf9, hres⟩
  have h4 : (tokAt c.T s).kind ≠ 4 := by simpa using h4
  refine Sa ?_
  refine CW.cond rfl (fun h3 => ?_) (fun h3 => ?_)
  · have h3 : (tokAt c.T s).kind = 3 := by simpa using h3
    refine Sa ?_
    refine LW.call0 rfl rfl (rname_ret hc s h3 hE w8 X hX h) ?_
    rintro v w9 ⟨z, rfl, hf9, hres⟩
    refine Sa ?_
    exact QW.body1 Tryz.results162 rfl ⟨z, rfl, hf.trans hf9, hres⟩
  have h3 : (tokAt c.T s).kind ≠ 3 := by simpa using h3
  have hpe : PE c.T .prim s (.err 5) := by
    by_cases h0 : (tokAt c.T s).kind = 0
    · exact .pr_end h0
    · have h5 : (tokAt c.T s).kind = 5 := by omega
      exact .pr_sign h5 (by simpa [isS, h5] using hi)
  refine Sa ?_
  refine LW.call0 rfl rfl (rfail_ok hc h 5 (by decide)) ?_
  rintro v w9 ⟨rfl, hr, hf9⟩
  refine Sa ?_
  exact QW.body1 Tryz.results162 rfl ⟨0, rfl, hf.trans hf9, .inr ⟨5, s.deep, hpe, .inl rfl, hr.mono (by omega)⟩⟩

/-- All of them, by how many tokens are left. -/
theorem rreaders {c : PCtx} (hc : c.Ok) : ∀ (m : Nat) (s : PSt), c.T.length - s.at_ ≤ m → (∀ n : Nat, n < 4 → RC c 71 [.int .i64 (n : Int)] (.lev n) s) ∧ RC c 71 [.int .i64 4] .unary s ∧ RC c 113 [] .unary s
  | 0, s, hm => by
    have key : ∀ f a m, RC c f a m s := fun f a m w X hX h => absurd h.2.1 (by omega)
    exact ⟨fun _ _ => key _ _ _, key _ _ _, key _ _ _⟩
  | m + 1, s, hm => by
    by_cases hs : s.at_ < c.T.length
    · have ih := fun (s' : PSt) (h : s.at_ < s'.at_) => rreaders hc m s' (by omega)
      have hp := rprim_ret hc s (fun s' h => (ih s' h).1 0 (by omega))
      have hu := runary_ret hc s hp (fun s' h => (ih s' h).2.2)
      have h4 := row4_ret s hu
      have h3 : RC c 71 [.int .i64 3] (.lev 3) s := row_ret hc 3 (by omega) s h4 (fun s' h _ => (ih s' h).2.1)
      have h2 : RC c 71 [.int .i64 2] (.lev 2) s := row_ret hc 2 (by omega) s h3 (fun s' h _ => (ih s' h).1 3 (by omega))
      have h1 : RC c 71 [.int .i64 1] (.lev 1) s := row_ret hc 1 (by omega) s h2 (fun s' h _ => (ih s' h).1 2 (by omega))
      have h0 : RC c 71 [.int .i64 0] (.lev 0) s := row_ret hc 0 (by omega) s h1 (fun s' h _ => (ih s' h).1 1 (by omega))
      refine ⟨fun n hn => ?_, h4, hu⟩
      have : n = 0 ∨ n = 1 ∨ n = 2 ∨ n = 3 := by omega
      rcases this with rfl | rfl | rfl | rfl
      · exact h0
      · exact h1
      · exact h2
      · exact h3
    · have key : ∀ f a m, RC c f a m s := fun f a m w X hX h => absurd h.2.1 hs
      exact ⟨fun _ _ => key _ _ _, key _ _ _, key _ _ _⟩
end Go.Proofs.YtiloogjageledaaGreatDoor
