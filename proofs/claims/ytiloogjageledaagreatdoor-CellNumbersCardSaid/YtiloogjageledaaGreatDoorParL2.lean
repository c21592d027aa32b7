/-
  Walks: the reader of a formula's tokens: levels, signs ahead, references.
  Walks: the reader of a formula's tokens: calls, what operators stand between; all of them.
  Walks: what a text is as a formula.
-/
import Derived.Test.YtiloogjageledaaGreatDoorParL1
import Derived.Test.YtiloogjageledaaGreatDoorEngD
namespace Go.Proofs.YtiloogjageledaaGreatDoor
open Go Go.E

theorem expr_ret {c : PCtx} (hc : c.Ok) (s : PSt) (h1 : PC c 111 (below 0) s) (h2 : ∀ s', s.at_ < s'.at_ → s'.deep = s.deep → PC c 111 (below 0) s') :
    PC c 67 (.lev 0) s := by
  intro w X hX h
  refine RetP.enter Tryz.func67 rfl Tryz.ntmps67 (by kernel_rfl) rfl ?_
  refine Sa ?_
  (apply LW.buildSlice; exact rfl; exact rfl; exact rfl; exact rfl; exact rfl; exact rfl; exact rfl; exact rfl; exact rfl; intro A w1 hbA hx1 hA)
  replace hA : Blk w1 A ((signsN 0).map str) 9 := hA
  refine Sa ?_
  (apply LW.buildSlice; exact rfl; exact rfl; exact rfl; exact rfl; exact rfl; exact rfl; exact rfl; exact rfl; exact rfl; intro B w2 hbB hx2 hB)
  replace hB : Blk w2 B (icells (kindsN 0)) 3 := hB
  have hx := hx1.trans hx2
  refine Sa ?_
  refine LW.callP0 (vs := [.pointer (some ⟨c.rb, 0, none⟩), .agg ⟨[.func (.func 111) #[.pointer (some ⟨c.rb, 0, none⟩)] #[], .slice (some ⟨A, 0, none⟩) 6 6, .slice (some ⟨B, 0, none⟩) 6 6]⟩]) rfl rfl
    (chain_ret hc 0 111 A B s w2 (fun b hb => Nat.lt_of_lt_of_le (hX b hb) hx.size) (h.ext hx) (hA.ext hx2) hB h1 h2) ?_ ?_
  · rintro v w3 hp
    (repeat (first | apply QW.then_panic | apply QW.blk_panic))
    exact QW.panicP hp
  rintro v w3 ⟨s', p, rfl, hp, hr, hf, g1, g2, g3⟩
  refine Sa ?_
  exact QW.bodyP1 Tryz.results67 rfl ⟨s', p, rfl, hp, hr, (Fr.ext hx).trans hf, g1, g2, g3⟩

theorem cat_ret {c : PCtx} (hc : c.Ok) (s : PSt) (h1 : PC c 155 (below 1) s) (h2 : ∀ s', s.at_ < s'.at_ → s'.deep = s.deep → PC c 155 (below 1) s') :
    PC c 111 (.lev 1) s := by
  intro w X hX h
  refine RetP.enter Tryz.func111 rfl Tryz.ntmps111 (by kernel_rfl) rfl ?_
  refine Sa ?_
  (apply LW.buildSlice; exact rfl; exact rfl; exact rfl; exact rfl; exact rfl; exact rfl; exact rfl; exact rfl; exact rfl; intro A w1 hbA hx1 hA)
  replace hA : Blk w1 A ((signsN 1).map str) 9 := hA
  refine Sa ?_
  (apply LW.buildSlice; exact rfl; exact rfl; exact rfl; exact rfl; exact rfl; exact rfl; exact rfl; exact rfl; exact rfl; intro B w2 hbB hx2 hB)
  replace hB : Blk w2 B (icells (kindsN 1)) 3 := hB
  have hx := hx1.trans hx2
  refine Sa ?_
  refine LW.callP0 (vs := [.pointer (some ⟨c.rb, 0, none⟩), .agg ⟨[.func (.func 155) #[.pointer (some ⟨c.rb, 0, none⟩)] #[], .slice (some ⟨A, 0, none⟩) 1 1, .slice (some ⟨B, 0, none⟩) 1 1]⟩]) rfl rfl
    (chain_ret hc 1 155 A B s w2 (fun b hb => Nat.lt_of_lt_of_le (hX b hb) hx.size) (h.ext hx) (hA.ext hx2) hB h1 h2) ?_ ?_
  · rintro v w3 hp
    (repeat (first | apply QW.then_panic | apply QW.blk_panic))
    exact QW.panicP hp
  rintro v w3 ⟨s', p, rfl, hp, hr, hf, g1, g2, g3⟩
  refine Sa ?_
  exact QW.bodyP1 Tryz.results111 rfl ⟨s', p, rfl, hp, hr, (Fr.ext hx).trans hf, g1, g2, g3⟩

theorem sum_ret {c : PCtx} (hc : c.Ok) (s : PSt) (h1 : PC c 187 (below 2) s) (h2 : ∀ s', s.at_ < s'.at_ → s'.deep = s.deep → PC c 187 (below 2) s') :
    PC c 155 (.lev 2) s := by
  intro w X hX h
  refine RetP.enter Tryz.func155 rfl Tryz.ntmps155 (by kernel_rfl) rfl ?_
  refine Sa ?_
  (apply LW.buildSlice; exact rfl; exact rfl; exact rfl; exact rfl; exact rfl; exact rfl; exact rfl; exact rfl; exact rfl; intro A w1 hbA hx1 hA)
  replace hA : Blk w1 A ((signsN 2).map str) 9 := hA
  refine Sa ?_
  (apply LW.buildSlice; exact rfl; exact rfl; exact rfl; exact rfl; exact rfl; exact rfl; exact rfl; exact rfl; exact rfl; intro B w2 hbB hx2 hB)
  replace hB : Blk w2 B (icells (kindsN 2)) 3 := hB
  have hx := hx1.trans hx2
  refine Sa ?_
  refine LW.callP0 (vs := [.pointer (some ⟨c.rb, 0, none⟩), .agg ⟨[.func (.func 187) #[.pointer (some ⟨c.rb, 0, none⟩)] #[], .slice (some ⟨A, 0, none⟩) 2 2, .slice (some ⟨B, 0, none⟩) 2 2]⟩]) rfl rfl
    (chain_ret hc 2 187 A B s w2 (fun b hb => Nat.lt_of_lt_of_le (hX b hb) hx.size) (h.ext hx) (hA.ext hx2) hB h1 h2) ?_ ?_
  · rintro v w3 hp
    (repeat (first | apply QW.then_panic | apply QW.blk_panic))
    exact QW.panicP hp
  rintro v w3 ⟨s', p, rfl, hp, hr, hf, g1, g2, g3⟩
  refine Sa ?_
  exact QW.bodyP1 Tryz.results155 rfl ⟨s', p, rfl, hp, hr, (Fr.ext hx).trans hf, g1, g2, g3⟩

theorem term_ret {c : PCtx} (hc : c.Ok) (s : PSt) (h1 : PC c 209 (below 3) s) (h2 : ∀ s', s.at_ < s'.at_ → s'.deep = s.deep → PC c 209 (below 3) s') :
    PC c 187 (.lev 3) s := by
  intro w X hX h
  refine RetP.enter Tryz.func187 rfl Tryz.ntmps187 (by kernel_rfl) rfl ?_
  refine Sa ?_
  (apply LW.buildSlice; exact rfl; exact rfl; exact rfl; exact rfl; exact rfl; exact rfl; exact rfl; exact rfl; exact rfl; intro A w1 hbA hx1 hA)
  replace hA : Blk w1 A ((signsN 3).map str) 9 := hA
  refine Sa ?_
  (apply LW.buildSlice; exact rfl; exact rfl; exact rfl; exact rfl; exact rfl; exact rfl; exact rfl; exact rfl; exact rfl; intro B w2 hbB hx2 hB)
  replace hB : Blk w2 B (icells (kindsN 3)) 3 := hB
  have hx := hx1.trans hx2
  refine Sa ?_
  refine LW.callP0 (vs := [.pointer (some ⟨c.rb, 0, none⟩), .agg ⟨[.func (.func 209) #[.pointer (some ⟨c.rb, 0, none⟩)] #[], .slice (some ⟨A, 0, none⟩) 2 2, .slice (some ⟨B, 0, none⟩) 2 2]⟩]) rfl rfl
    (chain_ret hc 3 209 A B s w2 (fun b hb => Nat.lt_of_lt_of_le (hX b hb) hx.size) (h.ext hx) (hA.ext hx2) hB h1 h2) ?_ ?_
  · rintro v w3 hp
    (repeat (first | apply QW.then_panic | apply QW.blk_panic))
    exact QW.panicP hp
  rintro v w3 ⟨s', p, rfl, hp, hr, hf, g1, g2, g3⟩
  refine Sa ?_
  exact QW.bodyP1 Tryz.results187 rfl ⟨s', p, rfl, hp, hr, (Fr.ext hx).trans hf, g1, g2, g3⟩

theorem unary_ret {c : PCtx} (hc : c.Ok) (s : PSt) (h1 : PC c 226 .prim s) (h2 : ∀ s', s.at_ < s'.at_ → PC c 209 .unary s') :
    PC c 209 .unary s := by
  intro w X hX h
  have hlen := hc.len
  refine RetP.enter Tryz.func209 rfl Tryz.ntmps209 (by kernel_rfl) rfl ?_
  refine Sa ?_
  refine LW.call0 rfl rfl (now_ret hc h) ?_
  rintro v w1 ⟨rfl, hx1⟩
  replace h := h.ext hx1
  refine Sa ?_
  (apply LW.alloc; exact rfl; exact rfl; exact rfl; intro C w2 hbC hx2 hC)
  refine Sa ?_
  (apply LW.store_all; exact rfl; exact rfl; exact rfl; assumption; exact rfl; exact rfl; exact rfl; intro w3 hc3 hC)
  replace hC : Blk w3 C (tokL (tokAt c.T s)) 102 := hC
  have hx3 : Ext w w3 := (hx1.trans hx2).step hc3 (by simp; have := hx1.size; omega)
  have hx3' : Ext w1 w3 := hx2.step hc3 (by simp; omega)
  replace h := h.ext hx3'
  replace hX : ∀ b ∈ X, b < w3.heap.size := fun b hb => Nat.lt_of_lt_of_le (hX b hb) hx3.size
  refine Sa ?_
  refine LW.part rfl rfl rfl (fun hk => ?_) (fun hk => ?_)
  · have hk : (tokAt c.T s).kind ≠ 5 := by simpa using hk
    have hi : isS c.T s [45] = false := by simp [isS, hk]
    refine Sa ?_
    refine LW.callP0 rfl rfl (h1 w3 X hX h) ?_ ?_
    · rintro v w4 ⟨e, rfl, hp, hx4⟩
      (repeat (first | apply QW.then_panic | apply QW.blk_panic))
      exact QW.panicP ⟨e, rfl, .un_prim hi hp, hx4⟩
    rintro v w4 ⟨s', p, rfl, hp, hr, hf, g1, g2, g3⟩
    refine Sa ?_
    exact QW.bodyP1 Tryz.results209 rfl ⟨s', p, rfl, .un_prim hi hp, hr, (Fr.ext hx3).trans hf, g1, g2, g3⟩
  have hk : (tokAt c.T s).kind = 5 := by simpa using hk
  refine Sa ?_
  refine CW.cond rfl (fun ht => ?_) (fun ht => ?_)
  · have ht : (tokAt c.T s).text ≠ [45] := by simpa using ht
    have hi : isS c.T s [45] = false := by simp [isS, ht]
    refine Sa ?_
    refine LW.callP0 rfl rfl (h1 w3 X hX h) ?_ ?_
    · rintro v w4 ⟨e, rfl, hp, hx4⟩
      (repeat (first | apply QW.then_panic | apply QW.blk_panic))
      exact QW.panicP ⟨e, rfl, .un_prim hi hp, hx4⟩
    rintro v w4 ⟨s', p, rfl, hp, hr, hf, g1, g2, g3⟩
    refine Sa ?_
    exact QW.bodyP1 Tryz.results209 rfl ⟨s', p, rfl, .un_prim hi hp, hr, (Fr.ext hx3).trans hf, g1, g2, g3⟩
  have ht : (tokAt c.T s).text = [45] := by simpa using ht
  have hi : isS c.T s [45] = true := by simp [isS, hk, ht]
  refine Sa ?_
  refine LW.callP0 rfl rfl (open_ret hc h [45]) ?_ ?_
  · rintro v w4 ⟨hx4, ⟨rfl, _, hd⟩ | ⟨rfl, hn⟩⟩
    · (repeat (first | apply QW.then_panic | apply QW.blk_panic))
      exact QW.panicP ⟨6, rfl, .un_deep hi hd, hx4⟩
    · rw [hi] at hn
      cases hn
  rintro v w4 ⟨rfl, _, hd, hr, hf⟩
  refine Sa ?_
  refine LW.callP0 rfl rfl (h2 (deeper (adv s)) (by show s.at_ < s.at_ + 1; omega) w4 X (fun b hb => Nat.lt_of_lt_of_le (hX b hb) hf.size) hr) ?_ ?_
  · rintro v w5 ⟨e, rfl, hp, hx5⟩
    (repeat (first | apply QW.then_panic | apply QW.blk_panic))
    exact QW.panicP ⟨e, rfl, .un_err hi hd hp, hx5⟩
  rintro v w5 ⟨s1, a, rfl, hp, hr5, hf5, g1, g2, g3⟩
  have g1' : s.at_ + 1 < s1.at_ := g1
  have g2' : s1.deep = s.deep + 1 := g2
  have g3' : s.at_ + 1 + s1.out.length ≤ s1.at_ + s.out.length := g3
  have hl := h.len
  obtain ⟨a0, a1, a2, a3, outv, nvs, hB, ho, hm, hkids⟩ := hr5
  have hB0 := hB
  refine Sa ?_
  (apply LW.store; exact rfl; exact rfl; exact rfl; assumption; exact rfl; exact rfl; exact rfl; intro w6 hc6 hB)
  have e6 : (s1.deep : Int) - 1 = (((upper s1).deep : Nat) : Int) := by show (s1.deep : Int) - 1 = ((s1.deep - 1 : Nat) : Int); omega
  replace hB : Blk w6 c.rb [c.tokv, .int .i64 s1.at_, outv, .int .i64 ((s1.deep : Int) - 1)] 99 := hB
  rw [e6] at hB
  obtain ⟨hr6, hf6⟩ := Rd.set hc (s := s1) (s' := upper s1) a0 ho hm hkids hB0 hc6 hB rfl a1 (by show s1.deep - 1 ≤ 12; omega) a3
  have hff := (((Fr.ext hx3).trans hf).trans hf5).trans hf6
  have hz6 := ((hf.trans hf5).trans hf6).size
  refine Sa ?_
  (apply LW.buildSlice; exact rfl; exact rfl; exact rfl; exact rfl; exact rfl; exact rfl; exact rfl; exact rfl; exact rfl; intro K w7 hbK hx7 hK)
  replace hK : Blk w7 K (icells [(a : Int)]) 3 := hK
  replace hr6 := hr6.ext hx7
  replace hff := hff.trans (.ext hx7)
  refine Sa ?_
  refine LW.call0 (vs := [.pointer (some ⟨c.rb, 0, none⟩), .agg ⟨nvL ⟨{ kind := 8, kids := [(a : Int)] }, .slice (some ⟨K, 0, none⟩) 1 1⟩⟩]) rfl rfl (put_ret hc hr6 ⟨{ kind := 8, kids := [(a : Int)] }, .slice (some ⟨K, 0, none⟩) 1 1⟩ (.inr ⟨K, 1, [], rfl, by rw [List.append_nil]; exact hK⟩) (fun b hb hbX => by
    have h3 := hX b hbX
    simp [vblk] at hb
    omega) (by show s1.out.length + 1 ≤ s1.at_; omega)) ?_
  rintro v w8 ⟨rfl, hr8, hf8⟩
  refine Sa ?_
  exact QW.bodyP1 Tryz.results209 rfl ⟨putS (upper s1) { kind := 8, kids := [(a : Int)] }, s1.out.length, rfl, .un_ok hi hd hp, hr8, hff.trans hf8, by show s.at_ < s1.at_; omega, by show s1.deep - 1 = s.deep; omega, by simp [putS, upper]; omega⟩

/-- A node without kids is put. -/
theorem put0_ret {c : PCtx} {X : List Nat} (hc : c.Ok) {w : World} {s : PSt} (h : Rd c X w s) (n : NodeD) (hn : n.kids = []) (hs : s.out.length + 1 ≤ s.at_) : Ret Tryz.prog 154 [.pointer (some ⟨c.rb, 0, none⟩), .agg ⟨nvL ⟨n, .slice none 0 0⟩⟩] w
    (fun v w' => v = .int .i64 s.out.length ∧ Rd c X w' (putS s n) ∧ Fr w w') := put_ret hc h ⟨n, .slice none 0 0⟩ (.inl ⟨rfl, hn⟩) (by simp [vblk]) hs

theorem ref_ret {c : PCtx} {X : List Nat} (hc : c.Ok) (s : PSt) (a : RefD) (w : World) (h : Rd c X w s) (hs : s.out.length + 1 ≤ s.at_) : RetP Tryz.prog 240 [.pointer (some ⟨c.rb, 0, none⟩), .agg ⟨refL a⟩] w
    (fun v w' => v = .int .i64 s.out.length ∧ Fr w w' ∧ (isS c.T s [58] = false ∧ Rd c X w' (putS s { kind := 5, ref := a }) ∨
      isS c.T s [58] = true ∧ (tokAt c.T (adv s)).kind = 4 ∧ rangesB a (tokAt c.T (adv s)).ref = true ∧ Rd c X w' (putS (adv (adv s)) { kind := 6, ref := a, to := (tokAt c.T (adv s)).ref })))
    (fun v w' => v = pv 5 ∧ Ext c.w0 w' ∧ isS c.T s [58] = true ∧ ((tokAt c.T (adv s)).kind ≠ 4 ∨ rangesB a (tokAt c.T (adv s)).ref = false)) := by
  have hlen := hc.len
  refine RetP.enter Tryz.func240 rfl Tryz.ntmps240 (by kernel_rfl) rfl ?_
  refine Sa ?_
  (apply LW.box; exact rfl; exact rfl; exact rfl; intro A w1 hbA hx1 hA)
  replace hA : Blk w1 A (refL a) 35 := hA
  replace h := h.ext hx1
  refine Sa ?_
  refine LW.call0 rfl rfl (may_ret hc h [58]) ?_
  rintro v w2 ⟨rfl, hr, hf⟩
  replace hA := hf.blk _ _ _ hA (by decide) (by decide)
  replace hf := (Fr.ext hx1).trans hf
  refine Sa ?_
  refine CW.cond rfl (fun h1 => ?_) (fun h1 => ?_)
  · have h1 : isS c.T s [58] = false := by simpa using h1
    rw [mayS, h1, if_neg (by simp)] at hr
    refine Sa ?_
    refine LW.call0 (vs := [.pointer (some ⟨c.rb, 0, none⟩), .agg ⟨nvL ⟨{ kind := 5, ref := a }, .slice none 0 0⟩⟩]) rfl rfl (put0_ret hc hr { kind := 5, ref := a } rfl hs) ?_
    rintro v w3 ⟨rfl, hr3, hf3⟩
    refine Sa ?_
    exact QW.bodyP1 Tryz.results240 rfl ⟨rfl, hf.trans hf3, .inl ⟨h1, hr3⟩⟩
  have h1 : isS c.T s [58] = true := by simpa using h1
  rw [mayS, if_pos h1] at hr
  refine Sa ?_
  refine LW.call0 rfl rfl (now_ret hc hr) ?_
  rintro v w3 ⟨rfl, hx3⟩
  refine Sa ?_
  (apply LW.alloc; exact rfl; exact rfl; exact rfl; intro C w4 hbC hx4 hC)
  refine Sa ?_
  (apply LW.store_all; exact rfl; exact rfl; exact rfl; assumption; exact rfl; exact rfl; exact rfl; intro w5 hc5 hC)
  replace hC : Blk w5 C (tokL (tokAt c.T (adv s))) 102 := hC
  have hx5 : Ext w2 w5 := (hx3.trans hx4).step hc5 (by simp; have := hx3.size; omega)
  replace hA := hA.ext hx5
  replace hr := hr.ext hx5
  replace hf := hf.trans (.ext hx5)
  refine Sa ?_
  refine LW.part rfl rfl rfl (fun h2 => ?_) (fun h2 => ?_)
  · have h2 : (tokAt c.T (adv s)).kind ≠ 4 := by simpa using h2
    refine Sa ?_
    refine LW.callP0 rfl rfl (fail_ret c.rb 5 w5) ?_ (fun _ _ hh => hh.elim)
    rintro v w6 ⟨rfl, hx6⟩
    (repeat (first | apply QW.then_panic | apply QW.blk_panic))
    exact QW.panicP ⟨rfl, hr.1.trans hx6, h1, .inl h2⟩
  have h2 : (tokAt c.T (adv s)).kind = 4 := by simpa using h2
  refine Sa ?_
  refine LW.load_agg (cs := refL (tokAt c.T (adv s)).ref) rfl hC rfl rfl rfl ⟨rfl, rfl, rfl, rfl, rfl, trivial⟩ rfl ?_
  refine Sa ?_
  refine LW.call0 rfl rfl (ranges_ret a (tokAt c.T (adv s)).ref w5) ?_
  rintro v w6 ⟨rfl, hx6⟩
  replace hA := hA.ext hx6
  replace hC := hC.ext hx6
  replace hr := hr.ext hx6
  replace hf := hf.trans (.ext hx6)
  refine Sa ?_
  refine CW.cond rfl (fun h3 => ?_) (fun h3 => ?_)
  · have h3 : rangesB a (tokAt c.T (adv s)).ref = false := by simpa using h3
    refine Sa ?_
    refine LW.callP0 rfl rfl (fail_ret c.rb 5 w6) ?_ (fun _ _ hh => hh.elim)
    rintro v w7 ⟨rfl, hx7⟩
    (repeat (first | apply QW.then_panic | apply QW.blk_panic))
    exact QW.panicP ⟨rfl, hr.1.trans hx7, h1, .inr h3⟩
  have h3 : rangesB a (tokAt c.T (adv s)).ref = true := by simpa using h3
  obtain ⟨a0, a1, a2, a3, outv, nvs, hB, ho, hm, hkids⟩ := hr
  have hnx := rd_next hc a1 (by omega)
  have hB0 := hB
  have a1' : s.at_ + 1 < c.T.length := a1
  simp only [adv] at hB
  refine Sa ?_
  (apply LW.store; exact rfl; exact rfl; exact rfl; assumption; exact rfl; exact rfl; exact rfl; intro w7 hc7 hB)
  replace hB : Blk w7 c.rb [c.tokv, .int .i64 (adv (adv s)).at_, outv, .int .i64 s.deep] 99 := hB
  obtain ⟨hr7, hf7⟩ := Rd.set hc (s := adv s) (s' := adv (adv s)) a0 ho hm hkids hB0 hc7 hB rfl hnx a2 (by show s.out.length ≤ s.at_ + 1 + 1; omega)
  replace hA := hf7.blk _ _ _ hA (by decide) (by decide)
  replace hC := hf7.blk _ _ _ hC (by decide) (by decide)
  refine Sa ?_
  refine LW.load_agg (cs := refL (tokAt c.T (adv s)).ref) rfl hC rfl rfl rfl ⟨rfl, rfl, rfl, rfl, rfl, trivial⟩ rfl ?_
  refine Sa ?_
  refine LW.call0 (vs := [.pointer (some ⟨c.rb, 0, none⟩), .agg ⟨nvL ⟨{ kind := 6, ref := a, to := (tokAt c.T (adv s)).ref }, .slice none 0 0⟩⟩]) rfl rfl (put0_ret hc hr7 { kind := 6, ref := a, to := (tokAt c.T (adv s)).ref } rfl (by show s.out.length + 1 ≤ s.at_ + 1 + 1; omega)) ?_
  rintro v w8 ⟨rfl, hr8, hf8⟩
  refine Sa ?_
  exact QW.bodyP1 Tryz.results240 rfl ⟨rfl, (hf.trans hf7).trans hf8, .inr ⟨h1, h2, h3, hr8⟩⟩
end Go.Proofs.YtiloogjageledaaGreatDoor

namespace Go.Proofs.YtiloogjageledaaGreatDoor
open Go Go.E

theorem Own.fr {w w' : World} {lo e size n : Nat} {v : Value} {xs : List Value} (h : Own w lo e size v n xs) (f : Fr w w') (h1 : e ≠ 99) (h2 : e ≠ 38) : Own w' lo e size v n xs := by
  obtain ⟨hl, h | ⟨g, cap, sp, rfl, hB, a1, a2, a3⟩⟩ := h
  · exact ⟨hl, .inl h⟩
  · exact ⟨hl, .inr ⟨g, cap, sp, rfl, f.blk _ _ _ hB h1 h2, a1, a2, a3⟩⟩
theorem own_kids {w : World} {lo : Nat} {kv : Value} {ks : List Int} (h : Own w lo 3 1 kv ks.length (icells ks)) : KidsOk w kv ks := by
  obtain ⟨hl, ⟨h1, h2⟩ | ⟨g, cap, sp, rfl, hB, a1, a2, a3⟩⟩ := h
  · exact .inl ⟨h1, List.eq_nil_of_length_eq_zero h2⟩
  · exact .inr ⟨g, cap, sp, rfl, hB⟩
theorem own_int {w : World} {lo : Nat} {kv : Value} {ks : List Int} {a : Nat} (h : Own w lo 3 1 kv (ks.length + 1) (icells ks ++ [.int .i64 (a : Int)])) : Own w lo 3 1 kv (ks ++ [(a : Int)]).length (icells (ks ++ [(a : Int)])) := by
  simpa [icells] using h
theorem Own.type {w : World} {lo e size n : Nat} {v : Value} {xs : List Value} (h : Own w lo e size v n xs) {b : Nat} (hb : b ∈ vblk v) {l : List Value} {T : TypeId} (k : Blk w b l T) : T = e := by
  obtain ⟨hl, ⟨rfl, _⟩ | ⟨g, cap, sp, rfl, hB, a1, a2, a3⟩⟩ := h
  · simp [vblk] at hb
  · simp [vblk] at hb
    subst hb
    exact k.inj hB
/-- Other blocks may be kept apart, as long as they are new, or were kept apart. -/
theorem Rd.grow {c : PCtx} {X X' : List Nat} {w : World} {s : PSt} (h : Rd c X w s) (hX : ∀ b ∈ X', b ∈ X ∨ w.heap.size ≤ b) : Rd c X' w s := by
  obtain ⟨h0, h1, h2, h3, outv, nvs, hB, ho, hm, hk⟩ := h
  refine ⟨h0, h1, h2, h3, outv, nvs, hB, ho, hm, fun y hy => ⟨(hk y hy).1, fun b hb hbX => ?_⟩⟩
  rcases hX b hbX with hx | hx
  · exact (hk y hy).2 b hb hx
  · rcases (hk y hy).1 with ⟨e, _⟩ | ⟨g, cap, sp, e, hg⟩
    · rw [e] at hb; simp [vblk] at hb
    · rw [e] at hb
      simp [vblk] at hb
      have := hg.lt
      omega
/-- What is kept apart may change. -/
theorem Rd.other {c : PCtx} {X S : List Nat} {w w' : World} {s : PSt} (h : Rd c X w s) (k : Chg S w w') (hS : ∀ b ∈ S, c.w0.heap.size ≤ b ∧ b ∈ X ∧ ∀ l T, Blk w b l T → T = 3) : Rd c X w' s := by
  obtain ⟨h0, h1, h2, h3, outv, nvs, hB, ho, hm, hk⟩ := h
  refine ⟨h0.step k (fun b hb => (hS b hb).1), h1, h2, h3, outv, nvs, hB.chg k (fun hb => absurd ((hS _ hb).2.2 _ _ hB) (by decide)), ho.chg k (fun b hb hbS => ?_), hm, fun y hy => ⟨?_, (hk y hy).2⟩⟩
  · obtain ⟨_, ⟨e, _⟩ | ⟨g, cap, sp, e, hg, _⟩⟩ := ho
    · rw [e] at hb; simp [vblk] at hb
    · rw [e] at hb
      simp [vblk] at hb
      subst hb
      exact absurd ((hS _ hbS).2.2 _ _ hg) (by decide)
  · rcases (hk y hy).1 with e | ⟨g, cap, sp, e, hg⟩
    · exact .inl e
    · exact .inr ⟨g, cap, sp, e, hg.chg k (fun hb => (hk y hy).2 g (by rw [e]; simp [vblk]) (hS _ hb).2.1)⟩

theorem pword_ret {c : PCtx} (hc : c.Ok) (s : PSt) (hk : (tokAt c.T s).kind = 3) (hE : ∀ s', s.at_ < s'.at_ → PC c 67 (.lev 0) s') (w : World) (X : List Nat) (hX : ∀ b ∈ X, b < w.heap.size) (h : Rd c X w (adv s)) (hs : s.out.length ≤ s.at_) :
    RetP Tryz.prog 241 [.pointer (some ⟨c.rb, 0, none⟩), str (tokAt c.T s).text] w (POk c X .prim s w) (PBad c .prim s) := by
  have hlen := hc.len
  have hw0 := h.1.size
  refine RetP.enter Tryz.func241 rfl Tryz.ntmps241 (by kernel_rfl) rfl ?_
  refine Sa ?_
  refine CW.cond rfl (fun h1 => ?_) (fun h1 => ?_)
  · have h1 : (tokAt c.T s).text = trueT := of_decide_eq_true h1
    refine Sa ?_
    refine LW.call0 (vs := [.pointer (some ⟨c.rb, 0, none⟩), .agg ⟨nvL ⟨{ kind := 3, num := 1 }, .slice none 0 0⟩⟩]) rfl rfl (put0_ret hc h { kind := 3, num := 1 } rfl (by show s.out.length + 1 ≤ s.at_ + 1; omega)) ?_
    rintro v w1 ⟨rfl, hr, hf⟩
    refine Sa ?_
    exact QW.bodyP1 Tryz.results241 rfl ⟨_, _, rfl, .pr_true hk h1, hr, hf, by show s.at_ < s.at_ + 1; omega, rfl, by simp [putS, adv]; omega⟩
  have h1 : (tokAt c.T s).text ≠ trueT := of_decide_eq_false h1
  refine Sa ?_
  refine CW.cond rfl (fun h2 => ?_) (fun h2 => ?_)
  · have h2 : (tokAt c.T s).text = falseT := of_decide_eq_true h2
    refine Sa ?_
    refine LW.call0 (vs := [.pointer (some ⟨c.rb, 0, none⟩), .agg ⟨nvL ⟨{ kind := 3 }, .slice none 0 0⟩⟩]) rfl rfl (put0_ret hc h { kind := 3 } rfl (by show s.out.length + 1 ≤ s.at_ + 1; omega)) ?_
    rintro v w1 ⟨rfl, hr, hf⟩
    refine Sa ?_
    exact QW.bodyP1 Tryz.results241 rfl ⟨_, _, rfl, .pr_false hk h2, hr, hf, by show s.at_ < s.at_ + 1; omega, rfl, by simp [putS, adv]; omega⟩
  have h2 : (tokAt c.T s).text ≠ falseT := of_decide_eq_false h2
  refine Sa ?_
  refine LW.callP0 rfl rfl (open_ret hc h [40]) ?_ ?_
  · rintro v w1 ⟨hx1, ⟨rfl, hi, hd⟩ | ⟨rfl, hn⟩⟩
    · (repeat (first | apply QW.then_panic | apply QW.blk_panic))
      exact QW.panicP ⟨6, rfl, .pr_calldeep hk h1 h2 hi hd, hx1⟩
    · (repeat (first | apply QW.then_panic | apply QW.blk_panic))
      exact QW.panicP ⟨5, rfl, .pr_nocall hk h1 h2 hn, hx1⟩
  rintro v w1 ⟨rfl, hi, hd, hr, hf⟩
  have hd : s.deep < 12 := hd
  refine Sa ?_
  refine LW.call0 rfl rfl (may_ret hc hr [41]) ?_
  rintro v w2 ⟨rfl, hr2, hf2⟩
  replace hf := hf.trans hf2
  refine Sa ?_
  refine CW.cond rfl (fun h3 => ?_) (fun h3 => ?_)
  rotate_left
  · have h3 : isS c.T (deeper (adv (adv s))) [41] = true := by simpa using h3
    rw [mayS, if_pos h3] at hr2
    obtain ⟨a0, a1, a2, a3, outv, nvs, hB, ho, hm, hkids⟩ := hr2
    have hB0 := hB
    refine Sa ?_
    (apply LW.store; exact rfl; exact rfl; exact rfl; assumption; exact rfl; exact rfl; exact rfl; intro w3 hc3 hB)
    have e3 : ((adv (deeper (adv (adv s)))).deep : Int) - 1 = ((s.deep : Nat) : Int) := by show ((s.deep + 1 : Nat) : Int) - 1 = _; omega
    replace hB : Blk w3 c.rb [c.tokv, .int .i64 (adv (deeper (adv (adv s)))).at_, outv, .int .i64 (((adv (deeper (adv (adv s)))).deep : Int) - 1)] 99 := hB
    rw [e3] at hB
    obtain ⟨hr3, hf3⟩ := Rd.set hc (s := adv (deeper (adv (adv s)))) (s' := upper (adv (deeper (adv (adv s))))) a0 ho hm hkids hB0 hc3 hB rfl a1 (by show s.deep + 1 - 1 ≤ 12; omega) a3
    refine Sa ?_
    refine LW.call0 (vs := [.pointer (some ⟨c.rb, 0, none⟩), .agg ⟨nvL ⟨{ kind := 7, text := (tokAt c.T s).text }, .slice none 0 0⟩⟩]) rfl rfl (put0_ret hc hr3 { kind := 7, text := (tokAt c.T s).text } rfl (by show s.out.length + 1 ≤ s.at_ + 1 + 1 + 1; omega)) ?_
    rintro v w4 ⟨rfl, hr4, hf4⟩
    refine Sa ?_
    exact QW.bodyP1 Tryz.results241 rfl ⟨_, _, rfl, .pr_call0 hk h1 h2 hi hd h3, hr4, (hf.trans hf3).trans hf4, by show s.at_ < s.at_ + 1 + 1 + 1; omega, rfl, by show s.at_ + (s.out ++ [_]).length ≤ s.at_ + 1 + 1 + 1 + s.out.length; simp; omega⟩
  have h3 : isS c.T (deeper (adv (adv s))) [41] = false := by simpa using h3
  rw [mayS, h3, if_neg (by simp)] at hr2
  refine Sa ?_
  refine LW.callP0 rfl rfl (hE (deeper (adv (adv s))) (by show s.at_ < s.at_ + 1 + 1; omega) w2 X (fun b hb => Nat.lt_of_lt_of_le (hX b hb) hf.size) hr2) ?_ ?_
  · rintro v w3 ⟨e, rfl, hp, hx3⟩
    (repeat (first | apply QW.then_panic | apply QW.blk_panic))
    exact QW.panicP ⟨e, rfl, .pr_call hk h1 h2 hi hd h3 (.ar_err hp), hx3⟩
  rintro v w3 ⟨t, a, rfl, hp, hr3, hf3, g1, g2, g3⟩
  have g1 : s.at_ + 1 + 1 < t.at_ := g1
  have g2 : t.deep = s.deep + 1 := g2
  have g3 : s.at_ + 1 + 1 + t.out.length ≤ t.at_ + s.out.length := g3
  replace hf := hf.trans hf3
  refine Sa ?_
  (apply LW.buildSlice; exact rfl; exact rfl; exact rfl; exact rfl; exact rfl; exact rfl; exact rfl; exact rfl; exact rfl; intro A w4 hbA hx4 hA)
  replace hA : Blk w4 A [.int .i64 (a : Int)] 3 := hA
  replace hr3 := hr3.ext hx4
  replace hf := hf.trans (.ext hx4)
  have hz4 := hf.size
  refine Sa ?_
  refine LW.append rfl rfl rfl rfl rfl rfl (Own.nil w4 c.w0.heap.size 3 1) (by omega) hA rfl rfl rfl (by decide) rfl ?_
  intro kv w5 hc5 ho5 hnew
  replace hr3 := (hr3.grow (X' := vblk kv ++ X) (fun b hb => by
    rw [List.mem_append] at hb
    rcases hb with hb | hb
    · rcases hnew b hb with hh | hh
      · simp [vblk] at hh
      · exact .inr hh
    · exact .inl hb)).ext hc5
  replace hf := hf.trans (.ext hc5)
  have hz5 := hf.size
  refine Sa ?_
  refine CW.loop (ι := PSt × List Int × Value) (fun k w' => s.at_ + 1 + 1 < k.1.at_ ∧ k.1.deep = s.deep + 1 ∧ s.at_ + 1 + 1 + k.1.out.length ≤ k.1.at_ + s.out.length ∧ k.2.1.length ≤ k.1.at_ ∧ Rd c (vblk k.2.2 ++ X) w' k.1 ∧ Fr w w' ∧ Own w' c.w0.heap.size 3 1 k.2.2 k.2.1.length (icells k.2.1) ∧ (∀ b ∈ vblk k.2.2, w.heap.size ≤ b) ∧
      ∃ u ks0 a, k.2.1 = ks0 ++ [((a : Nat) : Int)] ∧ PE c.T (.lev 0) u (.ok k.1 a) ∧ ∀ r, PE c.T (.args (tokAt c.T s).text ks0) u r → PE c.T .prim s r) (fun k => [(0, .pointer (some ⟨c.rb, 0, none⟩)), (1, str (tokAt c.T s).text), (5, k.2.2)]) (fun k => c.T.length - k.1.at_) (t, [(a : Int)], kv)
    ⟨g1, g2, g3, by simp; omega, hr3, hf, ho5, fun b hb => by
      rcases hnew b hb with hh | hh
      · simp [vblk] at hh
      · omega, _, [], a, rfl, hp, fun r hr => .pr_call hk h1 h2 hi hd h3 hr⟩ (Sub.cons rfl (Sub.cons rfl (Sub.cons rfl (Sub.nil)))) ?_
  clear hr3 hp g1 g2 g3 hf ho5 hnew hc5 hA hx4 hbA hz4 hz5 hf3 hr2 hr hf2
  rintro ⟨t, ks, kv⟩ w6 ⟨g1, g2, g3, g4, hr, hf, ho, hfresh, u, ks0, a, hks, hp, hcont⟩
  simp only at g1 g2 g3 g4 hr ho hfresh hks hp
  show CW _ _ _ _ _ [(0, .pointer (some ⟨c.rb, 0, none⟩)), (1, str (tokAt c.T s).text), (5, kv)] _
  have htl := hr.len
  have hz6 := hf.size
  refine Sa ?_
  refine LW.call0 rfl rfl (may_ret hc hr [44]) ?_
  rintro v w7 ⟨rfl, hr7, hf7⟩
  have ho7 := Own.fr ho hf7 (by decide) (by decide)
  replace hf := hf.trans hf7
  have hz7 := hf.size
  refine Sa ?_
  refine CW.cond rfl (fun h4 => ?_) (fun h4 => ?_)
  · have h4 : isS c.T t [44] = true := h4
    rw [mayS, if_pos h4] at hr7
    refine Sa ?_
    refine LW.callP0 rfl rfl (hE (adv t) (by show s.at_ < t.at_ + 1; omega) w7 (vblk kv ++ X) (fun b hb => by
      rw [List.mem_append] at hb
      rcases hb with hb | hb
      · exact (ho7.lt hb).2
      · exact Nat.lt_of_lt_of_le (hX b hb) hz7) hr7) ?_ ?_
    · rintro v w8 ⟨e, rfl, hp', hx8⟩
      (repeat (first | apply QW.then_panic | apply QW.blk_panic))
      exact QW.panicP ⟨e, rfl, hcont _ (.ar_go hp h4 (.ar_err hp')), hx8⟩
    rintro v w8 ⟨t', a', rfl, hp', hr8, hf8, k1, k2, k3⟩
    have k1 : t.at_ + 1 < t'.at_ := k1
    have k2 : t'.deep = t.deep := k2
    have k3 : t.at_ + 1 + t'.out.length ≤ t'.at_ + t.out.length := k3
    have ho8 := Own.fr ho7 hf8 (by decide) (by decide)
    replace hf := hf.trans hf8
    refine Sa ?_
    (apply LW.buildSlice; exact rfl; exact rfl; exact rfl; exact rfl; exact rfl; exact rfl; exact rfl; exact rfl; exact rfl; intro A w9 hbA hx9 hA)
    replace hA : Blk w9 A [.int .i64 (a' : Int)] 3 := hA
    replace hr8 := hr8.ext hx9
    replace hf := hf.trans (.ext hx9)
    have ho9 := ho8.ext hx9
    have hz9 := hf.size
    refine Sa ?_
    refine LW.append rfl rfl rfl rfl rfl rfl ho9 (by omega) hA rfl rfl rfl (by show (ks.length + 1) * 9 ≤ 140737488355328; omega) rfl ?_
    intro kv' w10 hc10 ho10 hnew
    have hr10 : Rd c (vblk kv' ++ X) w10 t' := by
      have h5 := hr8.grow (X' := vblk kv ++ (vblk kv' ++ X)) (fun b hb => by
        simp only [List.mem_append] at hb ⊢
        rcases hb with hb | hb | hb
        · exact .inl (.inl hb)
        · rcases hnew b hb with hh | hh
          · exact .inl (.inl hh)
          · exact .inr hh
        · exact .inl (.inr hb))
      have h6 := h5.other hc10 (fun b hb => ⟨(ho9.lt hb).1, List.mem_append_left _ hb, fun l T k => Own.type ho9 hb k⟩)
      exact h6.grow (fun b hb => .inl (List.mem_append_right _ hb))
    have hf10 : Fr w w10 := ⟨Nat.le_trans hz9 hc10.size, fun b l T hb n1 n2 => (hf.blk b l T hb n1 n2).chg hc10 (fun hm => by
      have := hfresh b hm
      have := hb.lt
      omega)⟩
    refine Sa ?_
    refine QW.again (t', ks ++ [(a' : Int)], kv') ⟨by show s.at_ + 1 + 1 < t'.at_; omega, k2.trans g2, by show s.at_ + 1 + 1 + t'.out.length ≤ t'.at_ + s.out.length; omega, by show (ks ++ [_]).length ≤ t'.at_; simp; omega, hr10, hf10, own_int ho10, fun b hb => ?_, adv t, ks, a', rfl, hp', fun r hr => hcont r (.ar_go hp h4 (by rw [← hks]; exact hr))⟩ (Sub.cons rfl (Sub.cons rfl (Sub.cons rfl (Sub.nil)))) (by show c.T.length - t'.at_ < c.T.length - t.at_; omega)
    rcases hnew b hb with hh | hh
    · exact hfresh b hh
    · omega
  have h4 : isS c.T t [44] = false := h4
  rw [mayS, h4, if_neg (by simp)] at hr7
  refine Sa ?_
  refine LW.callP0 rfl rfl (need_ret hc hr7 [41]) ?_ ?_
  · rintro v w8 ⟨rfl, hn, hx8⟩
    (repeat (first | apply QW.then_panic | apply QW.blk_panic))
    exact QW.panicP ⟨5, rfl, hcont _ (.ar_open hp h4 hn), hx8⟩
  rintro v w8 ⟨rfl, h5, hr8, hf8⟩
  have ho8 := Own.fr ho7 hf8 (by decide) (by decide)
  replace hf := hf.trans hf8
  obtain ⟨a0, a1, a2, a3, outv, nvs, hB, hoo, hm, hkids⟩ := hr8
  have hB0 := hB
  refine Sa ?_
  (apply LW.store; exact rfl; exact rfl; exact rfl; assumption; exact rfl; exact rfl; exact rfl; intro w9 hc9 hB)
  have e9 : (t.deep : Int) - 1 = ((s.deep : Nat) : Int) := by omega
  replace hB : Blk w9 c.rb [c.tokv, .int .i64 (adv t).at_, outv, .int .i64 ((t.deep : Int) - 1)] 99 := hB
  rw [e9] at hB
  have hud : (upper (adv t)).deep = s.deep := by show t.deep - 1 = s.deep; omega
  rw [← hud] at hB
  obtain ⟨hr9, hf9⟩ := Rd.set hc (s := adv t) (s' := upper (adv t)) a0 hoo hm hkids hB0 hc9 hB rfl a1 (by rw [hud]; omega) a3
  have ho9 := Own.fr ho8 hf9 (by decide) (by decide)
  replace hf := hf.trans hf9
  have hr9' : Rd c X w9 (upper (adv t)) := hr9.grow (fun b hb => .inl (List.mem_append_right _ hb))
  obtain ⟨kp, kq, rfl⟩ := ho9.slice
  refine Sa ?_
  refine LW.call0 (vs := [.pointer (some ⟨c.rb, 0, none⟩), .agg ⟨nvL ⟨{ kind := 7, text := (tokAt c.T s).text, kids := ks }, .slice kp ks.length kq⟩⟩]) rfl rfl (put_ret hc hr9' ⟨{ kind := 7, text := (tokAt c.T s).text, kids := ks }, .slice kp ks.length kq⟩ (own_kids ho9) (fun b hb hbX => by
    have := hfresh b hb
    have := hX b hbX
    omega) (by show t.out.length + 1 ≤ t.at_ + 1; omega)) ?_
  rintro v w10 ⟨rfl, hr10, hf10⟩
  refine Sa ?_
  refine QW.bodyP1 Tryz.results241 rfl ⟨putS (upper (adv t)) { kind := 7, text := (tokAt c.T s).text, kids := ks }, t.out.length, rfl, hcont _ ?_, hr10, hf.trans hf10, by show s.at_ < t.at_ + 1; omega, hud, by show s.at_ + (t.out ++ [_]).length ≤ t.at_ + 1 + s.out.length; simp; omega⟩
  rw [hks]
  exact .ar_end hp h4 h5

theorem tok_kinds {c : PCtx} (hc : c.Ok) {s : PSt} (h : s.at_ < c.T.length) : 0 ≤ (tokAt c.T s).kind ∧ (tokAt c.T s).kind ≤ 6 := by
  have : tokAt c.T s = c.T[s.at_] := by simp [tokAt, List.getD_eq_getElem?_getD, List.getElem?_eq_getElem h]
  rw [this]
  exact hc.kinds _ (List.getElem_mem h)

theorem prim_ret {c : PCtx} (hc : c.Ok) (s : PSt) (hE : ∀ s', s.at_ < s'.at_ → PC c 67 (.lev 0) s') : PC c 226 .prim s := by
  intro w X hX h
  have hlen := hc.len
  have hrange := tok_kinds hc h.2.1
  refine RetP.enter Tryz.func226 rfl Tryz.ntmps226 (by kernel_rfl) rfl ?_
  refine Sa ?_
  refine LW.call0 rfl rfl (now_ret hc h) ?_
  rintro v w1 ⟨rfl, hx1⟩
  replace h := h.ext hx1
  refine Sa ?_
  (apply LW.alloc; exact rfl; exact rfl; exact rfl; intro C w2 hbC hx2 hC)
  refine Sa ?_
  (apply LW.store_all; exact rfl; exact rfl; exact rfl; assumption; exact rfl; exact rfl; exact rfl; intro w3 hc3 hC)
  replace hC : Blk w3 C (tokL (tokAt c.T s)) 102 := hC
  have hx3 : Ext w w3 := (hx1.trans hx2).step hc3 (by simp; have := hx1.size; omega)
  have hx3' : Ext w1 w3 := hx2.step hc3 (by simp; omega)
  replace h := h.ext hx3'
  replace hX : ∀ b ∈ X, b < w3.heap.size := fun b hb => Nat.lt_of_lt_of_le (hX b hb) hx3.size
  have hf := Fr.ext hx3
  have hl := h.len
  refine Sa ?_
  refine CW.cond rfl (fun h5 => ?_) (fun h5 => ?_)
  · have h5 : (tokAt c.T s).kind = 5 := by simpa using h5
    refine Sa ?_
    refine LW.callP0 rfl rfl (open_ret hc h [40]) ?_ ?_
    · rintro v w4 ⟨hx4, ⟨rfl, hi, hd⟩ | ⟨rfl, hn⟩⟩
      · (repeat (first | apply QW.then_panic | apply QW.blk_panic))
        exact QW.panicP ⟨6, rfl, .pr_deep hi hd, hx4⟩
      · (repeat (first | apply QW.then_panic | apply QW.blk_panic))
        exact QW.panicP ⟨5, rfl, .pr_sign h5 (by simpa [isS, h5] using hn), hx4⟩
    rintro v w4 ⟨rfl, hi, hd, hr, hf4⟩
    replace hf := hf.trans hf4
    refine Sa ?_
    refine LW.callP0 rfl rfl (hE (deeper (adv s)) (by show s.at_ < s.at_ + 1; omega) w4 X (fun b hb => Nat.lt_of_lt_of_le (hX b hb) hf4.size) hr) ?_ ?_
    · rintro v w5 ⟨e, rfl, hp, hx5⟩
      (repeat (first | apply QW.then_panic | apply QW.blk_panic))
      exact QW.panicP ⟨e, rfl, .pr_err hi hd hp, hx5⟩
    rintro v w5 ⟨s1, a, rfl, hp, hr5, hf5, g1, g2, g3⟩
    have g1' : s.at_ + 1 < s1.at_ := g1
    have g2' : s1.deep = s.deep + 1 := g2
    have g3' : s.at_ + 1 + s1.out.length ≤ s1.at_ + s.out.length := g3
    replace hf := hf.trans hf5
    refine Sa ?_
    refine LW.callP0 rfl rfl (need_ret hc hr5 [41]) ?_ ?_
    · rintro v w6 ⟨rfl, hn, hx6⟩
      (repeat (first | apply QW.then_panic | apply QW.blk_panic))
      exact QW.panicP ⟨5, rfl, .pr_open hi hd hp hn, hx6⟩
    rintro v w6 ⟨rfl, h6, hr6, hf6⟩
    replace hf := hf.trans hf6
    obtain ⟨a0, a1, a2, a3, outv, nvs, hB, ho, hm, hkids⟩ := hr6
    have hB0 := hB
    refine Sa ?_
    (apply LW.store; exact rfl; exact rfl; exact rfl; assumption; exact rfl; exact rfl; exact rfl; intro w7 hc7 hB)
    replace hB : Blk w7 c.rb [c.tokv, .int .i64 (adv s1).at_, outv, .int .i64 ((s1.deep : Int) - 1)] 99 := hB
    have e7 : (s1.deep : Int) - 1 = (((upper (adv s1)).deep : Nat) : Int) := by show (s1.deep : Int) - 1 = ((s1.deep - 1 : Nat) : Int); omega
    rw [e7] at hB
    obtain ⟨hr7, hf7⟩ := Rd.set hc (s := adv s1) (s' := upper (adv s1)) a0 ho hm hkids hB0 hc7 hB rfl a1 (by show s1.deep - 1 ≤ 12; omega) a3
    refine Sa ?_
    exact QW.bodyP1 Tryz.results226 rfl ⟨upper (adv s1), a, rfl, .pr_ok hi hd hp h6, hr7, hf.trans hf7, by show s.at_ < s1.at_ + 1; omega, by show s1.deep - 1 = s.deep; omega, by show s.at_ + s1.out.length ≤ s1.at_ + 1 + s.out.length; omega⟩
  have h5 : (tokAt c.T s).kind ≠ 5 := by simpa using h5
  refine Sa ?_
  refine CW.cond rfl (fun h0 => ?_) (fun h0 => ?_)
  · have h0 : (tokAt c.T s).kind = 0 := by simpa using h0
    refine Sa ?_
    refine LW.callP0 rfl rfl (fail_ret c.rb 5 w3) ?_ (fun _ _ hh => hh.elim)
    rintro v w4 ⟨rfl, hx4⟩
    (repeat (first | apply QW.then_panic | apply QW.blk_panic))
    exact QW.panicP ⟨5, rfl, .pr_end h0, h.1.trans hx4⟩
  have h0 : (tokAt c.T s).kind ≠ 0 := by simpa using h0
  obtain ⟨a0, a1, a2, a3, outv, nvs, hB, ho, hm, hkids⟩ := h
  have hnx := rd_next hc a1 h0
  have hB0 := hB
  refine Sa ?_
  (apply LW.store; exact rfl; exact rfl; exact rfl; assumption; exact rfl; exact rfl; exact rfl; intro w4 hc4 hB)
  replace hB : Blk w4 c.rb [c.tokv, .int .i64 (adv s).at_, outv, .int .i64 s.deep] 99 := hB
  obtain ⟨h, hf4⟩ := Rd.set hc (s := s) (s' := adv s) a0 ho hm hkids hB0 hc4 hB rfl hnx a2 (by show s.out.length ≤ s.at_ + 1; omega)
  clear hB0 hB ho hm hkids
  replace hf := hf.trans hf4
  replace hC := hf4.blk _ _ _ hC (by decide) (by decide)
  replace hX : ∀ b ∈ X, b < w4.heap.size := fun b hb => Nat.lt_of_lt_of_le (hX b hb) hf4.size
  have hsl : (adv s).out.length + 1 ≤ (adv s).at_ := by show s.out.length + 1 ≤ s.at_ + 1; omega
  have q1 : s.at_ < s.at_ + 1 := by omega
  have q3 : ∀ n : NodeD, s.at_ + (s.out ++ [n]).length ≤ s.at_ + 1 + s.out.length := fun n => by simp; omega
  refine Sa ?_
  refine CW.cond rfl (fun h1 => ?_) (fun h1 => ?_)
  · have h1 : (tokAt c.T s).kind = 1 := by simpa using h1
    refine Sa ?_
    refine LW.call0 (vs := [.pointer (some ⟨c.rb, 0, none⟩), .agg ⟨nvL ⟨{ kind := 1, num := (tokAt c.T s).num }, .slice none 0 0⟩⟩]) rfl rfl (put0_ret hc h { kind := 1, num := (tokAt c.T s).num } rfl hsl) ?_
    rintro v w5 ⟨rfl, hr, hf5⟩
    refine Sa ?_
    exact QW.bodyP1 Tryz.results226 rfl ⟨_, _, rfl, .pr_num h1, hr, hf.trans hf5, q1, rfl, q3 _⟩
  have h1 : (tokAt c.T s).kind ≠ 1 := by simpa using h1
  refine Sa ?_
  refine CW.cond rfl (fun h2 => ?_) (fun h2 => ?_)
  · have h2 : (tokAt c.T s).kind = 2 := by simpa using h2
    refine Sa ?_
    refine LW.call0 (vs := [.pointer (some ⟨c.rb, 0, none⟩), .agg ⟨nvL ⟨{ kind := 2, text := (tokAt c.T s).text }, .slice none 0 0⟩⟩]) rfl rfl (put0_ret hc h { kind := 2, text := (tokAt c.T s).text } rfl hsl) ?_
    rintro v w5 ⟨rfl, hr, hf5⟩
    refine Sa ?_
    exact QW.bodyP1 Tryz.results226 rfl ⟨_, _, rfl, .pr_text h2, hr, hf.trans hf5, q1, rfl, q3 _⟩
  have h2 : (tokAt c.T s).kind ≠ 2 := by simpa using h2
  refine Sa ?_
  refine CW.cond rfl (fun h6 => ?_) (fun h6 => ?_)
  · have h6 : (tokAt c.T s).kind = 6 := by simpa using h6
    refine Sa ?_
    refine LW.call0 (vs := [.pointer (some ⟨c.rb, 0, none⟩), .agg ⟨nvL ⟨{ kind := 4 }, .slice none 0 0⟩⟩]) rfl rfl (put0_ret hc h { kind := 4 } rfl hsl) ?_
    rintro v w5 ⟨rfl, hr, hf5⟩
    refine Sa ?_
    exact QW.bodyP1 Tryz.results226 rfl ⟨_, _, rfl, .pr_dead h6, hr, hf.trans hf5, q1, rfl, q3 _⟩
  have h6 : (tokAt c.T s).kind ≠ 6 := by simpa using h6
  refine Sa ?_
  refine CW.cond rfl (fun h4 => ?_) (fun h4 => ?_)
  · have h4 : (tokAt c.T s).kind = 4 := by simpa using h4
    refine Sa ?_
    refine LW.load_agg (cs := refL (tokAt c.T s).ref) rfl hC rfl rfl rfl ⟨rfl, rfl, rfl, rfl, rfl, trivial⟩ rfl ?_
    refine Sa ?_
    refine LW.callP0 rfl rfl (ref_ret hc (adv s) (tokAt c.T s).ref w4 h hsl) ?_ ?_
    · rintro v w5 ⟨rfl, hx5, hi, hn⟩
      (repeat (first | apply QW.then_panic | apply QW.blk_panic))
      exact QW.panicP ⟨5, rfl, .pr_norange h4 hi hn, hx5⟩
    rintro v w5 ⟨rfl, hf5, ⟨hi, hr⟩ | ⟨hi, hk2, hr2, hr⟩⟩
    · refine Sa ?_
      exact QW.bodyP1 Tryz.results226 rfl ⟨_, _, rfl, .pr_ref h4 hi, hr, hf.trans hf5, q1, rfl, q3 _⟩
    · refine Sa ?_
      exact QW.bodyP1 Tryz.results226 rfl ⟨_, _, rfl, .pr_range h4 hi hk2 hr2, hr, hf.trans hf5, by show s.at_ < s.at_ + 1 + 1 + 1; omega, rfl, by show s.at_ + (s.out ++ [_]).length ≤ s.at_ + 1 + 1 + 1 + s.out.length; simp; omega⟩
  have h4 : (tokAt c.T s).kind ≠ 4 := by simpa using h4
  have h3 : (tokAt c.T s).kind = 3 := by omega
  refine Sa ?_
  refine LW.callP0 rfl rfl (pword_ret hc s h3 hE w4 X hX h a3) ?_ ?_
  · rintro v w5 hp
    (repeat (first | apply QW.then_panic | apply QW.blk_panic))
    exact QW.panicP hp
  rintro v w5 ⟨s', p, rfl, hp, hr, hf5, k1, k2, k3⟩
  refine Sa ?_
  exact QW.bodyP1 Tryz.results226 rfl ⟨s', p, rfl, hp, hr, hf.trans hf5, k1, k2, k3⟩

/-- All of them, by how many tokens are left. -/
theorem readers {c : PCtx} (hc : c.Ok) : ∀ (m : Nat) (s : PSt), c.T.length - s.at_ ≤ m →
    PC c 67 (.lev 0) s ∧ PC c 111 (.lev 1) s ∧ PC c 155 (.lev 2) s ∧ PC c 187 (.lev 3) s ∧ PC c 209 .unary s ∧ PC c 226 .prim s
  | 0, s, hm => by
    have key : ∀ f m, PC c f m s := fun f m w X hX h => absurd h.2.1 (by omega)
    exact ⟨key _ _, key _ _, key _ _, key _ _, key _ _, key _ _⟩
  | m + 1, s, hm => by
    by_cases hs : s.at_ < c.T.length
    · have ih := fun (s' : PSt) (h : s.at_ < s'.at_) => readers hc m s' (by omega)
      have hp := prim_ret hc s (fun s' h => (ih s' h).1)
      have hu := unary_ret hc s hp (fun s' h => (ih s' h).2.2.2.2.1)
      have ht := term_ret hc s hu (fun s' h _ => (ih s' h).2.2.2.2.1)
      have hsu := sum_ret hc s ht (fun s' h _ => (ih s' h).2.2.2.1)
      have hca := cat_ret hc s hsu (fun s' h _ => (ih s' h).2.2.1)
      exact ⟨expr_ret hc s hca (fun s' h _ => (ih s' h).2.1), hca, hsu, ht, hu, hp⟩
    · have key : ∀ f m, PC c f m s := fun f m w X hX h => absurd h.2.1 hs
      exact ⟨key _ _, key _ _, key _ _, key _ _, key _ _, key _ _⟩
end Go.Proofs.YtiloogjageledaaGreatDoor

namespace Go.Proofs.YtiloogjageledaaGreatDoor
open Go Go.E

theorem oneO_kind {l : List UInt8} {t : TokD} {k : Nat} (h : oneO l = some (t, k)) : 1 ≤ t.kind ∧ t.kind ≤ 6 := by
  unfold oneO at h
  split at h
  · rw [(numO_len h).2]; decide
  · split at h
    · unfold textO at h
      cases e : scanT (l.drop 1) with
      | none => rw [e] at h; cases h
      | some x =>
        rw [e] at h
        simp only [Option.map_some, Option.some.injEq, Prod.mk.injEq] at h
        rw [← h.1]; simp
    · split at h
      · unfold wordO at h
        simp only at h
        split at h
        · simp only [Option.some.injEq, Prod.mk.injEq] at h
          rw [← h.1]; simp
        · split at h
          · simp only [Option.some.injEq, Prod.mk.injEq] at h
            rw [← h.1]; simp
          · cases h
      · unfold signO at h
        split at h
        · simp only [Option.some.injEq, Prod.mk.injEq] at h
          rw [← h.1]; simp
        · cases e : signsT.find? fun s => Lib.hasPrefix l s with
          | none => rw [e] at h; cases h
          | some x =>
            rw [e] at h
            simp only [Option.map_some, Option.some.injEq, Prod.mk.injEq] at h
            rw [← h.1]; simp
theorem lexF_kinds : ∀ (n : Nat) (l : List UInt8) (a : Nat) {out : List TokD}, l.length ≤ n → lexF l a = some out →
    out ≠ [] ∧ (∀ t ∈ out, 0 ≤ t.kind ∧ t.kind ≤ 6) ∧ ∀ i, i < out.length → (out.getD i tokZ).kind ≠ 0 → i + 1 < out.length
  | n, l, a, out, hn, h => by
    cases e : l.drop (spanL spB l).length with
    | nil =>
      rw [lexF_end e] at h
      simp only [Option.some.injEq] at h
      subst h
      refine ⟨by simp, by simp, fun i hi hk => ?_⟩
      simp at hi
      subst hi
      simp at hk
    | cons c r =>
      have hl := congrArg List.length e
      simp at hl
      cases ho : oneO (c :: r) with
      | none => rw [lexF_bad e (by simp) ho] at h; cases h
      | some x =>
        obtain ⟨t, k⟩ := x
        have hk := oneO_pos (by simp) ho
        have hkind := oneO_kind ho
        rw [lexF_go e (by simp) ho hk] at h
        cases hr : lexF ((c :: r).drop k) (a + (spanL spB l).length + k) with
        | none => rw [hr] at h; cases h
        | some y =>
          rw [hr] at h
          simp only [Option.map_some, Option.some.injEq] at h
          subst h
          match n with
          | 0 => omega
          | n + 1 =>
            have hd : ((c :: r).drop k).length = r.length + 1 - k := by simp
            obtain ⟨y0, y1, y2⟩ := lexF_kinds n ((c :: r).drop k) _ (by rw [hd]; omega) hr
            refine ⟨by simp, fun t' ht' => ?_, fun i hi hki => ?_⟩
            · simp only [List.mem_cons] at ht'
              rcases ht' with rfl | ht'
              · exact ⟨by show 0 ≤ t.kind; omega, hkind.2⟩
              · exact y1 t' ht'
            · have hyl := List.length_pos_iff.2 y0
              cases i with
              | zero => simp; omega
              | succ i =>
                have := y2 i (by simpa using hi) (by simpa using hki)
                simpa using this

theorem catch_panic (L E : Nat) (e : Int) (x y : Value) (w : World) (hL : Blk w L [x] 23) (hE : Blk w E [y] 24) :
    CallsD Tryz.prog 66 ⟨[.pointer (some ⟨L, 0, none⟩), .pointer (some ⟨E, 0, none⟩)]⟩ (.panicking [{ v := pv e, recovered := false }]) w
      (fun r u w' => r = .returned (.tuple #[]) ∧ u = .panicking [{ v := pv e, recovered := true }] ∧ Blk w' L [.slice none 0 0] 23 ∧ Blk w' E [.int .i64 e] 24 ∧ Chg [L, E] w w') := by
  have hne : L ≠ E := fun h => by subst h; exact absurd (hL.inj hE) (by decide)
  refine recover_calls (u' := .panicking [{ v := pv e, recovered := true }]) (v := pv e) Tryz.func66 rfl Tryz.ntmps66 rfl rfl rfl (fun c₀ cs hu => by simp [recoverD, hu]) (fun c₀ cs => ?_)
  refine Sa ?_
  refine LW.typeAssert rfl rfl rfl rfl ?_
  refine Sa ?_
  (apply LW.store; exact rfl; exact rfl; exact rfl; assumption; exact rfl; exact rfl; exact rfl; intro w1 hc1 hL)
  replace hE := hE.chg hc1 (by simpa using hne.symm)
  refine Sa ?_
  (apply LW.store; exact rfl; exact rfl; exact rfl; assumption; exact rfl; exact rfl; exact rfl; intro w2 hc2 hE)
  replace hL := hL.chg hc2 (by simpa using hne)
  refine Sa ?_
  exact QW.bodyS Tryz.results66 ⟨rfl, rfl, hL, hE, (Chg.trans hc1 hc2).mono (by simp)⟩
theorem catch_idle (L E : Nat) (w : World) :
    CallsD Tryz.prog 66 ⟨[.pointer (some ⟨L, 0, none⟩), .pointer (some ⟨E, 0, none⟩)]⟩ .returning w (fun r u w' => r = .returned (.tuple #[]) ∧ u = .returning ∧ w' = w) := by
  refine recover_calls (u' := .returning) (v := .nilIface) Tryz.func66 rfl Tryz.ntmps66 rfl rfl rfl (fun c₀ cs hu => by
    have : recoverD (c₀ :: cs) = none := by simp [recoverD, hu]
    rw [this]
    cases c₀
    simp_all) (fun c₀ cs => ?_)
  refine Sa ?_
  exact QW.bodyS Tryz.results66 ⟨rfl, rfl, rfl⟩

/-- Nodes in memory. -/
def Nodes (w : World) (lo : Nat) (sv : Value) (l : List NodeD) : Prop :=
  ∃ nvs : List NV, Own w lo 38 14 sv nvs.length (nvs.flatMap nvL) ∧ nvs.map NV.node = l ∧ ∀ x ∈ nvs, KidsOk w x.kv x.node.kids
abbrev ResV (w : World) (lo : Nat) (v : Value) (o : Except Int (List NodeD)) : Prop := match o with
  | .error e => v = .tuple #[.slice none 0 0, .int .i64 e]
  | .ok l => ∃ sv, v = .tuple #[sv, .int .i64 0] ∧ Nodes w lo sv l
/-- What a text is told as. -/
def ParseV (s : List UInt8) (v : Value) (w : World) (lo : Nat) : Prop :=
  if 300 < s.length then v = .tuple #[.slice none 0 0, .int .i64 4]
  else match lexT s with
    | none => v = .tuple #[.slice none 0 0, .int .i64 5]
    | some T => ∃ o, Parsed T o ∧ ResV w lo v o

theorem Parse_ret (s : List UInt8) (hs : s.length ≤ 9223372036854775807) (w : World) (g : Glob w) : Ret Tryz.prog 22 [str s] w (fun v w' => ParseV s v w' w.heap.size ∧ Ext w w') := by
  have hpc : callable Tryz.prog 66 = true := by kernel_rfl
  refine Ret.enterD Tryz.func22 rfl Tryz.ntmps22 (by kernel_rfl) rfl ?_
  refine Sa ?_
  (apply LW.alloc; exact rfl; exact rfl; exact rfl; intro L w1 hbL hx1 hL)
  have hL1 := hL.lt
  refine Sa ?_
  (apply LW.alloc; exact rfl; exact rfl; exact rfl; intro E w2 hbE hx2 hE)
  replace hL := hL.ext hx2
  have hLE : L ≠ E := by omega
  have hx2' := hx1.trans hx2
  refine Sa ?_
  refine LW.call0 rfl rfl (Lex_ret s hs w2 (g.ext hx2')) ?_
  rintro v w3 ⟨hv, hx3⟩
  replace hL := hL.ext hx3
  replace hE := hE.ext hx3
  have hx3' := hx2'.trans hx3
  by_cases hbig : 300 < s.length
  · rw [LexV, if_pos hbig] at hv
    subst hv
    have hpv : ∀ w', ParseV s (.tuple #[.slice none 0 0, .int .i64 4]) w' w.heap.size := fun w' => by rw [ParseV, if_pos hbig]
    refine Sa ?_
    (apply LW.store; exact rfl; exact rfl; exact rfl; assumption; exact rfl; exact rfl; exact rfl; intro w4 hc4 hE)
    replace hL := hL.chg hc4 (by simpa using hLE)
    have hx4 : Ext w w4 := hx3'.step hc4 (by simp; have := hx1.size; omega)
    refine Sa ?_
    refine CW.drawAny (by kernel_rfl) fun w5 hx5 => ?_
    replace hL := hL.ext hx5
    replace hE := hE.ext hx5
    refine AW.two 0 1 (by kernel_rfl) rfl rfl rfl rfl ?_ ?_
    · refine Sa ?_
      apply QW.any
      refine AW.one 1 (by kernel_rfl) rfl rfl ?_
      (apply LW.store; exact rfl; exact rfl; exact rfl; assumption; exact rfl; exact rfl; exact rfl; intro w6 hc6 hL)
      replace hE := hE.chg hc6 (by simpa using hLE.symm)
      apply LW.nil
      apply QW.any
      refine AW.one 2 (by kernel_rfl) rfl rfl ?_
      (apply LW.store; exact rfl; exact rfl; exact rfl; assumption; exact rfl; exact rfl; exact rfl; intro w7 hc7 hE)
      replace hL := hL.chg hc7 (by simpa using hLE)
      have hx7 : Ext w w7 := ((hx4.trans hx5).step hc6 (by simp; omega)).step hc7 (by simp; have := hx1.size; omega)
      apply LW.nil
      apply QW.any
      refine AW.done (by kernel_rfl) ?_
      refine Sa ?_
      refine QW.bodyD0 (rs := [.cell 2 23, .cell 3 24]) (vs := [.slice none 0 0, _]) Tryz.results22 ⟨⟨L, rfl, run_load_one rfl rfl hL rfl⟩, ⟨E, rfl, run_load_one rfl rfl hE rfl⟩, trivial⟩ rfl ⟨hpv w7, hx7⟩
    · (apply LW.store; exact rfl; exact rfl; exact rfl; assumption; exact rfl; exact rfl; exact rfl; intro w6 hc6 hL)
      replace hE := hE.chg hc6 (by simpa using hLE.symm)
      apply LW.nil
      apply QW.any
      refine AW.one 0 (by kernel_rfl) rfl rfl ?_
      refine Sa ?_
      apply QW.any
      refine AW.one 2 (by kernel_rfl) rfl rfl ?_
      (apply LW.store; exact rfl; exact rfl; exact rfl; assumption; exact rfl; exact rfl; exact rfl; intro w7 hc7 hE)
      replace hL := hL.chg hc7 (by simpa using hLE)
      have hx7 : Ext w w7 := ((hx4.trans hx5).step hc6 (by simp; omega)).step hc7 (by simp; have := hx1.size; omega)
      apply LW.nil
      apply QW.any
      refine AW.done (by kernel_rfl) ?_
      refine Sa ?_
      refine QW.bodyD0 (rs := [.cell 2 23, .cell 3 24]) (vs := [.slice none 0 0, _]) Tryz.results22 ⟨⟨L, rfl, run_load_one rfl rfl hL rfl⟩, ⟨E, rfl, run_load_one rfl rfl hE rfl⟩, trivial⟩ rfl ⟨hpv w7, hx7⟩
  cases hlex : lexT s with
  | none =>
    rw [LexV, if_neg hbig, hlex] at hv
    subst hv
    have hpv : ∀ w', ParseV s (.tuple #[.slice none 0 0, .int .i64 5]) w' w.heap.size := fun w' => by rw [ParseV, if_neg hbig, hlex]
    refine Sa ?_
    (apply LW.store; exact rfl; exact rfl; exact rfl; assumption; exact rfl; exact rfl; exact rfl; intro w4 hc4 hE)
    replace hL := hL.chg hc4 (by simpa using hLE)
    have hx4 : Ext w w4 := hx3'.step hc4 (by simp; have := hx1.size; omega)
    refine Sa ?_
    refine CW.drawAny (by kernel_rfl) fun w5 hx5 => ?_
    replace hL := hL.ext hx5
    replace hE := hE.ext hx5
    refine AW.two 0 1 (by kernel_rfl) rfl rfl rfl rfl ?_ ?_
    · refine Sa ?_
      apply QW.any
      refine AW.one 1 (by kernel_rfl) rfl rfl ?_
      (apply LW.store; exact rfl; exact rfl; exact rfl; assumption; exact rfl; exact rfl; exact rfl; intro w6 hc6 hL)
      replace hE := hE.chg hc6 (by simpa using hLE.symm)
      apply LW.nil
      apply QW.any
      refine AW.one 2 (by kernel_rfl) rfl rfl ?_
      (apply LW.store; exact rfl; exact rfl; exact rfl; assumption; exact rfl; exact rfl; exact rfl; intro w7 hc7 hE)
      replace hL := hL.chg hc7 (by simpa using hLE)
      have hx7 : Ext w w7 := ((hx4.trans hx5).step hc6 (by simp; omega)).step hc7 (by simp; have := hx1.size; omega)
      apply LW.nil
      apply QW.any
      refine AW.done (by kernel_rfl) ?_
      refine Sa ?_
      refine QW.bodyD0 (rs := [.cell 2 23, .cell 3 24]) (vs := [.slice none 0 0, _]) Tryz.results22 ⟨⟨L, rfl, run_load_one rfl rfl hL rfl⟩, ⟨E, rfl, run_load_one rfl rfl hE rfl⟩, trivial⟩ rfl ⟨hpv w7, hx7⟩
    · (apply LW.store; exact rfl; exact rfl; exact rfl; assumption; exact rfl; exact rfl; exact rfl; intro w6 hc6 hL)
      replace hE := hE.chg hc6 (by simpa using hLE.symm)
      apply LW.nil
      apply QW.any
      refine AW.one 0 (by kernel_rfl) rfl rfl ?_
      refine Sa ?_
      apply QW.any
      refine AW.one 2 (by kernel_rfl) rfl rfl ?_
      (apply LW.store; exact rfl; exact rfl; exact rfl; assumption; exact rfl; exact rfl; exact rfl; intro w7 hc7 hE)
      replace hL := hL.chg hc7 (by simpa using hLE)
      have hx7 : Ext w w7 := ((hx4.trans hx5).step hc6 (by simp; omega)).step hc7 (by simp; have := hx1.size; omega)
      apply LW.nil
      apply QW.any
      refine AW.done (by kernel_rfl) ?_
      refine Sa ?_
      refine QW.bodyD0 (rs := [.cell 2 23, .cell 3 24]) (vs := [.slice none 0 0, _]) Tryz.results22 ⟨⟨L, rfl, run_load_one rfl rfl hL rfl⟩, ⟨E, rfl, run_load_one rfl rfl hE rfl⟩, trivial⟩ rfl ⟨hpv w7, hx7⟩
  | some T =>
  rw [LexV, if_neg hbig, hlex] at hv
  obtain ⟨sv, rfl, hown⟩ := hv
  obtain ⟨k0, k1, k2⟩ := lexF_kinds _ s 0 (Nat.le_refl _) hlex
  have htl := lexT_len hlex
  obtain ⟨tb, tcap, tsp, rfl, hT, _⟩ := hown.get (List.length_pos_iff.2 k0)
  have hz3 := hx3'.size
  refine Sa ?_
  (apply LW.store; exact rfl; exact rfl; exact rfl; assumption; exact rfl; exact rfl; exact rfl; intro w4 hc4 hE)
  have hEtb : tb ≠ E := fun h => by subst h; exact absurd (hT.inj (by assumption : Blk w3 tb [_] 24)) (by decide)
  replace hL := hL.chg hc4 (by simpa using hLE)
  replace hT := hT.chg hc4 (by simpa using hEtb)
  have hx4 : Ext w w4 := hx3'.step hc4 (by simp; have := hx1.size; omega)
  refine Sa ?_
  refine LW.defer rfl rfl ?_
  refine Sa ?_
  have hL4 := hL.lt
  have hE4 := hE.lt
  have hw4 : w.heap.size ≤ L ∧ w.heap.size ≤ E := by have := hx1.size; omega
  (apply LW.box; exact rfl; exact rfl; exact rfl; intro R w5 hbR hx5 hR)
  obtain ⟨c, hc0⟩ : ∃ c : PCtx, c = ⟨T, tb, tcap, tsp, R, w4⟩ := ⟨_, rfl⟩
  have hc : c.Ok := by
    subst hc0
    exact ⟨hT, by show T.length ≤ 301; omega, k2, k1, by show w4.heap.size ≤ R; omega⟩
  have hcT : c.T = T := by rw [hc0]
  have hcR : c.rb = R := by rw [hc0]
  have hcw : c.w0 = w4 := by rw [hc0]
  have hrd : Rd c [] w5 ⟨0, [], 0⟩ := by
    refine ⟨by rw [hcw]; exact hx5, by rw [hcT]; exact List.length_pos_iff.2 k0, by simp, by simp, .slice none 0 0, [], ?_, Own.nil _ _ _ _, rfl, by simp⟩
    rw [hcR, PCtx.tokv, hc0]
    exact hR
  have hexpr := (readers hc _ ⟨0, [], 0⟩ (Nat.le_refl _)).1 w5 [] (by simp) hrd
  rw [hcR] at hexpr
  refine Sa ?_
  refine LW.callP0 rfl rfl hexpr ?_ ?_
  · rintro v w6 ⟨e, rfl, hp, hx6⟩
    rw [hcw] at hx6
    have hpd : Parsed T (.error e) := .inl (by rw [← hcT]; exact hp)
    (repeat (first | apply QW.then_panic | apply QW.blk_panic))
    refine QW.panicD1 (rs := [.cell 2 23, .cell 3 24]) Tryz.results22 hpc ?_
    refine (catch_panic L E _ _ _ _ (hL.ext hx6) (hE.ext hx6)).mono ?_
    rintro e' u w' ⟨rfl, rfl, hL', hE', hcc⟩
    refine ⟨rfl, rfl, [.slice none 0 0, _], ⟨⟨L, rfl, run_load_one rfl rfl hL' rfl⟩, ⟨E, rfl, run_load_one rfl rfl hE' rfl⟩, trivial⟩, ?_, (hx4.trans hx6).step hcc (by simp; omega)⟩
    rw [ParseV, if_neg hbig, hlex]
    exact ⟨_, hpd, rfl⟩
  rintro v w6 ⟨s1, p, rfl, hp, hr, hf, _, _, _⟩
  have hx6 : Ext w4 w6 := by have := hr.1; rwa [hcw] at this
  have hnow := now_ret hc hr
  rw [hcR] at hnow
  refine Sa ?_
  refine LW.call0 rfl rfl hnow ?_
  rintro v w7 ⟨rfl, hx7⟩
  replace hr := hr.ext hx7
  replace hx6 := hx6.trans hx7
  refine Sa ?_
  refine LW.field1 (v := .int .i64 (tokAt c.T s1).kind) rfl rfl rfl rfl rfl rfl rfl rfl ?_
  refine Sa ?_
  refine CW.cond rfl (fun hk => ?_) (fun hk => ?_)
  · have hk : (tokAt c.T s1).kind ≠ 0 := by simpa using hk
    have hpd : Parsed T (.error 5) := .inr ⟨rfl, s1, p, by rw [← hcT]; exact hp, by rw [← hcT]; exact hk⟩
    refine Sa ?_
    refine LW.callP0 rfl rfl (fail_ret R 5 w7) ?_ (fun _ _ hh => hh.elim)
    rintro v w8 ⟨rfl, hx8⟩
    replace hx6 := hx6.trans hx8
    (repeat (first | apply QW.then_panic | apply QW.blk_panic))
    refine QW.panicD1 (rs := [.cell 2 23, .cell 3 24]) Tryz.results22 hpc ?_
    refine (catch_panic L E _ _ _ _ (hL.ext hx6) (hE.ext hx6)).mono ?_
    rintro e' u w' ⟨rfl, rfl, hL', hE', hcc⟩
    refine ⟨rfl, rfl, [.slice none 0 0, _], ⟨⟨L, rfl, run_load_one rfl rfl hL' rfl⟩, ⟨E, rfl, run_load_one rfl rfl hE' rfl⟩, trivial⟩, ?_, (hx4.trans hx6).step hcc (by simp; omega)⟩
    rw [ParseV, if_neg hbig, hlex]
    exact ⟨_, hpd, rfl⟩
  · have hk : (tokAt c.T s1).kind = 0 := by simpa using hk
    obtain ⟨a0, a1, a2, a3, outv, nvs, hB, ho, hm, hkids⟩ := hr
    rw [hcR] at hB
    rw [hcw] at ho
    replace hL := hL.ext hx6
    replace hE := hE.ext hx6
    obtain ⟨q1, q2, rfl⟩ := ho.slice
    refine Sa ?_
    have hoL : ∀ b, b ∈ vblk (Value.slice q1 nvs.length q2) → b ∉ [L] := fun b hb h => by
      simp only [List.mem_singleton] at h
      subst h
      exact absurd (Own.type ho hb hL) (by decide)
    have hkL : ∀ x ∈ nvs, KidsOk w7 x.kv x.node.kids := fun x hx => (hkids x hx).1
    have hL0 := hL
    (apply LW.store; exact rfl; exact rfl; exact rfl; assumption; exact rfl; exact rfl; exact rfl; intro w8 hc8 hL)
    have hf8 : ∀ b l T', Blk w7 b l T' → T' ≠ 23 → Blk w8 b l T' := fun b l T' hb h => hb.chg hc8 (fun hm => by simp at hm; subst hm; exact h (hb.inj hL0))
    replace hE := hE.chg hc8 (by simpa using hLE.symm)
    replace ho := ho.chg hc8 hoL
    have hoE : ∀ b, b ∈ vblk (Value.slice q1 nvs.length q2) → b ∉ [E] := fun b hb h => by
      simp only [List.mem_singleton] at h
      subst h
      exact absurd (Own.type ho hb hE) (by decide)
    have hE0 := hE
    refine Sa ?_
    (apply LW.store; exact rfl; exact rfl; exact rfl; assumption; exact rfl; exact rfl; exact rfl; intro w9 hc9 hE)
    have hf9 : ∀ b l T', Blk w8 b l T' → T' ≠ 24 → Blk w9 b l T' := fun b l T' hb h => hb.chg hc9 (fun hm => by simp at hm; subst hm; exact h (hb.inj hE0))
    replace hL := hL.chg hc9 (by simpa using hLE)
    replace ho := ho.chg hc9 hoE
    have hx9 : Ext w w9 := ((hx4.trans hx6).step hc8 (by simp; omega)).step hc9 (by simp; omega)
    refine Sa ?_
    refine QW.bodyD1 (rs := [.cell 2 23, .cell 3 24]) Tryz.results22 hpc ?_
    refine (catch_idle L E w9).mono ?_
    rintro e u w' ⟨rfl, rfl, rfl⟩
    refine ⟨rfl, rfl, [.slice q1 nvs.length q2, .int .i64 0], ⟨⟨L, rfl, run_load_one rfl rfl hL rfl⟩, ⟨E, rfl, run_load_one rfl rfl hE rfl⟩, trivial⟩, ?_, hx9⟩
    rw [ParseV, if_neg hbig, hlex]
    refine ⟨.ok s1.out, ⟨s1, p, by rw [← hcT]; exact hp, by rw [← hcT]; exact hk, rfl⟩, .slice q1 nvs.length q2, rfl, nvs, ?_, hm, fun x hx => ?_⟩
    · exact ho.low (by have := hx4.size; omega)
    · rcases hkL x hx with h | ⟨b, cap, sp, e1, hb⟩
      · exact .inl h
      · exact .inr ⟨b, cap, sp, e1, hf9 _ _ _ (hf8 _ _ _ hb (by decide)) (by decide)⟩
end Go.Proofs.YtiloogjageledaaGreatDoor
