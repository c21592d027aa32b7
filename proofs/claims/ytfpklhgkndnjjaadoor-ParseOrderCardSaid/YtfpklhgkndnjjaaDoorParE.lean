/-
  Walks: the reader of a formula's tokens: calls, what operators stand between; all of them.
-/
import Derived.Test.YtfpklhgkndnjjaaDoorParD
namespace Go.Proofs.YtfpklhgkndnjjaaDoor
open Go Go.E

theorem Own.fr {w w' : World} {lo e size n : Nat} {v : Value} {xs : List Value} (h : Own w lo e size v n xs) (f : Fr w w') (h1 : e ≠ 86) (h2 : e ≠ 59) : Own w' lo e size v n xs := by
  obtain ⟨hl, h | ⟨g, cap, sp, rfl, hB, a1, a2, a3⟩⟩ := h
  · exact ⟨hl, .inl h⟩
  · exact ⟨hl, .inr ⟨g, cap, sp, rfl, f.blk _ _ _ hB h1 h2, a1, a2, a3⟩⟩
theorem own_kids {w : World} {lo : Nat} {kv : Value} {ks : List Int} (h : Own w lo 3 1 kv ks.length (icells ks)) : KidsOk w kv ks := by
  obtain ⟨hl, ⟨h1, h2⟩ | ⟨g, cap, sp, rfl, hB, a1, a2, a3⟩⟩ := h
  · exact .inl ⟨h1, List.eq_nil_of_length_eq_zero h2⟩
  · exact .inr ⟨g, cap, sp, rfl, hB⟩
theorem own_int {w : World} {lo : Nat} {kv : Value} {ks : List Int} {a : Nat} (h : Own w lo 3 1 kv (ks.length + 1) (icells ks ++ [.int .i64 (a : Int)])) : Own w lo 3 1 kv (ks ++ [(a : Int)]).length (icells (ks ++ [(a : Int)])) := by
  simpa [icells] using h
theorem Own.type {w : World} {lo e size n : Nat} {v : Value} {xs : List Value} (h : Own w lo e size v n xs) {b : Nat} (hb : b ∈ vblk v) {l : List Value} {T : TypeId} (k : Blk w b l T) : T = e := by
  obtain ⟨hl, ⟨rfl, _⟩ | ⟨g, cap, sp, rfl, hB, a1, a2, a3⟩⟩ := h
  · simp [vblk] at hb
  · simp [vblk] at hb
    subst hb
    exact k.inj hB
/-- Other blocks may be kept apart, as long as they are new, or were kept apart. -/
theorem Rd.grow {c : PCtx} {X X' : List Nat} {w : World} {s : PSt} (h : Rd c X w s) (hX : ∀ b ∈ X', b ∈ X ∨ w.heap.size ≤ b) : Rd c X' w s := by
  obtain ⟨h0, h1, h2, h3, outv, nvs, hB, ho, hm, hk⟩ := h
  refine ⟨h0, h1, h2, h3, outv, nvs, hB, ho, hm, fun y hy => ⟨(hk y hy).1, fun b hb hbX => ?_⟩⟩
  rcases hX b hbX with hx | hx
  · exact (hk y hy).2 b hb hx
  · rcases (hk y hy).1 with ⟨e, _⟩ | ⟨g, cap, sp, e, hg⟩
    · rw [e] at hb; simp [vblk] at hb
    · rw [e] at hb
      simp [vblk] at hb
      have := hg.lt
      omega
/-- What is kept apart may change. -/
theorem Rd.other {c : PCtx} {X S : List Nat} {w w' : World} {s : PSt} (h : Rd c X w s) (k : Chg S w w') (hS : ∀ b ∈ S, c.w0.heap.size ≤ b ∧ b ∈ X ∧ ∀ l T, Blk w b l T → T = 3) : Rd c X w' s := by
  obtain ⟨h0, h1, h2, h3, outv, nvs, hB, ho, hm, hk⟩ := h
  refine ⟨h0.step k (fun b hb => (hS b hb).1), h1, h2, h3, outv, nvs, hB.chg k (fun hb => absurd ((hS _ hb).2.2 _ _ hB) (by decide)), ho.chg k (fun b hb hbS => ?_), hm, fun y hy => ⟨?_, (hk y hy).2⟩⟩
  · obtain ⟨_, ⟨e, _⟩ | ⟨g, cap, sp, e, hg, _⟩⟩ := ho
    · rw [e] at hb; simp [vblk] at hb
    · rw [e] at hb
      simp [vblk] at hb
      subst hb
      exact absurd ((hS _ hbS).2.2 _ _ hg) (by decide)
  · rcases (hk y hy).1 with e | ⟨g, cap, sp, e, hg⟩
    · exact .inl e
    · exact .inr ⟨g, cap, sp, e, hg.chg k (fun hb => (hk y hy).2 g (by rw [e]; simp [vblk]) (hS _ hb).2.1)⟩

theorem pword_ret {c : PCtx} (hc : c.Ok) (s : PSt) (hk : (tokAt c.T s).kind = 3) (hE : ∀ s', s.at_ < s'.at_ → PC c 51 (.lev 0) s') (w : World) (X : List Nat) (hX : ∀ b ∈ X, b < w.heap.size) (h : Rd c X w (adv s)) (hs : s.out.length ≤ s.at_) :
    RetP Tryd.prog 122 [.pointer (some ⟨c.rb, 0, none⟩), str (tokAt c.T s).text] w (POk c X .prim s w) (PBad c .prim s) := by
  have hlen := hc.len
  have hw0 := h.1.size
  refine RetP.enter Tryd.func122 rfl Tryd.ntmps122 (by kernel_rfl) rfl ?_
  (repeat (first | refine La ?_ | refine Lb ?_ | refine Lc ?_ | refine Ld ?_ | refine Le ?_ | refine Lf ?_ | refine Lg ?_ | apply LW.nil | apply QW.then_n | apply QW.round | apply RW.succ | apply CW.seq | apply CW.region | apply CW.skip | apply CW.block | apply CW.ret | apply CW.exit | apply QW.then_ret | apply QW.then_exit | apply QW.blk_n | apply QW.blk_ret | apply QW.blk_exit | refine Ca ?_ | refine Cb ?_ | refine Cc ?_ | refine Lh ?_ | refine Li ?_ | refine Lj ?_ | refine Lk ?_ | refine Ll ?_))
  refine CW.cond rfl (fun h1 => ?_) (fun h1 => ?_)
  · have h1 : (tokAt c.T s).text = trueT := of_decide_eq_true h1
    (repeat (first | refine La ?_ | refine Lb ?_ | refine Lc ?_ | refine Ld ?_ | refine Le ?_ | refine Lf ?_ | refine Lg ?_ | apply LW.nil | apply QW.then_n | apply QW.round | apply RW.succ | apply CW.seq | apply CW.region | apply CW.skip | apply CW.block | apply CW.ret | apply CW.exit | apply QW.then_ret | apply QW.then_exit | apply QW.blk_n | apply QW.blk_ret | apply QW.blk_exit | refine Ca ?_ | refine Cb ?_ | refine Cc ?_ | refine Lh ?_ | refine Li ?_ | refine Lj ?_ | refine Lk ?_ | refine Ll ?_))
    refine LW.call0 (vs := [.pointer (some ⟨c.rb, 0, none⟩), .agg ⟨nvL ⟨{ kind := 3, num := 1 }, .slice none 0 0⟩⟩]) rfl rfl (put0_ret hc h { kind := 3, num := 1 } rfl (by show s.out.length + 1 ≤ s.at_ + 1; omega)) ?_
    rintro v w1 ⟨rfl, hr, hf⟩
    (repeat (first | refine La ?_ | refine Lb ?_ | refine Lc ?_ | refine Ld ?_ | refine Le ?_ | refine Lf ?_ | refine Lg ?_ | apply LW.nil | apply QW.then_n | apply QW.round | apply RW.succ | apply CW.seq | apply CW.region | apply CW.skip | apply CW.block | apply CW.ret | apply CW.exit | apply QW.then_ret | apply QW.then_exit | apply QW.blk_n | apply QW.blk_ret | apply QW.blk_exit | refine Ca ?_ | refine Cb ?_ | refine Cc ?_ | refine Lh ?_ | refine Li ?_ | refine Lj ?_ | refine Lk ?_ | refine Ll ?_))
    exact QW.bodyP1 Tryd.results122 rfl ⟨_, _, rfl, .pr_true hk h1, hr, hf, by show s.at_ < s.at_ + 1; omega, rfl, by simp [putS, adv]; omega⟩
  have h1 : (tokAt c.T s).text ≠ trueT := of_decide_eq_false h1
  (repeat (first | refine La ?_ | refine Lb ?_ | refine Lc ?_ | refine Ld ?_ | refine Le ?_ | refine Lf ?_ | refine Lg ?_ | apply LW.nil | apply QW.then_n | apply QW.round | apply RW.succ | apply CW.seq | apply CW.region | apply CW.skip | apply CW.block | apply CW.ret | apply CW.exit | apply QW.then_ret | apply QW.then_exit | apply QW.blk_n | apply QW.blk_ret | apply QW.blk_exit | refine Ca ?_ | refine Cb ?_ | refine Cc ?_ | refine Lh ?_ | refine Li ?_ | refine Lj ?_ | refine Lk ?_ | refine Ll ?_))
  refine CW.cond rfl (fun h2 => ?_) (fun h2 => ?_)
  · have h2 : (tokAt c.T s).text = falseT := of_decide_eq_true h2
    (repeat (first | refine La ?_ | refine Lb ?_ | refine Lc ?_ | refine Ld ?_ | refine Le ?_ | refine Lf ?_ | refine Lg ?_ | apply LW.nil | apply QW.then_n | apply QW.round | apply RW.succ | apply CW.seq | apply CW.region | apply CW.skip | apply CW.block | apply CW.ret | apply CW.exit | apply QW.then_ret | apply QW.then_exit | apply QW.blk_n | apply QW.blk_ret | apply QW.blk_exit | refine Ca ?_ | refine Cb ?_ | refine Cc ?_ | refine Lh ?_ | refine Li ?_ | refine Lj ?_ | refine Lk ?_ | refine Ll ?_))
    refine LW.call0 (vs := [.pointer (some ⟨c.rb, 0, none⟩), .agg ⟨nvL ⟨{ kind := 3 }, .slice none 0 0⟩⟩]) rfl rfl (put0_ret hc h { kind := 3 } rfl (by show s.out.length + 1 ≤ s.at_ + 1; omega)) ?_
    rintro v w1 ⟨rfl, hr, hf⟩
    (repeat (first | refine La ?_ | refine Lb ?_ | refine Lc ?_ | refine Ld ?_ | refine Le ?_ | refine Lf ?_ | refine Lg ?_ | apply LW.nil | apply QW.then_n | apply QW.round | apply RW.succ | apply CW.seq | apply CW.region | apply CW.skip | apply CW.block | apply CW.ret | apply CW.exit | apply QW.then_ret | apply QW.then_exit | apply QW.blk_n | apply QW.blk_ret | apply QW.blk_exit | refine Ca ?_ | refine Cb ?_ | refine Cc ?_ | refine Lh ?_ | refine Li ?_ | refine Lj ?_ | refine Lk ?_ | refine Ll ?_))
    exact QW.bodyP1 Tryd.results122 rfl ⟨_, _, rfl, .pr_false hk h2, hr, hf, by show s.at_ < s.at_ + 1; omega, rfl, by simp [putS, adv]; omega⟩
  have h2 : (tokAt c.T s).text ≠ falseT := of_decide_eq_false h2
  (repeat (first | refine La ?_ | refine Lb ?_ | refine Lc ?_ | refine Ld ?_ | refine Le ?_ | refine Lf ?_ | refine Lg ?_ | apply LW.nil | apply QW.then_n | apply QW.round | apply RW.succ | apply CW.seq | apply CW.region | apply CW.skip | apply CW.block | apply CW.ret | apply CW.exit | apply QW.then_ret | apply QW.then_exit | apply QW.blk_n | apply QW.blk_ret | apply QW.blk_exit | refine Ca ?_ | refine Cb ?_ | refine Cc ?_ | refine Lh ?_ | refine Li ?_ | refine Lj ?_ | refine Lk ?_ | refine Ll ?_))
  refine LW.callP0 rfl rfl (open_ret hc h [40]) ?_ ?_
  · rintro v w1 ⟨hx1, ⟨rfl, hi, hd⟩ | ⟨rfl, hn⟩⟩
    · (repeat (first | apply QW.then_panic | apply QW.blk_panic))
      exact QW.panicP ⟨6, rfl, .pr_calldeep hk h1 h2 hi hd, hx1⟩
    · (repeat (first | apply QW.then_panic | apply QW.blk_panic))
      exact QW.panicP ⟨5, rfl, .pr_nocall hk h1 h2 hn, hx1⟩
  rintro v w1 ⟨rfl, hi, hd, hr, hf⟩
  have hd : s.deep < 12 := hd
  (repeat (first | refine La ?_ | refine Lb ?_ | refine Lc ?_ | refine Ld ?_ | refine Le ?_ | refine Lf ?_ | refine Lg ?_ | apply LW.nil | apply QW.then_n | apply QW.round | apply RW.succ | apply CW.seq | apply CW.region | apply CW.skip | apply CW.block | apply CW.ret | apply CW.exit | apply QW.then_ret | apply QW.then_exit | apply QW.blk_n | apply QW.blk_ret | apply QW.blk_exit | refine Ca ?_ | refine Cb ?_ | refine Cc ?_ | refine Lh ?_ | refine Li ?_ | refine Lj ?_ | refine Lk ?_ | refine Ll ?_))
  refine LW.call0 rfl rfl (may_ret hc hr [41]) ?_
  rintro v w2 ⟨rfl, hr2, hf2⟩
  replace hf := hf.trans hf2
  (repeat (first | refine La ?_ | refine Lb ?_ | refine Lc ?_ | refine Ld ?_ | refine Le ?_ | refine Lf ?_ | refine Lg ?_ | apply LW.nil | apply QW.then_n | apply QW.round | apply RW.succ | apply CW.seq | apply CW.region | apply CW.skip | apply CW.block | apply CW.ret | apply CW.exit | apply QW.then_ret | apply QW.then_exit | apply QW.blk_n | apply QW.blk_ret | apply QW.blk_exit | refine Ca ?_ | refine Cb ?_ | refine Cc ?_ | refine Lh ?_ | refine Li ?_ | refine Lj ?_ | refine Lk ?_ | refine Ll ?_))
  refine CW.cond rfl (fun h3 => ?_) (fun h3 => ?_)
  rotate_left
  · have h3 : isS c.T (deeper (adv (adv s))) [41] = true := by simpa using h3
    rw [mayS, if_pos h3] at hr2
    obtain ⟨a0, a1, a2, a3, outv, nvs, hB, ho, hm, hkids⟩ := hr2
    have hB0 := hB
    (repeat (first | refine La ?_ | refine Lb ?_ | refine Lc ?_ | refine Ld ?_ | refine Le ?_ | refine Lf ?_ | refine Lg ?_ | apply LW.nil | apply QW.then_n | apply QW.round | apply RW.succ | apply CW.seq | apply CW.region | apply CW.skip | apply CW.block | apply CW.ret | apply CW.exit | apply QW.then_ret | apply QW.then_exit | apply QW.blk_n | apply QW.blk_ret | apply QW.blk_exit | refine Ca ?_ | refine Cb ?_ | refine Cc ?_ | refine Lh ?_ | refine Li ?_ | refine Lj ?_ | refine Lk ?_ | refine Ll ?_))
    (apply LW.store; exact rfl; exact rfl; exact rfl; assumption; exact rfl; exact rfl; exact rfl; intro w3 hc3 hB)
    have e3 : ((adv (deeper (adv (adv s)))).deep : Int) - 1 = ((s.deep : Nat) : Int) := by show ((s.deep + 1 : Nat) : Int) - 1 = _; omega
    replace hB : Blk w3 c.rb [c.tokv, .int .i64 (adv (deeper (adv (adv s)))).at_, outv, .int .i64 (((adv (deeper (adv (adv s)))).deep : Int) - 1)] 86 := hB
    rw [e3] at hB
    obtain ⟨hr3, hf3⟩ := Rd.set hc (s := adv (deeper (adv (adv s)))) (s' := upper (adv (deeper (adv (adv s))))) a0 ho hm hkids hB0 hc3 hB rfl a1 (by show s.deep + 1 - 1 ≤ 12; omega) a3
    (repeat (first | refine La ?_ | refine Lb ?_ | refine Lc ?_ | refine Ld ?_ | refine Le ?_ | refine Lf ?_ | refine Lg ?_ | apply LW.nil | apply QW.then_n | apply QW.round | apply RW.succ | apply CW.seq | apply CW.region | apply CW.skip | apply CW.block | apply CW.ret | apply CW.exit | apply QW.then_ret | apply QW.then_exit | apply QW.blk_n | apply QW.blk_ret | apply QW.blk_exit | refine Ca ?_ | refine Cb ?_ | refine Cc ?_ | refine Lh ?_ | refine Li ?_ | refine Lj ?_ | refine Lk ?_ | refine Ll ?_))
    refine LW.call0 (vs := [.pointer (some ⟨c.rb, 0, none⟩), .agg ⟨nvL ⟨{ kind := 7, text := (tokAt c.T s).text }, .slice none 0 0⟩⟩]) rfl rfl (put0_ret hc hr3 { kind := 7, text := (tokAt c.T s).text } rfl (by show s.out.length + 1 ≤ s.at_ + 1 + 1 + 1; omega)) ?_
    rintro v w4 ⟨rfl, hr4, hf4⟩
    (repeat (first | refine La ?_ | refine Lb ?_ | refine Lc ?_ | refine Ld ?_ | refine Le ?_ | refine Lf ?_ | refine Lg ?_ | apply LW.nil | apply QW.then_n | apply QW.round | apply RW.succ | apply CW.seq | apply CW.region | apply CW.skip | apply CW.block | apply CW.ret | apply CW.exit | apply QW.then_ret | apply QW.then_exit | apply QW.blk_n | apply QW.blk_ret | apply QW.blk_exit | refine Ca ?_ | refine Cb ?_ | refine Cc ?_ | refine Lh ?_ | refine Li ?_ | refine Lj ?_ | refine Lk ?_ | refine Ll ?_))
    exact QW.bodyP1 Tryd.results122 rfl ⟨_, _, rfl, .pr_call0 hk h1 h2 hi hd h3, hr4, (hf.trans hf3).trans hf4, by show s.at_ < s.at_ + 1 + 1 + 1; omega, rfl, by show s.at_ + (s.out ++ [_]).length ≤ s.at_ + 1 + 1 + 1 + s.out.length; simp; omega⟩
  have h3 : isS c.T (deeper (adv (adv s))) [41] = false := by simpa using h3
  rw [mayS, h3, if_neg (by simp)] at hr2
  (repeat (first | refine La ?_ | refine Lb ?_ | refine Lc ?_ | refine Ld ?_ | refine Le ?_ | refine Lf ?_ | refine Lg ?_ | apply LW.nil | apply QW.then_n | apply QW.round | apply RW.succ | apply CW.seq | apply CW.region | apply CW.skip | apply CW.block | apply CW.ret | apply CW.exit | apply QW.then_ret | apply QW.then_exit | apply QW.blk_n | apply QW.blk_ret | apply QW.blk_exit | refine Ca ?_ | refine Cb ?_ | refine Cc ?_ | refine Lh ?_ | refine Li ?_ | refine Lj ?_ | refine Lk ?_ | refine Ll ?_))
  refine LW.callP0 rfl rfl (hE (deeper (adv (adv s))) (by show s.at_ < s.at_ + 1 + 1; omega) w2 X (fun b hb => Nat.lt_of_lt_of_le (hX b hb) hf.size) hr2) ?_ ?_
  · rintro v w3 ⟨e, rfl, hp, hx3⟩
    (repeat (first | apply QW.then_panic | apply QW.blk_panic))
    exact QW.panicP ⟨e, rfl, .pr_call hk h1 h2 hi hd h3 (.ar_err hp), hx3⟩
  rintro v w3 ⟨t, a, rfl, hp, hr3, hf3, g1, g2, g3⟩
  have g1 : s.at_ + 1 + 1 < t.at_ := g1
  have g2 : t.deep = s.deep + 1 := g2
  have g3 : s.at_ + 1 + 1 + t.out.length ≤ t.at_ + s.out.length := g3
  replace hf := hf.trans hf3
  (repeat (first | refine La ?_ | refine Lb ?_ | refine Lc ?_ | refine Ld ?_ | refine Le ?_ | refine Lf ?_ | refine Lg ?_ | apply LW.nil | apply QW.then_n | apply QW.round | apply RW.succ | apply CW.seq | apply CW.region | apply CW.skip | apply CW.block | apply CW.ret | apply CW.exit | apply QW.then_ret | apply QW.then_exit | apply QW.blk_n | apply QW.blk_ret | apply QW.blk_exit | refine Ca ?_ | refine Cb ?_ | refine Cc ?_ | refine Lh ?_ | refine Li ?_ | refine Lj ?_ | refine Lk ?_ | refine Ll ?_))
  (apply LW.buildSlice; exact rfl; exact rfl; exact rfl; exact rfl; exact rfl; exact rfl; exact rfl; exact rfl; exact rfl; intro A w4 hbA hx4 hA)
  replace hA : Blk w4 A [.int .i64 (a : Int)] 3 := hA
  replace hr3 := hr3.ext hx4
  replace hf := hf.trans (.ext hx4)
  have hz4 := hf.size
  (repeat (first | refine La ?_ | refine Lb ?_ | refine Lc ?_ | refine Ld ?_ | refine Le ?_ | refine Lf ?_ | refine Lg ?_ | apply LW.nil | apply QW.then_n | apply QW.round | apply RW.succ | apply CW.seq | apply CW.region | apply CW.skip | apply CW.block | apply CW.ret | apply CW.exit | apply QW.then_ret | apply QW.then_exit | apply QW.blk_n | apply QW.blk_ret | apply QW.blk_exit | refine Ca ?_ | refine Cb ?_ | refine Cc ?_ | refine Lh ?_ | refine Li ?_ | refine Lj ?_ | refine Lk ?_ | refine Ll ?_))
  refine LW.append rfl rfl rfl rfl rfl rfl (Own.nil w4 c.w0.heap.size 3 1) (by omega) hA rfl rfl rfl (by decide) rfl ?_
  intro kv w5 hc5 ho5 hnew
  replace hr3 := (hr3.grow (X' := vblk kv ++ X) (fun b hb => by
    rw [List.mem_append] at hb
    rcases hb with hb | hb
    · rcases hnew b hb with hh | hh
      · simp [vblk] at hh
      · exact .inr hh
    · exact .inl hb)).ext hc5
  replace hf := hf.trans (.ext hc5)
  have hz5 := hf.size
  (repeat (first | refine La ?_ | refine Lb ?_ | refine Lc ?_ | refine Ld ?_ | refine Le ?_ | refine Lf ?_ | refine Lg ?_ | apply LW.nil | apply QW.then_n | apply QW.round | apply RW.succ | apply CW.seq | apply CW.region | apply CW.skip | apply CW.block | apply CW.ret | apply CW.exit | apply QW.then_ret | apply QW.then_exit | apply QW.blk_n | apply QW.blk_ret | apply QW.blk_exit | refine Ca ?_ | refine Cb ?_ | refine Cc ?_ | refine Lh ?_ | refine Li ?_ | refine Lj ?_ | refine Lk ?_ | refine Ll ?_))
  refine CW.loop (ι := PSt × List Int × Value) (fun k w' => s.at_ + 1 + 1 < k.1.at_ ∧ k.1.deep = s.deep + 1 ∧ s.at_ + 1 + 1 + k.1.out.length ≤ k.1.at_ + s.out.length ∧ k.2.1.length ≤ k.1.at_ ∧ Rd c (vblk k.2.2 ++ X) w' k.1 ∧ Fr w w' ∧ Own w' c.w0.heap.size 3 1 k.2.2 k.2.1.length (icells k.2.1) ∧ (∀ b ∈ vblk k.2.2, w.heap.size ≤ b) ∧
      ∃ u ks0 a, k.2.1 = ks0 ++ [((a : Nat) : Int)] ∧ PE c.T (.lev 0) u (.ok k.1 a) ∧ ∀ r, PE c.T (.args (tokAt c.T s).text ks0) u r → PE c.T .prim s r) (fun k => [(0, .pointer (some ⟨c.rb, 0, none⟩)), (1, str (tokAt c.T s).text), (5, k.2.2)]) (fun k => c.T.length - k.1.at_) (t, [(a : Int)], kv)
    ⟨g1, g2, g3, by simp; omega, hr3, hf, ho5, fun b hb => by
      rcases hnew b hb with hh | hh
      · simp [vblk] at hh
      · omega, _, [], a, rfl, hp, fun r hr => .pr_call hk h1 h2 hi hd h3 hr⟩ (Sub.cons rfl (Sub.cons rfl (Sub.cons rfl (Sub.nil)))) ?_
  clear hr3 hp g1 g2 g3 hf ho5 hnew hc5 hA hx4 hbA hz4 hz5 hf3 hr2 hr hf2
  rintro ⟨t, ks, kv⟩ w6 ⟨g1, g2, g3, g4, hr, hf, ho, hfresh, u, ks0, a, hks, hp, hcont⟩
  simp only at g1 g2 g3 g4 hr ho hfresh hks hp
  show CW _ _ _ _ _ [(0, .pointer (some ⟨c.rb, 0, none⟩)), (1, str (tokAt c.T s).text), (5, kv)] _
  have htl := hr.len
  have hz6 := hf.size
  (repeat (first | refine La ?_ | refine Lb ?_ | refine Lc ?_ | refine Ld ?_ | refine Le ?_ | refine Lf ?_ | refine Lg ?_ | apply LW.nil | apply QW.then_n | apply QW.round | apply RW.succ | apply CW.seq | apply CW.region | apply CW.skip | apply CW.block | apply CW.ret | apply CW.exit | apply QW.then_ret | apply QW.then_exit | apply QW.blk_n | apply QW.blk_ret | apply QW.blk_exit | refine Ca ?_ | refine Cb ?_ | refine Cc ?_ | refine Lh ?_ | refine Li ?_ | refine Lj ?_ | refine Lk ?_ | refine Ll ?_))
  refine LW.call0 rfl rfl (may_ret hc hr [44]) ?_
  rintro v w7 ⟨rfl, hr7, hf7⟩
  have ho7 := Own.fr ho hf7 (by decide) (by decide)
  replace hf := hf.trans hf7
  have hz7 := hf.size
  (repeat (first | refine La ?_ | refine Lb ?_ | refine Lc ?_ | refine Ld ?_ | refine Le ?_ | refine Lf ?_ | refine Lg ?_ | apply LW.nil | apply QW.then_n | apply QW.round | apply RW.succ | apply CW.seq | apply CW.region | apply CW.skip | apply CW.block | apply CW.ret | apply CW.exit | apply QW.then_ret | apply QW.then_exit | apply QW.blk_n | apply QW.blk_ret | apply QW.blk_exit | refine Ca ?_ | refine Cb ?_ | refine Cc ?_ | refine Lh ?_ | refine Li ?_ | refine Lj ?_ | refine Lk ?_ | refine Ll ?_))
  refine CW.cond rfl (fun h4 => ?_) (fun h4 => ?_)
  · have h4 : isS c.T t [44] = true := h4
    rw [mayS, if_pos h4] at hr7
    (repeat (first | refine La ?_ | refine Lb ?_ | refine Lc ?_ | refine Ld ?_ | refine Le ?_ | refine Lf ?_ | refine Lg ?_ | apply LW.nil | apply QW.then_n | apply QW.round | apply RW.succ | apply CW.seq | apply CW.region | apply CW.skip | apply CW.block | apply CW.ret | apply CW.exit | apply QW.then_ret | apply QW.then_exit | apply QW.blk_n | apply QW.blk_ret | apply QW.blk_exit | refine Ca ?_ | refine Cb ?_ | refine Cc ?_ | refine Lh ?_ | refine Li ?_ | refine Lj ?_ | refine Lk ?_ | refine Ll ?_))
    refine LW.callP0 rfl rfl (hE (adv t) (by show s.at_ < t.at_ + 1; omega) w7 (vblk kv ++ X) (fun b hb => by
      rw [List.mem_append] at hb
      rcases hb with hb | hb
      · exact (ho7.lt hb).2
      · exact Nat.lt_of_lt_of_le (hX b hb) hz7) hr7) ?_ ?_
    · rintro v w8 ⟨e, rfl, hp', hx8⟩
      (repeat (first | apply QW.then_panic | apply QW.blk_panic))
      exact QW.panicP ⟨e, rfl, hcont _ (.ar_go hp h4 (.ar_err hp')), hx8⟩
    rintro v w8 ⟨t', a', rfl, hp', hr8, hf8, k1, k2, k3⟩
    have k1 : t.at_ + 1 < t'.at_ := k1
    have k2 : t'.deep = t.deep := k2
    have k3 : t.at_ + 1 + t'.out.length ≤ t'.at_ + t.out.length := k3
    have ho8 := Own.fr ho7 hf8 (by decide) (by decide)
    replace hf := hf.trans hf8
    (repeat (first | refine La ?_ | refine Lb ?_ | refine Lc ?_ | refine Ld ?_ | refine Le ?_ | refine Lf ?_ | refine Lg ?_ | apply LW.nil | apply QW.then_n | apply QW.round | apply RW.succ | apply CW.seq | apply CW.region | apply CW.skip | apply CW.block | apply CW.ret | apply CW.exit | apply QW.then_ret | apply QW.then_exit | apply QW.blk_n | apply QW.blk_ret | apply QW.blk_exit | refine Ca ?_ | refine Cb ?_ | refine Cc ?_ | refine Lh ?_ | refine Li ?_ | refine Lj ?_ | refine Lk ?_ | refine Ll ?_))
    (apply LW.buildSlice; exact rfl; exact rfl; exact rfl; exact rfl; exact rfl; exact rfl; exact rfl; exact rfl; exact rfl; intro A w9 hbA hx9 hA)
    replace hA : Blk w9 A [.int .i64 (a' : Int)] 3 := hA
    replace hr8 := hr8.ext hx9
    replace hf := hf.trans (.ext hx9)
    have ho9 := ho8.ext hx9
    have hz9 := hf.size
    (repeat (first | refine La ?_ | refine Lb ?_ | refine Lc ?_ | refine Ld ?_ | refine Le ?_ | refine Lf ?_ | refine Lg ?_ | apply LW.nil | apply QW.then_n | apply QW.round | apply RW.succ | apply CW.seq | apply CW.region | apply CW.skip | apply CW.block | apply CW.ret | apply CW.exit | apply QW.then_ret | apply QW.then_exit | apply QW.blk_n | apply QW.blk_ret | apply QW.blk_exit | refine Ca ?_ | refine Cb ?_ | refine Cc ?_ | refine Lh ?_ | refine Li ?_ | refine Lj ?_ | refine Lk ?_ | refine Ll ?_))
    refine LW.append rfl rfl rfl rfl rfl rfl ho9 (by omega) hA rfl rfl rfl (by show (ks.length + 1) * 9 ≤ 140737488355328; omega) rfl ?_
    intro kv' w10 hc10 ho10 hnew
    have hr10 : Rd c (vblk kv' ++ X) w10 t' := by
      have h5 := hr8.grow (X' := vblk kv ++ (vblk kv' ++ X)) (fun b hb => by
        simp only [List.mem_append] at hb ⊢
        rcases hb with hb | hb | hb
        · exact .inl (.inl hb)
        · rcases hnew b hb with hh | hh
          · exact .inl (.inl hh)
          · exact .inr hh
        · exact .inl (.inr hb))
      have h6 := h5.other hc10 (fun b hb => ⟨(ho9.lt hb).1, List.mem_append_left _ hb, fun l T k => Own.type ho9 hb k⟩)
      exact h6.grow (fun b hb => .inl (List.mem_append_right _ hb))
    have hf10 : Fr w w10 := ⟨Nat.le_trans hz9 hc10.size, fun b l T hb n1 n2 => (hf.blk b l T hb n1 n2).chg hc10 (fun hm => by
      have := hfresh b hm
      have := hb.lt
      omega)⟩
    (repeat (first | refine La ?_ | refine Lb ?_ | refine Lc ?_ | refine Ld ?_ | refine Le ?_ | refine Lf ?_ | refine Lg ?_ | apply LW.nil | apply QW.then_n | apply QW.round | apply RW.succ | apply CW.seq | apply CW.region | apply CW.skip | apply CW.block | apply CW.ret | apply CW.exit | apply QW.then_ret | apply QW.then_exit | apply QW.blk_n | apply QW.blk_ret | apply QW.blk_exit | refine Ca ?_ | refine Cb ?_ | refine Cc ?_ | refine Lh ?_ | refine Li ?_ | refine Lj ?_ | refine Lk ?_ | refine Ll ?_))
    refine QW.again (t', ks ++ [(a' : Int)], kv') ⟨by show s.at_ + 1 + 1 < t'.at_; omega, k2.trans g2, by show s.at_ + 1 + 1 + t'.out.length ≤ t'.at_ + s.out.length; omega, by show (ks ++ [_]).length ≤ t'.at_; simp; omega, hr10, hf10, own_int ho10, fun b hb => ?_, adv t, ks, a', rfl, hp', fun r hr => hcont r (.ar_go hp h4 (by rw [← hks]; exact hr))⟩ (Sub.cons rfl (Sub.cons rfl (Sub.cons rfl (Sub.nil)))) (by show c.T.length - t'.at_ < c.T.length - t.at_; omega)
    rcases hnew b hb with hh | hh
    · exact hfresh b hh
    · omega
  have h4 : isS c.T t [44] = false := h4
  rw [mayS, h4, if_neg (by simp)] at hr7
  (repeat (first | refine La ?_ | refine Lb ?_ | refine Lc ?_ | refine Ld ?_ | refine Le ?_ | refine Lf ?_ | refine Lg ?_ | apply LW.nil | apply QW.then_n | apply QW.round | apply RW.succ | apply CW.seq | apply CW.region | apply CW.skip | apply CW.block | apply CW.ret | apply CW.exit | apply QW.then_ret | apply QW.then_exit | apply QW.blk_n | apply QW.blk_ret | apply QW.blk_exit | refine Ca ?_ | refine Cb ?_ | refine Cc ?_ | refine Lh ?_ | refine Li ?_ | refine Lj ?_ | refine Lk ?_ | refine Ll ?_))
  refine LW.callP0 rfl rfl (need_ret hc hr7 [41]) ?_ ?_
  · rintro v w8 ⟨rfl, hn, hx8⟩
    (repeat (first | apply QW.then_panic | apply QW.blk_panic))
    exact QW.panicP ⟨5, rfl, hcont _ (.ar_open hp h4 hn), hx8⟩
  rintro v w8 ⟨rfl, h5, hr8, hf8⟩
  have ho8 := Own.fr ho7 hf8 (by decide) (by decide)
  replace hf := hf.trans hf8
  obtain ⟨a0, a1, a2, a3, outv, nvs, hB, hoo, hm, hkids⟩ := hr8
  have hB0 := hB
  (repeat (first | refine La ?_ | refine Lb ?_ | refine Lc ?_ | refine Ld ?_ | refine Le ?_ | refine Lf ?_ | refine Lg ?_ | apply LW.nil | apply QW.then_n | apply QW.round | apply RW.succ | apply CW.seq | apply CW.region | apply CW.skip | apply CW.block | apply CW.ret | apply CW.exit | apply QW.then_ret | apply QW.then_exit | apply QW.blk_n | apply QW.blk_ret | apply QW.blk_exit | refine Ca ?_ | refine Cb ?_ | refine Cc ?_ | refine Lh ?_ | refine Li ?_ | refine Lj ?_ | refine Lk ?_ | refine Ll ?_))
  (apply LW.store; exact rfl; exact rfl; exact rfl; assumption; exact rfl; exact rfl; exact rfl; intro w9 hc9 hB)
  have e9 : (t.deep : Int) - 1 = ((s.deep : Nat) : Int) := by omega
  replace hB : Blk w9 c.rb [c.tokv, .int .i64 (adv t).at_, outv, .int .i64 ((t.deep : Int) - 1)] 86 := hB
  rw [e9] at hB
  have hud : (upper (adv t)).deep = s.deep := by show t.deep - 1 = s.deep; omega
  rw [← hud] at hB
  obtain ⟨hr9, hf9⟩ := Rd.set hc (s := adv t) (s' := upper (adv t)) a0 hoo hm hkids hB0 hc9 hB rfl a1 (by rw [hud]; omega) a3
  have ho9 := Own.fr ho8 hf9 (by decide) (by decide)
  replace hf := hf.trans hf9
  have hr9' : Rd c X w9 (upper (adv t)) := hr9.grow (fun b hb => .inl (List.mem_append_right _ hb))
  obtain ⟨kp, kq, rfl⟩ := ho9.slice
  (repeat (first | refine La ?_ | refine Lb ?_ | refine Lc ?_ | refine Ld ?_ | refine Le ?_ | refine Lf ?_ | refine Lg ?_ | apply LW.nil | apply QW.then_n | apply QW.round | apply RW.succ | apply CW.seq | apply CW.region | apply CW.skip | apply CW.block | apply CW.ret | apply CW.exit | apply QW.then_ret | apply QW.then_exit | apply QW.blk_n | apply QW.blk_ret | apply QW.blk_exit | refine Ca ?_ | refine Cb ?_ | refine Cc ?_ | refine Lh ?_ | refine Li ?_ | refine Lj ?_ | refine Lk ?_ | refine Ll ?_))
  refine LW.call0 (vs := [.pointer (some ⟨c.rb, 0, none⟩), .agg ⟨nvL ⟨{ kind := 7, text := (tokAt c.T s).text, kids := ks }, .slice kp ks.length kq⟩⟩]) rfl rfl (put_ret hc hr9' ⟨{ kind := 7, text := (tokAt c.T s).text, kids := ks }, .slice kp ks.length kq⟩ (own_kids ho9) (fun b hb hbX => by
    have := hfresh b hb
    have := hX b hbX
    omega) (by show t.out.length + 1 ≤ t.at_ + 1; omega)) ?_
  rintro v w10 ⟨rfl, hr10, hf10⟩
  (repeat (first | refine La ?_ | refine Lb ?_ | refine Lc ?_ | refine Ld ?_ | refine Le ?_ | refine Lf ?_ | refine Lg ?_ | apply LW.nil | apply QW.then_n | apply QW.round | apply RW.succ | apply CW.seq | apply CW.region | apply CW.skip | apply CW.block | apply CW.ret | apply CW.exit | apply QW.then_ret | apply QW.then_exit | apply QW.blk_n | apply QW.blk_ret | apply QW.blk_exit | refine Ca ?_ | refine Cb ?_ | refine Cc ?_ | refine Lh ?_ | refine Li ?_ | refine Lj ?_ | refine Lk ?_ | refine Ll ?_))
  refine QW.bodyP1 Tryd.results122 rfl ⟨putS (upper (adv t)) { kind := 7, text := (tokAt c.T s).text, kids := ks }, t.out.length, rfl, hcont _ ?_, hr10, hf.trans hf10, by show s.at_ < t.at_ + 1; omega, hud, by show s.at_ + (t.out ++ [_]).length ≤ t.at_ + 1 + s.out.length; simp; omega⟩
  rw [hks]
  exact .ar_end hp h4 h5

theorem tok_kinds {c : PCtx} (hc : c.Ok) {s : PSt} (h : s.at_ < c.T.length) : 0 ≤ (tokAt c.T s).kind ∧ (tokAt c.T s).kind ≤ 6 := by
  have : tokAt c.T s = c.T[s.at_] := by simp [tokAt, List.getD_eq_getElem?_getD, List.getElem?_eq_getElem h]
  rw [this]
  exact hc.kinds _ (List.getElem_mem h)

theorem prim_ret {c : PCtx} (hc : c.Ok) (s : PSt) (hE : ∀ s', s.at_ < s'.at_ → PC c 51 (.lev 0) s') : PC c 118 .prim s := by
  intro w X hX h
  have hlen := hc.len
  have hrange := tok_kinds hc h.2.1
  refine RetP.enter Tryd.func118 rfl Tryd.ntmps118 (by kernel_rfl) rfl ?_
  (repeat (first | refine La ?_ | refine Lb ?_ | refine Lc ?_ | refine Ld ?_ | refine Le ?_ | refine Lf ?_ | refine Lg ?_ | apply LW.nil | apply QW.then_n | apply QW.round | apply RW.succ | apply CW.seq | apply CW.region | apply CW.skip | apply CW.block | apply CW.ret | apply CW.exit | apply QW.then_ret | apply QW.then_exit | apply QW.blk_n | apply QW.blk_ret | apply QW.blk_exit | refine Ca ?_ | refine Cb ?_ | refine Cc ?_ | refine Lh ?_ | refine Li ?_ | refine Lj ?_ | refine Lk ?_ | refine Ll ?_))
  refine LW.call0 rfl rfl (now_ret hc h) ?_
  rintro v w1 ⟨rfl, hx1⟩
  replace h := h.ext hx1
  (repeat (first | refine La ?_ | refine Lb ?_ | refine Lc ?_ | refine Ld ?_ | refine Le ?_ | refine Lf ?_ | refine Lg ?_ | apply LW.nil | apply QW.then_n | apply QW.round | apply RW.succ | apply CW.seq | apply CW.region | apply CW.skip | apply CW.block | apply CW.ret | apply CW.exit | apply QW.then_ret | apply QW.then_exit | apply QW.blk_n | apply QW.blk_ret | apply QW.blk_exit | refine Ca ?_ | refine Cb ?_ | refine Cc ?_ | refine Lh ?_ | refine Li ?_ | refine Lj ?_ | refine Lk ?_ | refine Ll ?_))
  (apply LW.alloc; exact rfl; exact rfl; exact rfl; intro C w2 hbC hx2 hC)
  (repeat (first | refine La ?_ | refine Lb ?_ | refine Lc ?_ | refine Ld ?_ | refine Le ?_ | refine Lf ?_ | refine Lg ?_ | apply LW.nil | apply QW.then_n | apply QW.round | apply RW.succ | apply CW.seq | apply CW.region | apply CW.skip | apply CW.block | apply CW.ret | apply CW.exit | apply QW.then_ret | apply QW.then_exit | apply QW.blk_n | apply QW.blk_ret | apply QW.blk_exit | refine Ca ?_ | refine Cb ?_ | refine Cc ?_ | refine Lh ?_ | refine Li ?_ | refine Lj ?_ | refine Lk ?_ | refine Ll ?_))
  (apply LW.store_all; exact rfl; exact rfl; exact rfl; assumption; exact rfl; exact rfl; exact rfl; intro w3 hc3 hC)
  replace hC : Blk w3 C (tokL (tokAt c.T s)) 47 := hC
  have hx3 : Ext w w3 := (hx1.trans hx2).step hc3 (by simp; have := hx1.size; omega)
  have hx3' : Ext w1 w3 := hx2.step hc3 (by simp; omega)
  replace h := h.ext hx3'
  replace hX : ∀ b ∈ X, b < w3.heap.size := fun b hb => Nat.lt_of_lt_of_le (hX b hb) hx3.size
  have hf := Fr.ext hx3
  have hl := h.len
  (repeat (first | refine La ?_ | refine Lb ?_ | refine Lc ?_ | refine Ld ?_ | refine Le ?_ | refine Lf ?_ | refine Lg ?_ | apply LW.nil | apply QW.then_n | apply QW.round | apply RW.succ | apply CW.seq | apply CW.region | apply CW.skip | apply CW.block | apply CW.ret | apply CW.exit | apply QW.then_ret | apply QW.then_exit | apply QW.blk_n | apply QW.blk_ret | apply QW.blk_exit | refine Ca ?_ | refine Cb ?_ | refine Cc ?_ | refine Lh ?_ | refine Li ?_ | refine Lj ?_ | refine Lk ?_ | refine Ll ?_))
  refine CW.cond rfl (fun h5 => ?_) (fun h5 => ?_)
  · have h5 : (tokAt c.T s).kind = 5 := by simpa using h5
    (repeat (first | refine La ?_ | refine Lb ?_ | refine Lc ?_ | refine Ld ?_ | refine Le ?_ | refine Lf ?_ | refine Lg ?_ | apply LW.nil | apply QW.then_n | apply QW.round | apply RW.succ | apply CW.seq | apply CW.region | apply CW.skip | apply CW.block | apply CW.ret | apply CW.exit | apply QW.then_ret | apply QW.then_exit | apply QW.blk_n | apply QW.blk_ret | apply QW.blk_exit | refine Ca ?_ | refine Cb ?_ | refine Cc ?_ | refine Lh ?_ | refine Li ?_ | refine Lj ?_ | refine Lk ?_ | refine Ll ?_))
    refine LW.callP0 rfl rfl (open_ret hc h [40]) ?_ ?_
    · rintro v w4 ⟨hx4, ⟨rfl, hi, hd⟩ | ⟨rfl, hn⟩⟩
      · (repeat (first | apply QW.then_panic | apply QW.blk_panic))
        exact QW.panicP ⟨6, rfl, .pr_deep hi hd, hx4⟩
      · (repeat (first | apply QW.then_panic | apply QW.blk_panic))
        exact QW.panicP ⟨5, rfl, .pr_sign h5 (by simpa [isS, h5] using hn), hx4⟩
    rintro v w4 ⟨rfl, hi, hd, hr, hf4⟩
    replace hf := hf.trans hf4
    (repeat (first | refine La ?_ | refine Lb ?_ | refine Lc ?_ | refine Ld ?_ | refine Le ?_ | refine Lf ?_ | refine Lg ?_ | apply LW.nil | apply QW.then_n | apply QW.round | apply RW.succ | apply CW.seq | apply CW.region | apply CW.skip | apply CW.block | apply CW.ret | apply CW.exit | apply QW.then_ret | apply QW.then_exit | apply QW.blk_n | apply QW.blk_ret | apply QW.blk_exit | refine Ca ?_ | refine Cb ?_ | refine Cc ?_ | refine Lh ?_ | refine Li ?_ | refine Lj ?_ | refine Lk ?_ | refine Ll ?_))
    refine LW.callP0 rfl rfl (hE (deeper (adv s)) (by show s.at_ < s.at_ + 1; omega) w4 X (fun b hb => Nat.lt_of_lt_of_le (hX b hb) hf4.size) hr) ?_ ?_
    · rintro v w5 ⟨e, rfl, hp, hx5⟩
      (repeat (first | apply QW.then_panic | apply QW.blk_panic))
      exact QW.panicP ⟨e, rfl, .pr_err hi hd hp, hx5⟩
    rintro v w5 ⟨s1, a, rfl, hp, hr5, hf5, g1, g2, g3⟩
    have g1' : s.at_ + 1 < s1.at_ := g1
    have g2' : s1.deep = s.deep + 1 := g2
    have g3' : s.at_ + 1 + s1.out.length ≤ s1.at_ + s.out.length := g3
    replace hf := hf.trans hf5
    (repeat (first | refine La ?_ | refine Lb ?_ | refine Lc ?_ | refine Ld ?_ | refine Le ?_ | refine Lf ?_ | refine Lg ?_ | apply LW.nil | apply QW.then_n | apply QW.round | apply RW.succ | apply CW.seq | apply CW.region | apply CW.skip | apply CW.block | apply CW.ret | apply CW.exit | apply QW.then_ret | apply QW.then_exit | apply QW.blk_n | apply QW.blk_ret | apply QW.blk_exit | refine Ca ?_ | refine Cb ?_ | refine Cc ?_ | refine Lh ?_ | refine Li ?_ | refine Lj ?_ | refine Lk ?_ | refine Ll ?_))
    refine LW.callP0 rfl rfl (need_ret hc hr5 [41]) ?_ ?_
    · rintro v w6 ⟨rfl, hn, hx6⟩
      (repeat (first | apply QW.then_panic | apply QW.blk_panic))
      exact QW.panicP ⟨5, rfl, .pr_open hi hd hp hn, hx6⟩
    rintro v w6 ⟨rfl, h6, hr6, hf6⟩
    replace hf := hf.trans hf6
    obtain ⟨a0, a1, a2, a3, outv, nvs, hB, ho, hm, hkids⟩ := hr6
    have hB0 := hB
    (repeat (first | refine La ?_ | refine Lb ?_ | refine Lc ?_ | refine Ld ?_ | refine Le ?_ | refine Lf ?_ | refine Lg ?_ | apply LW.nil | apply QW.then_n | apply QW.round | apply RW.succ | apply CW.seq | apply CW.region | apply CW.skip | apply CW.block | apply CW.ret | apply CW.exit | apply QW.then_ret | apply QW.then_exit | apply QW.blk_n | apply QW.blk_ret | apply QW.blk_exit | refine Ca ?_ | refine Cb ?_ | refine Cc ?_ | refine Lh ?_ | refine Li ?_ | refine Lj ?_ | refine Lk ?_ | refine Ll ?_))
    (apply LW.store; exact rfl; exact rfl; exact rfl; assumption; exact rfl; exact rfl; exact rfl; intro w7 hc7 hB)
    replace hB : Blk w7 c.rb [c.tokv, .int .i64 (adv s1).at_, outv, .int .i64 ((s1.deep : Int) - 1)] 86 := hB
    have e7 : (s1.deep : Int) - 1 = (((upper (adv s1)).deep : Nat) : Int) := by show (s1.deep : Int) - 1 = ((s1.deep - 1 : Nat) : Int); omega
    rw [e7] at hB
    obtain ⟨hr7, hf7⟩ := Rd.set hc (s := adv s1) (s' := upper (adv s1)) a0 ho hm hkids hB0 hc7 hB rfl a1 (by show s1.deep - 1 ≤ 12; omega) a3
    (repeat (first | refine La ?_ | refine Lb ?_ | refine Lc ?_ | refine Ld ?_ | refine Le ?_ | refine Lf ?_ | refine Lg ?_ | apply LW.nil | apply QW.then_n | apply QW.round | apply RW.succ | apply CW.seq | apply CW.region | apply CW.skip | apply CW.block | apply CW.ret | apply CW.exit | apply QW.then_ret | apply QW.then_exit | apply QW.blk_n | apply QW.blk_ret | apply QW.blk_exit | refine Ca ?_ | refine Cb ?_ | refine Cc ?_ | refine Lh ?_ | refine Li ?_ | refine Lj ?_ | refine Lk ?_ | refine Ll ?_))
    exact QW.bodyP1 Tryd.results118 rfl ⟨upper (adv s1), a, rfl, .pr_ok hi hd hp h6, hr7, hf.trans hf7, by show s.at_ < s1.at_ + 1; omega, by show s1.deep - 1 = s.deep; omega, by show s.at_ + s1.out.length ≤ s1.at_ + 1 + s.out.length; omega⟩
  have h5 : (tokAt c.T s).kind ≠ 5 := by simpa using h5
  (repeat (first | refine La ?_ | refine Lb ?_ | refine Lc ?_ | refine Ld ?_ | refine Le ?_ | refine Lf ?_ | refine Lg ?_ | apply LW.nil | apply QW.then_n | apply QW.round | apply RW.succ | apply CW.seq | apply CW.region | apply CW.skip | apply CW.block | apply CW.ret | apply CW.exit | apply QW.then_ret | apply QW.then_exit | apply QW.blk_n | apply QW.blk_ret | apply QW.blk_exit | refine Ca ?_ | refine Cb ?_ | refine Cc ?_ | refine Lh ?_ | refine Li ?_ | refine Lj ?_ | refine Lk ?_ | refine Ll ?_))
  refine CW.cond rfl (fun h0 => ?_) (fun h0 => ?_)
  · have h0 : (tokAt c.T s).kind = 0 := by simpa using h0
    (repeat (first | refine La ?_ | refine Lb ?_ | refine Lc ?_ | refine Ld ?_ | refine Le ?_ | refine Lf ?_ | refine Lg ?_ | apply LW.nil | apply QW.then_n | apply QW.round | apply RW.succ | apply CW.seq | apply CW.region | apply CW.skip | apply CW.block | apply CW.ret | apply CW.exit | apply QW.then_ret | apply QW.then_exit | apply QW.blk_n | apply QW.blk_ret | apply QW.blk_exit | refine Ca ?_ | refine Cb ?_ | refine Cc ?_ | refine Lh ?_ | refine Li ?_ | refine Lj ?_ | refine Lk ?_ | refine Ll ?_))
    refine LW.callP0 rfl rfl (fail_ret c.rb 5 w3) ?_ (fun _ _ hh => hh.elim)
    rintro v w4 ⟨rfl, hx4⟩
    (repeat (first | apply QW.then_panic | apply QW.blk_panic))
    exact QW.panicP ⟨5, rfl, .pr_end h0, h.1.trans hx4⟩
  have h0 : (tokAt c.T s).kind ≠ 0 := by simpa using h0
  obtain ⟨a0, a1, a2, a3, outv, nvs, hB, ho, hm, hkids⟩ := h
  have hnx := rd_next hc a1 h0
  have hB0 := hB
  (repeat (first | refine La ?_ | refine Lb ?_ | refine Lc ?_ | refine Ld ?_ | refine Le ?_ | refine Lf ?_ | refine Lg ?_ | apply LW.nil | apply QW.then_n | apply QW.round | apply RW.succ | apply CW.seq | apply CW.region | apply CW.skip | apply CW.block | apply CW.ret | apply CW.exit | apply QW.then_ret | apply QW.then_exit | apply QW.blk_n | apply QW.blk_ret | apply QW.blk_exit | refine Ca ?_ | refine Cb ?_ | refine Cc ?_ | refine Lh ?_ | refine Li ?_ | refine Lj ?_ | refine Lk ?_ | refine Ll ?_))
  (apply LW.store; exact rfl; exact rfl; exact rfl; assumption; exact rfl; exact rfl; exact rfl; intro w4 hc4 hB)
  replace hB : Blk w4 c.rb [c.tokv, .int .i64 (adv s).at_, outv, .int .i64 s.deep] 86 := hB
  obtain ⟨h, hf4⟩ := Rd.set hc (s := s) (s' := adv s) a0 ho hm hkids hB0 hc4 hB rfl hnx a2 (by show s.out.length ≤ s.at_ + 1; omega)
  clear hB0 hB ho hm hkids
  replace hf := hf.trans hf4
  replace hC := hf4.blk _ _ _ hC (by decide) (by decide)
  replace hX : ∀ b ∈ X, b < w4.heap.size := fun b hb => Nat.lt_of_lt_of_le (hX b hb) hf4.size
  have hsl : (adv s).out.length + 1 ≤ (adv s).at_ := by show s.out.length + 1 ≤ s.at_ + 1; omega
  have q1 : s.at_ < s.at_ + 1 := by omega
  have q3 : ∀ n : NodeD, s.at_ + (s.out ++ [n]).length ≤ s.at_ + 1 + s.out.length := fun n => by simp; omega
  (repeat (first | refine La ?_ | refine Lb ?_ | refine Lc ?_ | refine Ld ?_ | refine Le ?_ | refine Lf ?_ | refine Lg ?_ | apply LW.nil | apply QW.then_n | apply QW.round | apply RW.succ | apply CW.seq | apply CW.region | apply CW.skip | apply CW.block | apply CW.ret | apply CW.exit | apply QW.then_ret | apply QW.then_exit | apply QW.blk_n | apply QW.blk_ret | apply QW.blk_exit | refine Ca ?_ | refine Cb ?_ | refine Cc ?_ | refine Lh ?_ | refine Li ?_ | refine Lj ?_ | refine Lk ?_ | refine Ll ?_))
  refine CW.cond rfl (fun h1 => ?_) (fun h1 => ?_)
  · have h1 : (tokAt c.T s).kind = 1 := by simpa using h1
    (repeat (first | refine La ?_ | refine Lb ?_ | refine Lc ?_ | refine Ld ?_ | refine Le ?_ | refine Lf ?_ | refine Lg ?_ | apply LW.nil | apply QW.then_n | apply QW.round | apply RW.succ | apply CW.seq | apply CW.region | apply CW.skip | apply CW.block | apply CW.ret | apply CW.exit | apply QW.then_ret | apply QW.then_exit | apply QW.blk_n | apply QW.blk_ret | apply QW.blk_exit | refine Ca ?_ | refine Cb ?_ | refine Cc ?_ | refine Lh ?_ | refine Li ?_ | refine Lj ?_ | refine Lk ?_ | refine Ll ?_))
    refine LW.call0 (vs := [.pointer (some ⟨c.rb, 0, none⟩), .agg ⟨nvL ⟨{ kind := 1, num := (tokAt c.T s).num }, .slice none 0 0⟩⟩]) rfl rfl (put0_ret hc h { kind := 1, num := (tokAt c.T s).num } rfl hsl) ?_
    rintro v w5 ⟨rfl, hr, hf5⟩
    (repeat (first | refine La ?_ | refine Lb ?_ | refine Lc ?_ | refine Ld ?_ | refine Le ?_ | refine Lf ?_ | refine Lg ?_ | apply LW.nil | apply QW.then_n | apply QW.round | apply RW.succ | apply CW.seq | apply CW.region | apply CW.skip | apply CW.block | apply CW.ret | apply CW.exit | apply QW.then_ret | apply QW.then_exit | apply QW.blk_n | apply QW.blk_ret | apply QW.blk_exit | refine Ca ?_ | refine Cb ?_ | refine Cc ?_ | refine Lh ?_ | refine Li ?_ | refine Lj ?_ | refine Lk ?_ | refine Ll ?_))
    exact QW.bodyP1 Tryd.results118 rfl ⟨_, _, rfl, .pr_num h1, hr, hf.trans hf5, q1, rfl, q3 _⟩
  have h1 : (tokAt c.T s).kind ≠ 1 := by simpa using h1
  (repeat (first | refine La ?_ | refine Lb ?_ | refine Lc ?_ | refine Ld ?_ | refine Le ?_ | refine Lf ?_ | refine Lg ?_ | apply LW.nil | apply QW.then_n | apply QW.round | apply RW.succ | apply CW.seq | apply CW.region | apply CW.skip | apply CW.block | apply CW.ret | apply CW.exit | apply QW.then_ret | apply QW.then_exit | apply QW.blk_n | apply QW.blk_ret | apply QW.blk_exit | refine Ca ?_ | refine Cb ?_ | refine Cc ?_ | refine Lh ?_ | refine Li ?_ | refine Lj ?_ | refine Lk ?_ | refine Ll ?_))
  refine CW.cond rfl (fun h2 => ?_) (fun h2 => ?_)
  · have h2 : (tokAt c.T s).kind = 2 := by simpa using h2
    (repeat (first | refine La ?_ | refine Lb ?_ | refine Lc ?_ | refine Ld ?_ | refine Le ?_ | refine Lf ?_ | refine Lg ?_ | apply LW.nil | apply QW.then_n | apply QW.round | apply RW.succ | apply CW.seq | apply CW.region | apply CW.skip | apply CW.block | apply CW.ret | apply CW.exit | apply QW.then_ret | apply QW.then_exit | apply QW.blk_n | apply QW.blk_ret | apply QW.blk_exit | refine Ca ?_ | refine Cb ?_ | refine Cc ?_ | refine Lh ?_ | refine Li ?_ | refine Lj ?_ | refine Lk ?_ | refine Ll ?_))
    refine LW.call0 (vs := [.pointer (some ⟨c.rb, 0, none⟩), .agg ⟨nvL ⟨{ kind := 2, text := (tokAt c.T s).text }, .slice none 0 0⟩⟩]) rfl rfl (put0_ret hc h { kind := 2, text := (tokAt c.T s).text } rfl hsl) ?_
    rintro v w5 ⟨rfl, hr, hf5⟩
    (repeat (first | refine La ?_ | refine Lb ?_ | refine Lc ?_ | refine Ld ?_ | refine Le ?_ | refine Lf ?_ | refine Lg ?_ | apply LW.nil | apply QW.then_n | apply QW.round | apply RW.succ | apply CW.seq | apply CW.region | apply CW.skip | apply CW.block | apply CW.ret | apply CW.exit | apply QW.then_ret | apply QW.then_exit | apply QW.blk_n | apply QW.blk_ret | apply QW.blk_exit | refine Ca ?_ | refine Cb ?_ | refine Cc ?_ | refine Lh ?_ | refine Li ?_ | refine Lj ?_ | refine Lk ?_ | refine Ll ?_))
    exact QW.bodyP1 Tryd.results118 rfl ⟨_, _, rfl, .pr_text h2, hr, hf.trans hf5, q1, rfl, q3 _⟩
  have h2 : (tokAt c.T s).kind ≠ 2 := by simpa using h2
  (repeat (first | refine La ?_ | refine Lb ?_ | refine Lc ?_ | refine Ld ?_ | refine Le ?_ | refine Lf ?_ | refine Lg ?_ | apply LW.nil | apply QW.then_n | apply QW.round | apply RW.succ | apply CW.seq | apply CW.region | apply CW.skip | apply CW.block | apply CW.ret | apply CW.exit | apply QW.then_ret | apply QW.then_exit | apply QW.blk_n | apply QW.blk_ret | apply QW.blk_exit | refine Ca ?_ | refine Cb ?_ | refine Cc ?_ | refine Lh ?_ | refine Li ?_ | refine Lj ?_ | refine Lk ?_ | refine Ll ?_))
  refine CW.cond rfl (fun h6 => ?_) (fun h6 => ?_)
  · have h6 : (tokAt c.T s).kind = 6 := by simpa using h6
    (repeat (first | refine La ?_ | refine Lb ?_ | refine Lc ?_ | refine Ld ?_ | refine Le ?_ | refine Lf ?_ | refine Lg ?_ | apply LW.nil | apply QW.then_n | apply QW.round | apply RW.succ | apply CW.seq | apply CW.region | apply CW.skip | apply CW.block | apply CW.ret | apply CW.exit | apply QW.then_ret | apply QW.then_exit | apply QW.blk_n | apply QW.blk_ret | apply QW.blk_exit | refine Ca ?_ | refine Cb ?_ | refine Cc ?_ | refine Lh ?_ | refine Li ?_ | refine Lj ?_ | refine Lk ?_ | refine Ll ?_))
    refine LW.call0 (vs := [.pointer (some ⟨c.rb, 0, none⟩), .agg ⟨nvL ⟨{ kind := 4 }, .slice none 0 0⟩⟩]) rfl rfl (put0_ret hc h { kind := 4 } rfl hsl) ?_
    rintro v w5 ⟨rfl, hr, hf5⟩
    (repeat (first | refine La ?_ | refine Lb ?_ | refine Lc ?_ | refine Ld ?_ | refine Le ?_ | refine Lf ?_ | refine Lg ?_ | apply LW.nil | apply QW.then_n | apply QW.round | apply RW.succ | apply CW.seq | apply CW.region | apply CW.skip | apply CW.block | apply CW.ret | apply CW.exit | apply QW.then_ret | apply QW.then_exit | apply QW.blk_n | apply QW.blk_ret | apply QW.blk_exit | refine Ca ?_ | refine Cb ?_ | refine Cc ?_ | refine Lh ?_ | refine Li ?_ | refine Lj ?_ | refine Lk ?_ | refine Ll ?_))
    exact QW.bodyP1 Tryd.results118 rfl ⟨_, _, rfl, .pr_dead h6, hr, hf.trans hf5, q1, rfl, q3 _⟩
  have h6 : (tokAt c.T s).kind ≠ 6 := by simpa using h6
  (repeat (first | refine La ?_ | refine Lb ?_ | refine Lc ?_ | refine Ld ?_ | refine Le ?_ | refine Lf ?_ | refine Lg ?_ | apply LW.nil | apply QW.then_n | apply QW.round | apply RW.succ | apply CW.seq | apply CW.region | apply CW.skip | apply CW.block | apply CW.ret | apply CW.exit | apply QW.then_ret | apply QW.then_exit | apply QW.blk_n | apply QW.blk_ret | apply QW.blk_exit | refine Ca ?_ | refine Cb ?_ | refine Cc ?_ | refine Lh ?_ | refine Li ?_ | refine Lj ?_ | refine Lk ?_ | refine Ll ?_))
  refine CW.cond rfl (fun h4 => ?_) (fun h4 => ?_)
  · have h4 : (tokAt c.T s).kind = 4 := by simpa using h4
    (repeat (first | refine La ?_ | refine Lb ?_ | refine Lc ?_ | refine Ld ?_ | refine Le ?_ | refine Lf ?_ | refine Lg ?_ | apply LW.nil | apply QW.then_n | apply QW.round | apply RW.succ | apply CW.seq | apply CW.region | apply CW.skip | apply CW.block | apply CW.ret | apply CW.exit | apply QW.then_ret | apply QW.then_exit | apply QW.blk_n | apply QW.blk_ret | apply QW.blk_exit | refine Ca ?_ | refine Cb ?_ | refine Cc ?_ | refine Lh ?_ | refine Li ?_ | refine Lj ?_ | refine Lk ?_ | refine Ll ?_))
    refine LW.load_agg (cs := refL (tokAt c.T s).ref) rfl hC rfl rfl rfl ⟨rfl, rfl, rfl, rfl, rfl, trivial⟩ rfl ?_
    (repeat (first | refine La ?_ | refine Lb ?_ | refine Lc ?_ | refine Ld ?_ | refine Le ?_ | refine Lf ?_ | refine Lg ?_ | apply LW.nil | apply QW.then_n | apply QW.round | apply RW.succ | apply CW.seq | apply CW.region | apply CW.skip | apply CW.block | apply CW.ret | apply CW.exit | apply QW.then_ret | apply QW.then_exit | apply QW.blk_n | apply QW.blk_ret | apply QW.blk_exit | refine Ca ?_ | refine Cb ?_ | refine Cc ?_ | refine Lh ?_ | refine Li ?_ | refine Lj ?_ | refine Lk ?_ | refine Ll ?_))
    refine LW.callP0 rfl rfl (ref_ret hc (adv s) (tokAt c.T s).ref w4 h hsl) ?_ ?_
    · rintro v w5 ⟨rfl, hx5, hi, hn⟩
      (repeat (first | apply QW.then_panic | apply QW.blk_panic))
      exact QW.panicP ⟨5, rfl, .pr_norange h4 hi hn, hx5⟩
    rintro v w5 ⟨rfl, hf5, ⟨hi, hr⟩ | ⟨hi, hk2, hr2, hr⟩⟩
    · (repeat (first | refine La ?_ | refine Lb ?_ | refine Lc ?_ | refine Ld ?_ | refine Le ?_ | refine Lf ?_ | refine Lg ?_ | apply LW.nil | apply QW.then_n | apply QW.round | apply RW.succ | apply CW.seq | apply CW.region | apply CW.skip | apply CW.block | apply CW.ret | apply CW.exit | apply QW.then_ret | apply QW.then_exit | apply QW.blk_n | apply QW.blk_ret | apply QW.blk_exit | refine Ca ?_ | refine Cb ?_ | refine Cc ?_ | refine Lh ?_ | refine Li ?_ | refine Lj ?_ | refine Lk ?_ | refine Ll ?_))
      exact QW.bodyP1 Tryd.results118 rfl ⟨_, _, rfl, .pr_ref h4 hi, hr, hf.trans hf5, q1, rfl, q3 _⟩
    · (repeat (first | refine La ?_ | refine Lb ?_ | refine Lc ?_ | refine Ld ?_ | refine Le ?_ | refine Lf ?_ | refine Lg ?_ | apply LW.nil | apply QW.then_n | apply QW.round | apply RW.succ | apply CW.seq | apply CW.region | apply CW.skip | apply CW.block | apply CW.ret | apply CW.exit | apply QW.then_ret | apply QW.then_exit | apply QW.blk_n | apply QW.blk_ret | apply QW.blk_exit | refine Ca ?_ | refine Cb ?_ | refine Cc ?_ | refine Lh ?_ | refine Li ?_ | refine Lj ?_ | refine Lk ?_ | refine Ll ?_))
      exact QW.bodyP1 Tryd.results118 rfl ⟨_, _, rfl, .pr_range h4 hi hk2 hr2, hr, hf.trans hf5, by show s.at_ < s.at_ + 1 + 1 + 1; omega, rfl, by show s.at_ + (s.out ++ [_]).length ≤ s.at_ + 1 + 1 + 1 + s.out.length; simp; omega⟩
  have h4 : (tokAt c.T s).kind ≠ 4 := by simpa using h4
  have h3 : (tokAt c.T s).kind = 3 := by omega
  (repeat (first | refine La ?_ | refine Lb ?_ | refine Lc ?_ | refine Ld ?_ | refine Le ?_ | refine Lf ?_ | refine Lg ?_ | apply LW.nil | apply QW.then_n | apply QW.round | apply RW.succ | apply CW.seq | apply CW.region | apply CW.skip | apply CW.block | apply CW.ret | apply CW.exit | apply QW.then_ret | apply QW.then_exit | apply QW.blk_n | apply QW.blk_ret | apply QW.blk_exit | refine Ca ?_ | refine Cb ?_ | refine Cc ?_ | refine Lh ?_ | refine Li ?_ | refine Lj ?_ | refine Lk ?_ | refine Ll ?_))
  refine LW.callP0 rfl rfl (pword_ret hc s h3 hE w4 X hX h a3) ?_ ?_
  · rintro v w5 hp
    (repeat (first | apply QW.then_panic | apply QW.blk_panic))
    exact QW.panicP hp
  rintro v w5 ⟨s', p, rfl, hp, hr, hf5, k1, k2, k3⟩
  (repeat (first | refine La ?_ | refine Lb ?_ | refine Lc ?_ | refine Ld ?_ | refine Le ?_ | refine Lf ?_ | refine Lg ?_ | apply LW.nil | apply QW.then_n | apply QW.round | apply RW.succ | apply CW.seq | apply CW.region | apply CW.skip | apply CW.block | apply CW.ret | apply CW.exit | apply QW.then_ret | apply QW.then_exit | apply QW.blk_n | apply QW.blk_ret | apply QW.blk_exit | refine Ca ?_ | refine Cb ?_ | refine Cc ?_ | refine Lh ?_ | refine Li ?_ | refine Lj ?_ | refine Lk ?_ | refine Ll ?_))
  exact QW.bodyP1 Tryd.results118 rfl ⟨s', p, rfl, hp, hr, hf.trans hf5, k1, k2, k3⟩

/-- All of them, by how many tokens are left. -/
theorem readers {c : PCtx} (hc : c.Ok) : ∀ (m : Nat) (s : PSt), c.T.length - s.at_ ≤ m →
    PC c 51 (.lev 0) s ∧ PC c 73 (.lev 1) s ∧ PC c 92 (.lev 2) s ∧ PC c 105 (.lev 3) s ∧ PC c 115 .unary s ∧ PC c 118 .prim s
  | 0, s, hm => by
    have key : ∀ f m, PC c f m s := fun f m w X hX h => absurd h.2.1 (by omega)
    exact ⟨key _ _, key _ _, key _ _, key _ _, key _ _, key _ _⟩
  | m + 1, s, hm => by
    by_cases hs : s.at_ < c.T.length
    · have ih := fun (s' : PSt) (h : s.at_ < s'.at_) => readers hc m s' (by omega)
      have hp := prim_ret hc s (fun s' h => (ih s' h).1)
      have hu := unary_ret hc s hp (fun s' h => (ih s' h).2.2.2.2.1)
      have ht := term_ret hc s hu (fun s' h _ => (ih s' h).2.2.2.2.1)
      have hsu := sum_ret hc s ht (fun s' h _ => (ih s' h).2.2.2.1)
      have hca := cat_ret hc s hsu (fun s' h _ => (ih s' h).2.2.1)
      exact ⟨expr_ret hc s hca (fun s' h _ => (ih s' h).2.1), hca, hsu, ht, hu, hp⟩
    · have key : ∀ f m, PC c f m s := fun f m w X hX h => absurd h.2.1 hs
      exact ⟨key _ _, key _ _, key _ _, key _ _, key _ _, key _ _⟩
end Go.Proofs.YtfpklhgkndnjjaaDoor
