/-
  Walks: the document's reader of a formula's tokens: calls, what operators stand between; all of them; a text as a formula.
-/
import Derived.Test.YtiloogjageledaaGreatDoorRPar3
namespace Go.Proofs.YtiloogjageledaaGreatDoor
open Go Go.E

theorem Own.fq {w w' : World} {lo e size n : Nat} {v : Value} {xs : List Value} (h : Own w lo e size v n xs) (f : Fq w w') (h1 : e ≠ 110) (h2 : e ≠ 38) : Own w' lo e size v n xs := by
  obtain ⟨hl, h | ⟨g, cap, sp, rfl, hB, a1, a2, a3⟩⟩ := h
  · exact ⟨hl, .inl h⟩
  · exact ⟨hl, .inr ⟨g, cap, sp, rfl, f.blk _ _ _ hB h1 h2, a1, a2, a3⟩⟩
theorem Rq.grow {c : PCtx} {X X' : List Nat} {w : World} {s : PSt} (h : Rq c X w s) (hX : ∀ b ∈ X', b ∈ X ∨ w.heap.size ≤ b) : Rq c X' w s := by
  obtain ⟨h0, h1, h2, h3, outv, nvs, hB, ho, hm, hk⟩ := h
  refine ⟨h0, h1, h2, h3, outv, nvs, hB, ho, hm, fun y hy => ⟨(hk y hy).1, fun b hb hbX => ?_⟩⟩
  rcases hX b hbX with hx | hx
  · exact (hk y hy).2 b hb hx
  · rcases (hk y hy).1 with ⟨e, _⟩ | ⟨g, cap, sp, e, hg⟩
    · rw [e] at hb; simp [vblk] at hb
    · rw [e] at hb
      simp [vblk] at hb
      have := hg.lt
      omega
theorem Rq.other {c : PCtx} {X S : List Nat} {w w' : World} {s : PSt} (h : Rq c X w s) (k : Chg S w w') (hS : ∀ b ∈ S, c.w0.heap.size ≤ b ∧ b ∈ X ∧ ∀ l T, Blk w b l T → T = 3) : Rq c X w' s := by
  obtain ⟨h0, h1, h2, h3, outv, nvs, hB, ho, hm, hk⟩ := h
  refine ⟨h0.step k (fun b hb => (hS b hb).1), h1, h2, h3, outv, nvs, hB.chg k (fun hb => absurd ((hS _ hb).2.2 _ _ hB) (by decide)), ho.chg k (fun b hb hbS => ?_), hm, fun y hy => ⟨?_, (hk y hy).2⟩⟩
  · obtain ⟨_, ⟨e, _⟩ | ⟨g, cap, sp, e, hg, _⟩⟩ := ho
    · rw [e] at hb; simp [vblk] at hb
    · rw [e] at hb
      simp [vblk] at hb
      subst hb
      exact absurd ((hS _ hbS).2.2 _ _ hg) (by decide)
  · rcases (hk y hy).1 with e | ⟨g, cap, sp, e, hg⟩
    · exact .inl e
    · exact .inr ⟨g, cap, sp, e, hg.chg k (fun hb => (hk y hy).2 g (by rw [e]; simp [vblk]) (hS _ hb).2.1)⟩
theorem Re.other {c : PCtx} {S : List Nat} {w w' : World} {e d : Int} {k : Nat} (h : Re c w e d k) (kk : Chg S w w') (hS : ∀ b ∈ S, c.w0.heap.size ≤ b ∧ ∀ l T, Blk w b l T → T = 3) : Re c w' e d k := by
  obtain ⟨h0, he, i, outv, n, xs, hB, ho, hn⟩ := h
  refine ⟨h0.step kk (fun b hb => (hS b hb).1), he, i, outv, n, xs, hB.chg kk (fun hb => absurd ((hS _ hb).2 _ _ hB) (by decide)), ho.chg kk (fun b hb hbS => ?_), hn⟩
  obtain ⟨_, ⟨e, _⟩ | ⟨g, cap, sp, e, hg, _⟩⟩ := ho
  · rw [e] at hb; simp [vblk] at hb
  · rw [e] at hb
    simp [vblk] at hb
    subst hb
    exact absurd ((hS _ hbS).2 _ _ hg) (by decide)

theorem rname_ret {c : PCtx} (hc : c.Ok) (s : PSt) (hk3 : (tokAt c.T s).kind = 3) (hE : ∀ s', s.at_ < s'.at_ → RC c 71 [.int .i64 0] (.lev 0) s') (w : World) (X : List Nat) (hX : ∀ b ∈ X, b < w.heap.size) (h : Rq c X w s) :
    Ret Tryz.prog 190 [.pointer (some ⟨c.rb, 0, none⟩), str (tokAt c.T s).text] w (fun v w' => ∃ z, v = .int .i64 z ∧ Fq w w' ∧ (RG c X .prim s w' z ∨ RB c .prim s w')) := by
  have hlen := hc.len
  have hl := h.len
  have hw0 := h.1.size
  have hkp := kc_le .prim s.deep
  obtain ⟨a0, a1, a2, a3, outv, nvs, hB, ho, hm, hk⟩ := h
  have hnx := rd_next hc a1 (by omega)
  have hB0 := hB
  refine Ret.enter Tryz.func190 rfl Tryz.ntmps190 (by kernel_rfl) rfl ?_
  refine Sa ?_
  (apply LW.store; exact rfl; exact rfl; exact rfl; assumption; exact rfl; exact rfl; exact rfl; intro w1 hc1 hB)
  replace hB : Blk w1 c.rb [c.tokv, .int .i64 (adv s).at_, .int .i64 (adv s).deep, .int .i64 0, outv] 110 := hB
  obtain ⟨h1, hf⟩ := Rq.set hc (s := s) (s' := adv s) a0 ho hm hk hB0 hc1 hB rfl hnx a2 (by show s.out.length ≤ s.at_ + 1; omega)
  have hsl : (adv s).out.length + 1 ≤ (adv s).at_ := by show s.out.length + 1 ≤ s.at_ + 1; omega
  refine Sa ?_
  refine CW.cond rfl (fun ht => ?_) (fun ht => ?_)
  · have ht : (tokAt c.T s).text = trueT := of_decide_eq_true ht
    refine Sa ?_
    refine LW.call0 (vs := [.pointer (some ⟨c.rb, 0, none⟩), .agg ⟨nvL ⟨{ kind := 3, num := 1 }, .slice none 0 0⟩⟩]) rfl rfl (rput0_ok hc h1 { kind := 3, num := 1 } rfl hsl) ?_
    rintro v w2 ⟨rfl, hr, hf2⟩
    refine Sa ?_
    exact QW.body1 Tryz.results190 rfl ⟨_, rfl, hf.trans hf2, .inl ⟨_, _, rfl, .pr_true hk3 ht, hr, by show s.at_ < s.at_ + 1; omega, rfl, by simp [putS, adv]; omega⟩⟩
  have ht : (tokAt c.T s).text ≠ trueT := of_decide_eq_false ht
  refine Sa ?_
  refine CW.cond rfl (fun hfl => ?_) (fun hfl => ?_)
  · have hfl : (tokAt c.T s).text = falseT := of_decide_eq_true hfl
    refine Sa ?_
    refine LW.call0 (vs := [.pointer (some ⟨c.rb, 0, none⟩), .agg ⟨nvL ⟨{ kind := 3 }, .slice none 0 0⟩⟩]) rfl rfl (rput0_ok hc h1 { kind := 3 } rfl hsl) ?_
    rintro v w2 ⟨rfl, hr, hf2⟩
    refine Sa ?_
    exact QW.body1 Tryz.results190 rfl ⟨_, rfl, hf.trans hf2, .inl ⟨_, _, rfl, .pr_false hk3 hfl, hr, by show s.at_ < s.at_ + 1; omega, rfl, by simp [putS, adv]; omega⟩⟩
  have hfl : (tokAt c.T s).text ≠ falseT := of_decide_eq_false hfl
  refine Sa ?_
  refine LW.call0 rfl rfl (is_ok hc h1 [40]) ?_
  rintro v w2 ⟨rfl, hx2⟩
  replace h1 := h1.ext hx2
  replace hf := hf.trans (.ext hx2)
  refine Sa ?_
  refine CW.cond rfl (fun hi => ?_) (fun hi => ?_)
  · have hi : isS c.T (adv s) [40] = false := by simpa using hi
    refine Sa ?_
    refine LW.call0 rfl rfl (rfail_ok hc h1 5 (by decide)) ?_
    rintro v w3 ⟨rfl, hr, hf3⟩
    refine Sa ?_
    exact QW.body1 Tryz.results190 rfl ⟨0, rfl, hf.trans hf3, .inr ⟨5, s.deep, .pr_nocall hk3 ht hfl hi, .inl rfl, Re.mono hr (by show s.out.length ≤ _; omega)⟩⟩
  have hi : isS c.T (adv s) [40] = true := by simpa using hi
  refine Sa ?_
  refine LW.call0 rfl rfl (ropen_ok hc h1 (by rw [(isS_kind hi).1]; decide)) ?_
  rintro v w3 ⟨rfl, hf3, ⟨hd, hr⟩ | ⟨hd, hr⟩⟩
  rotate_left
  · replace hf := hf.trans hf3
    have hd : 12 ≤ s.deep := hd
    have hpe : PE c.T .prim s (.err 6) := .pr_calldeep hk3 ht hfl hi hd
    have hr0 := hr
    obtain ⟨h0, he, i, outv, m, xs, hB, ho, hle⟩ := hr
    refine Sa ?_
    have kz : ((s.deep : Int) = s.deep + 1 ∨ (s.deep : Int) = s.deep) := .inr rfl
    have hk2 : (adv s).out.length + 1 ≤ kc .prim s.deep := by show s.out.length + 1 ≤ _; omega
    refine LW.call0 rfl rfl (rwant_bad hr0 [41]) ?_
    rintro v w4 ⟨rfl, hx4⟩
    replace hB := hB.ext hx4
    have hB0 := hB
    have hdd : ((adv s).deep : Int) = s.deep := rfl
    refine Sa ?_
    (apply LW.store; exact rfl; exact rfl; exact rfl; assumption; exact rfl; exact rfl; exact rfl; intro w5 hc5 hB)
    replace hB : Blk w5 c.rb [c.tokv, .int .i64 i, .int .i64 (((adv s).deep : Int) - 1), .int .i64 6, outv] 110 := hB
    obtain ⟨hr5, hf5⟩ := Re.set hc (h0.trans hx4) (ho.ext hx4) hB0 hc5 he hB hle
    refine Sa ?_
    refine LW.call0 (vs := [.pointer (some ⟨c.rb, 0, none⟩), .agg ⟨nvL ⟨{ kind := 7, text := (tokAt c.T s).text }, .slice none 0 0⟩⟩]) rfl rfl (rput_bad hc hr5 (by show s.out.length ≤ _; omega) ⟨{ kind := 7, text := (tokAt c.T s).text }, .slice none 0 0⟩ rfl) ?_
    rintro v w6 ⟨⟨y, rfl⟩, hr6, hf6⟩
    refine Sa ?_
    exact QW.body1 Tryz.results190 rfl ⟨y, rfl, ((hf.trans (.ext hx4)).trans hf5).trans hf6, .inr ⟨6, _, hpe, .inr rfl, hr6.mono hk2⟩⟩
  replace hf := hf.trans hf3
  have hd : s.deep < 12 := hd
  have hr0 := hr
  obtain ⟨_, _, _, _, outv1, nvs1, hB1, _⟩ := hr
  refine Sa ?_
  try refine LW.know (t := 35) (c := true) rfl (by simp) ?_
  refine Sa ?_
  refine LW.call0 rfl rfl (is_ok hc hr0 [41]) ?_
  rintro v w4 ⟨rfl, hx4⟩
  replace hr0 := hr0.ext hx4
  replace hf := hf.trans (.ext hx4)
  replace hX : ∀ b ∈ X, b < w4.heap.size := fun b hb => Nat.lt_of_lt_of_le (hX b hb) hf.size
  refine Sa ?_
  refine CW.cond rfl (fun h41 => ?_) (fun h41 => ?_)
  rotate_left
  · have h41 : isS c.T (deeper (adv (adv s))) [41] = true := by simpa using h41
    refine Sa ?_
    refine LW.call0 rfl rfl (rwant_ok hc hr0 [41]) ?_
    rintro v w5 ⟨rfl, hf5, ⟨_, hr5⟩ | ⟨hn, _⟩⟩
    rotate_left
    · rw [h41] at hn; cases hn
    obtain ⟨b0, b1, b2, b3, outv, nvs, hB, ho, hm, hk⟩ := hr5
    have hB0 := hB
    refine Sa ?_
    (apply LW.store; exact rfl; exact rfl; exact rfl; assumption; exact rfl; exact rfl; exact rfl; intro w6 hc6 hB)
    have e6 : ((adv (deeper (adv (adv s)))).deep : Int) - 1 = ((upper (adv (deeper (adv (adv s))))).deep : Nat) := by show ((s.deep + 1 : Nat) : Int) - 1 = ((s.deep + 1 - 1 : Nat) : Int); omega
    replace hB : Blk w6 c.rb [c.tokv, .int .i64 (adv (deeper (adv (adv s)))).at_, .int .i64 (((adv (deeper (adv (adv s)))).deep : Int) - 1), .int .i64 0, outv] 110 := hB
    rw [e6] at hB
    obtain ⟨hr6, hf6⟩ := Rq.set hc (s := adv (deeper (adv (adv s)))) (s' := upper (adv (deeper (adv (adv s))))) b0 ho hm hk hB0 hc6 hB rfl b1 (by show s.deep + 1 - 1 ≤ 12; omega) b3
    refine Sa ?_
    refine LW.call0 (vs := [.pointer (some ⟨c.rb, 0, none⟩), .agg ⟨nvL ⟨{ kind := 7, text := (tokAt c.T s).text }, .slice none 0 0⟩⟩]) rfl rfl (rput0_ok hc hr6 { kind := 7, text := (tokAt c.T s).text } rfl (by show s.out.length + 1 ≤ s.at_ + 1 + 1 + 1; omega)) ?_
    rintro v w7 ⟨rfl, hr7, hf7⟩
    refine Sa ?_
    exact QW.body1 Tryz.results190 rfl ⟨_, rfl, ((hf.trans hf5).trans hf6).trans hf7, .inl ⟨_, _, rfl, .pr_call0 hk3 ht hfl hi hd h41, hr7, by show s.at_ < s.at_ + 1 + 1 + 1; omega, rfl, by show s.at_ + (s.out ++ [_]).length ≤ s.at_ + 1 + 1 + 1 + s.out.length; simp; omega⟩⟩
  have h41 : isS c.T (deeper (adv (adv s))) [41] = false := by simpa using h41
  refine Sa ?_
  refine CW.loop (ι := PSt × List Int × Value) (fun k w' => s.at_ + 1 + 1 ≤ k.1.at_ ∧ k.1.deep = s.deep + 1 ∧ s.at_ + 1 + 1 + k.1.out.length ≤ k.1.at_ + s.out.length ∧ k.2.1.length ≤ k.1.at_ ∧ Rq c (vblk k.2.2 ++ X) w' k.1 ∧ Fq w w' ∧ Own w' c.w0.heap.size 3 1 k.2.2 k.2.1.length (icells k.2.1) ∧ (∀ b ∈ vblk k.2.2, w4.heap.size ≤ b) ∧ Fq w4 w' ∧
      ∀ r, PE c.T (.args (tokAt c.T s).text k.2.1) k.1 r → PE c.T .prim s r) (fun k => [(0, .pointer (some ⟨c.rb, 0, none⟩)), (1, str (tokAt c.T s).text), (5, k.2.2)]) (fun k => c.T.length - k.1.at_) (deeper (adv (adv s)), [], .slice none 0 0)
    ⟨Nat.le_refl _, rfl, by show s.at_ + 1 + 1 + s.out.length ≤ s.at_ + 1 + 1 + s.out.length; omega, by simp, hr0, hf, Own.nil _ _ _ _, by simp [vblk], Fq.refl _, fun r hr => .pr_call hk3 ht hfl hi hd h41 hr⟩ (Sub.cons rfl (Sub.cons rfl (Sub.cons rfl (Sub.nil)))) ?_
  clear hB1
  rintro ⟨t, ks, kv⟩ w5 ⟨g1, g2, g3, g4, hr, hf', ho, hfresh, hfw, hcont⟩
  simp only at g1 g2 g3 g4 hr ho hfresh hcont
  show CW _ _ _ _ _ [(0, .pointer (some ⟨c.rb, 0, none⟩)), (1, str (tokAt c.T s).text), (5, kv)] _
  have htl := hr.len
  have hz5 := hfw.size
  have hr0 := hr
  obtain ⟨_, _, _, _, outv1, nvs1, hB1, _⟩ := hr
  refine Sa ?_
  try refine CW.yes rfl (by simp) ?_
  refine Sa ?_
  refine LW.call0 rfl rfl (hE t (by omega) w5 (vblk kv ++ X) (fun b hb => by
    rw [List.mem_append] at hb
    rcases hb with hb | hb
    · exact (ho.lt hb).2
    · exact Nat.lt_of_lt_of_le (hX b hb) hz5) hr0) ?_
  rintro v w6 ⟨z, rfl, hf6, hres⟩
  have ho6 := Own.fq ho hf6 (by decide) (by decide)
  replace hf' := hf'.trans hf6
  have hfw6 := hfw.trans hf6
  refine Sa ?_
  (apply LW.buildSlice; exact rfl; exact rfl; exact rfl; exact rfl; exact rfl; exact rfl; exact rfl; exact rfl; exact rfl; intro A w7 hbA hx7 hA)
  replace hA : Blk w7 A [.int .i64 z] 3 := hA
  have ho7 := ho6.ext hx7
  replace hf' := hf'.trans (.ext hx7)
  have hfw7 := hfw6.trans (.ext hx7)
  have hz7 := hfw7.size
  have hw7 := hf'.size
  refine Sa ?_
  refine LW.append rfl rfl rfl rfl rfl rfl ho7 (by omega) hA rfl rfl rfl (by show (ks.length + 1) * 9 ≤ 140737488355328; omega) rfl ?_
  intro kv' w8 hc8 ho8 hnew
  have ho8' : Own w8 c.w0.heap.size 3 1 kv' (ks ++ [z]).length (icells (ks ++ [z])) := by simpa [icells] using ho8
  have hf8 : Fq w5 w8 → True := fun _ => trivial
  have hx48 : ∀ b l T, Blk w4 b l T → T ≠ 110 → T ≠ 38 → Blk w8 b l T := fun b l T hb n1 n2 => (hfw7.blk b l T hb n1 n2).chg hc8 (fun hm => by
    have := hfresh b hm
    have := hb.lt
    omega)
  have hfw8 : Fq w4 w8 := ⟨Nat.le_trans hz7 hc8.size, hx48⟩
  have hff8 : Fq w w8 := hf.trans hfw8
  have hfresh' : ∀ b ∈ vblk kv', w4.heap.size ≤ b := fun b hb => by
    rcases hnew b hb with hh | hh
    · exact hfresh b hh
    · omega
  obtain ⟨kp, kq, rfl⟩ := ho8'.slice
  have hone : (Value.slice kp (ks ++ [z]).length kq).oneCell' = true := rfl
  rcases hres with ⟨t', a', rfl, hp', hr6, k1, k2, k3⟩ | ⟨e, d, hp', hdd, hr6⟩
  rotate_left
  · have hr8 : Re c w8 e d (kc (.lev 0) t.deep) := (hr6.ext hx7).other hc8 (fun b hb => ⟨(ho7.lt hb).1, fun l T k => Own.type ho7 hb k⟩)
    have hpe : PE c.T .prim s (.err e) := hcont _ (.ar_err hp')
    have hdc : d = (s.deep : Int) + 1 ∨ d = (s.deep : Int) := by rw [g2] at hdd; omega
    have hkk : kc (.lev 0) t.deep + 1 ≤ kc .prim s.deep := by
      rw [g2]
      show 400 + 6 * (12 - (s.deep + 1)) + (4 - 0) + 1 ≤ 400 + 6 * (12 - s.deep) + 0
      omega
    have hk0 := kc_le (.lev 0) t.deep
    refine Sa ?_
    refine LW.call0 rfl rfl (is_bad hr8 [44]) ?_
    rintro v w9 ⟨rfl, hx9⟩
    replace hr8 := hr8.ext hx9
    refine Sa ?_
    refine LW.call0 rfl rfl (rwant_bad hr8 [41]) ?_
    rintro v w10 ⟨rfl, hx10⟩
    replace hr8 := hr8.ext hx10
    have hx10' := hx9.trans hx10
    obtain ⟨h0, he, i, outv, m, xs, hB, hoo, hle⟩ := hr8
    have hB0 := hB
    refine Sa ?_
    (apply LW.store; exact rfl; exact rfl; exact rfl; assumption; exact rfl; exact rfl; exact rfl; intro w11 hc11 hB)
    replace hB : Blk w11 c.rb [c.tokv, .int .i64 i, .int .i64 (d - 1), .int .i64 e, outv] 110 := hB
    obtain ⟨hr11, hf11⟩ := Re.set hc h0 hoo hB0 hc11 he hB hle
    refine Sa ?_
    refine LW.call0 (vs := [.pointer (some ⟨c.rb, 0, none⟩), .agg ⟨nvL ⟨{ kind := 7, text := (tokAt c.T s).text, kids := ks }, .slice kp (ks ++ [z]).length kq⟩⟩]) rfl rfl (rput_bad hc hr11 (by omega) ⟨{ kind := 7, text := (tokAt c.T s).text, kids := ks }, .slice kp (ks ++ [z]).length kq⟩ hone) ?_
    rintro v w12 ⟨⟨y, rfl⟩, hr12, hf12⟩
    refine Sa ?_
    exact QW.body1 Tryz.results190 rfl ⟨y, rfl, ((hff8.trans (.ext hx10')).trans hf11).trans hf12, .inr ⟨e, _, hpe, by omega, hr12.mono hkk⟩⟩
  have hr8 : Rq c (vblk (Value.slice kp (ks ++ [((a' : Nat) : Int)]).length kq) ++ X) w8 t' := by
    have h5 := (hr6.ext hx7).grow (X' := vblk kv ++ (vblk (Value.slice kp (ks ++ [((a' : Nat) : Int)]).length kq) ++ X)) (fun b hb => by
      simp only [List.mem_append] at hb ⊢
      rcases hb with hb | hb | hb
      · exact .inl (.inl hb)
      · rcases hnew b hb with hh | hh
        · exact .inl (.inl hh)
        · exact .inr hh
      · exact .inl (.inr hb))
    have h6 := h5.other hc8 (fun b hb => ⟨(ho7.lt hb).1, List.mem_append_left _ hb, fun l T k => Own.type ho7 hb k⟩)
    exact h6.grow (fun b hb => .inl (List.mem_append_right _ hb))
  refine Sa ?_
  refine LW.call0 rfl rfl (is_ok hc hr8 [44]) ?_
  rintro v w9 ⟨rfl, hx9⟩
  replace hr8 := hr8.ext hx9
  replace ho8' := ho8'.ext hx9
  replace hff8 := hff8.trans (.ext hx9)
  replace hfw8 := hfw8.trans (.ext hx9)
  refine Sa ?_
  refine CW.cond rfl (fun h44 => ?_) (fun h44 => ?_)
  rotate_left
  · have h44 : isS c.T t' [44] = true := by simpa using h44
    obtain ⟨b0, b1, b2, b3, outv, nvs, hB, hoo, hm, hk⟩ := hr8
    have hnx2 := rd_next hc b1 (by rw [(isS_kind h44).1]; decide)
    have hB0 := hB
    refine Sa ?_
    (apply LW.store; exact rfl; exact rfl; exact rfl; assumption; exact rfl; exact rfl; exact rfl; intro w10 hc10 hB)
    replace hB : Blk w10 c.rb [c.tokv, .int .i64 (adv t').at_, .int .i64 (adv t').deep, .int .i64 0, outv] 110 := hB
    obtain ⟨hr10, hf10⟩ := Rq.set hc (s := t') (s' := adv t') b0 hoo hm hk hB0 hc10 hB rfl hnx2 b2 (by show t'.out.length ≤ t'.at_ + 1; omega)
    refine Sa ?_
    exact QW.again (adv t', ks ++ [((a' : Nat) : Int)], .slice kp (ks ++ [((a' : Nat) : Int)]).length kq) ⟨by show s.at_ + 1 + 1 ≤ t'.at_ + 1; omega, k2.trans g2, by show s.at_ + 1 + 1 + t'.out.length ≤ t'.at_ + 1 + s.out.length; omega, by show (ks ++ [_]).length ≤ t'.at_ + 1; simp; omega, hr10, hff8.trans hf10, Own.fq ho8' hf10 (by decide) (by decide), hfresh', hfw8.trans hf10, fun r hr => hcont r (.ar_go hp' h44 hr)⟩ (Sub.cons rfl (Sub.cons rfl (Sub.cons rfl (Sub.nil)))) (by show c.T.length - (t'.at_ + 1) < c.T.length - t.at_; omega)
  have h44 : isS c.T t' [44] = false := by simpa using h44
  refine Sa ?_
  refine LW.call0 rfl rfl (rwant_ok hc hr8 [41]) ?_
  rintro v w10 ⟨rfl, hf10, ⟨h5, hr10⟩ | ⟨h5, hr10⟩⟩
  rotate_left
  · have hpe : PE c.T .prim s (.err 5) := hcont _ (.ar_open hp' h44 h5)
    have hl8 := hr8.len
    obtain ⟨h0, he, i, outv, m, xs, hB, hoo, hle⟩ := hr10
    have hB0 := hB
    refine Sa ?_
    (apply LW.store; exact rfl; exact rfl; exact rfl; assumption; exact rfl; exact rfl; exact rfl; intro w11 hc11 hB)
    replace hB : Blk w11 c.rb [c.tokv, .int .i64 i, .int .i64 ((t'.deep : Int) - 1), .int .i64 5, outv] 110 := hB
    obtain ⟨hr11, hf11⟩ := Re.set hc h0 hoo hB0 hc11 he hB hle
    refine Sa ?_
    refine LW.call0 (vs := [.pointer (some ⟨c.rb, 0, none⟩), .agg ⟨nvL ⟨{ kind := 7, text := (tokAt c.T s).text, kids := ks }, .slice kp (ks ++ [((a' : Nat) : Int)]).length kq⟩⟩]) rfl rfl (rput_bad hc hr11 (by omega) ⟨{ kind := 7, text := (tokAt c.T s).text, kids := ks }, .slice kp (ks ++ [((a' : Nat) : Int)]).length kq⟩ hone) ?_
    rintro v w12 ⟨⟨y, rfl⟩, hr12, hf12⟩
    refine Sa ?_
    exact QW.body1 Tryz.results190 rfl ⟨y, rfl, ((hff8.trans hf10).trans hf11).trans hf12, .inr ⟨5, _, hpe, by omega, hr12.mono (by omega)⟩⟩
  have ho10 := Own.fq ho8' hf10 (by decide) (by decide)
  obtain ⟨b0, b1, b2, b3, outv, nvs, hB, hoo, hm, hk⟩ := hr10
  have hB0 := hB
  refine Sa ?_
  (apply LW.store; exact rfl; exact rfl; exact rfl; assumption; exact rfl; exact rfl; exact rfl; intro w11 hc11 hB)
  have hud : (upper (adv t')).deep = s.deep := by show t'.deep - 1 = s.deep; omega
  have e9 : (t'.deep : Int) - 1 = (((upper (adv t')).deep : Nat) : Int) := by rw [hud]; omega
  replace hB : Blk w11 c.rb [c.tokv, .int .i64 (adv t').at_, .int .i64 ((t'.deep : Int) - 1), .int .i64 0, outv] 110 := hB
  rw [e9] at hB
  obtain ⟨hr11, hf11⟩ := Rq.set hc (s := adv t') (s' := upper (adv t')) b0 hoo hm hk hB0 hc11 hB rfl b1 (by rw [hud]; omega) b3
  have ho11 := Own.fq ho10 hf11 (by decide) (by decide)
  have hr11' : Rq c X w11 (upper (adv t')) := hr11.grow (fun b hb => .inl (List.mem_append_right _ hb))
  refine Sa ?_
  refine LW.call0 (vs := [.pointer (some ⟨c.rb, 0, none⟩), .agg ⟨nvL ⟨{ kind := 7, text := (tokAt c.T s).text, kids := ks ++ [((a' : Nat) : Int)] }, .slice kp (ks ++ [((a' : Nat) : Int)]).length kq⟩⟩]) rfl rfl (rput_ok hc hr11' ⟨{ kind := 7, text := (tokAt c.T s).text, kids := ks ++ [((a' : Nat) : Int)] }, .slice kp (ks ++ [((a' : Nat) : Int)]).length kq⟩ (own_kids ho11) (fun b hb hbX => by
    have := hfresh' b hb
    have := hX b hbX
    omega) (by show t'.out.length + 1 ≤ t'.at_ + 1; omega)) ?_
  rintro v w12 ⟨rfl, hr12, hf12⟩
  refine Sa ?_
  exact QW.body1 Tryz.results190 rfl ⟨_, rfl, ((hff8.trans hf10).trans hf11).trans hf12, .inl ⟨putS (upper (adv t')) { kind := 7, text := (tokAt c.T s).text, kids := ks ++ [((a' : Nat) : Int)] }, t'.out.length, rfl, hcont _ (.ar_end hp' h44 h5), hr12, by show s.at_ < t'.at_ + 1; omega, hud, by show s.at_ + (t'.out ++ [_]).length ≤ t'.at_ + 1 + s.out.length; simp; omega⟩⟩
end Go.Proofs.YtiloogjageledaaGreatDoor
