/-
  The laws of layer 4: what they call; the tokens of any text.
-/
import Derived.Test.YtfpklhgkndnjjaaDoorLexJ
import Derived.Test.YtfpklhgkndnjjaaDoorAddrQ
namespace Go.Proofs.YtfpklhgkndnjjaaDoor
open Go Go.E

theorem tok_len (x : TokD) : (tokL x).length = 9 := rfl
theorem eqg_ref4 : Tryd.prog.eqGuardType Tryd.prog.depth 23 = false := by kernel_rfl
theorem eqg_tok : Tryd.prog.eqGuardType Tryd.prog.depth 47 = false := by kernel_rfl
theorem eqr_ref (x y : RefD) (d : Nat) (w : World) : (Op.equalIn (d + 2) 23 (.agg ⟨refL x⟩) (.agg ⟨refL y⟩)).run Tryd.prog w = .ok (decide (x = y)) w := by
  obtain ⟨s1, c1, r1, a1, b1⟩ := x
  obtain ⟨s2, c2, r2, a2, b2⟩ := y
  have ht : Tryd.prog.underlying 23 = some (.struct (Tryd.prog.fieldsOf 23)) := by simp [Program.fieldsOf, Tryd.underlying23]
  have hp : Tryd.prog.stoodInHeld 23 = false := by kernel_rfl
  simp only [refL]
  rw [run_equalIn_agg w (d + 1) _ _ _ ht hp]
  simp only [Program.fieldsOf, Tryd.underlying23]
  refine (eqf_step (by decide) (run_part_one (v := str s1) rfl rfl rfl w) (run_part_one (v := str s2) rfl rfl rfl w) (eq_str rfl rfl _ _ w)
    (eqf_step (by decide) (run_part_one (v := .int .i64 c1) rfl rfl rfl w) (run_part_one (v := .int .i64 c2) rfl rfl rfl w) (eq_int rfl rfl _ _ w)
    (eqf_step (by decide) (run_part_one (v := .int .i64 r1) rfl rfl rfl w) (run_part_one (v := .int .i64 r2) rfl rfl rfl w) (eq_int rfl rfl _ _ w)
    (eqf_step (by decide) (run_part_one (v := .bool a1) rfl rfl rfl w) (run_part_one (v := .bool a2) rfl rfl rfl w) (eq_bool rfl rfl _ _ w)
    (eqf_step (by decide) (run_part_one (v := .bool b1) rfl rfl rfl w) (run_part_one (v := .bool b2) rfl rfl rfl w) (eq_bool rfl rfl _ _ w)
    (eqf_nil _ _ _ w)))))).trans ?_
  refine congrArg (fun b => Result.ok b w) ?_
  rw [Bool.eq_iff_iff]
  simp only [Bool.and_eq_true, decide_eq_true_eq, RefD.mk.injEq, and_true]
set_option maxRecDepth 100000 in
theorem eq_tok (x y : TokD) (d : Nat) (w : World) : (Op.equalIn (d + 3) 47 (.agg ⟨tokL x⟩) (.agg ⟨tokL y⟩)).run Tryd.prog w = .ok (decide (x = y)) w := by
  obtain ⟨k1, s1, n1, r1, a1⟩ := x
  obtain ⟨k2, s2, n2, r2, a2⟩ := y
  have ht : Tryd.prog.underlying 47 = some (.struct (Tryd.prog.fieldsOf 47)) := by simp [Program.fieldsOf, Tryd.underlying47]
  have hp : Tryd.prog.stoodInHeld 47 = false := by kernel_rfl
  simp only [tokL]
  rw [run_equalIn_agg w (d + 2) _ _ _ ht hp]
  simp only [Program.fieldsOf, Tryd.underlying47]
  refine (eqf_step (by decide) (run_part_one (v := .int .i64 k1) rfl rfl rfl w) (run_part_one (v := .int .i64 k2) rfl rfl rfl w) (eq_int rfl rfl _ _ w)
    (eqf_step (by decide) (run_part_one (v := str s1) rfl rfl rfl w) (run_part_one (v := str s2) rfl rfl rfl w) (eq_str rfl rfl _ _ w)
    (eqf_step (by decide) (run_part_one (v := .int .i64 n1) rfl rfl rfl w) (run_part_one (v := .int .i64 n2) rfl rfl rfl w) (eq_int rfl rfl _ _ w)
    (eqf_step (by decide) (run_part_agg (cs := refL r1) rfl rfl rfl w) (run_part_agg (cs := refL r2) rfl rfl rfl w) (eqr_ref r1 r2 d w)
    (eqf_step (by decide) (run_part_one (v := .int .i64 a1) rfl rfl rfl w) (run_part_one (v := .int .i64 a2) rfl rfl rfl w) (eq_int rfl rfl _ _ w)
    (eqf_nil _ _ _ w)))))).trans ?_
  refine congrArg (fun b => Result.ok b w) ?_
  rw [Bool.eq_iff_iff]
  simp only [Bool.and_eq_true, decide_eq_true_eq, TokD.mk.injEq, and_true]

theorem Num_ret (k : Int) (w : World) : Ret Tryd.prog 29 [.int .i64 k] w (fun v w' => v = .int .i64 k ∧ Ext w w') := by
  refine Ret.enter Tryd.func29 rfl Tryd.ntmps29 (by kernel_rfl) rfl ?_
  (repeat (first | refine La ?_ | refine Lb ?_ | refine Lc ?_ | refine Ld ?_ | refine Le ?_ | refine Lf ?_ | refine Lg ?_ | apply LW.nil | apply QW.then_n | apply QW.round | apply RW.succ | apply CW.seq | apply CW.region | apply CW.skip | apply CW.block | apply CW.ret | apply CW.exit | apply QW.then_ret | apply QW.then_exit | apply QW.blk_n | apply QW.blk_ret | apply QW.blk_exit | refine Ca ?_ | refine Cb ?_ | refine Cc ?_ | refine Lh ?_ | refine Li ?_ | refine Lj ?_ | refine Lk ?_ | refine Ll ?_))
  exact QW.body1 Tryd.results29 rfl ⟨rfl, Chg.refl _ _⟩

def exA : RefD := ⟨[], 0, 0, false, false⟩
theorem exA_text : textB exA = [65, 49] := by
  rw [textB, itoa_d3 (by decide) (by decide)]
  decide +kernel
theorem exA_read : okRead [65, 49] = true ∧ candV [65, 49] = exA := by
  have := read_text (r := exA) (by decide +kernel)
  rwa [exA_text] at this
theorem ex_lex : lexT [65, 49, 43, 49] = some [⟨4, [], 0, exA, 0⟩, ⟨5, [43], 0, refN, 2⟩, ⟨1, [], 1, refN, 3⟩, ⟨0, [], 0, refN, 4⟩] := by
  have h0 := LexAt.start [65, 49, 43, 49]
  have h1 := h0.go (c := 0) (k := 2) (t := ⟨4, [], 0, exA, 0⟩) (by decide) (by decide) (by
    show wordO [65, 49, 43, 49] = _
    have e : spanL wiB [65, 49, 43, 49] = [65, 49] := by decide +kernel
    rw [wordO, e]
    simp only [exA_read.1, exA_read.2, if_true]
    rfl)
  have h2 := h1.go (c := 2) (k := 1) (t := ⟨5, [43], 0, refN, 0⟩) (by decide) (by decide) (by decide +kernel)
  have h3 := h2.go (c := 3) (k := 1) (t := ⟨1, [], 1, refN, 0⟩) (by decide) (by decide) (by decide +kernel)
  exact h3.end (by decide)

theorem awake4_ret (w : World) (g : Glob w) : Ret Tryd.prog 26 [] w (fun v w' => v = .bool true ∧ Ext w w') := by
  refine Ret.enter Tryd.func26 rfl Tryd.ntmps26 (by kernel_rfl) rfl ?_
  (repeat (first | refine La ?_ | refine Lb ?_ | refine Lc ?_ | refine Ld ?_ | refine Le ?_ | refine Lf ?_ | refine Lg ?_ | apply LW.nil | apply QW.then_n | apply QW.round | apply RW.succ | apply CW.seq | apply CW.region | apply CW.skip | apply CW.block | apply CW.ret | apply CW.exit | apply QW.then_ret | apply QW.then_exit | apply QW.blk_n | apply QW.blk_ret | apply QW.blk_exit | refine Ca ?_ | refine Cb ?_ | refine Cc ?_ | refine Lh ?_ | refine Li ?_ | refine Lj ?_ | refine Lk ?_ | refine Ll ?_))
  refine LW.call0 rfl rfl (Lex_ret [65, 49, 43, 49] (by simp) w g) ?_
  rintro v w1 ⟨hv, hx⟩
  rw [LexV, if_neg (by simp), ex_lex] at hv
  obtain ⟨sv, rfl, hown⟩ := hv
  obtain ⟨b, cap, sp, rfl, hB, hlo⟩ := hown.get (by simp)
  (repeat (first | refine La ?_ | refine Lb ?_ | refine Lc ?_ | refine Ld ?_ | refine Le ?_ | refine Lf ?_ | refine Lg ?_ | apply LW.nil | apply QW.then_n | apply QW.round | apply RW.succ | apply CW.seq | apply CW.region | apply CW.skip | apply CW.block | apply CW.ret | apply CW.exit | apply QW.then_ret | apply QW.then_exit | apply QW.blk_n | apply QW.blk_ret | apply QW.blk_exit | refine Ca ?_ | refine Cb ?_ | refine Cc ?_ | refine Lh ?_ | refine Li ?_ | refine Lj ?_ | refine Lk ?_ | refine Ll ?_))
  refine LW.call0 rfl rfl (Num_ret 0 w1) ?_
  rintro v w2 ⟨rfl, hx2⟩
  replace hB := hB.ext hx2
  replace hx := hx.trans hx2
  (repeat (first | refine La ?_ | refine Lb ?_ | refine Lc ?_ | refine Ld ?_ | refine Le ?_ | refine Lf ?_ | refine Lg ?_ | apply LW.nil | apply QW.then_n | apply QW.round | apply RW.succ | apply CW.seq | apply CW.region | apply CW.skip | apply CW.block | apply CW.ret | apply CW.exit | apply QW.then_ret | apply QW.then_exit | apply QW.blk_n | apply QW.blk_ret | apply QW.blk_exit | refine Ca ?_ | refine Cb ?_ | refine Cc ?_ | refine Lh ?_ | refine Li ?_ | refine Lj ?_ | refine Lk ?_ | refine Ll ?_ | refine Lm ?_))
  exact QW.body1 Tryd.results26 rfl ⟨rfl, hx⟩

theorem LexTexts_ret (s : List UInt8) (hs : s.length ≤ 9223372036854775807) (w : World) (g : Glob w) : Ret Tryd.prog 6 [str s] w (fun v w' => v = .bool true ∧ Ext w w') := by
  refine Ret.enter Tryd.func6 rfl Tryd.ntmps6 (by kernel_rfl) rfl ?_
  (repeat (first | refine La ?_ | refine Lb ?_ | refine Lc ?_ | refine Ld ?_ | refine Le ?_ | refine Lf ?_ | refine Lg ?_ | apply LW.nil | apply QW.then_n | apply QW.round | apply RW.succ | apply CW.seq | apply CW.region | apply CW.skip | apply CW.block | apply CW.ret | apply CW.exit | apply QW.then_ret | apply QW.then_exit | apply QW.blk_n | apply QW.blk_ret | apply QW.blk_exit | refine Ca ?_ | refine Cb ?_ | refine Cc ?_ | refine Lh ?_ | refine Li ?_ | refine Lj ?_ | refine Lk ?_ | refine Ll ?_))
  refine CW.cond rfl (fun ha => ?_) (fun ha => ?_)
  · (repeat (first | refine La ?_ | refine Lb ?_ | refine Lc ?_ | refine Ld ?_ | refine Le ?_ | refine Lf ?_ | refine Lg ?_ | apply LW.nil | apply QW.then_n | apply QW.round | apply RW.succ | apply CW.seq | apply CW.region | apply CW.skip | apply CW.block | apply CW.ret | apply CW.exit | apply QW.then_ret | apply QW.then_exit | apply QW.blk_n | apply QW.blk_ret | apply QW.blk_exit | refine Ca ?_ | refine Cb ?_ | refine Cc ?_ | refine Lh ?_ | refine Li ?_ | refine Lj ?_ | refine Lk ?_ | refine Ll ?_))
    refine LW.call0 rfl rfl (awake4_ret w g) ?_
    rintro v w2 ⟨rfl, hx2⟩
    (repeat (first | refine La ?_ | refine Lb ?_ | refine Lc ?_ | refine Ld ?_ | refine Le ?_ | refine Lf ?_ | refine Lg ?_ | apply LW.nil | apply QW.then_n | apply QW.round | apply RW.succ | apply CW.seq | apply CW.region | apply CW.skip | apply CW.block | apply CW.ret | apply CW.exit | apply QW.then_ret | apply QW.then_exit | apply QW.blk_n | apply QW.blk_ret | apply QW.blk_exit | refine Ca ?_ | refine Cb ?_ | refine Cc ?_ | refine Lh ?_ | refine Li ?_ | refine Lj ?_ | refine Lk ?_ | refine Ll ?_))
    exact QW.body1 Tryd.results6 rfl ⟨rfl, hx2⟩
  (repeat (first | refine La ?_ | refine Lb ?_ | refine Lc ?_ | refine Ld ?_ | refine Le ?_ | refine Lf ?_ | refine Lg ?_ | apply LW.nil | apply QW.then_n | apply QW.round | apply RW.succ | apply CW.seq | apply CW.region | apply CW.skip | apply CW.block | apply CW.ret | apply CW.exit | apply QW.then_ret | apply QW.then_exit | apply QW.blk_n | apply QW.blk_ret | apply QW.blk_exit | refine Ca ?_ | refine Cb ?_ | refine Cc ?_ | refine Lh ?_ | refine Li ?_ | refine Lj ?_ | refine Lk ?_ | refine Ll ?_))
  refine LW.call0 rfl rfl (Lex_ret s hs w g) ?_
  rintro v w1 ⟨hv, hx⟩
  obtain ⟨sv, e, l, rfl, hown, he, hcase⟩ : ∃ (sv : Value) (e : Int) (l : List TokD), v = .tuple #[sv, .int .i64 e] ∧ Own w1 w.heap.size 47 9 sv l.length (l.flatMap tokL) ∧ l.length ≤ 301 ∧ (∀ v w' lo, RLexV s v w' lo → ∃ rv, v = .agg ⟨[rv, .int .i64 e]⟩ ∧ Own w' lo 47 9 rv l.length (l.flatMap tokL)) := by
    unfold LexV at hv
    unfold RLexV
    split at hv
    · subst hv
      refine ⟨_, _, [], rfl, Own.nil _ _ _ _, by simp, fun v w' lo hr => ⟨.slice none 0 0, ?_, Own.nil _ _ _ _⟩⟩
      rename_i h
      rwa [if_pos h] at hr
    · rename_i h
      simp only [if_neg h]
      cases hl : lexT s with
      | none =>
        rw [hl] at hv
        subst hv
        exact ⟨_, _, [], rfl, Own.nil _ _ _ _, by simp, fun v w' lo hr => ⟨.slice none 0 0, hr, Own.nil _ _ _ _⟩⟩
      | some l =>
        rw [hl] at hv
        obtain ⟨sv, rfl, ho⟩ := hv
        exact ⟨_, _, _, rfl, ho, by have := lexT_len hl; omega, fun v w' lo hr => hr⟩
  obtain ⟨p1, c1, rfl⟩ := hown.slice
  (repeat (first | refine La ?_ | refine Lb ?_ | refine Lc ?_ | refine Ld ?_ | refine Le ?_ | refine Lf ?_ | refine Lg ?_ | apply LW.nil | apply QW.then_n | apply QW.round | apply RW.succ | apply CW.seq | apply CW.region | apply CW.skip | apply CW.block | apply CW.ret | apply CW.exit | apply QW.then_ret | apply QW.then_exit | apply QW.blk_n | apply QW.blk_ret | apply QW.blk_exit | refine Ca ?_ | refine Cb ?_ | refine Cc ?_ | refine Lh ?_ | refine Li ?_ | refine Lj ?_ | refine Lk ?_ | refine Ll ?_))
  refine LW.call0 rfl rfl (rLex_ret s hs w1) ?_
  rintro v w2 ⟨hv, hx2⟩
  obtain ⟨rv, rfl, hown2⟩ := hcase _ _ _ hv
  obtain ⟨p2, c2, rfl⟩ := hown2.slice
  replace hown := hown.ext hx2
  replace hx := hx.trans hx2
  have hz2 := hx.size
  (repeat (first | refine La ?_ | refine Lb ?_ | refine Lc ?_ | refine Ld ?_ | refine Le ?_ | refine Lf ?_ | refine Lg ?_ | apply LW.nil | apply QW.then_n | apply QW.round | apply RW.succ | apply CW.seq | apply CW.region | apply CW.skip | apply CW.block | apply CW.ret | apply CW.exit | apply QW.then_ret | apply QW.then_exit | apply QW.blk_n | apply QW.blk_ret | apply QW.blk_exit | refine Ca ?_ | refine Cb ?_ | refine Cc ?_ | refine Lh ?_ | refine Li ?_ | refine Lj ?_ | refine Lk ?_ | refine Ll ?_))
  (apply LW.alloc; exact rfl; exact rfl; exact rfl; intro R w3 hbR hx3 hR)
  (repeat (first | refine La ?_ | refine Lb ?_ | refine Lc ?_ | refine Ld ?_ | refine Le ?_ | refine Lf ?_ | refine Lg ?_ | apply LW.nil | apply QW.then_n | apply QW.round | apply RW.succ | apply CW.seq | apply CW.region | apply CW.skip | apply CW.block | apply CW.ret | apply CW.exit | apply QW.then_ret | apply QW.then_exit | apply QW.blk_n | apply QW.blk_ret | apply QW.blk_exit | refine Ca ?_ | refine Cb ?_ | refine Cc ?_ | refine Lh ?_ | refine Li ?_ | refine Lj ?_ | refine Lk ?_ | refine Ll ?_))
  (apply LW.store_all; exact rfl; exact rfl; exact rfl; assumption; exact rfl; exact rfl; exact rfl; intro w4 hc4 hR)
  have hn1 : R ∉ vblk (.slice p1 l.length c1) := fun hm => by have := (hown.lt hm).2; omega
  have hn2 : R ∉ vblk (.slice p2 l.length c2) := fun hm => by have := (hown2.lt hm).2; omega
  replace hown := (hown.ext hx3).chg hc4 (fun j hj hb => hn1 (by simp at hb; subst hb; exact hj))
  replace hown2 := (hown2.ext hx3).chg hc4 (fun j hj hb => hn2 (by simp at hb; subst hb; exact hj))
  replace hx := (hx.trans hx3).step hc4 (by simp; omega)
  (repeat (first | refine La ?_ | refine Lb ?_ | refine Lc ?_ | refine Ld ?_ | refine Le ?_ | refine Lf ?_ | refine Lg ?_ | apply LW.nil | apply QW.then_n | apply QW.round | apply RW.succ | apply CW.seq | apply CW.region | apply CW.skip | apply CW.block | apply CW.ret | apply CW.exit | apply QW.then_ret | apply QW.then_exit | apply QW.blk_n | apply QW.blk_ret | apply QW.blk_exit | refine Ca ?_ | refine Cb ?_ | refine Cc ?_ | refine Lh ?_ | refine Li ?_ | refine Lj ?_ | refine Lk ?_ | refine Ll ?_))
  refine CW.draw (by kernel_rfl) (by kernel_rfl) ?_
  (repeat (first | refine Qa ?_ | refine Qb ?_ | refine Qc ?_ | refine Qd ?_ | refine Qe ?_ | refine Qf ?_ | refine Qg ?_))
  refine QL.know (t := 24) (c := false) rfl (by simp) ?_
  (repeat (first | refine Qa ?_ | refine Qb ?_ | refine Qc ?_ | refine Qd ?_ | refine Qe ?_ | refine Qf ?_ | refine Qg ?_))
  refine QL.call0 rfl rfl (fun w' _ => Num_ret e w') ?_
  (repeat (first | refine Qa ?_ | refine Qb ?_ | refine Qc ?_ | refine Qd ?_ | refine Qe ?_ | refine Qf ?_ | refine Qg ?_))
  refine QL.nil fun w5 hx5 => ?_
  replace hown := hown.ext hx5
  replace hown2 := hown2.ext hx5
  replace hR := hR.ext hx5
  replace hx := hx.trans hx5
  (repeat (first | refine La ?_ | refine Lb ?_ | refine Lc ?_ | refine Ld ?_ | refine Le ?_ | refine Lf ?_ | refine Lg ?_ | apply LW.nil | apply QW.then_n | apply QW.round | apply RW.succ | apply CW.seq | apply CW.region | apply CW.skip | apply CW.block | apply CW.ret | apply CW.exit | apply QW.then_ret | apply QW.then_exit | apply QW.blk_n | apply QW.blk_ret | apply QW.blk_exit | refine Ca ?_ | refine Cb ?_ | refine Cc ?_ | refine Lh ?_ | refine Li ?_ | refine Lj ?_ | refine Lk ?_ | refine Ll ?_))
  refine CW.no rfl (by simp) ?_
  (repeat (first | refine La ?_ | refine Lb ?_ | refine Lc ?_ | refine Ld ?_ | refine Le ?_ | refine Lf ?_ | refine Lg ?_ | apply LW.nil | apply QW.then_n | apply QW.round | apply RW.succ | apply CW.seq | apply CW.region | apply CW.skip | apply CW.block | apply CW.ret | apply CW.exit | apply QW.then_ret | apply QW.then_exit | apply QW.blk_n | apply QW.blk_ret | apply QW.blk_exit | refine Ca ?_ | refine Cb ?_ | refine Cc ?_ | refine Lh ?_ | refine Li ?_ | refine Lj ?_ | refine Lk ?_ | refine Ll ?_))
  refine CW.loop (ι := Nat) (fun k w' => k ≤ l.length ∧ Ext w5 w') (fun k => [(3, .slice p1 l.length c1), (5, .pointer (some ⟨R, 0, none⟩)), (6, .int .i64 k)]) (fun k => l.length - k) 0 ⟨by omega, Chg.refl _ _⟩ (Sub.cons rfl (Sub.cons rfl (Sub.cons rfl (Sub.nil)))) ?_
  rintro k w6 ⟨hk, hx6⟩
  replace hown := hown.ext hx6
  replace hown2 := hown2.ext hx6
  replace hR := hR.ext hx6
  replace hx := hx.trans hx6
  (repeat (first | refine La ?_ | refine Lb ?_ | refine Lc ?_ | refine Ld ?_ | refine Le ?_ | refine Lf ?_ | refine Lg ?_ | apply LW.nil | apply QW.then_n | apply QW.round | apply RW.succ | apply CW.seq | apply CW.region | apply CW.skip | apply CW.block | apply CW.ret | apply CW.exit | apply QW.then_ret | apply QW.then_exit | apply QW.blk_n | apply QW.blk_ret | apply QW.blk_exit | refine Ca ?_ | refine Cb ?_ | refine Cc ?_ | refine Lh ?_ | refine Li ?_ | refine Lj ?_ | refine Lk ?_ | refine Ll ?_))
  refine CW.cond rfl (fun h1 => ?_) (fun h1 => ?_)
  · have h1 : k < l.length := by simp at h1; omega
    obtain ⟨b1, cap1, sp1, e1, hB1, _⟩ := hown.get (by omega)
    obtain ⟨b2, cap2, sp2, e2, hB2, _⟩ := hown2.get (by omega)
    simp only [Value.slice.injEq] at e1 e2
    obtain ⟨rfl, _, rfl⟩ := e1
    obtain ⟨rfl, _, rfl⟩ := e2
    have hg : l[k]? = some l[k] := List.getElem?_eq_getElem h1
    (repeat (first | refine La ?_ | refine Lb ?_ | refine Lc ?_ | refine Ld ?_ | refine Le ?_ | refine Lf ?_ | refine Lg ?_ | apply LW.nil | apply QW.then_n | apply QW.round | apply RW.succ | apply CW.seq | apply CW.region | apply CW.skip | apply CW.block | apply CW.ret | apply CW.exit | apply QW.then_ret | apply QW.then_exit | apply QW.blk_n | apply QW.blk_ret | apply QW.blk_exit | refine Ca ?_ | refine Cb ?_ | refine Cc ?_ | refine Lh ?_ | refine Li ?_ | refine Lj ?_ | refine Lk ?_ | refine Ll ?_))
    refine CW.draw (by kernel_rfl) (by kernel_rfl) ?_
    (repeat (first | refine Qa ?_ | refine Qb ?_ | refine Qc ?_ | refine Qd ?_ | refine Qe ?_ | refine Qf ?_ | refine Qg ?_))
    refine QL.idx_slice (j := k * 9) rfl rfl rfl rfl rfl (by omega) (by omega) (by show 0 + _ * 9 = _; omega) rfl ?_
    refine QL.load_agg (cs := tokL l[k]) rfl hB1 rfl rfl rfl (flat_agg tok_len hg) rfl ?_
    (repeat (first | refine Qa ?_ | refine Qb ?_ | refine Qc ?_ | refine Qd ?_ | refine Qe ?_ | refine Qf ?_ | refine Qg ?_))
    refine QL.idx_slice (j := k * 9) rfl rfl rfl rfl rfl (by omega) (by omega) (by show 0 + _ * 9 = _; omega) rfl ?_
    refine QL.load_agg (cs := tokL l[k]) rfl hB2 rfl rfl rfl (flat_agg tok_len hg) rfl ?_
    refine QL.neq_agg rfl rfl eqg_tok (fun w' => eq_tok l[k] l[k] 9997 w') rfl ?_
    refine QL.nil fun w7 hx7 => ?_
    (repeat (first | refine La ?_ | refine Lb ?_ | refine Lc ?_ | refine Ld ?_ | refine Le ?_ | refine Lf ?_ | refine Lg ?_ | apply LW.nil | apply QW.then_n | apply QW.round | apply RW.succ | apply CW.seq | apply CW.region | apply CW.skip | apply CW.block | apply CW.ret | apply CW.exit | apply QW.then_ret | apply QW.then_exit | apply QW.blk_n | apply QW.blk_ret | apply QW.blk_exit | refine Ca ?_ | refine Cb ?_ | refine Cc ?_ | refine Lh ?_ | refine Li ?_ | refine Lj ?_ | refine Lk ?_ | refine Ll ?_))
    refine CW.no rfl (by simp) ?_
    (repeat (first | refine La ?_ | refine Lb ?_ | refine Lc ?_ | refine Ld ?_ | refine Le ?_ | refine Lf ?_ | refine Lg ?_ | apply LW.nil | apply QW.then_n | apply QW.round | apply RW.succ | apply CW.seq | apply CW.region | apply CW.skip | apply CW.block | apply CW.ret | apply CW.exit | apply QW.then_ret | apply QW.then_exit | apply QW.blk_n | apply QW.blk_ret | apply QW.blk_exit | refine Ca ?_ | refine Cb ?_ | refine Cc ?_ | refine Lh ?_ | refine Li ?_ | refine Lj ?_ | refine Lk ?_ | refine Ll ?_))
    exact QW.again (k + 1) ⟨by omega, hx6.trans hx7⟩ (Sub.cons rfl (Sub.cons rfl (Sub.cons rfl (Sub.nil)))) (by omega)
  · (repeat (first | refine La ?_ | refine Lb ?_ | refine Lc ?_ | refine Ld ?_ | refine Le ?_ | refine Lf ?_ | refine Lg ?_ | apply LW.nil | apply QW.then_n | apply QW.round | apply RW.succ | apply CW.seq | apply CW.region | apply CW.skip | apply CW.block | apply CW.ret | apply CW.exit | apply QW.then_ret | apply QW.then_exit | apply QW.blk_n | apply QW.blk_ret | apply QW.blk_exit | refine Ca ?_ | refine Cb ?_ | refine Cc ?_ | refine Lh ?_ | refine Li ?_ | refine Lj ?_ | refine Lk ?_ | refine Ll ?_))
    refine LW.call0 rfl rfl (awake4_ret w6 (g.ext hx)) ?_
    rintro v w7 ⟨rfl, hx7⟩
    (repeat (first | refine La ?_ | refine Lb ?_ | refine Lc ?_ | refine Ld ?_ | refine Le ?_ | refine Lf ?_ | refine Lg ?_ | apply LW.nil | apply QW.then_n | apply QW.round | apply RW.succ | apply CW.seq | apply CW.region | apply CW.skip | apply CW.block | apply CW.ret | apply CW.exit | apply QW.then_ret | apply QW.then_exit | apply QW.blk_n | apply QW.blk_ret | apply QW.blk_exit | refine Ca ?_ | refine Cb ?_ | refine Cc ?_ | refine Lh ?_ | refine Li ?_ | refine Lj ?_ | refine Lk ?_ | refine Ll ?_))
    exact QW.body1 Tryd.results6 rfl ⟨rfl, hx.trans hx7⟩
end Go.Proofs.YtfpklhgkndnjjaaDoor
