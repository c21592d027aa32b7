/-
  Walks: what a text is as a formula.
-/
import Derived.Test.YtfpklhgkndnjjaaDoorParE
import Derived.Test.YtfpklhgkndnjjaaDoorEngD
namespace Go.Proofs.YtfpklhgkndnjjaaDoor
open Go Go.E

theorem oneO_kind {l : List UInt8} {t : TokD} {k : Nat} (h : oneO l = some (t, k)) : 1 ≤ t.kind ∧ t.kind ≤ 6 := by
  unfold oneO at h
  split at h
  · rw [(numO_len h).2]; decide
  · split at h
    · unfold textO at h
      cases e : scanT (l.drop 1) with
      | none => rw [e] at h; cases h
      | some x =>
        rw [e] at h
        simp only [Option.map_some, Option.some.injEq, Prod.mk.injEq] at h
        rw [← h.1]; simp
    · split at h
      · unfold wordO at h
        simp only at h
        split at h
        · simp only [Option.some.injEq, Prod.mk.injEq] at h
          rw [← h.1]; simp
        · split at h
          · simp only [Option.some.injEq, Prod.mk.injEq] at h
            rw [← h.1]; simp
          · cases h
      · unfold signO at h
        split at h
        · simp only [Option.some.injEq, Prod.mk.injEq] at h
          rw [← h.1]; simp
        · cases e : signsT.find? fun s => Lib.hasPrefix l s with
          | none => rw [e] at h; cases h
          | some x =>
            rw [e] at h
            simp only [Option.map_some, Option.some.injEq, Prod.mk.injEq] at h
            rw [← h.1]; simp
theorem lexF_kinds : ∀ (n : Nat) (l : List UInt8) (a : Nat) {out : List TokD}, l.length ≤ n → lexF l a = some out →
    out ≠ [] ∧ (∀ t ∈ out, 0 ≤ t.kind ∧ t.kind ≤ 6) ∧ ∀ i, i < out.length → (out.getD i tokZ).kind ≠ 0 → i + 1 < out.length
  | n, l, a, out, hn, h => by
    cases e : l.drop (spanL spB l).length with
    | nil =>
      rw [lexF_end e] at h
      simp only [Option.some.injEq] at h
      subst h
      refine ⟨by simp, by simp, fun i hi hk => ?_⟩
      simp at hi
      subst hi
      simp at hk
    | cons c r =>
      have hl := congrArg List.length e
      simp at hl
      cases ho : oneO (c :: r) with
      | none => rw [lexF_bad e (by simp) ho] at h; cases h
      | some x =>
        obtain ⟨t, k⟩ := x
        have hk := oneO_pos (by simp) ho
        have hkind := oneO_kind ho
        rw [lexF_go e (by simp) ho hk] at h
        cases hr : lexF ((c :: r).drop k) (a + (spanL spB l).length + k) with
        | none => rw [hr] at h; cases h
        | some y =>
          rw [hr] at h
          simp only [Option.map_some, Option.some.injEq] at h
          subst h
          match n with
          | 0 => omega
          | n + 1 =>
            have hd : ((c :: r).drop k).length = r.length + 1 - k := by simp
            obtain ⟨y0, y1, y2⟩ := lexF_kinds n ((c :: r).drop k) _ (by rw [hd]; omega) hr
            refine ⟨by simp, fun t' ht' => ?_, fun i hi hki => ?_⟩
            · simp only [List.mem_cons] at ht'
              rcases ht' with rfl | ht'
              · exact ⟨by show 0 ≤ t.kind; omega, hkind.2⟩
              · exact y1 t' ht'
            · have hyl := List.length_pos_iff.2 y0
              cases i with
              | zero => simp; omega
              | succ i =>
                have := y2 i (by simpa using hi) (by simpa using hki)
                simpa using this

theorem catch_panic (L E : Nat) (e : Int) (x y : Value) (w : World) (hL : Blk w L [x] 53) (hE : Blk w E [y] 39) :
    CallsD Tryd.prog 50 ⟨[.pointer (some ⟨L, 0, none⟩), .pointer (some ⟨E, 0, none⟩)]⟩ (.panicking [{ v := pv e, recovered := false }]) w
      (fun r u w' => r = .returned (.tuple #[]) ∧ u = .panicking [{ v := pv e, recovered := true }] ∧ Blk w' L [.slice none 0 0] 53 ∧ Blk w' E [.int .i64 e] 39 ∧ Chg [L, E] w w') := by
  have hne : L ≠ E := fun h => by subst h; exact absurd (hL.inj hE) (by decide)
  refine recover_calls (u' := .panicking [{ v := pv e, recovered := true }]) (v := pv e) Tryd.func50 rfl Tryd.ntmps50 rfl rfl rfl (fun c₀ cs hu => by simp [recoverD, hu]) (fun c₀ cs => ?_)
  (repeat (first | refine La ?_ | refine Lb ?_ | refine Lc ?_ | refine Ld ?_ | refine Le ?_ | refine Lf ?_ | refine Lg ?_ | apply LW.nil | apply QW.then_n | apply QW.round | apply RW.succ | apply CW.seq | apply CW.region | apply CW.skip | apply CW.block | apply CW.ret | apply CW.exit | apply QW.then_ret | apply QW.then_exit | apply QW.blk_n | apply QW.blk_ret | apply QW.blk_exit | refine Ca ?_ | refine Cb ?_ | refine Cc ?_ | refine Lh ?_ | refine Li ?_ | refine Lj ?_ | refine Lk ?_ | refine Ll ?_))
  refine LW.typeAssert rfl rfl rfl rfl ?_
  (repeat (first | refine La ?_ | refine Lb ?_ | refine Lc ?_ | refine Ld ?_ | refine Le ?_ | refine Lf ?_ | refine Lg ?_ | apply LW.nil | apply QW.then_n | apply QW.round | apply RW.succ | apply CW.seq | apply CW.region | apply CW.skip | apply CW.block | apply CW.ret | apply CW.exit | apply QW.then_ret | apply QW.then_exit | apply QW.blk_n | apply QW.blk_ret | apply QW.blk_exit | refine Ca ?_ | refine Cb ?_ | refine Cc ?_ | refine Lh ?_ | refine Li ?_ | refine Lj ?_ | refine Lk ?_ | refine Ll ?_))
  (apply LW.store; exact rfl; exact rfl; exact rfl; assumption; exact rfl; exact rfl; exact rfl; intro w1 hc1 hL)
  replace hE := hE.chg hc1 (by simpa using hne.symm)
  (repeat (first | refine La ?_ | refine Lb ?_ | refine Lc ?_ | refine Ld ?_ | refine Le ?_ | refine Lf ?_ | refine Lg ?_ | apply LW.nil | apply QW.then_n | apply QW.round | apply RW.succ | apply CW.seq | apply CW.region | apply CW.skip | apply CW.block | apply CW.ret | apply CW.exit | apply QW.then_ret | apply QW.then_exit | apply QW.blk_n | apply QW.blk_ret | apply QW.blk_exit | refine Ca ?_ | refine Cb ?_ | refine Cc ?_ | refine Lh ?_ | refine Li ?_ | refine Lj ?_ | refine Lk ?_ | refine Ll ?_))
  (apply LW.store; exact rfl; exact rfl; exact rfl; assumption; exact rfl; exact rfl; exact rfl; intro w2 hc2 hE)
  replace hL := hL.chg hc2 (by simpa using hne)
  (repeat (first | refine La ?_ | refine Lb ?_ | refine Lc ?_ | refine Ld ?_ | refine Le ?_ | refine Lf ?_ | refine Lg ?_ | apply LW.nil | apply QW.then_n | apply QW.round | apply RW.succ | apply CW.seq | apply CW.region | apply CW.skip | apply CW.block | apply CW.ret | apply CW.exit | apply QW.then_ret | apply QW.then_exit | apply QW.blk_n | apply QW.blk_ret | apply QW.blk_exit | refine Ca ?_ | refine Cb ?_ | refine Cc ?_ | refine Lh ?_ | refine Li ?_ | refine Lj ?_ | refine Lk ?_ | refine Ll ?_))
  exact QW.bodyS Tryd.results50 ⟨rfl, rfl, hL, hE, (Chg.trans hc1 hc2).mono (by simp)⟩
theorem catch_idle (L E : Nat) (w : World) :
    CallsD Tryd.prog 50 ⟨[.pointer (some ⟨L, 0, none⟩), .pointer (some ⟨E, 0, none⟩)]⟩ .returning w (fun r u w' => r = .returned (.tuple #[]) ∧ u = .returning ∧ w' = w) := by
  refine recover_calls (u' := .returning) (v := .nilIface) Tryd.func50 rfl Tryd.ntmps50 rfl rfl rfl (fun c₀ cs hu => by
    have : recoverD (c₀ :: cs) = none := by simp [recoverD, hu]
    rw [this]
    cases c₀
    simp_all) (fun c₀ cs => ?_)
  (repeat (first | refine La ?_ | refine Lb ?_ | refine Lc ?_ | refine Ld ?_ | refine Le ?_ | refine Lf ?_ | refine Lg ?_ | apply LW.nil | apply QW.then_n | apply QW.round | apply RW.succ | apply CW.seq | apply CW.region | apply CW.skip | apply CW.block | apply CW.ret | apply CW.exit | apply QW.then_ret | apply QW.then_exit | apply QW.blk_n | apply QW.blk_ret | apply QW.blk_exit | refine Ca ?_ | refine Cb ?_ | refine Cc ?_ | refine Lh ?_ | refine Li ?_ | refine Lj ?_ | refine Lk ?_ | refine Ll ?_))
  exact QW.bodyS Tryd.results50 ⟨rfl, rfl, rfl⟩

/-- Nodes in memory. -/
def Nodes (w : World) (lo : Nat) (sv : Value) (l : List NodeD) : Prop :=
  ∃ nvs : List NV, Own w lo 59 14 sv nvs.length (nvs.flatMap nvL) ∧ nvs.map NV.node = l ∧ ∀ x ∈ nvs, KidsOk w x.kv x.node.kids
abbrev ResV (w : World) (lo : Nat) (v : Value) (o : Except Int (List NodeD)) : Prop := match o with
  | .error e => v = .tuple #[.slice none 0 0, .int .i64 e]
  | .ok l => ∃ sv, v = .tuple #[sv, .int .i64 0] ∧ Nodes w lo sv l
/-- What a text is told as. -/
def ParseV (s : List UInt8) (v : Value) (w : World) (lo : Nat) : Prop :=
  if 300 < s.length then v = .tuple #[.slice none 0 0, .int .i64 4]
  else match lexT s with
    | none => v = .tuple #[.slice none 0 0, .int .i64 5]
    | some T => ∃ o, Parsed T o ∧ ResV w lo v o

theorem Parse_ret (s : List UInt8) (hs : s.length ≤ 9223372036854775807) (w : World) (g : Glob w) : Ret Tryd.prog 31 [str s] w (fun v w' => ParseV s v w' w.heap.size ∧ Ext w w') := by
  have hpc : callable Tryd.prog 50 = true := by kernel_rfl
  refine Ret.enterD Tryd.func31 rfl Tryd.ntmps31 (by kernel_rfl) rfl ?_
  (repeat (first | refine La ?_ | refine Lb ?_ | refine Lc ?_ | refine Ld ?_ | refine Le ?_ | refine Lf ?_ | refine Lg ?_ | apply LW.nil | apply QW.then_n | apply QW.round | apply RW.succ | apply CW.seq | apply CW.region | apply CW.skip | apply CW.block | apply CW.ret | apply CW.exit | apply QW.then_ret | apply QW.then_exit | apply QW.blk_n | apply QW.blk_ret | apply QW.blk_exit | refine Ca ?_ | refine Cb ?_ | refine Cc ?_ | refine Lh ?_ | refine Li ?_ | refine Lj ?_ | refine Lk ?_ | refine Ll ?_))
  (apply LW.alloc; exact rfl; exact rfl; exact rfl; intro L w1 hbL hx1 hL)
  have hL1 := hL.lt
  (repeat (first | refine La ?_ | refine Lb ?_ | refine Lc ?_ | refine Ld ?_ | refine Le ?_ | refine Lf ?_ | refine Lg ?_ | apply LW.nil | apply QW.then_n | apply QW.round | apply RW.succ | apply CW.seq | apply CW.region | apply CW.skip | apply CW.block | apply CW.ret | apply CW.exit | apply QW.then_ret | apply QW.then_exit | apply QW.blk_n | apply QW.blk_ret | apply QW.blk_exit | refine Ca ?_ | refine Cb ?_ | refine Cc ?_ | refine Lh ?_ | refine Li ?_ | refine Lj ?_ | refine Lk ?_ | refine Ll ?_))
  (apply LW.alloc; exact rfl; exact rfl; exact rfl; intro E w2 hbE hx2 hE)
  replace hL := hL.ext hx2
  have hLE : L ≠ E := by omega
  have hx2' := hx1.trans hx2
  (repeat (first | refine La ?_ | refine Lb ?_ | refine Lc ?_ | refine Ld ?_ | refine Le ?_ | refine Lf ?_ | refine Lg ?_ | apply LW.nil | apply QW.then_n | apply QW.round | apply RW.succ | apply CW.seq | apply CW.region | apply CW.skip | apply CW.block | apply CW.ret | apply CW.exit | apply QW.then_ret | apply QW.then_exit | apply QW.blk_n | apply QW.blk_ret | apply QW.blk_exit | refine Ca ?_ | refine Cb ?_ | refine Cc ?_ | refine Lh ?_ | refine Li ?_ | refine Lj ?_ | refine Lk ?_ | refine Ll ?_))
  refine LW.call0 rfl rfl (Lex_ret s hs w2 (g.ext hx2')) ?_
  rintro v w3 ⟨hv, hx3⟩
  replace hL := hL.ext hx3
  replace hE := hE.ext hx3
  have hx3' := hx2'.trans hx3
  by_cases hbig : 300 < s.length
  · rw [LexV, if_pos hbig] at hv
    subst hv
    have hpv : ∀ w', ParseV s (.tuple #[.slice none 0 0, .int .i64 4]) w' w.heap.size := fun w' => by rw [ParseV, if_pos hbig]
    (repeat (first | refine La ?_ | refine Lb ?_ | refine Lc ?_ | refine Ld ?_ | refine Le ?_ | refine Lf ?_ | refine Lg ?_ | apply LW.nil | apply QW.then_n | apply QW.round | apply RW.succ | apply CW.seq | apply CW.region | apply CW.skip | apply CW.block | apply CW.ret | apply CW.exit | apply QW.then_ret | apply QW.then_exit | apply QW.blk_n | apply QW.blk_ret | apply QW.blk_exit | refine Ca ?_ | refine Cb ?_ | refine Cc ?_ | refine Lh ?_ | refine Li ?_ | refine Lj ?_ | refine Lk ?_ | refine Ll ?_))
    (apply LW.store; exact rfl; exact rfl; exact rfl; assumption; exact rfl; exact rfl; exact rfl; intro w4 hc4 hE)
    replace hL := hL.chg hc4 (by simpa using hLE)
    have hx4 : Ext w w4 := hx3'.step hc4 (by simp; have := hx1.size; omega)
    (repeat (first | refine La ?_ | refine Lb ?_ | refine Lc ?_ | refine Ld ?_ | refine Le ?_ | refine Lf ?_ | refine Lg ?_ | apply LW.nil | apply QW.then_n | apply QW.round | apply RW.succ | apply CW.seq | apply CW.region | apply CW.skip | apply CW.block | apply CW.ret | apply CW.exit | apply QW.then_ret | apply QW.then_exit | apply QW.blk_n | apply QW.blk_ret | apply QW.blk_exit | refine Ca ?_ | refine Cb ?_ | refine Cc ?_ | refine Lh ?_ | refine Li ?_ | refine Lj ?_ | refine Lk ?_ | refine Ll ?_))
    refine CW.drawAny (by kernel_rfl) fun w5 hx5 => ?_
    replace hL := hL.ext hx5
    replace hE := hE.ext hx5
    refine AW.two 0 1 (by kernel_rfl) rfl rfl rfl rfl ?_ ?_
    · (repeat (first | refine La ?_ | refine Lb ?_ | refine Lc ?_ | refine Ld ?_ | refine Le ?_ | refine Lf ?_ | refine Lg ?_ | apply LW.nil | apply QW.then_n | apply QW.round | apply RW.succ | apply CW.seq | apply CW.region | apply CW.skip | apply CW.block | apply CW.ret | apply CW.exit | apply QW.then_ret | apply QW.then_exit | apply QW.blk_n | apply QW.blk_ret | apply QW.blk_exit | refine Ca ?_ | refine Cb ?_ | refine Cc ?_ | refine Lh ?_ | refine Li ?_ | refine Lj ?_ | refine Lk ?_ | refine Ll ?_))
      apply QW.any
      refine AW.one 1 (by kernel_rfl) rfl rfl ?_
      (apply LW.store; exact rfl; exact rfl; exact rfl; assumption; exact rfl; exact rfl; exact rfl; intro w6 hc6 hL)
      replace hE := hE.chg hc6 (by simpa using hLE.symm)
      apply LW.nil
      apply QW.any
      refine AW.one 2 (by kernel_rfl) rfl rfl ?_
      (apply LW.store; exact rfl; exact rfl; exact rfl; assumption; exact rfl; exact rfl; exact rfl; intro w7 hc7 hE)
      replace hL := hL.chg hc7 (by simpa using hLE)
      have hx7 : Ext w w7 := ((hx4.trans hx5).step hc6 (by simp; omega)).step hc7 (by simp; have := hx1.size; omega)
      apply LW.nil
      apply QW.any
      refine AW.done (by kernel_rfl) ?_
      (repeat (first | refine La ?_ | refine Lb ?_ | refine Lc ?_ | refine Ld ?_ | refine Le ?_ | refine Lf ?_ | refine Lg ?_ | apply LW.nil | apply QW.then_n | apply QW.round | apply RW.succ | apply CW.seq | apply CW.region | apply CW.skip | apply CW.block | apply CW.ret | apply CW.exit | apply QW.then_ret | apply QW.then_exit | apply QW.blk_n | apply QW.blk_ret | apply QW.blk_exit | refine Ca ?_ | refine Cb ?_ | refine Cc ?_ | refine Lh ?_ | refine Li ?_ | refine Lj ?_ | refine Lk ?_ | refine Ll ?_))
      refine QW.bodyD0 (rs := [.cell 2 53, .cell 3 39]) (vs := [.slice none 0 0, _]) Tryd.results31 ⟨⟨L, rfl, run_load_one rfl rfl hL rfl⟩, ⟨E, rfl, run_load_one rfl rfl hE rfl⟩, trivial⟩ rfl ⟨hpv w7, hx7⟩
    · (apply LW.store; exact rfl; exact rfl; exact rfl; assumption; exact rfl; exact rfl; exact rfl; intro w6 hc6 hL)
      replace hE := hE.chg hc6 (by simpa using hLE.symm)
      apply LW.nil
      apply QW.any
      refine AW.one 0 (by kernel_rfl) rfl rfl ?_
      (repeat (first | refine La ?_ | refine Lb ?_ | refine Lc ?_ | refine Ld ?_ | refine Le ?_ | refine Lf ?_ | refine Lg ?_ | apply LW.nil | apply QW.then_n | apply QW.round | apply RW.succ | apply CW.seq | apply CW.region | apply CW.skip | apply CW.block | apply CW.ret | apply CW.exit | apply QW.then_ret | apply QW.then_exit | apply QW.blk_n | apply QW.blk_ret | apply QW.blk_exit | refine Ca ?_ | refine Cb ?_ | refine Cc ?_ | refine Lh ?_ | refine Li ?_ | refine Lj ?_ | refine Lk ?_ | refine Ll ?_))
      apply QW.any
      refine AW.one 2 (by kernel_rfl) rfl rfl ?_
      (apply LW.store; exact rfl; exact rfl; exact rfl; assumption; exact rfl; exact rfl; exact rfl; intro w7 hc7 hE)
      replace hL := hL.chg hc7 (by simpa using hLE)
      have hx7 : Ext w w7 := ((hx4.trans hx5).step hc6 (by simp; omega)).step hc7 (by simp; have := hx1.size; omega)
      apply LW.nil
      apply QW.any
      refine AW.done (by kernel_rfl) ?_
      (repeat (first | refine La ?_ | refine Lb ?_ | refine Lc ?_ | refine Ld ?_ | refine Le ?_ | refine Lf ?_ | refine Lg ?_ | apply LW.nil | apply QW.then_n | apply QW.round | apply RW.succ | apply CW.seq | apply CW.region | apply CW.skip | apply CW.block | apply CW.ret | apply CW.exit | apply QW.then_ret | apply QW.then_exit | apply QW.blk_n | apply QW.blk_ret | apply QW.blk_exit | refine Ca ?_ | refine Cb ?_ | refine Cc ?_ | refine Lh ?_ | refine Li ?_ | refine Lj ?_ | refine Lk ?_ | refine Ll ?_))
      refine QW.bodyD0 (rs := [.cell 2 53, .cell 3 39]) (vs := [.slice none 0 0, _]) Tryd.results31 ⟨⟨L, rfl, run_load_one rfl rfl hL rfl⟩, ⟨E, rfl, run_load_one rfl rfl hE rfl⟩, trivial⟩ rfl ⟨hpv w7, hx7⟩
  cases hlex : lexT s with
  | none =>
    rw [LexV, if_neg hbig, hlex] at hv
    subst hv
    have hpv : ∀ w', ParseV s (.tuple #[.slice none 0 0, .int .i64 5]) w' w.heap.size := fun w' => by rw [ParseV, if_neg hbig, hlex]
    (repeat (first | refine La ?_ | refine Lb ?_ | refine Lc ?_ | refine Ld ?_ | refine Le ?_ | refine Lf ?_ | refine Lg ?_ | apply LW.nil | apply QW.then_n | apply QW.round | apply RW.succ | apply CW.seq | apply CW.region | apply CW.skip | apply CW.block | apply CW.ret | apply CW.exit | apply QW.then_ret | apply QW.then_exit | apply QW.blk_n | apply QW.blk_ret | apply QW.blk_exit | refine Ca ?_ | refine Cb ?_ | refine Cc ?_ | refine Lh ?_ | refine Li ?_ | refine Lj ?_ | refine Lk ?_ | refine Ll ?_))
    (apply LW.store; exact rfl; exact rfl; exact rfl; assumption; exact rfl; exact rfl; exact rfl; intro w4 hc4 hE)
    replace hL := hL.chg hc4 (by simpa using hLE)
    have hx4 : Ext w w4 := hx3'.step hc4 (by simp; have := hx1.size; omega)
    (repeat (first | refine La ?_ | refine Lb ?_ | refine Lc ?_ | refine Ld ?_ | refine Le ?_ | refine Lf ?_ | refine Lg ?_ | apply LW.nil | apply QW.then_n | apply QW.round | apply RW.succ | apply CW.seq | apply CW.region | apply CW.skip | apply CW.block | apply CW.ret | apply CW.exit | apply QW.then_ret | apply QW.then_exit | apply QW.blk_n | apply QW.blk_ret | apply QW.blk_exit | refine Ca ?_ | refine Cb ?_ | refine Cc ?_ | refine Lh ?_ | refine Li ?_ | refine Lj ?_ | refine Lk ?_ | refine Ll ?_))
    refine CW.drawAny (by kernel_rfl) fun w5 hx5 => ?_
    replace hL := hL.ext hx5
    replace hE := hE.ext hx5
    refine AW.two 0 1 (by kernel_rfl) rfl rfl rfl rfl ?_ ?_
    · (repeat (first | refine La ?_ | refine Lb ?_ | refine Lc ?_ | refine Ld ?_ | refine Le ?_ | refine Lf ?_ | refine Lg ?_ | apply LW.nil | apply QW.then_n | apply QW.round | apply RW.succ | apply CW.seq | apply CW.region | apply CW.skip | apply CW.block | apply CW.ret | apply CW.exit | apply QW.then_ret | apply QW.then_exit | apply QW.blk_n | apply QW.blk_ret | apply QW.blk_exit | refine Ca ?_ | refine Cb ?_ | refine Cc ?_ | refine Lh ?_ | refine Li ?_ | refine Lj ?_ | refine Lk ?_ | refine Ll ?_))
      apply QW.any
      refine AW.one 1 (by kernel_rfl) rfl rfl ?_
      (apply LW.store; exact rfl; exact rfl; exact rfl; assumption; exact rfl; exact rfl; exact rfl; intro w6 hc6 hL)
      replace hE := hE.chg hc6 (by simpa using hLE.symm)
      apply LW.nil
      apply QW.any
      refine AW.one 2 (by kernel_rfl) rfl rfl ?_
      (apply LW.store; exact rfl; exact rfl; exact rfl; assumption; exact rfl; exact rfl; exact rfl; intro w7 hc7 hE)
      replace hL := hL.chg hc7 (by simpa using hLE)
      have hx7 : Ext w w7 := ((hx4.trans hx5).step hc6 (by simp; omega)).step hc7 (by simp; have := hx1.size; omega)
      apply LW.nil
      apply QW.any
      refine AW.done (by kernel_rfl) ?_
      (repeat (first | refine La ?_ | refine Lb ?_ | refine Lc ?_ | refine Ld ?_ | refine Le ?_ | refine Lf ?_ | refine Lg ?_ | apply LW.nil | apply QW.then_n | apply QW.round | apply RW.succ | apply CW.seq | apply CW.region | apply CW.skip | apply CW.block | apply CW.ret | apply CW.exit | apply QW.then_ret | apply QW.then_exit | apply QW.blk_n | apply QW.blk_ret | apply QW.blk_exit | refine Ca ?_ | refine Cb ?_ | refine Cc ?_ | refine Lh ?_ | refine Li ?_ | refine Lj ?_ | refine Lk ?_ | refine Ll ?_))
      refine QW.bodyD0 (rs := [.cell 2 53, .cell 3 39]) (vs := [.slice none 0 0, _]) Tryd.results31 ⟨⟨L, rfl, run_load_one rfl rfl hL rfl⟩, ⟨E, rfl, run_load_one rfl rfl hE rfl⟩, trivial⟩ rfl ⟨hpv w7, hx7⟩
    · (apply LW.store; exact rfl; exact rfl; exact rfl; assumption; exact rfl; exact rfl; exact rfl; intro w6 hc6 hL)
      replace hE := hE.chg hc6 (by simpa using hLE.symm)
      apply LW.nil
      apply QW.any
      refine AW.one 0 (by kernel_rfl) rfl rfl ?_
      (repeat (first | refine La ?_ | refine Lb ?_ | refine Lc ?_ | refine Ld ?_ | refine Le ?_ | refine Lf ?_ | refine Lg ?_ | apply LW.nil | apply QW.then_n | apply QW.round | apply RW.succ | apply CW.seq | apply CW.region | apply CW.skip | apply CW.block | apply CW.ret | apply CW.exit | apply QW.then_ret | apply QW.then_exit | apply QW.blk_n | apply QW.blk_ret | apply QW.blk_exit | refine Ca ?_ | refine Cb ?_ | refine Cc ?_ | refine Lh ?_ | refine Li ?_ | refine Lj ?_ | refine Lk ?_ | refine Ll ?_))
      apply QW.any
      refine AW.one 2 (by kernel_rfl) rfl rfl ?_
      (apply LW.store; exact rfl; exact rfl; exact rfl; assumption; exact rfl; exact rfl; exact rfl; intro w7 hc7 hE)
      replace hL := hL.chg hc7 (by simpa using hLE)
      have hx7 : Ext w w7 := ((hx4.trans hx5).step hc6 (by simp; omega)).step hc7 (by simp; have := hx1.size; omega)
      apply LW.nil
      apply QW.any
      refine AW.done (by kernel_rfl) ?_
      (repeat (first | refine La ?_ | refine Lb ?_ | refine Lc ?_ | refine Ld ?_ | refine Le ?_ | refine Lf ?_ | refine Lg ?_ | apply LW.nil | apply QW.then_n | apply QW.round | apply RW.succ | apply CW.seq | apply CW.region | apply CW.skip | apply CW.block | apply CW.ret | apply CW.exit | apply QW.then_ret | apply QW.then_exit | apply QW.blk_n | apply QW.blk_ret | apply QW.blk_exit | refine Ca ?_ | refine Cb ?_ | refine Cc ?_ | refine Lh ?_ | refine Li ?_ | refine Lj ?_ | refine Lk ?_ | refine Ll ?_))
      refine QW.bodyD0 (rs := [.cell 2 53, .cell 3 39]) (vs := [.slice none 0 0, _]) Tryd.results31 ⟨⟨L, rfl, run_load_one rfl rfl hL rfl⟩, ⟨E, rfl, run_load_one rfl rfl hE rfl⟩, trivial⟩ rfl ⟨hpv w7, hx7⟩
  | some T =>
  rw [LexV, if_neg hbig, hlex] at hv
  obtain ⟨sv, rfl, hown⟩ := hv
  obtain ⟨k0, k1, k2⟩ := lexF_kinds _ s 0 (Nat.le_refl _) hlex
  have htl := lexT_len hlex
  obtain ⟨tb, tcap, tsp, rfl, hT, _⟩ := hown.get (List.length_pos_iff.2 k0)
  have hz3 := hx3'.size
  (repeat (first | refine La ?_ | refine Lb ?_ | refine Lc ?_ | refine Ld ?_ | refine Le ?_ | refine Lf ?_ | refine Lg ?_ | apply LW.nil | apply QW.then_n | apply QW.round | apply RW.succ | apply CW.seq | apply CW.region | apply CW.skip | apply CW.block | apply CW.ret | apply CW.exit | apply QW.then_ret | apply QW.then_exit | apply QW.blk_n | apply QW.blk_ret | apply QW.blk_exit | refine Ca ?_ | refine Cb ?_ | refine Cc ?_ | refine Lh ?_ | refine Li ?_ | refine Lj ?_ | refine Lk ?_ | refine Ll ?_))
  (apply LW.store; exact rfl; exact rfl; exact rfl; assumption; exact rfl; exact rfl; exact rfl; intro w4 hc4 hE)
  have hEtb : tb ≠ E := fun h => by subst h; exact absurd (hT.inj (by assumption : Blk w3 tb [_] 39)) (by decide)
  replace hL := hL.chg hc4 (by simpa using hLE)
  replace hT := hT.chg hc4 (by simpa using hEtb)
  have hx4 : Ext w w4 := hx3'.step hc4 (by simp; have := hx1.size; omega)
  (repeat (first | refine La ?_ | refine Lb ?_ | refine Lc ?_ | refine Ld ?_ | refine Le ?_ | refine Lf ?_ | refine Lg ?_ | apply LW.nil | apply QW.then_n | apply QW.round | apply RW.succ | apply CW.seq | apply CW.region | apply CW.skip | apply CW.block | apply CW.ret | apply CW.exit | apply QW.then_ret | apply QW.then_exit | apply QW.blk_n | apply QW.blk_ret | apply QW.blk_exit | refine Ca ?_ | refine Cb ?_ | refine Cc ?_ | refine Lh ?_ | refine Li ?_ | refine Lj ?_ | refine Lk ?_ | refine Ll ?_))
  refine LW.defer rfl rfl ?_
  (repeat (first | refine La ?_ | refine Lb ?_ | refine Lc ?_ | refine Ld ?_ | refine Le ?_ | refine Lf ?_ | refine Lg ?_ | apply LW.nil | apply QW.then_n | apply QW.round | apply RW.succ | apply CW.seq | apply CW.region | apply CW.skip | apply CW.block | apply CW.ret | apply CW.exit | apply QW.then_ret | apply QW.then_exit | apply QW.blk_n | apply QW.blk_ret | apply QW.blk_exit | refine Ca ?_ | refine Cb ?_ | refine Cc ?_ | refine Lh ?_ | refine Li ?_ | refine Lj ?_ | refine Lk ?_ | refine Ll ?_))
  have hL4 := hL.lt
  have hE4 := hE.lt
  have hw4 : w.heap.size ≤ L ∧ w.heap.size ≤ E := by have := hx1.size; omega
  (apply LW.box; exact rfl; exact rfl; exact rfl; intro R w5 hbR hx5 hR)
  obtain ⟨c, hc0⟩ : ∃ c : PCtx, c = ⟨T, tb, tcap, tsp, R, w4⟩ := ⟨_, rfl⟩
  have hc : c.Ok := by
    subst hc0
    exact ⟨hT, by show T.length ≤ 301; omega, k2, k1, by show w4.heap.size ≤ R; omega⟩
  have hcT : c.T = T := by rw [hc0]
  have hcR : c.rb = R := by rw [hc0]
  have hcw : c.w0 = w4 := by rw [hc0]
  have hrd : Rd c [] w5 ⟨0, [], 0⟩ := by
    refine ⟨by rw [hcw]; exact hx5, by rw [hcT]; exact List.length_pos_iff.2 k0, by simp, by simp, .slice none 0 0, [], ?_, Own.nil _ _ _ _, rfl, by simp⟩
    rw [hcR, PCtx.tokv, hc0]
    exact hR
  have hexpr := (readers hc _ ⟨0, [], 0⟩ (Nat.le_refl _)).1 w5 [] (by simp) hrd
  rw [hcR] at hexpr
  (repeat (first | refine La ?_ | refine Lb ?_ | refine Lc ?_ | refine Ld ?_ | refine Le ?_ | refine Lf ?_ | refine Lg ?_ | apply LW.nil | apply QW.then_n | apply QW.round | apply RW.succ | apply CW.seq | apply CW.region | apply CW.skip | apply CW.block | apply CW.ret | apply CW.exit | apply QW.then_ret | apply QW.then_exit | apply QW.blk_n | apply QW.blk_ret | apply QW.blk_exit | refine Ca ?_ | refine Cb ?_ | refine Cc ?_ | refine Lh ?_ | refine Li ?_ | refine Lj ?_ | refine Lk ?_ | refine Ll ?_))
  refine LW.callP0 rfl rfl hexpr ?_ ?_
  · rintro v w6 ⟨e, rfl, hp, hx6⟩
    rw [hcw] at hx6
    have hpd : Parsed T (.error e) := .inl (by rw [← hcT]; exact hp)
    (repeat (first | apply QW.then_panic | apply QW.blk_panic))
    refine QW.panicD1 (rs := [.cell 2 53, .cell 3 39]) Tryd.results31 hpc ?_
    refine (catch_panic L E _ _ _ _ (hL.ext hx6) (hE.ext hx6)).mono ?_
    rintro e' u w' ⟨rfl, rfl, hL', hE', hcc⟩
    refine ⟨rfl, rfl, [.slice none 0 0, _], ⟨⟨L, rfl, run_load_one rfl rfl hL' rfl⟩, ⟨E, rfl, run_load_one rfl rfl hE' rfl⟩, trivial⟩, ?_, (hx4.trans hx6).step hcc (by simp; omega)⟩
    rw [ParseV, if_neg hbig, hlex]
    exact ⟨_, hpd, rfl⟩
  rintro v w6 ⟨s1, p, rfl, hp, hr, hf, _, _, _⟩
  have hx6 : Ext w4 w6 := by have := hr.1; rwa [hcw] at this
  have hnow := now_ret hc hr
  rw [hcR] at hnow
  (repeat (first | refine La ?_ | refine Lb ?_ | refine Lc ?_ | refine Ld ?_ | refine Le ?_ | refine Lf ?_ | refine Lg ?_ | apply LW.nil | apply QW.then_n | apply QW.round | apply RW.succ | apply CW.seq | apply CW.region | apply CW.skip | apply CW.block | apply CW.ret | apply CW.exit | apply QW.then_ret | apply QW.then_exit | apply QW.blk_n | apply QW.blk_ret | apply QW.blk_exit | refine Ca ?_ | refine Cb ?_ | refine Cc ?_ | refine Lh ?_ | refine Li ?_ | refine Lj ?_ | refine Lk ?_ | refine Ll ?_))
  refine LW.call0 rfl rfl hnow ?_
  rintro v w7 ⟨rfl, hx7⟩
  replace hr := hr.ext hx7
  replace hx6 := hx6.trans hx7
  (repeat (first | refine La ?_ | refine Lb ?_ | refine Lc ?_ | refine Ld ?_ | refine Le ?_ | refine Lf ?_ | refine Lg ?_ | apply LW.nil | apply QW.then_n | apply QW.round | apply RW.succ | apply CW.seq | apply CW.region | apply CW.skip | apply CW.block | apply CW.ret | apply CW.exit | apply QW.then_ret | apply QW.then_exit | apply QW.blk_n | apply QW.blk_ret | apply QW.blk_exit | refine Ca ?_ | refine Cb ?_ | refine Cc ?_ | refine Lh ?_ | refine Li ?_ | refine Lj ?_ | refine Lk ?_ | refine Ll ?_))
  refine LW.field1 (v := .int .i64 (tokAt c.T s1).kind) rfl rfl rfl rfl rfl rfl rfl rfl ?_
  (repeat (first | refine La ?_ | refine Lb ?_ | refine Lc ?_ | refine Ld ?_ | refine Le ?_ | refine Lf ?_ | refine Lg ?_ | apply LW.nil | apply QW.then_n | apply QW.round | apply RW.succ | apply CW.seq | apply CW.region | apply CW.skip | apply CW.block | apply CW.ret | apply CW.exit | apply QW.then_ret | apply QW.then_exit | apply QW.blk_n | apply QW.blk_ret | apply QW.blk_exit | refine Ca ?_ | refine Cb ?_ | refine Cc ?_ | refine Lh ?_ | refine Li ?_ | refine Lj ?_ | refine Lk ?_ | refine Ll ?_))
  refine CW.cond rfl (fun hk => ?_) (fun hk => ?_)
  · have hk : (tokAt c.T s1).kind ≠ 0 := by simpa using hk
    have hpd : Parsed T (.error 5) := .inr ⟨rfl, s1, p, by rw [← hcT]; exact hp, by rw [← hcT]; exact hk⟩
    (repeat (first | refine La ?_ | refine Lb ?_ | refine Lc ?_ | refine Ld ?_ | refine Le ?_ | refine Lf ?_ | refine Lg ?_ | apply LW.nil | apply QW.then_n | apply QW.round | apply RW.succ | apply CW.seq | apply CW.region | apply CW.skip | apply CW.block | apply CW.ret | apply CW.exit | apply QW.then_ret | apply QW.then_exit | apply QW.blk_n | apply QW.blk_ret | apply QW.blk_exit | refine Ca ?_ | refine Cb ?_ | refine Cc ?_ | refine Lh ?_ | refine Li ?_ | refine Lj ?_ | refine Lk ?_ | refine Ll ?_))
    refine LW.callP0 rfl rfl (fail_ret R 5 w7) ?_ (fun _ _ hh => hh.elim)
    rintro v w8 ⟨rfl, hx8⟩
    replace hx6 := hx6.trans hx8
    (repeat (first | apply QW.then_panic | apply QW.blk_panic))
    refine QW.panicD1 (rs := [.cell 2 53, .cell 3 39]) Tryd.results31 hpc ?_
    refine (catch_panic L E _ _ _ _ (hL.ext hx6) (hE.ext hx6)).mono ?_
    rintro e' u w' ⟨rfl, rfl, hL', hE', hcc⟩
    refine ⟨rfl, rfl, [.slice none 0 0, _], ⟨⟨L, rfl, run_load_one rfl rfl hL' rfl⟩, ⟨E, rfl, run_load_one rfl rfl hE' rfl⟩, trivial⟩, ?_, (hx4.trans hx6).step hcc (by simp; omega)⟩
    rw [ParseV, if_neg hbig, hlex]
    exact ⟨_, hpd, rfl⟩
  · have hk : (tokAt c.T s1).kind = 0 := by simpa using hk
    obtain ⟨a0, a1, a2, a3, outv, nvs, hB, ho, hm, hkids⟩ := hr
    rw [hcR] at hB
    rw [hcw] at ho
    replace hL := hL.ext hx6
    replace hE := hE.ext hx6
    obtain ⟨q1, q2, rfl⟩ := ho.slice
    (repeat (first | refine La ?_ | refine Lb ?_ | refine Lc ?_ | refine Ld ?_ | refine Le ?_ | refine Lf ?_ | refine Lg ?_ | apply LW.nil | apply QW.then_n | apply QW.round | apply RW.succ | apply CW.seq | apply CW.region | apply CW.skip | apply CW.block | apply CW.ret | apply CW.exit | apply QW.then_ret | apply QW.then_exit | apply QW.blk_n | apply QW.blk_ret | apply QW.blk_exit | refine Ca ?_ | refine Cb ?_ | refine Cc ?_ | refine Lh ?_ | refine Li ?_ | refine Lj ?_ | refine Lk ?_ | refine Ll ?_))
    have hoL : ∀ b, b ∈ vblk (Value.slice q1 nvs.length q2) → b ∉ [L] := fun b hb h => by
      simp only [List.mem_singleton] at h
      subst h
      exact absurd (Own.type ho hb hL) (by decide)
    have hkL : ∀ x ∈ nvs, KidsOk w7 x.kv x.node.kids := fun x hx => (hkids x hx).1
    have hL0 := hL
    (apply LW.store; exact rfl; exact rfl; exact rfl; assumption; exact rfl; exact rfl; exact rfl; intro w8 hc8 hL)
    have hf8 : ∀ b l T', Blk w7 b l T' → T' ≠ 53 → Blk w8 b l T' := fun b l T' hb h => hb.chg hc8 (fun hm => by simp at hm; subst hm; exact h (hb.inj hL0))
    replace hE := hE.chg hc8 (by simpa using hLE.symm)
    replace ho := ho.chg hc8 hoL
    have hoE : ∀ b, b ∈ vblk (Value.slice q1 nvs.length q2) → b ∉ [E] := fun b hb h => by
      simp only [List.mem_singleton] at h
      subst h
      exact absurd (Own.type ho hb hE) (by decide)
    have hE0 := hE
    (repeat (first | refine La ?_ | refine Lb ?_ | refine Lc ?_ | refine Ld ?_ | refine Le ?_ | refine Lf ?_ | refine Lg ?_ | apply LW.nil | apply QW.then_n | apply QW.round | apply RW.succ | apply CW.seq | apply CW.region | apply CW.skip | apply CW.block | apply CW.ret | apply CW.exit | apply QW.then_ret | apply QW.then_exit | apply QW.blk_n | apply QW.blk_ret | apply QW.blk_exit | refine Ca ?_ | refine Cb ?_ | refine Cc ?_ | refine Lh ?_ | refine Li ?_ | refine Lj ?_ | refine Lk ?_ | refine Ll ?_))
    (apply LW.store; exact rfl; exact rfl; exact rfl; assumption; exact rfl; exact rfl; exact rfl; intro w9 hc9 hE)
    have hf9 : ∀ b l T', Blk w8 b l T' → T' ≠ 39 → Blk w9 b l T' := fun b l T' hb h => hb.chg hc9 (fun hm => by simp at hm; subst hm; exact h (hb.inj hE0))
    replace hL := hL.chg hc9 (by simpa using hLE)
    replace ho := ho.chg hc9 hoE
    have hx9 : Ext w w9 := ((hx4.trans hx6).step hc8 (by simp; omega)).step hc9 (by simp; omega)
    (repeat (first | refine La ?_ | refine Lb ?_ | refine Lc ?_ | refine Ld ?_ | refine Le ?_ | refine Lf ?_ | refine Lg ?_ | apply LW.nil | apply QW.then_n | apply QW.round | apply RW.succ | apply CW.seq | apply CW.region | apply CW.skip | apply CW.block | apply CW.ret | apply CW.exit | apply QW.then_ret | apply QW.then_exit | apply QW.blk_n | apply QW.blk_ret | apply QW.blk_exit | refine Ca ?_ | refine Cb ?_ | refine Cc ?_ | refine Lh ?_ | refine Li ?_ | refine Lj ?_ | refine Lk ?_ | refine Ll ?_))
    refine QW.bodyD1 (rs := [.cell 2 53, .cell 3 39]) Tryd.results31 hpc ?_
    refine (catch_idle L E w9).mono ?_
    rintro e u w' ⟨rfl, rfl, rfl⟩
    refine ⟨rfl, rfl, [.slice q1 nvs.length q2, .int .i64 0], ⟨⟨L, rfl, run_load_one rfl rfl hL rfl⟩, ⟨E, rfl, run_load_one rfl rfl hE rfl⟩, trivial⟩, ?_, hx9⟩
    rw [ParseV, if_neg hbig, hlex]
    refine ⟨.ok s1.out, ⟨s1, p, by rw [← hcT]; exact hp, by rw [← hcT]; exact hk, rfl⟩, .slice q1 nvs.length q2, rfl, nvs, ?_, hm, fun x hx => ?_⟩
    · exact ho.low (by have := hx4.size; omega)
    · rcases hkL x hx with h | ⟨b, cap, sp, e1, hb⟩
      · exact .inl h
      · exact .inr ⟨b, cap, sp, e1, hf9 _ _ _ (hf8 _ _ _ hb (by decide)) (by decide)⟩
end Go.Proofs.YtfpklhgkndnjjaaDoor
