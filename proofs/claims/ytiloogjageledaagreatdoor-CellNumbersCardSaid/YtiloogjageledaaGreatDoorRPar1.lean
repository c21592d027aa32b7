/-
  Walks: the document's reader of a formula's tokens: its small functions.
-/
import Derived.Test.YtiloogjageledaaGreatDoorParL1
import Derived.Test.YtiloogjageledaaGreatDoorEngE
namespace Go.Proofs.YtiloogjageledaaGreatDoor
open Go Go.E

/-- Blocks that are no reader's (the document's) and no nodes' are as they were. -/
structure Fq (w w' : World) : Prop where
  size : w.heap.size ≤ w'.heap.size
  blk : ∀ b l T, Blk w b l T → T ≠ 110 → T ≠ 38 → Blk w' b l T
theorem Fq.refl (w : World) : Fq w w := ⟨Nat.le_refl _, fun _ _ _ h _ _ => h⟩
theorem Fq.trans {a b c : World} (h : Fq a b) (k : Fq b c) : Fq a c := ⟨Nat.le_trans h.size k.size, fun x l T hx h1 h2 => k.blk x l T (h.blk x l T hx h1 h2) h1 h2⟩
theorem Fq.ext {a b : World} (h : Ext a b) : Fq a b := ⟨h.size, fun _ _ _ hx _ _ => hx.ext h⟩
theorem Fq.chg {S : List Nat} {a b : World} (h : Chg S a b) (hs : ∀ k ∈ S, ∀ l T, Blk a k l T → T = 110 ∨ T = 38) : Fq a b :=
  ⟨h.size, fun x l T hx h1 h2 => hx.chg h (fun hm => by rcases hs x hm l T hx with e | e <;> contradiction)⟩
theorem KidsOk.fq {w w' : World} {kv : Value} {ks : List Int} (h : KidsOk w kv ks) (f : Fq w w') : KidsOk w' kv ks := by
  rcases h with h | ⟨b, cap, sp, e, hb⟩
  · exact .inl h
  · exact .inr ⟨b, cap, sp, e, f.blk _ _ _ hb (by decide) (by decide)⟩

/-- The reader, as long as nothing is wrong. -/
def Rq (c : PCtx) (X : List Nat) (w : World) (s : PSt) : Prop :=
  Ext c.w0 w ∧ s.at_ < c.T.length ∧ s.deep ≤ 12 ∧ s.out.length ≤ s.at_ ∧ ∃ (outv : Value) (nvs : List NV), Blk w c.rb [c.tokv, .int .i64 s.at_, .int .i64 s.deep, .int .i64 0, outv] 110 ∧
    Own w c.w0.heap.size 38 14 outv nvs.length (nvs.flatMap nvL) ∧ nvs.map NV.node = s.out ∧ ∀ x ∈ nvs, KidsOk w x.kv x.node.kids ∧ ∀ b ∈ vblk x.kv, b ∉ X
theorem Rq.ext {c : PCtx} {X : List Nat} {w w' : World} {s : PSt} (h : Rq c X w s) (x : Ext w w') : Rq c X w' s := by
  obtain ⟨h0, h1, h2, h3, outv, nvs, hB, ho, hm, hk⟩ := h
  exact ⟨h0.trans x, h1, h2, h3, outv, nvs, hB.ext x, ho.ext x, hm, fun y hy => ⟨(hk y hy).1.fq (.ext x), (hk y hy).2⟩⟩
theorem Rq.len {c : PCtx} {X : List Nat} {w : World} {s : PSt} (h : Rq c X w s) : s.at_ < c.T.length ∧ s.deep ≤ 12 ∧ s.out.length ≤ s.at_ := ⟨h.2.1, h.2.2.1, h.2.2.2.1⟩
/-- The reader, once something is wrong. -/
def Re (c : PCtx) (w : World) (e d : Int) (k : Nat) : Prop :=
  Ext c.w0 w ∧ e ≠ 0 ∧ ∃ (i : Int) (outv : Value) (n : Nat) (xs : List Value), Blk w c.rb [c.tokv, .int .i64 i, .int .i64 d, .int .i64 e, outv] 110 ∧ Own w c.w0.heap.size 38 14 outv n xs ∧ n ≤ k
theorem Re.ext {c : PCtx} {w w' : World} {e d : Int} {k : Nat} (h : Re c w e d k) (x : Ext w w') : Re c w' e d k := by
  obtain ⟨h0, h1, i, outv, n, xs, hB, ho, hn⟩ := h
  exact ⟨h0.trans x, h1, i, outv, n, xs, hB.ext x, ho.ext x, hn⟩
theorem Re.mono {c : PCtx} {w : World} {e d : Int} {k k' : Nat} (h : Re c w e d k) (hk : k ≤ k') : Re c w e d k' := by
  obtain ⟨h0, h1, i, outv, n, xs, hB, ho, hn⟩ := h
  exact ⟨h0, h1, i, outv, n, xs, hB, ho, by omega⟩
theorem own_not {c : PCtx} {w : World} {n : Nat} {outv : Value} {xs l : List Value} (ho : Own w c.w0.heap.size 38 14 outv n xs) (hB : Blk w c.rb l 110) : ∀ j, j ∈ vblk outv → j ∉ [c.rb] := fun j hj hb => by
  simp only [List.mem_singleton] at hb
  subst hb
  obtain ⟨_, ⟨e, _⟩ | ⟨g, cap, sp, e, hg, _⟩⟩ := ho
  · rw [e] at hj; simp [vblk] at hj
  · rw [e] at hj
    simp [vblk] at hj
    exact absurd (hg.inj (hj ▸ hB)) (by decide)
/-- A field of the reader that is written. -/
theorem Rq.set {c : PCtx} {X : List Nat} (hc : c.Ok) {w w' : World} {s s' : PSt} {outv : Value} {nvs : List NV} {l : List Value} (h0 : Ext c.w0 w) (ho : Own w c.w0.heap.size 38 14 outv nvs.length (nvs.flatMap nvL)) (hm : nvs.map NV.node = s.out) (hk : ∀ x ∈ nvs, KidsOk w x.kv x.node.kids ∧ ∀ b ∈ vblk x.kv, b ∉ X)
    (hB0 : Blk w c.rb l 110) (hch : Chg [c.rb] w w') (hB : Blk w' c.rb [c.tokv, .int .i64 s'.at_, .int .i64 s'.deep, .int .i64 0, outv] 110)
    (hso : s'.out = s.out) (h1 : s'.at_ < c.T.length) (h2 : s'.deep ≤ 12) (h3 : s'.out.length ≤ s'.at_) : Rq c X w' s' ∧ Fq w w' := by
  have hf : Fq w w' := Fq.chg hch (fun k hk l T hb => by simp at hk; subst hk; exact .inl (hb.inj hB0))
  exact ⟨⟨h0.step hch (by simpa using hc.new), h1, h2, h3, outv, nvs, hB, ho.chg hch (own_not ho hB0), by rw [hm, hso], fun x hx => ⟨(hk x hx).1.fq hf, (hk x hx).2⟩⟩, hf⟩
theorem Re.set {c : PCtx} (hc : c.Ok) {w w' : World} {e d : Int} {i : Int} {k n : Nat} {outv : Value} {xs l : List Value} (h0 : Ext c.w0 w) (ho : Own w c.w0.heap.size 38 14 outv n xs)
    (hB0 : Blk w c.rb l 110) (hch : Chg [c.rb] w w') (he : e ≠ 0) (hB : Blk w' c.rb [c.tokv, .int .i64 i, .int .i64 d, .int .i64 e, outv] 110) (hn : n ≤ k) : Re c w' e d k ∧ Fq w w' := by
  have hf : Fq w w' := Fq.chg hch (fun k hk l T hb => by simp at hk; subst hk; exact .inl (hb.inj hB0))
  exact ⟨⟨h0.step hch (by simpa using hc.new), he, i, outv, n, xs, hB, ho.chg hch (own_not ho hB0), hn⟩, hf⟩

theorem is_ok {c : PCtx} {X : List Nat} (hc : c.Ok) {w : World} {s : PSt} (h : Rq c X w s) (x : List UInt8) : Ret Tryz.prog 115 [.pointer (some ⟨c.rb, 0, none⟩), str x] w (fun v w' => v = .bool (isS c.T s x) ∧ Ext w w') := by
  obtain ⟨h0, h1, h2, h3, outv, nvs, hB, ho, hm, hk⟩ := h
  have hT := hc.tok.ext h0
  have hlen := hc.len
  have hg : c.T[s.at_]? = some (tokAt c.T s) := by simp [tokAt, List.getD_eq_getElem?_getD, List.getElem?_eq_getElem h1]
  have hi0 : (c.T.flatMap tokL ++ c.tsp)[0 + s.at_ * 9 + 0]? = some (.int .i64 (tokAt c.T s).kind) := by
    rw [Nat.zero_add]
    exact flat_get tok_len c.T c.tsp s.at_ _ 0 hg (by decide)
  have hi1 : (c.T.flatMap tokL ++ c.tsp)[0 + s.at_ * 9 + 1]? = some (str (tokAt c.T s).text) := by
    rw [Nat.zero_add]
    exact flat_get tok_len c.T c.tsp s.at_ _ 1 hg (by decide)
  unfold PCtx.tokv at hB
  refine Ret.enter Tryz.func115 rfl Tryz.ntmps115 (by kernel_rfl) rfl ?_
  refine Sa ?_
  refine CW.draw (by kernel_rfl) (by kernel_rfl) ?_
  refine Sq ?_
  refine QL.know (t := 10) (c := true) rfl (by simp) ?_
  refine Sqz ?_
  refine QL.load (i := 0 + s.at_ * 9 + 0) rfl hT hi0 rfl rfl rfl ?_
  refine Sqz ?_
  refine QL.part rfl rfl rfl (fun h5 => ?_) (fun h5 => ?_)
  · have h5 : (tokAt c.T s).kind = 5 := by simpa using h5
    refine Sqz ?_
    refine QL.load (i := 0 + s.at_ * 9 + 1) rfl hT hi1 rfl rfl rfl ?_
    refine Sqz ?_
    refine QL.nil fun w1 hx1 => ?_
    refine Sa ?_
    refine QW.body1 Tryz.results115 rfl ⟨?_, hx1⟩
    simp [isS, h5]
  · have h5 : (tokAt c.T s).kind ≠ 5 := by simpa using h5
    refine Sqz ?_
    refine QL.nil fun w1 hx1 => ?_
    refine Sa ?_
    refine QW.body1 Tryz.results115 rfl ⟨?_, hx1⟩
    simp [isS, h5]
theorem is_bad {c : PCtx} {w : World} {e d : Int} {k : Nat} (h : Re c w e d k) (x : List UInt8) : Ret Tryz.prog 115 [.pointer (some ⟨c.rb, 0, none⟩), str x] w (fun v w' => v = .bool false ∧ Ext w w') := by
  obtain ⟨h0, he, i, outv, n, xs, hB, ho, hn⟩ := h
  refine Ret.enter Tryz.func115 rfl Tryz.ntmps115 (by kernel_rfl) rfl ?_
  refine Sa ?_
  refine CW.draw (by kernel_rfl) (by kernel_rfl) ?_
  refine Sq ?_
  refine QL.know (t := 10) (c := false) rfl (by simp [he]) ?_
  refine Sq ?_
  refine QL.know (t := 24) (c := false) rfl (by simp) ?_
  refine Sq ?_
  refine QL.nil fun w1 hx1 => ?_
  refine Sa ?_
  exact QW.body1 Tryz.results115 rfl ⟨rfl, hx1⟩

theorem rfail_ok {c : PCtx} {X : List Nat} (hc : c.Ok) {w : World} {s : PSt} (h : Rq c X w s) (e : Int) (he : e ≠ 0) : Ret Tryz.prog 72 [.pointer (some ⟨c.rb, 0, none⟩), .int .i64 e] w (fun v w' => v = .tuple #[] ∧ Re c w' e s.deep s.out.length ∧ Fq w w') := by
  obtain ⟨h0, h1, h2, h3, outv, nvs, hB, ho, hm, hk⟩ := h
  have hB0 := hB
  have hnl : nvs.length = s.out.length := by rw [← hm]; simp
  refine Ret.enter Tryz.func72 rfl Tryz.ntmps72 (by kernel_rfl) rfl ?_
  refine Sa ?_
  (apply LW.store; exact rfl; exact rfl; exact rfl; assumption; exact rfl; exact rfl; exact rfl; intro w1 hc1 hB)
  replace hB : Blk w1 c.rb [c.tokv, .int .i64 s.at_, .int .i64 s.deep, .int .i64 e, outv] 110 := hB
  obtain ⟨hr, hf⟩ := Re.set hc h0 ho hB0 hc1 he hB (Nat.le_of_eq hnl)
  refine Sa ?_
  exact QW.body_n (rs := []) (vs := []) Tryz.results72 trivial rfl ⟨rfl, hr, hf⟩
theorem rfail_bad {c : PCtx} {w : World} {e d : Int} {k : Nat} (h : Re c w e d k) (z : Int) : Ret Tryz.prog 72 [.pointer (some ⟨c.rb, 0, none⟩), .int .i64 z] w (fun v w' => v = .tuple #[] ∧ Ext w w') := by
  obtain ⟨h0, he, i, outv, n, xs, hB, ho, hn⟩ := h
  refine Ret.enter Tryz.func72 rfl Tryz.ntmps72 (by kernel_rfl) rfl ?_
  refine Sa ?_
  refine CW.no rfl (by simp [he]) ?_
  refine Sa ?_
  exact QW.body_n (rs := []) (vs := []) Tryz.results72 trivial rfl ⟨rfl, Chg.refl _ _⟩

theorem rwant_ok {c : PCtx} {X : List Nat} (hc : c.Ok) {w : World} {s : PSt} (h : Rq c X w s) (x : List UInt8) : Ret Tryz.prog 188 [.pointer (some ⟨c.rb, 0, none⟩), str x] w
    (fun v w' => v = .tuple #[] ∧ Fq w w' ∧ (isS c.T s x = true ∧ Rq c X w' (adv s) ∨ isS c.T s x = false ∧ Re c w' 5 s.deep s.out.length)) := by
  have hlen := hc.len
  refine Ret.enter Tryz.func188 rfl Tryz.ntmps188 (by kernel_rfl) rfl ?_
  refine Sa ?_
  refine LW.call0 rfl rfl (is_ok hc h x) ?_
  rintro v w1 ⟨rfl, hx1⟩
  replace h := h.ext hx1
  refine Sa ?_
  refine CW.cond rfl (fun h1 => ?_) (fun h1 => ?_)
  · have h1 : isS c.T s x = false := by simpa using h1
    refine Sa ?_
    refine LW.call0 rfl rfl (rfail_ok hc h 5 (by decide)) ?_
    rintro v w2 ⟨rfl, hr, hf⟩
    refine Sa ?_
    exact QW.body (rs := []) (vs := []) Tryz.results188 trivial rfl ⟨rfl, (Fq.ext hx1).trans hf, .inr ⟨h1, hr⟩⟩
  · have h1 : isS c.T s x = true := by simpa using h1
    obtain ⟨a0, a1, a2, a3, outv, nvs, hB, ho, hm, hk⟩ := h
    have hnx := rd_next hc a1 (by rw [(isS_kind h1).1]; decide)
    have hB0 := hB
    refine Sa ?_
    (apply LW.store; exact rfl; exact rfl; exact rfl; assumption; exact rfl; exact rfl; exact rfl; intro w2 hc2 hB)
    replace hB : Blk w2 c.rb [c.tokv, .int .i64 (adv s).at_, .int .i64 (adv s).deep, .int .i64 0, outv] 110 := hB
    obtain ⟨hr, hf⟩ := Rq.set hc (s := s) (s' := adv s) a0 ho hm hk hB0 hc2 hB rfl hnx a2 (by show s.out.length ≤ s.at_ + 1; omega)
    refine Sa ?_
    exact QW.body_n (rs := []) (vs := []) Tryz.results188 trivial rfl ⟨rfl, (Fq.ext hx1).trans hf, .inl ⟨h1, hr⟩⟩
theorem rwant_bad {c : PCtx} {w : World} {e d : Int} {k : Nat} (h : Re c w e d k) (x : List UInt8) : Ret Tryz.prog 188 [.pointer (some ⟨c.rb, 0, none⟩), str x] w (fun v w' => v = .tuple #[] ∧ Ext w w') := by
  refine Ret.enter Tryz.func188 rfl Tryz.ntmps188 (by kernel_rfl) rfl ?_
  refine Sa ?_
  refine LW.call0 rfl rfl (is_bad h x) ?_
  rintro v w1 ⟨rfl, hx1⟩
  refine Sa ?_
  refine LW.call0 rfl rfl (rfail_bad (h.ext hx1) 5) ?_
  rintro v w2 ⟨rfl, hx2⟩
  refine Sa ?_
  exact QW.body (rs := []) (vs := []) Tryz.results188 trivial rfl ⟨rfl, hx1.trans hx2⟩

theorem ropen_ok {c : PCtx} {X : List Nat} (hc : c.Ok) {w : World} {s : PSt} (h : Rq c X w s) (hk0 : (tokAt c.T s).kind ≠ 0) : Ret Tryz.prog 163 [.pointer (some ⟨c.rb, 0, none⟩)] w
    (fun v w' => v = .tuple #[] ∧ Fq w w' ∧ (s.deep < 12 ∧ Rq c X w' (deeper (adv s)) ∨ 12 ≤ s.deep ∧ Re c w' 6 s.deep s.out.length)) := by
  have hlen := hc.len
  have hh := h
  obtain ⟨a0, a1, a2, a3, outv, nvs, hB, ho, hm, hk⟩ := hh
  have hnx := rd_next hc a1 hk0
  refine Ret.enter Tryz.func163 rfl Tryz.ntmps163 (by kernel_rfl) rfl ?_
  refine Sa ?_
  refine CW.cond rfl (fun h1 => ?_) (fun h1 => ?_)
  · have h1 : 12 ≤ s.deep := by simp at h1; omega
    refine Sa ?_
    refine LW.call0 rfl rfl (rfail_ok hc h 6 (by decide)) ?_
    rintro v w2 ⟨rfl, hr, hf⟩
    refine Sa ?_
    exact QW.body (rs := []) (vs := []) Tryz.results163 trivial rfl ⟨rfl, hf, .inr ⟨h1, hr⟩⟩
  · have h1 : s.deep < 12 := by simp at h1; omega
    have hB0 := hB
    refine Sa ?_
    (apply LW.store; exact rfl; exact rfl; exact rfl; assumption; exact rfl; exact rfl; exact rfl; intro w2 hc2 hB)
    refine Sa ?_
    (apply LW.store; exact rfl; exact rfl; exact rfl; assumption; exact rfl; exact rfl; exact rfl; intro w3 hc3 hB)
    replace hB : Blk w3 c.rb [c.tokv, .int .i64 ((s.at_ + 1 : Nat) : Int), .int .i64 ((s.deep + 1 : Nat) : Int), .int .i64 0, outv] 110 := hB
    obtain ⟨hr, hf⟩ := Rq.set hc (s := s) (s' := deeper (adv s)) a0 ho hm hk hB0 (hc2.same hc3) hB rfl hnx (by show s.deep + 1 ≤ 12; omega) (by show s.out.length ≤ s.at_ + 1; omega)
    refine Sa ?_
    exact QW.body_n (rs := []) (vs := []) Tryz.results163 trivial rfl ⟨rfl, hf, .inl ⟨h1, hr⟩⟩

/-- What 'put' does to memory. -/
theorem rput_ret {c : PCtx} (hc : c.Ok) {w : World} {i d e : Int} {outv : Value} {n : Nat} {xs : List Value} (a0 : Ext c.w0 w) (hB : Blk w c.rb [c.tokv, .int .i64 i, .int .i64 d, .int .i64 e, outv] 110) (ho : Own w c.w0.heap.size 38 14 outv n xs) (hn : n ≤ 100000) (x : NV) (hkv : x.kv.oneCell' = true) :
    Ret Tryz.prog 116 [.pointer (some ⟨c.rb, 0, none⟩), .agg ⟨nvL x⟩] w
    (fun v w' => v = .int .i64 n ∧ Ext c.w0 w' ∧ Fq w w' ∧ ∃ outv', Blk w' c.rb [c.tokv, .int .i64 i, .int .i64 d, .int .i64 e, outv'] 110 ∧ Own w' c.w0.heap.size 38 14 outv' (n + 1) (xs ++ nvL x)) := by
  obtain ⟨p1, q1, e1⟩ := ho.slice
  subst e1
  have hnv : (nvL x).all (·.oneCell') = true := by
    simp only [nvL, List.all_cons, hkv]
    rfl
  refine Ret.enter Tryz.func116 rfl Tryz.ntmps116 (by kernel_rfl) rfl ?_
  refine Sa ?_
  (apply LW.box; exact rfl; exact rfl; exact rfl; intro C w1 hbC hx1 hC)
  replace hC : Blk w1 C (nvL x) 38 := hC
  replace hB := hB.ext hx1
  refine Sa ?_
  refine CW.drawAny (by kernel_rfl) fun w2 hx2 => ?_
  replace hB := hB.ext hx2
  replace hC := hC.ext hx2
  have hx2' := hx1.trans hx2
  have hz2 := hx2'.size
  refine AW.take 0 rfl rfl rfl rfl (fun w => Y.pure rfl) rfl rfl (by kernel_rfl) (by kernel_rfl) (by kernel_rfl) (fun _ _ _ h => h) ?_
  refine AW.take 1 rfl rfl rfl rfl (fun w => Y.pure rfl) rfl rfl (by kernel_rfl) (by kernel_rfl) (by kernel_rfl) (fun _ _ _ h => h) ?_
  refine AW.take 2 rfl rfl rfl rfl (fun w => Y.pure rfl) rfl rfl (by kernel_rfl) (by kernel_rfl) (by kernel_rfl) (fun _ _ _ h => h) ?_
  refine AW.take 3 rfl rfl rfl rfl (fun w => Y.pure rfl) rfl rfl (by kernel_rfl) (by kernel_rfl) (by kernel_rfl) (fun _ _ _ h => h) ?_
  refine AW.two 4 5 (by kernel_rfl) rfl rfl rfl rfl ?_ ?_
  · refine Sa ?_
    apply QW.any
    refine AW.one 5 (by kernel_rfl) rfl rfl ?_
    refine Sa ?_
    apply QW.any
    refine AW.one 6 (by kernel_rfl) rfl rfl ?_
    (apply LW.buildSlice; exact rfl; exact rfl; exact rfl; exact rfl; exact rfl; exact rfl; exact rfl; exact rfl; exact rfl; intro A w3 hbA hx3 hA)
    replace hA : Blk w3 A (nvL x) 38 := hA
    have hB3 := hB.ext hx3
    have hx3' := hx2'.trans hx3
    have hz3 := hx3'.size
    have ho3 := ho.ext hx3'
    refine Sa ?_
    apply QW.any
    refine AW.one 7 (by kernel_rfl) rfl rfl ?_
    refine LW.append rfl rfl rfl rfl rfl rfl ho3 (by have := a0.size; omega) hA rfl hnv rfl (by show (n + 1) * 137 ≤ 140737488355328; omega) rfl ?_
    intro v' w4 hc4 ho4 hnew
    have hrb : c.rb ∉ vblk (Value.slice p1 n q1) := fun hm => own_not ho3 hB3 _ hm (by simp)
    have hf4 : Fq w3 w4 := Fq.chg hc4 (fun k hk l T hb => .inr (by
      obtain ⟨_, ⟨e, _⟩ | ⟨g, cap, sp, e, hg, _⟩⟩ := ho3
      · rw [e] at hk; simp [vblk] at hk
      · rw [e] at hk
        simp [vblk] at hk
        subst hk
        exact hb.inj hg))
    have hB4 := hB3.chg hc4 hrb
    have hx4 : Ext c.w0 w4 := (a0.trans hx3').step hc4 (fun k hk => (ho3.lt hk).1)
    obtain ⟨p2, q2, e2⟩ := ho4.slice
    subst e2
    refine Sa ?_
    apply QW.any
    refine AW.one 8 (by kernel_rfl) rfl rfl ?_
    refine Sa ?_
    apply QW.any
    refine AW.one 9 (by kernel_rfl) rfl rfl ?_
    refine Sa ?_
    apply QW.any
    refine AW.one 10 (by kernel_rfl) rfl rfl ?_
    have hB0 := hB4
    (apply LW.store; exact rfl; exact rfl; exact rfl; assumption; exact rfl; exact rfl; exact rfl; intro w5 hc5 hB4)
    replace hB4 : Blk w5 c.rb [c.tokv, .int .i64 i, .int .i64 d, .int .i64 e, .slice p2 (n + 1) q2] 110 := hB4
    have hf5 : Fq w4 w5 := Fq.chg hc5 (fun k hk l T hb => by simp at hk; subst hk; exact .inl (hb.inj hB0))
    have hff : Fq w w5 := ((Fq.ext hx3').trans hf4).trans hf5
    have ho5 := ho4.chg hc5 (own_not ho4 hB0)
    apply LW.nil
    apply QW.any
    refine AW.done (by kernel_rfl) ?_
    refine Sa ?_
    exact QW.body1 Tryz.results116 rfl ⟨by congr 1; omega, hx4.step hc5 (by simpa using hc.new), hff, _, hB4, ho5⟩
  · refine Sa ?_
    apply QW.any
    refine AW.two 4 6 (by kernel_rfl) rfl rfl rfl rfl ?_ ?_
    · refine Sa ?_
      apply QW.any
      refine AW.one 6 (by kernel_rfl) rfl rfl ?_
      (apply LW.buildSlice; exact rfl; exact rfl; exact rfl; exact rfl; exact rfl; exact rfl; exact rfl; exact rfl; exact rfl; intro A w3 hbA hx3 hA)
      replace hA : Blk w3 A (nvL x) 38 := hA
      have hB3 := hB.ext hx3
      have hx3' := hx2'.trans hx3
      have hz3 := hx3'.size
      have ho3 := ho.ext hx3'
      refine Sa ?_
      apply QW.any
      refine AW.one 7 (by kernel_rfl) rfl rfl ?_
      refine LW.append rfl rfl rfl rfl rfl rfl ho3 (by have := a0.size; omega) hA rfl hnv rfl (by show (n + 1) * 137 ≤ 140737488355328; omega) rfl ?_
      intro v' w4 hc4 ho4 hnew
      have hrb : c.rb ∉ vblk (Value.slice p1 n q1) := fun hm => own_not ho3 hB3 _ hm (by simp)
      have hf4 : Fq w3 w4 := Fq.chg hc4 (fun k hk l T hb => .inr (by
        obtain ⟨_, ⟨e, _⟩ | ⟨g, cap, sp, e, hg, _⟩⟩ := ho3
        · rw [e] at hk; simp [vblk] at hk
        · rw [e] at hk
          simp [vblk] at hk
          subst hk
          exact hb.inj hg))
      have hB4 := hB3.chg hc4 hrb
      have hx4 : Ext c.w0 w4 := (a0.trans hx3').step hc4 (fun k hk => (ho3.lt hk).1)
      obtain ⟨p2, q2, e2⟩ := ho4.slice
      subst e2
      refine Sa ?_
      apply QW.any
      refine AW.one 8 (by kernel_rfl) rfl rfl ?_
      refine Sa ?_
      apply QW.any
      refine AW.one 9 (by kernel_rfl) rfl rfl ?_
      refine Sa ?_
      apply QW.any
      refine AW.one 10 (by kernel_rfl) rfl rfl ?_
      have hB0 := hB4
      (apply LW.store; exact rfl; exact rfl; exact rfl; assumption; exact rfl; exact rfl; exact rfl; intro w5 hc5 hB4)
      replace hB4 : Blk w5 c.rb [c.tokv, .int .i64 i, .int .i64 d, .int .i64 e, .slice p2 (n + 1) q2] 110 := hB4
      have hf5 : Fq w4 w5 := Fq.chg hc5 (fun k hk l T hb => by simp at hk; subst hk; exact .inl (hb.inj hB0))
      have hff : Fq w w5 := ((Fq.ext hx3').trans hf4).trans hf5
      have ho5 := ho4.chg hc5 (own_not ho4 hB0)
      apply LW.nil
      apply QW.any
      refine AW.done (by kernel_rfl) ?_
      refine Sa ?_
      exact QW.body1 Tryz.results116 rfl ⟨by congr 1; omega, hx4.step hc5 (by simpa using hc.new), hff, _, hB4, ho5⟩
    · (apply LW.buildSlice; exact rfl; exact rfl; exact rfl; exact rfl; exact rfl; exact rfl; exact rfl; exact rfl; exact rfl; intro A w3 hbA hx3 hA)
      replace hA : Blk w3 A (nvL x) 38 := hA
      have hB3 := hB.ext hx3
      have hx3' := hx2'.trans hx3
      have hz3 := hx3'.size
      have ho3 := ho.ext hx3'
      refine Sa ?_
      apply QW.any
      refine AW.one 4 (by kernel_rfl) rfl rfl ?_
      refine Sa ?_
      apply QW.any
      refine AW.one 7 (by kernel_rfl) rfl rfl ?_
      refine LW.append rfl rfl rfl rfl rfl rfl ho3 (by have := a0.size; omega) hA rfl hnv rfl (by show (n + 1) * 137 ≤ 140737488355328; omega) rfl ?_
      intro v' w4 hc4 ho4 hnew
      have hrb : c.rb ∉ vblk (Value.slice p1 n q1) := fun hm => own_not ho3 hB3 _ hm (by simp)
      have hf4 : Fq w3 w4 := Fq.chg hc4 (fun k hk l T hb => .inr (by
        obtain ⟨_, ⟨e, _⟩ | ⟨g, cap, sp, e, hg, _⟩⟩ := ho3
        · rw [e] at hk; simp [vblk] at hk
        · rw [e] at hk
          simp [vblk] at hk
          subst hk
          exact hb.inj hg))
      have hB4 := hB3.chg hc4 hrb
      have hx4 : Ext c.w0 w4 := (a0.trans hx3').step hc4 (fun k hk => (ho3.lt hk).1)
      obtain ⟨p2, q2, e2⟩ := ho4.slice
      subst e2
      refine Sa ?_
      apply QW.any
      refine AW.one 8 (by kernel_rfl) rfl rfl ?_
      refine Sa ?_
      apply QW.any
      refine AW.one 9 (by kernel_rfl) rfl rfl ?_
      refine Sa ?_
      apply QW.any
      refine AW.one 10 (by kernel_rfl) rfl rfl ?_
      have hB0 := hB4
      (apply LW.store; exact rfl; exact rfl; exact rfl; assumption; exact rfl; exact rfl; exact rfl; intro w5 hc5 hB4)
      replace hB4 : Blk w5 c.rb [c.tokv, .int .i64 i, .int .i64 d, .int .i64 e, .slice p2 (n + 1) q2] 110 := hB4
      have hf5 : Fq w4 w5 := Fq.chg hc5 (fun k hk l T hb => by simp at hk; subst hk; exact .inl (hb.inj hB0))
      have hff : Fq w w5 := ((Fq.ext hx3').trans hf4).trans hf5
      have ho5 := ho4.chg hc5 (own_not ho4 hB0)
      apply LW.nil
      apply QW.any
      refine AW.done (by kernel_rfl) ?_
      refine Sa ?_
      exact QW.body1 Tryz.results116 rfl ⟨by congr 1; omega, hx4.step hc5 (by simpa using hc.new), hff, _, hB4, ho5⟩

theorem rput_ok {c : PCtx} {X : List Nat} (hc : c.Ok) {w : World} {s : PSt} (h : Rq c X w s) (x : NV) (hx : KidsOk w x.kv x.node.kids) (hxX : ∀ b ∈ vblk x.kv, b ∉ X) (hs : s.out.length + 1 ≤ s.at_) : Ret Tryz.prog 116 [.pointer (some ⟨c.rb, 0, none⟩), .agg ⟨nvL x⟩] w
    (fun v w' => v = .int .i64 s.out.length ∧ Rq c X w' (putS s x.node) ∧ Fq w w') := by
  have hlen := hc.len
  obtain ⟨a0, a1, a2, a3, outv, nvs, hB, ho, hm, hk⟩ := h
  have hnl : nvs.length = s.out.length := by rw [← hm]; simp
  refine (rput_ret hc a0 hB ho (by omega) x hx.one).mono ?_
  rintro v w' ⟨rfl, hx', hf, outv', hB', ho'⟩
  refine ⟨by rw [hnl], ⟨hx', a1, a2, by simp [putS]; omega, outv', nvs ++ [x], hB', by simpa using ho', by simp [putS, hm], ?_⟩, hf⟩
  intro y hy
  rw [List.mem_append] at hy
  rcases hy with hy | hy
  · exact ⟨(hk y hy).1.fq hf, (hk y hy).2⟩
  · simp only [List.mem_singleton] at hy
    subst hy
    exact ⟨hx.fq hf, hxX⟩
theorem rput_bad {c : PCtx} (hc : c.Ok) {w : World} {e d : Int} {k : Nat} (h : Re c w e d k) (hk : k ≤ 99999) (x : NV) (hkv : x.kv.oneCell' = true) : Ret Tryz.prog 116 [.pointer (some ⟨c.rb, 0, none⟩), .agg ⟨nvL x⟩] w
    (fun v w' => (∃ z : Int, v = .int .i64 z) ∧ Re c w' e d (k + 1) ∧ Fq w w') := by
  obtain ⟨h0, he, i, outv, n, xs, hB, ho, hn⟩ := h
  refine (rput_ret hc h0 hB ho (by omega) x hkv).mono ?_
  rintro v w' ⟨rfl, hx', hf, outv', hB', ho'⟩
  exact ⟨⟨_, rfl⟩, ⟨hx', he, i, outv', n + 1, _, hB', ho', by omega⟩, hf⟩

theorem level_ret (n : Nat) (hn : n < 4) (w : World) : Ret Tryz.prog 114 [.int .i64 (n : Int)] w (fun v w' => ∃ sb kb, v = .tuple #[.slice (some ⟨sb, 0, none⟩) (signsN n).length (signsN n).length, .slice (some ⟨kb, 0, none⟩) (kindsN n).length (kindsN n).length] ∧
    Blk w' sb ((signsN n).map str) 9 ∧ Blk w' kb (icells (kindsN n)) 3 ∧ Ext w w') := by
  have : n = 0 ∨ n = 1 ∨ n = 2 ∨ n = 3 := by omega
  rcases this with rfl | rfl | rfl | rfl
  all_goals
    refine Ret.enter Tryz.func114 rfl Tryz.ntmps114 (by kernel_rfl) rfl ?_
    refine Sa ?_
    (apply LW.buildSlice; exact rfl; exact rfl; exact rfl; exact rfl; exact rfl; exact rfl; exact rfl; exact rfl; exact rfl; intro A w1 hbA hx1 hA)
    refine Sa ?_
    (apply LW.buildSlice; exact rfl; exact rfl; exact rfl; exact rfl; exact rfl; exact rfl; exact rfl; exact rfl; exact rfl; intro B w2 hbB hx2 hB)
    refine Sa ?_
    exact QW.body2 Tryz.results114 rfl rfl ⟨A, B, rfl, hA.ext hx2, hB, hx1.trans hx2⟩

theorem span_ret (a b : RefD) (w : World) : Ret Tryz.prog 126 [.agg ⟨refL a⟩, .agg ⟨refL b⟩] w (fun v w' => v = .bool (rangesB a b) ∧ Ext w w') := by
  refine Ret.enter Tryz.func126 rfl Tryz.ntmps126 (by kernel_rfl) rfl ?_
  refine Sa ?_
  (apply LW.box; exact rfl; exact rfl; exact rfl; intro A w1 hbA hx1 hA)
  replace hA : Blk w1 A (refL a) 35 := hA
  refine Sa ?_
  (apply LW.box; exact rfl; exact rfl; exact rfl; intro B w2 hbB hx2 hB)
  replace hB : Blk w2 B (refL b) 35 := hB
  replace hA := hA.ext hx2
  have hx := hx1.trans hx2
  refine Sa ?_
  refine LW.part rfl rfl rfl (fun h1 => ?_) (fun h1 => ?_)
  · refine Sa ?_
    refine LW.part rfl rfl rfl (fun h2 => ?_) (fun h2 => ?_)
    all_goals
      refine Sa ?_
      refine QW.body1 Tryz.results126 rfl ⟨?_, hx⟩
      simp [rangesB, h1, h2]
  · refine Sa ?_
    refine QW.body1 Tryz.results126 rfl ⟨?_, hx⟩
    simp [rangesB, h1]
end Go.Proofs.YtiloogjageledaaGreatDoor
