/-
  Joined by program out of the texts RPar1 RPar2 RPar3 RPar4 RPar5 RPar6 RTree RTreeB.
-/
import Derived.Test.YtgdohpcnpgjpaaaGreatDoorPkB
import Derived.Test.YtgdohpcnpgjpaaaGreatDoorPkE
import Derived.Test.YtgdohpcnpgjpaaaGreatDoorPkC
namespace Go.Proofs.YtgdohpcnpgjpaaaGreatDoor
open Go Go.E
structure Fq (w w' : World) : Prop where
 size : w.heap.size ≤ w'.heap.size
 blk : ∀ b l T, Blk w b l T → T ≠ 95 → T ≠ 133 → Blk w' b l T
theorem Fq.refl (w : World) : Fq w w := ⟨Nat.le_refl _, fun _ _ _ h _ _ => h⟩
theorem Fq.trans {a b c : World} (h : Fq a b) (k : Fq b c) : Fq a c := ⟨Nat.le_trans h.size k.size, fun x l T hx h1 h2 => k.blk x l T (h.blk x l T hx h1 h2) h1 h2⟩
theorem Fq.ext {a b : World} (h : Ext a b) : Fq a b := ⟨h.size, fun _ _ _ hx _ _ => hx.ext h⟩
theorem Fq.chg {S : List Nat} {a b : World} (h : Chg S a b) (hs : ∀ k ∈ S, ∀ l T, Blk a k l T → T = 95 ∨ T = 133) : Fq a b :=
 ⟨h.size, fun x l T hx h1 h2 => hx.chg h (fun hm => by rcases hs x hm l T hx with e | e <;> contradiction)⟩
theorem KidsOk.fq {w w' : World} {kv : Value} {ks : List Int} (h : KidsOk w kv ks) (f : Fq w w') : KidsOk w' kv ks := by
 rcases h with h | ⟨b, cap, sp, e, hb⟩
 ·exact .inl h
 ·exact .inr ⟨b, cap, sp, e, f.blk _ _ _ hb (by decide) (by decide)⟩
def Rq (c : PCtx) (X : List Nat) (w : World) (s : PSt) : Prop :=
 Ext c.w0 w ∧ s.at_ < c.T.length ∧ s.deep ≤ 12 ∧ s.out.length ≤ s.at_ ∧ ∃ (outv : Value) (nvs : List NV), Blk w c.rb [c.tokv, .int .i64 s.at_, .int .i64 s.deep, .int .i64 0, outv] 95 ∧
  Own w c.w0.heap.size 133 14 outv nvs.length (nvs.flatMap nvL) ∧ nvs.map NV.node = s.out ∧ ∀ x ∈ nvs, KidsOk w x.kv x.node.kids ∧ ∀ b ∈ vblk x.kv, b ∉ X
theorem Rq.ext {c : PCtx} {X : List Nat} {w w' : World} {s : PSt} (h : Rq c X w s) (x : Ext w w') : Rq c X w' s := by
 obtain ⟨h0, h1, h2, h3, outv, nvs, hB, ho, hm, hk⟩ := h; exact ⟨h0.trans x, h1, h2, h3, outv, nvs, hB.ext x, ho.ext x, hm, fun y hy => ⟨(hk y hy).1.fq (.ext x), (hk y hy).2⟩⟩
theorem Rq.len {c : PCtx} {X : List Nat} {w : World} {s : PSt} (h : Rq c X w s) : s.at_ < c.T.length ∧ s.deep ≤ 12 ∧ s.out.length ≤ s.at_ := ⟨h.2.1, h.2.2.1, h.2.2.2.1⟩
def Re (c : PCtx) (w : World) (e d : Int) (k : Nat) : Prop :=
 Ext c.w0 w ∧ e ≠ 0 ∧ ∃ (i : Int) (outv : Value) (n : Nat) (xs : List Value), Blk w c.rb [c.tokv, .int .i64 i, .int .i64 d, .int .i64 e, outv] 95 ∧ Own w c.w0.heap.size 133 14 outv n xs ∧ n ≤ k
theorem Re.ext {c : PCtx} {w w' : World} {e d : Int} {k : Nat} (h : Re c w e d k) (x : Ext w w') : Re c w' e d k := by
 obtain ⟨h0, h1, i, outv, n, xs, hB, ho, hn⟩ := h; exact ⟨h0.trans x, h1, i, outv, n, xs, hB.ext x, ho.ext x, hn⟩
theorem Re.mono {c : PCtx} {w : World} {e d : Int} {k k' : Nat} (h : Re c w e d k) (hk : k ≤ k') : Re c w e d k' := by
 obtain ⟨h0, h1, i, outv, n, xs, hB, ho, hn⟩ := h; exact ⟨h0, h1, i, outv, n, xs, hB, ho, by omega⟩
theorem own_not {c : PCtx} {w : World} {n : Nat} {outv : Value} {xs l : List Value} (ho : Own w c.w0.heap.size 133 14 outv n xs) (hB : Blk w c.rb l 95) : ∀ j, j ∈ vblk outv → j ∉ [c.rb] := fun j hj hb => by
 simp only [List.mem_singleton] at hb; subst hb; obtain ⟨_, ⟨e, _⟩ | ⟨g, cap, sp, e, hg, _⟩⟩ := ho
 ·rw [e] at hj; simp [vblk] at hj
 ·rw [e] at hj; simp [vblk] at hj; exact absurd (hg.inj (hj ▸ hB)) (by decide)
theorem Rq.set {c : PCtx} {X : List Nat} (hc : c.Ok) {w w' : World} {s s' : PSt} {outv : Value} {nvs : List NV} {l : List Value} (h0 : Ext c.w0 w) (ho : Own w c.w0.heap.size 133 14 outv nvs.length (nvs.flatMap nvL)) (hm : nvs.map NV.node = s.out) (hk : ∀ x ∈ nvs, KidsOk w x.kv x.node.kids ∧ ∀ b ∈ vblk x.kv, b ∉ X)
  (hB0 : Blk w c.rb l 95) (hch : Chg [c.rb] w w') (hB : Blk w' c.rb [c.tokv, .int .i64 s'.at_, .int .i64 s'.deep, .int .i64 0, outv] 95)
  (hso : s'.out = s.out) (h1 : s'.at_ < c.T.length) (h2 : s'.deep ≤ 12) (h3 : s'.out.length ≤ s'.at_) : Rq c X w' s' ∧ Fq w w' := by
 have hf : Fq w w' := Fq.chg hch (fun k hk l T hb => by simp at hk; subst hk; exact .inl (hb.inj hB0)); exact ⟨⟨h0.step hch (by simpa using hc.new), h1, h2, h3, outv, nvs, hB, ho.chg hch (own_not ho hB0), by rw [hm, hso], fun x hx => ⟨(hk x hx).1.fq hf, (hk x hx).2⟩⟩, hf⟩
theorem Re.set {c : PCtx} (hc : c.Ok) {w w' : World} {e d : Int} {i : Int} {k n : Nat} {outv : Value} {xs l : List Value} (h0 : Ext c.w0 w) (ho : Own w c.w0.heap.size 133 14 outv n xs)
  (hB0 : Blk w c.rb l 95) (hch : Chg [c.rb] w w') (he : e ≠ 0) (hB : Blk w' c.rb [c.tokv, .int .i64 i, .int .i64 d, .int .i64 e, outv] 95) (hn : n ≤ k) : Re c w' e d k ∧ Fq w w' := by
 have hf : Fq w w' := Fq.chg hch (fun k hk l T hb => by simp at hk; subst hk; exact .inl (hb.inj hB0)); exact ⟨⟨h0.step hch (by simpa using hc.new), he, i, outv, n, xs, hB, ho.chg hch (own_not ho hB0), hn⟩, hf⟩
theorem is_ok {c : PCtx} {X : List Nat} (hc : c.Ok) {w : World} {s : PSt} (h : Rq c X w s) (x : List UInt8) : Ret Tryz.prog 97 [.pointer (some ⟨c.rb, 0, none⟩), str x] w (fun v w' => v = .bool (isS c.T s x) ∧ Ext w w') := by
 obtain ⟨h0, h1, h2, h3, outv, nvs, hB, ho, hm, hk⟩ := h; have hT := hc.tok.ext h0; have hlen := hc.len; have hg : c.T[s.at_]? = some (tokAt c.T s) := by simp [tokAt, List.getD_eq_getElem?_getD, List.getElem?_eq_getElem h1]
 have hi0 : (c.T.flatMap tokL ++ c.tsp)[0 + s.at_ * 9 + 0]? = some (.int .i64 (tokAt c.T s).kind) := by
  rw [Nat.zero_add]; exact flat_get tok_len c.T c.tsp s.at_ _ 0 hg (by decide)
 have hi1 : (c.T.flatMap tokL ++ c.tsp)[0 + s.at_ * 9 + 1]? = some (str (tokAt c.T s).text) := by
  rw [Nat.zero_add]; exact flat_get tok_len c.T c.tsp s.at_ _ 1 hg (by decide)
 unfold PCtx.tokv at hB; refine Rte Tryz.func97 Tryz.ntmps97 ?_; refine Sa ?_; refine Cwd ?_; refine Sq ?_; refine QL.know (t := 10) (c := true) rfl (by simp) ?_; refine Sqz ?_; refine QL.load (i := 0 + s.at_ * 9 + 0) rfl hT hi0 rfl rfl rfl ?_; refine Sqz ?_; refine Qlp (fun h5 => ?_) fun h5 => ?_
 ·have h5 : (tokAt c.T s).kind = 5 := by simpa using h5
  refine Sqz ?_; refine QL.load (i := 0 + s.at_ * 9 + 1) rfl hT hi1 rfl rfl rfl ?_; refine Sqz ?_; refine QL.nil fun w1 hx1 => ?_; refine Sa ?_; refine QW.body1 Tryz.results97 rfl ⟨?_, hx1⟩; simp [isS, h5]
 ·have h5 : (tokAt c.T s).kind ≠ 5 := by simpa using h5
  refine Sqz ?_; refine QL.nil fun w1 hx1 => ?_; refine Sa ?_; refine QW.body1 Tryz.results97 rfl ⟨?_, hx1⟩; simp [isS, h5]
theorem is_bad {c : PCtx} {w : World} {e d : Int} {k : Nat} (h : Re c w e d k) (x : List UInt8) : Ret Tryz.prog 97 [.pointer (some ⟨c.rb, 0, none⟩), str x] w (fun v w' => v = .bool false ∧ Ext w w') := by
 obtain ⟨h0, he, i, outv, n, xs, hB, ho, hn⟩ := h; refine Rte Tryz.func97 Tryz.ntmps97 ?_; refine Sa ?_; refine Cwd ?_; refine Sq ?_; refine QL.know (t := 10) (c := false) rfl (by simp [he]) ?_; refine Sq ?_; refine QL.know (t := 24) (c := false) rfl (by simp) ?_; refine Sq ?_; refine QL.nil fun w1 hx1 => ?_; refine Sa ?_; exact QW.body1 Tryz.results97 rfl ⟨rfl, hx1⟩
theorem rfail_ok {c : PCtx} {X : List Nat} (hc : c.Ok) {w : World} {s : PSt} (h : Rq c X w s) (e : Int) (he : e ≠ 0) : Ret Tryz.prog 75 [.pointer (some ⟨c.rb, 0, none⟩), .int .i64 e] w (fun v w' => v = .tuple #[] ∧ Re c w' e s.deep s.out.length ∧ Fq w w') := by
 obtain ⟨h0, h1, h2, h3, outv, nvs, hB, ho, hm, hk⟩ := h; have hB0 := hB; have hnl : nvs.length = s.out.length := by rw [← hm]; simp
 refine Rte Tryz.func75 Tryz.ntmps75 ?_; refine Sa ?_; refine Lwt fun w1 hc1 hB => ?_; replace hB : Blk w1 c.rb [c.tokv, .int .i64 s.at_, .int .i64 s.deep, .int .i64 e, outv] 95 := hB; obtain ⟨hr, hf⟩ := Re.set hc h0 ho hB0 hc1 he hB (Nat.le_of_eq hnl); refine Sa ?_; exact QW.body_n (rs := []) (vs := []) Tryz.results75 trivial rfl ⟨rfl, hr, hf⟩
theorem rfail_bad {c : PCtx} {w : World} {e d : Int} {k : Nat} (h : Re c w e d k) (z : Int) : Ret Tryz.prog 75 [.pointer (some ⟨c.rb, 0, none⟩), .int .i64 z] w (fun v w' => v = .tuple #[] ∧ Ext w w') := by
 obtain ⟨h0, he, i, outv, n, xs, hB, ho, hn⟩ := h; refine Rte Tryz.func75 Tryz.ntmps75 ?_; refine Sa ?_; refine CW.no rfl (by simp [he]) ?_; refine Sa ?_; exact QW.body_n (rs := []) (vs := []) Tryz.results75 trivial rfl ⟨rfl, Chg.refl _ _⟩
theorem rwant_ok {c : PCtx} {X : List Nat} (hc : c.Ok) {w : World} {s : PSt} (h : Rq c X w s) (x : List UInt8) : Ret Tryz.prog 166 [.pointer (some ⟨c.rb, 0, none⟩), str x] w
  (fun v w' => v = .tuple #[] ∧ Fq w w' ∧ (isS c.T s x = true ∧ Rq c X w' (adv s) ∨ isS c.T s x = false ∧ Re c w' 5 s.deep s.out.length)) := by
 have hlen := hc.len; refine Rte Tryz.func166 Tryz.ntmps166 ?_; refine Sa ?_; refine Lc0 rfl rfl (is_ok hc h x) ?_; rintro v w1 ⟨rfl, hx1⟩; replace h := h.ext hx1; refine Sa ?_; refine Cwc (fun h1 => ?_) fun h1 => ?_
 ·have h1 : isS c.T s x = false := by simpa using h1
  refine Sa ?_; refine Lc0 rfl rfl (rfail_ok hc h 5 (by decide)) ?_; rintro v w2 ⟨rfl, hr, hf⟩; refine Sa ?_; exact QW.body (rs := []) (vs := []) Tryz.results166 trivial rfl ⟨rfl, (Fq.ext hx1).trans hf, .inr ⟨h1, hr⟩⟩
 ·have h1 : isS c.T s x = true := by simpa using h1
  obtain ⟨a0, a1, a2, a3, outv, nvs, hB, ho, hm, hk⟩ := h; have hnx := rd_next hc a1 (by rw [(isS_kind h1).1]; decide); have hB0 := hB; refine Sa ?_; refine Lwt fun w2 hc2 hB => ?_; replace hB : Blk w2 c.rb [c.tokv, .int .i64 (adv s).at_, .int .i64 (adv s).deep, .int .i64 0, outv] 95 := hB; obtain ⟨hr, hf⟩ := Rq.set hc (s := s) (s' := adv s) a0 ho hm hk hB0 hc2 hB rfl hnx a2 (by show s.out.length ≤ s.at_ + 1; omega); refine Sa ?_; exact QW.body_n (rs := []) (vs := []) Tryz.results166 trivial rfl ⟨rfl, (Fq.ext hx1).trans hf, .inl ⟨h1, hr⟩⟩
theorem rwant_bad {c : PCtx} {w : World} {e d : Int} {k : Nat} (h : Re c w e d k) (x : List UInt8) : Ret Tryz.prog 166 [.pointer (some ⟨c.rb, 0, none⟩), str x] w (fun v w' => v = .tuple #[] ∧ Ext w w') := by
 refine Rte Tryz.func166 Tryz.ntmps166 ?_; refine Sa ?_; refine Lc0 rfl rfl (is_bad h x) ?_; rintro v w1 ⟨rfl, hx1⟩; refine Sa ?_; refine Lc0 rfl rfl (rfail_bad (h.ext hx1) 5) ?_; rintro v w2 ⟨rfl, hx2⟩; refine Sa ?_; exact QW.body (rs := []) (vs := []) Tryz.results166 trivial rfl ⟨rfl, hx1.trans hx2⟩
theorem ropen_ok {c : PCtx} {X : List Nat} (hc : c.Ok) {w : World} {s : PSt} (h : Rq c X w s) (hk0 : (tokAt c.T s).kind ≠ 0) : Ret Tryz.prog 130 [.pointer (some ⟨c.rb, 0, none⟩)] w
  (fun v w' => v = .tuple #[] ∧ Fq w w' ∧ (s.deep < 12 ∧ Rq c X w' (deeper (adv s)) ∨ 12 ≤ s.deep ∧ Re c w' 6 s.deep s.out.length)) := by
 have hlen := hc.len; have hh := h; obtain ⟨a0, a1, a2, a3, outv, nvs, hB, ho, hm, hk⟩ := hh; have hnx := rd_next hc a1 hk0; refine Rte Tryz.func130 Tryz.ntmps130 ?_; refine Sa ?_; refine Cwc (fun h1 => ?_) fun h1 => ?_
 ·have h1 : 12 ≤ s.deep := by simp at h1; omega
  refine Sa ?_; refine Lc0 rfl rfl (rfail_ok hc h 6 (by decide)) ?_; rintro v w2 ⟨rfl, hr, hf⟩; refine Sa ?_; exact QW.body (rs := []) (vs := []) Tryz.results130 trivial rfl ⟨rfl, hf, .inr ⟨h1, hr⟩⟩
 ·have h1 : s.deep < 12 := by simp at h1; omega
  have hB0 := hB; refine Sa ?_; refine Lwt fun w2 hc2 hB => ?_; refine Sa ?_; refine Lwt fun w3 hc3 hB => ?_; replace hB : Blk w3 c.rb [c.tokv, .int .i64 ((s.at_ + 1 : Nat) : Int), .int .i64 ((s.deep + 1 : Nat) : Int), .int .i64 0, outv] 95 := hB; obtain ⟨hr, hf⟩ := Rq.set hc (s := s) (s' := deeper (adv s)) a0 ho hm hk hB0 (hc2.same hc3) hB rfl hnx (by show s.deep + 1 ≤ 12; omega) (by show s.out.length ≤ s.at_ + 1; omega); refine Sa ?_; exact QW.body_n (rs := []) (vs := []) Tryz.results130 trivial rfl ⟨rfl, hf, .inl ⟨h1, hr⟩⟩
theorem rput_ret {c : PCtx} (hc : c.Ok) {w : World} {i d e : Int} {outv : Value} {n : Nat} {xs : List Value} (a0 : Ext c.w0 w) (hB : Blk w c.rb [c.tokv, .int .i64 i, .int .i64 d, .int .i64 e, outv] 95) (ho : Own w c.w0.heap.size 133 14 outv n xs) (hn : n ≤ 100000) (x : NV) (hkv : x.kv.oneCell' = true) :
  Ret Tryz.prog 98 [.pointer (some ⟨c.rb, 0, none⟩), .agg ⟨nvL x⟩] w
  (fun v w' => v = .int .i64 n ∧ Ext c.w0 w' ∧ Fq w w' ∧ ∃ outv', Blk w' c.rb [c.tokv, .int .i64 i, .int .i64 d, .int .i64 e, outv'] 95 ∧ Own w' c.w0.heap.size 133 14 outv' (n + 1) (xs ++ nvL x)) := by
 obtain ⟨p1, q1, e1⟩ := ho.slice; subst e1; have hnv : (nvL x).all (·.oneCell') = true := by
  simp only [nvL, List.all_cons, hkv]; rfl
 refine Rte Tryz.func98 Tryz.ntmps98 ?_; refine Sa ?_; refine Lwb fun C w1 hbC hx1 hC => ?_; replace hC : Blk w1 C (nvL x) 133 := hC; replace hB := hB.ext hx1; refine Sa ?_; refine CW.drawAny (by kernel_rfl) fun w2 hx2 => ?_; replace hB := hB.ext hx2; replace hC := hC.ext hx2; have hx2' := hx1.trans hx2; have hz2 := hx2'.size; refine AW.take 0 rfl rfl rfl rfl (fun w => Y.pure rfl) rfl rfl (by kernel_rfl) (by kernel_rfl) (by kernel_rfl) (fun _ _ _ h => h) ?_; refine AW.take 1 rfl rfl rfl rfl (fun w => Y.pure rfl) rfl rfl (by kernel_rfl) (by kernel_rfl) (by kernel_rfl) (fun _ _ _ h => h) ?_; refine AW.take 2 rfl rfl rfl rfl (fun w => Y.pure rfl) rfl rfl (by kernel_rfl) (by kernel_rfl) (by kernel_rfl) (fun _ _ _ h => h) ?_; refine AW.take 3 rfl rfl rfl rfl (fun w => Y.pure rfl) rfl rfl (by kernel_rfl) (by kernel_rfl) (by kernel_rfl) (fun _ _ _ h => h) ?_; refine AW.two 4 5 (by kernel_rfl) rfl rfl rfl rfl ?_ ?_
 ·refine Sa ?_; apply QW.any; refine AW.one 5 (by kernel_rfl) rfl rfl ?_; refine Sa ?_; apply QW.any; refine AW.one 6 (by kernel_rfl) rfl rfl ?_; refine Lwl fun A w3 hbA hx3 hA => ?_; replace hA : Blk w3 A (nvL x) 133 := hA; have hB3 := hB.ext hx3; have hx3' := hx2'.trans hx3; have hz3 := hx3'.size; have ho3 := ho.ext hx3'; refine Sa ?_; apply QW.any; refine AW.one 7 (by kernel_rfl) rfl rfl ?_; refine LW.append rfl rfl rfl rfl rfl rfl ho3 (by have := a0.size; omega) hA rfl hnv rfl (by show (n + 1) * 137 ≤ 140737488355328; omega) rfl ?_; intro v' w4 hc4 ho4 hnew; have hrb : c.rb ∉ vblk (Value.slice p1 n q1) := fun hm => own_not ho3 hB3 _ hm (by simp); have hf4 : Fq w3 w4 := Fq.chg hc4 (fun k hk l T hb => .inr (by
   obtain ⟨_, ⟨e, _⟩ | ⟨g, cap, sp, e, hg, _⟩⟩ := ho3
   ·rw [e] at hk; simp [vblk] at hk
   ·rw [e] at hk; simp [vblk] at hk; subst hk; exact hb.inj hg))
  have hB4 := hB3.chg hc4 hrb; have hx4 : Ext c.w0 w4 := (a0.trans hx3').step hc4 (fun k hk => (ho3.lt hk).1); obtain ⟨p2, q2, e2⟩ := ho4.slice; subst e2; refine Sa ?_; apply QW.any; refine AW.one 8 (by kernel_rfl) rfl rfl ?_; refine Sa ?_; apply QW.any; refine AW.one 9 (by kernel_rfl) rfl rfl ?_; refine Sa ?_; apply QW.any; refine AW.one 10 (by kernel_rfl) rfl rfl ?_; have hB0 := hB4; refine Lwt fun w5 hc5 hB4 => ?_; replace hB4 : Blk w5 c.rb [c.tokv, .int .i64 i, .int .i64 d, .int .i64 e, .slice p2 (n + 1) q2] 95 := hB4; have hf5 : Fq w4 w5 := Fq.chg hc5 (fun k hk l T hb => by simp at hk; subst hk; exact .inl (hb.inj hB0)); have hff : Fq w w5 := ((Fq.ext hx3').trans hf4).trans hf5; have ho5 := ho4.chg hc5 (own_not ho4 hB0); apply LW.nil; apply QW.any; refine AW.done (by kernel_rfl) ?_; refine Sa ?_; exact QW.body1 Tryz.results98 rfl ⟨by congr 1; omega, hx4.step hc5 (by simpa using hc.new), hff, _, hB4, ho5⟩
 ·refine Sa ?_; apply QW.any; refine AW.two 4 6 (by kernel_rfl) rfl rfl rfl rfl ?_ ?_
  ·refine Sa ?_; apply QW.any; refine AW.one 6 (by kernel_rfl) rfl rfl ?_; refine Lwl fun A w3 hbA hx3 hA => ?_; replace hA : Blk w3 A (nvL x) 133 := hA; have hB3 := hB.ext hx3; have hx3' := hx2'.trans hx3; have hz3 := hx3'.size; have ho3 := ho.ext hx3'; refine Sa ?_; apply QW.any; refine AW.one 7 (by kernel_rfl) rfl rfl ?_; refine LW.append rfl rfl rfl rfl rfl rfl ho3 (by have := a0.size; omega) hA rfl hnv rfl (by show (n + 1) * 137 ≤ 140737488355328; omega) rfl ?_; intro v' w4 hc4 ho4 hnew; have hrb : c.rb ∉ vblk (Value.slice p1 n q1) := fun hm => own_not ho3 hB3 _ hm (by simp); have hf4 : Fq w3 w4 := Fq.chg hc4 (fun k hk l T hb => .inr (by
    obtain ⟨_, ⟨e, _⟩ | ⟨g, cap, sp, e, hg, _⟩⟩ := ho3
    ·rw [e] at hk; simp [vblk] at hk
    ·rw [e] at hk; simp [vblk] at hk; subst hk; exact hb.inj hg))
   have hB4 := hB3.chg hc4 hrb; have hx4 : Ext c.w0 w4 := (a0.trans hx3').step hc4 (fun k hk => (ho3.lt hk).1); obtain ⟨p2, q2, e2⟩ := ho4.slice; subst e2; refine Sa ?_; apply QW.any; refine AW.one 8 (by kernel_rfl) rfl rfl ?_; refine Sa ?_; apply QW.any; refine AW.one 9 (by kernel_rfl) rfl rfl ?_; refine Sa ?_; apply QW.any; refine AW.one 10 (by kernel_rfl) rfl rfl ?_; have hB0 := hB4; refine Lwt fun w5 hc5 hB4 => ?_; replace hB4 : Blk w5 c.rb [c.tokv, .int .i64 i, .int .i64 d, .int .i64 e, .slice p2 (n + 1) q2] 95 := hB4; have hf5 : Fq w4 w5 := Fq.chg hc5 (fun k hk l T hb => by simp at hk; subst hk; exact .inl (hb.inj hB0)); have hff : Fq w w5 := ((Fq.ext hx3').trans hf4).trans hf5; have ho5 := ho4.chg hc5 (own_not ho4 hB0); apply LW.nil; apply QW.any; refine AW.done (by kernel_rfl) ?_; refine Sa ?_; exact QW.body1 Tryz.results98 rfl ⟨by congr 1; omega, hx4.step hc5 (by simpa using hc.new), hff, _, hB4, ho5⟩
  ·refine Lwl fun A w3 hbA hx3 hA => ?_; replace hA : Blk w3 A (nvL x) 133 := hA; have hB3 := hB.ext hx3; have hx3' := hx2'.trans hx3; have hz3 := hx3'.size; have ho3 := ho.ext hx3'; refine Sa ?_; apply QW.any; refine AW.one 4 (by kernel_rfl) rfl rfl ?_; refine Sa ?_; apply QW.any; refine AW.one 7 (by kernel_rfl) rfl rfl ?_; refine LW.append rfl rfl rfl rfl rfl rfl ho3 (by have := a0.size; omega) hA rfl hnv rfl (by show (n + 1) * 137 ≤ 140737488355328; omega) rfl ?_; intro v' w4 hc4 ho4 hnew; have hrb : c.rb ∉ vblk (Value.slice p1 n q1) := fun hm => own_not ho3 hB3 _ hm (by simp); have hf4 : Fq w3 w4 := Fq.chg hc4 (fun k hk l T hb => .inr (by
    obtain ⟨_, ⟨e, _⟩ | ⟨g, cap, sp, e, hg, _⟩⟩ := ho3
    ·rw [e] at hk; simp [vblk] at hk
    ·rw [e] at hk; simp [vblk] at hk; subst hk; exact hb.inj hg))
   have hB4 := hB3.chg hc4 hrb; have hx4 : Ext c.w0 w4 := (a0.trans hx3').step hc4 (fun k hk => (ho3.lt hk).1); obtain ⟨p2, q2, e2⟩ := ho4.slice; subst e2; refine Sa ?_; apply QW.any; refine AW.one 8 (by kernel_rfl) rfl rfl ?_; refine Sa ?_; apply QW.any; refine AW.one 9 (by kernel_rfl) rfl rfl ?_; refine Sa ?_; apply QW.any; refine AW.one 10 (by kernel_rfl) rfl rfl ?_; have hB0 := hB4; refine Lwt fun w5 hc5 hB4 => ?_; replace hB4 : Blk w5 c.rb [c.tokv, .int .i64 i, .int .i64 d, .int .i64 e, .slice p2 (n + 1) q2] 95 := hB4; have hf5 : Fq w4 w5 := Fq.chg hc5 (fun k hk l T hb => by simp at hk; subst hk; exact .inl (hb.inj hB0)); have hff : Fq w w5 := ((Fq.ext hx3').trans hf4).trans hf5; have ho5 := ho4.chg hc5 (own_not ho4 hB0); apply LW.nil; apply QW.any; refine AW.done (by kernel_rfl) ?_; refine Sa ?_; exact QW.body1 Tryz.results98 rfl ⟨by congr 1; omega, hx4.step hc5 (by simpa using hc.new), hff, _, hB4, ho5⟩
theorem rput_ok {c : PCtx} {X : List Nat} (hc : c.Ok) {w : World} {s : PSt} (h : Rq c X w s) (x : NV) (hx : KidsOk w x.kv x.node.kids) (hxX : ∀ b ∈ vblk x.kv, b ∉ X) (hs : s.out.length + 1 ≤ s.at_) : Ret Tryz.prog 98 [.pointer (some ⟨c.rb, 0, none⟩), .agg ⟨nvL x⟩] w
  (fun v w' => v = .int .i64 s.out.length ∧ Rq c X w' (putS s x.node) ∧ Fq w w') := by
 have hlen := hc.len; obtain ⟨a0, a1, a2, a3, outv, nvs, hB, ho, hm, hk⟩ := h; have hnl : nvs.length = s.out.length := by rw [← hm]; simp
 refine (rput_ret hc a0 hB ho (by omega) x hx.one).mono ?_; rintro v w' ⟨rfl, hx', hf, outv', hB', ho'⟩; refine ⟨by rw [hnl], ⟨hx', a1, a2, by simp [putS]; omega, outv', nvs ++ [x], hB', by simpa using ho', by simp [putS, hm], ?_⟩, hf⟩; intro y hy; rw [List.mem_append] at hy; rcases hy with hy | hy
 ·exact ⟨(hk y hy).1.fq hf, (hk y hy).2⟩
 ·simp only [List.mem_singleton] at hy; subst hy; exact ⟨hx.fq hf, hxX⟩
theorem rput_bad {c : PCtx} (hc : c.Ok) {w : World} {e d : Int} {k : Nat} (h : Re c w e d k) (hk : k ≤ 99999) (x : NV) (hkv : x.kv.oneCell' = true) : Ret Tryz.prog 98 [.pointer (some ⟨c.rb, 0, none⟩), .agg ⟨nvL x⟩] w
  (fun v w' => (∃ z : Int, v = .int .i64 z) ∧ Re c w' e d (k + 1) ∧ Fq w w') := by
 obtain ⟨h0, he, i, outv, n, xs, hB, ho, hn⟩ := h; refine (rput_ret hc h0 hB ho (by omega) x hkv).mono ?_; rintro v w' ⟨rfl, hx', hf, outv', hB', ho'⟩; exact ⟨⟨_, rfl⟩, ⟨hx', he, i, outv', n + 1, _, hB', ho', by omega⟩, hf⟩
theorem level_ret (n : Nat) (hn : n < 4) (w : World) : Ret Tryz.prog 96 [.int .i64 (n : Int)] w (fun v w' => ∃ sb kb, v = .tuple #[.slice (some ⟨sb, 0, none⟩) (signsN n).length (signsN n).length, .slice (some ⟨kb, 0, none⟩) (kindsN n).length (kindsN n).length] ∧
  Blk w' sb ((signsN n).map str) 9 ∧ Blk w' kb (icells (kindsN n)) 3 ∧ Ext w w') := by
 have : n = 0 ∨ n = 1 ∨ n = 2 ∨ n = 3 := by omega
 rcases this with rfl | rfl | rfl | rfl
 all_goals
  refine Rte Tryz.func96 Tryz.ntmps96 ?_; refine Sa ?_; refine Lwl fun A w1 hbA hx1 hA => ?_; refine Sa ?_; refine Lwl fun B w2 hbB hx2 hB => ?_; refine Sa ?_; exact QW.body2 Tryz.results96 rfl rfl ⟨A, B, rfl, hA.ext hx2, hB, hx1.trans hx2⟩
theorem span_ret (a b : RefD) (w : World) : Ret Tryz.prog 136 [.agg ⟨refL a⟩, .agg ⟨refL b⟩] w (fun v w' => v = .bool (rangesB a b) ∧ Ext w w') := by
 refine Rte Tryz.func136 Tryz.ntmps136 ?_; refine Sa ?_; refine Lwb fun A w1 hbA hx1 hA => ?_; replace hA : Blk w1 A (refL a) 98 := hA; refine Sa ?_; refine Lwb fun B w2 hbB hx2 hB => ?_; replace hB : Blk w2 B (refL b) 98 := hB; replace hA := hA.ext hx2; have hx := hx1.trans hx2; refine Sa ?_; refine Lwp (fun h1 => ?_) fun h1 => ?_
 ·refine Sa ?_; refine Lwp (fun h2 => ?_) fun h2 => ?_
  all_goals
   refine Sa ?_; refine QW.body1 Tryz.results136 rfl ⟨?_, hx⟩; simp [rangesB, h1, h2]
 ·refine Sa ?_; refine QW.body1 Tryz.results136 rfl ⟨?_, hx⟩; simp [rangesB, h1]
def kc (m : PMode) (d : Nat) : Nat := 400 + 6 * (12 - d) + (match m with | .lev n => 4 - n | _ => 0)
theorem kc_below {n : Nat} (hn : n < 4) (d : Nat) : kc (below n) d + 1 ≤ kc (.lev n) d := by
 unfold below
 split <;> simp only [kc] <;> omega
theorem kc_le (m : PMode) (d : Nat) : 400 ≤ kc m d ∧ kc m d ≤ 500 := by
 unfold kc
 split <;> omega
def RG (c : PCtx) (X : List Nat) (m : PMode) (s : PSt) (w' : World) (z : Int) : Prop :=
 ∃ (s' : PSt) (p : Nat), z = (p : Int) ∧ PE c.T m s (.ok s' p) ∧ Rq c X w' s' ∧ s.at_ < s'.at_ ∧ s'.deep = s.deep ∧ s.at_ + s'.out.length ≤ s'.at_ + s.out.length
def RB (c : PCtx) (m : PMode) (s : PSt) (w' : World) : Prop := ∃ e d, PE c.T m s (.err e) ∧ (d = (s.deep : Int) ∨ d = s.deep - 1) ∧ Re c w' e d (kc m s.deep)
def RC (c : PCtx) (f : Nat) (av : List Value) (m : PMode) (s : PSt) : Prop := ∀ w X, (∀ b ∈ X, b < w.heap.size) → Rq c X w s → Ret Tryz.prog f (.pointer (some ⟨c.rb, 0, none⟩) :: av) w (fun v w' => ∃ z, v = .int .i64 z ∧ Fq w w' ∧ (RG c X m s w' z ∨ RB c m s w'))
theorem rx_map {c : PCtx} {X : List Nat} {m m' : PMode} {s : PSt} {w : World} {z : Int} (h : RG c X m s w z ∨ RB c m s w) (hp : ∀ r, PE c.T m s r → PE c.T m' s r) (hk : kc m s.deep ≤ kc m' s.deep) : RG c X m' s w z ∨ RB c m' s w := by
 rcases h with ⟨s', p, h1, h2, h3⟩ | ⟨e, d, h1, h2, h3⟩
 ·exact .inl ⟨s', p, h1, hp _ h2, h3⟩
 ·exact .inr ⟨e, d, hp _ h1, h2, h3.mono hk⟩
theorem row4_ret {c : PCtx} (s : PSt) (h1 : RC c 95 [] .unary s) : RC c 74 [.int .i64 4] .unary s := by
 intro w X hX h; refine Rte Tryz.func74 Tryz.ntmps74 ?_; refine Sa ?_; refine Lc0 rfl rfl (h1 w X hX h) ?_; rintro v w1 ⟨z, rfl, hf, hr⟩; refine Sa ?_; exact QW.body1 Tryz.results74 rfl ⟨z, rfl, hf, hr⟩
def RI (c : PCtx) (X : List Nat) (n : Nat) (s : PSt) (w0 : World) (sb kb : Nat) (k : (PSt × Nat) ⊕ (Int × Int × Int)) (w' : World) : Prop :=
 Fq w0 w' ∧ Blk w' sb ((signsN n).map str) 9 ∧ Blk w' kb (icells (kindsN n)) 3 ∧ match k with
 | .inl (t, a) => s.at_ < t.at_ ∧ t.deep = s.deep ∧ s.at_ + t.out.length ≤ t.at_ + s.out.length ∧ Rq c X w' t ∧ ∀ r, PE c.T (.loop n a) t r → PE c.T (.lev n) s r
 | .inr (e, d, _) => PE c.T (.lev n) s (.err e) ∧ (d = (s.deep : Int) ∨ d = s.deep - 1) ∧ Re c w' e d (kc (.lev n) s.deep)
def zI : (PSt × Nat) ⊕ (Int × Int × Int) → Int
 | .inl (_, a) => (a : Int)
 | .inr (_, _, z) => z
def mI (L : Nat) : (PSt × Nat) ⊕ (Int × Int × Int) → Nat
 | .inl (t, _) => L - t.at_ + 1
 | .inr _ => 0
def RJ (c : PCtx) (X : List Nat) (n : Nat) (t : PSt) (w0 : World) (k : Nat ⊕ Nat) (w' : World) : Prop := match k with
 | .inl j => j ≤ (signsN n).length ∧ Ext w0 w' ∧ ∀ i, i < j → isS c.T t ((signsN n).getD i []) = false
 | .inr i => i < (signsN n).length ∧ opIx c.T t n = some i ∧ Rq c X w' (adv t) ∧ Fq w0 w'
def kJ (n : Nat) : Nat ⊕ Nat → Int
 | .inl _ => 0
 | .inr i => (kindsN n).getD i 0
def jJ : Nat ⊕ Nat → Int
 | .inl j => j
 | .inr i => (i : Int) + 1
def mJ (L : Nat) : Nat ⊕ Nat → Nat
 | .inl j => L - j + 1
 | .inr _ => 0
theorem kinds_pos {n i : Nat} (h : i < (kindsN n).length) : (kindsN n).getD i 0 ≠ 0 := by
 match n with
 | 0 =>
  have : ∀ i, i < (kindsN 0).length → (kindsN 0).getD i 0 ≠ 0 := by decide
  exact this i h
 | 1 =>
  have : ∀ i, i < (kindsN 1).length → (kindsN 1).getD i 0 ≠ 0 := by decide
  exact this i h
 | 2 =>
  have : ∀ i, i < (kindsN 2).length → (kindsN 2).getD i 0 ≠ 0 := by decide
  exact this i h
 | n + 3 =>
  have : ∀ i, i < (kindsN 3).length → (kindsN 3).getD i 0 ≠ 0 := by decide
  exact this i h
theorem op_some {T : List TokD} {t : PSt} {n i : Nat} (hi : i < (signsN n).length) (hn : ∀ j, j < i → isS T t ((signsN n).getD j []) = false) (h : isS T t ((signsN n).getD i []) = true) : opIx T t n = some i := by
 obtain ⟨h1, h2⟩ := isS_kind h; rw [opIx, if_pos h1]; refine findIdx_first _ [] _ i hi (fun j hj => ?_) (by simp [h2]); have := hn j hj
 simpa [isS, h1, eq_comm] using this
theorem op_no {T : List TokD} {t : PSt} {n : Nat} (hn : ∀ j, j < (signsN n).length → isS T t ((signsN n).getD j []) = false) : opIx T t n = none := by
 unfold opIx
 split
 ·rename_i h1; refine findIdx_none _ [] _ (fun j hj => ?_); have := hn j hj
  simpa [isS, h1, eq_comm] using this
 ·rfl
theorem row_ret {c : PCtx} (hc : c.Ok) (n : Nat) (hn : n < 4) (s : PSt) (h1 : RC c 74 [.int .i64 ((n : Int) + 1)] (below n) s) (h2 : ∀ s', s.at_ < s'.at_ → s'.deep = s.deep → RC c 74 [.int .i64 ((n : Int) + 1)] (below n) s') :
  RC c 74 [.int .i64 (n : Int)] (.lev n) s := by
 intro w X hX h; have hlen := hc.len; have hl0 := h.len; obtain ⟨hl1, hl2⟩ := lens n; have hkb := kc_below hn s.deep; have hkl := kc_le (.lev n) s.deep; refine Rte Tryz.func74 Tryz.ntmps74 ?_; refine Sa ?_; refine CW.no rfl (by simp; omega) ?_; refine Sa ?_; refine Lc0 rfl rfl (h1 w X hX h) ?_; rintro v w1 ⟨z, rfl, hf, hres⟩; refine Sa ?_; refine Lc0 rfl rfl (level_ret n hn w1) ?_; rintro v w2 ⟨sb, kb, rfl, hsb, hkb2, hx2⟩; obtain ⟨k0, hz0, hI0⟩ : ∃ k0, zI k0 = z ∧ RI c X n s w sb kb k0 w2 := by
  rcases hres with ⟨t, p, rfl, hp, hr, g1, g2, g3⟩ | ⟨e, d, hp, hd, hr⟩
  ·exact ⟨.inl (t, p), rfl, hf.trans (.ext hx2), hsb, hkb2, g1, g2, g3, hr.ext hx2, fun r hl => .lev_ok hp hl⟩
  ·exact ⟨.inr (e, d, z), rfl, hf.trans (.ext hx2), hsb, hkb2, .lev_err hp, hd, (hr.ext hx2).mono (by omega)⟩
 subst hz0; refine Sa ?_; refine CW.loop (ι := (PSt × Nat) ⊕ (Int × Int × Int)) (RI c X n s w sb kb) (fun k => [(0, .pointer (some ⟨c.rb, 0, none⟩)), (1, .int .i64 (n : Int)), (5, .int .i64 (zI k)), (6, .slice (some ⟨sb, 0, none⟩) (signsN n).length (signsN n).length), (7, .slice (some ⟨kb, 0, none⟩) (kindsN n).length (kindsN n).length)]) (mI c.T.length) k0 hI0 Sub5 ?_; clear hI0 k0 hres hf hsb hkb2 hx2 w1 w2; rintro (⟨t, a⟩ | ⟨e, d, z⟩) w2 ⟨hf, hsb, hkb2, hI⟩; rotate_left
 ·obtain ⟨hp, hd, hr⟩ := hI; have hr0 := hr; obtain ⟨h0, he, i, outv, m, xs, hB, ho, hle⟩ := hr; refine Sa ?_; refine CW.no rfl (by simp [he]) ?_; refine Sa ?_; exact QW.body1 Tryz.results74 rfl ⟨z, rfl, hf, .inr ⟨e, d, hp, hd, hr0⟩⟩
 obtain ⟨g1, g2, g3, hr, hcont⟩ := hI; have hl3 := hr.len; have hB := hr.2.2.2.2; obtain ⟨outv, nvs, hB, _⟩ := hB; refine Sa ?_
 try refine CW.yes rfl (by simp) ?_
 refine Sa ?_; refine CW.loop (ι := Nat ⊕ Nat) (RJ c X n t w2) (fun k => [(0, .pointer (some ⟨c.rb, 0, none⟩)), (1, .int .i64 (n : Int)), (5, .int .i64 (a : Int)), (6, .slice (some ⟨sb, 0, none⟩) (signsN n).length (signsN n).length), (7, .slice (some ⟨kb, 0, none⟩) (kindsN n).length (kindsN n).length), (8, .int .i64 (kJ n k)), (9, .int .i64 (jJ k))]) (mJ (signsN n).length) (.inl 0) ⟨by omega, Chg.refl _ _, by omega⟩ Sub7 ?_; rintro (j | i) w3 hJ
 ·obtain ⟨hj, hx3, hall⟩ := hJ; replace hsb := hsb.ext hx3; replace hkb2 := hkb2.ext hx3; replace hr := hr.ext hx3; replace hf := hf.trans (.ext hx3); show CW _ _ _ _ _ [(0, .pointer (some ⟨c.rb, 0, none⟩)), (1, .int .i64 (n : Int)), (5, .int .i64 (a : Int)), (6, .slice (some ⟨sb, 0, none⟩) (signsN n).length (signsN n).length), (7, .slice (some ⟨kb, 0, none⟩) (kindsN n).length (kindsN n).length), (8, .int .i64 0), (9, .int .i64 (j : Int))] _; refine Sa ?_; refine Lwp (fun h3 => ?_) fun h3 => ?_
  ·have h3 : j < (signsN n).length := by simp at h3; omega
   have hv : ((signsN n).map str)[j]? = some (str ((signsN n).getD j [])) := by simp [List.getD_eq_getElem?_getD, List.getElem?_eq_getElem h3]
   refine Sa ?_
   try refine CW.yes rfl (by simp) ?_
   refine Sa ?_; refine LW.idx_slice (j := j) rfl rfl rfl rfl rfl (by omega) (by omega) (by show 0 + _ * 1 = _; omega) rfl ?_; refine LW.load rfl hsb hv rfl rfl rfl ?_; refine Sa ?_; refine Lc0 rfl rfl (is_ok hc hr ((signsN n).getD j [])) ?_; rintro v w4 ⟨rfl, hx4⟩; replace hkb2 := hkb2.ext hx4; replace hr := hr.ext hx4; refine Sa ?_; refine Cwc (fun h4 => ?_) fun h4 => ?_
   ·have h4 : isS c.T t ((signsN n).getD j []) = true := h4; have hkv : (icells (kindsN n))[j]? = some (.int .i64 ((kindsN n).getD j 0)) := by simp [icells, List.getD_eq_getElem?_getD, List.getElem?_eq_getElem (show j < (kindsN n).length by omega)]
    obtain ⟨a0, a1, a2, a3, outv, nvs, hB, ho, hm, hk⟩ := hr; have hnx := rd_next hc a1 (by rw [(isS_kind h4).1]; decide); have hB0 := hB; refine Sa ?_; refine LW.idx_slice (j := j) rfl rfl rfl rfl rfl (by omega) (by omega) (by show 0 + _ * 1 = _; omega) rfl ?_; refine LW.load rfl hkb2 hkv rfl rfl rfl ?_; refine Sa ?_; refine Lwt fun w5 hc5 hB => ?_; replace hB : Blk w5 c.rb [c.tokv, .int .i64 (adv t).at_, .int .i64 (adv t).deep, .int .i64 0, outv] 95 := hB; obtain ⟨hr5, hf5⟩ := Rq.set hc (s := t) (s' := adv t) a0 ho hm hk hB0 hc5 hB rfl hnx a2 (by show t.out.length ≤ t.at_ + 1; omega); refine Sa ?_; exact QW.again (.inr j) ⟨h3, op_some h3 hall h4, hr5, ((Fq.ext hx3).trans (.ext hx4)).trans hf5⟩ Sub7 (by simp [mJ])
   ·have h4 : isS c.T t ((signsN n).getD j []) = false := h4; refine Sa ?_; refine QW.again (.inl (j + 1)) ⟨by omega, hx3.trans hx4, fun i hi => ?_⟩ Sub7 (by simp [mJ]; omega); by_cases e : i = j
    ·subst e; exact h4
    ·exact hall i (by omega)
  ·have h3 : j = (signsN n).length := by simp at h3; omega
   subst h3; have hop := op_no hall; refine Sa ?_
   try refine CW.yes rfl (by simp) ?_
   refine Sa ?_; exact QW.body1 Tryz.results74 rfl ⟨a, rfl, hf, .inl ⟨t, a, rfl, hcont _ (.loop_end hop), hr, g1, g2, g3⟩⟩
 ·obtain ⟨hi, hop, hr3, hf3⟩ := hJ; have hkp := kinds_pos (show i < (kindsN n).length by omega); replace hsb := hf3.blk _ _ _ hsb (by decide) (by decide); replace hkb2 := hf3.blk _ _ _ hkb2 (by decide) (by decide); replace hf := hf.trans hf3; show CW _ _ _ _ _ [(0, .pointer (some ⟨c.rb, 0, none⟩)), (1, .int .i64 (n : Int)), (5, .int .i64 (a : Int)), (6, .slice (some ⟨sb, 0, none⟩) (signsN n).length (signsN n).length), (7, .slice (some ⟨kb, 0, none⟩) (kindsN n).length (kindsN n).length), (8, .int .i64 ((kindsN n).getD i 0)), (9, .int .i64 ((i : Int) + 1))] _; refine Sa ?_; refine Lwp (fun h3 => ?_) fun h3 => ?_
  ·refine Sa ?_; refine CW.no rfl (decide_eq_false hkp) ?_; refine Sa ?_; refine CW.no rfl (decide_eq_false hkp) ?_; refine Sa ?_; refine Lc0 rfl rfl (h2 (adv t) (by show s.at_ < t.at_ + 1; omega) g2 w3 X (fun b hb => Nat.lt_of_lt_of_le (hX b hb) hf.size) hr3) ?_; rintro v w8 ⟨z, rfl, hf8, hres⟩; replace hf := hf.trans hf8; replace hsb := hf8.blk _ _ _ hsb (by decide) (by decide); replace hkb2 := hf8.blk _ _ _ hkb2 (by decide) (by decide); have hz8 := hf.size; refine Sa ?_; refine Lwl fun K w9 hbK hx9 hK => ?_; replace hK : Blk w9 K (icells [(a : Int), z]) 3 := hK; replace hf := hf.trans (.ext hx9); replace hsb := hsb.ext hx9; replace hkb2 := hkb2.ext hx9; rcases hres with ⟨s1, b, rfl, hp, hr8, k1, k2, k3⟩ | ⟨e, d, hp, hd, hr8⟩
   ·have k1' : t.at_ + 1 < s1.at_ := k1; have k3' : t.at_ + 1 + s1.out.length ≤ s1.at_ + t.out.length := k3; refine Sa ?_; refine LW.call0 (vs := [.pointer (some ⟨c.rb, 0, none⟩), .agg ⟨nvL ⟨{ kind := (kindsN n).getD i 0, kids := [(a : Int), (b : Int)] }, .slice (some ⟨K, 0, none⟩) 2 2⟩⟩]) rfl rfl (rput_ok hc (hr8.ext hx9) ⟨{ kind := (kindsN n).getD i 0, kids := [(a : Int), (b : Int)] }, .slice (some ⟨K, 0, none⟩) 2 2⟩ (.inr ⟨K, 2, [], rfl, by rw [List.append_nil]; exact hK⟩) (fun b hb hbX => by
     have h3 := hX b hbX; simp [vblk] at hb; omega) (by omega)) ?_
    rintro v w10 ⟨rfl, hr10, hf10⟩; refine Sa ?_; refine QW.again (.inl (putS s1 { kind := (kindsN n).getD i 0, kids := [(a : Int), (b : Int)] }, s1.out.length)) ⟨hf.trans hf10, hf10.blk _ _ _ hsb (by decide) (by decide), hf10.blk _ _ _ hkb2 (by decide) (by decide), by show s.at_ < s1.at_; omega, k2.trans g2, by simp [putS]; omega, hr10, fun r hl => hcont r (.loop_go hop hp hl)⟩ Sub5 (by show c.T.length - s1.at_ + 1 < c.T.length - t.at_ + 1; omega)
   ·have hd' : d = (s.deep : Int) ∨ d = s.deep - 1 := by rw [← g2]; exact hd
    have hk' : kc (below n) (adv t).deep + 1 ≤ kc (.lev n) s.deep := by rw [show (adv t).deep = s.deep from g2]; exact hkb
    refine Sa ?_; refine LW.call0 (vs := [.pointer (some ⟨c.rb, 0, none⟩), .agg ⟨nvL ⟨{ kind := (kindsN n).getD i 0, kids := [(a : Int), z] }, .slice (some ⟨K, 0, none⟩) 2 2⟩⟩]) rfl rfl (rput_bad hc (hr8.ext hx9) (by omega) ⟨{ kind := (kindsN n).getD i 0, kids := [(a : Int), z] }, .slice (some ⟨K, 0, none⟩) 2 2⟩ rfl) ?_; rintro v w10 ⟨⟨y, rfl⟩, hr10, hf10⟩; refine Sa ?_; exact QW.again (.inr (e, d, y)) ⟨hf.trans hf10, hf10.blk _ _ _ hsb (by decide) (by decide), hf10.blk _ _ _ hkb2 (by decide) (by decide), hcont _ (.loop_err hop hp), hd', hr10.mono hk'⟩ Sub5 (by show 0 < _ + 1; omega)
  ·refine Sa ?_; refine Sa ?_; refine CW.no rfl (decide_eq_false hkp) ?_; refine Sa ?_; refine Lc0 rfl rfl (h2 (adv t) (by show s.at_ < t.at_ + 1; omega) g2 w3 X (fun b hb => Nat.lt_of_lt_of_le (hX b hb) hf.size) hr3) ?_; rintro v w8 ⟨z, rfl, hf8, hres⟩; replace hf := hf.trans hf8; replace hsb := hf8.blk _ _ _ hsb (by decide) (by decide); replace hkb2 := hf8.blk _ _ _ hkb2 (by decide) (by decide); have hz8 := hf.size; refine Sa ?_; refine Lwl fun K w9 hbK hx9 hK => ?_; replace hK : Blk w9 K (icells [(a : Int), z]) 3 := hK; replace hf := hf.trans (.ext hx9); replace hsb := hsb.ext hx9; replace hkb2 := hkb2.ext hx9; rcases hres with ⟨s1, b, rfl, hp, hr8, k1, k2, k3⟩ | ⟨e, d, hp, hd, hr8⟩
   ·have k1' : t.at_ + 1 < s1.at_ := k1; have k3' : t.at_ + 1 + s1.out.length ≤ s1.at_ + t.out.length := k3; refine Sa ?_; refine LW.call0 (vs := [.pointer (some ⟨c.rb, 0, none⟩), .agg ⟨nvL ⟨{ kind := (kindsN n).getD i 0, kids := [(a : Int), (b : Int)] }, .slice (some ⟨K, 0, none⟩) 2 2⟩⟩]) rfl rfl (rput_ok hc (hr8.ext hx9) ⟨{ kind := (kindsN n).getD i 0, kids := [(a : Int), (b : Int)] }, .slice (some ⟨K, 0, none⟩) 2 2⟩ (.inr ⟨K, 2, [], rfl, by rw [List.append_nil]; exact hK⟩) (fun b hb hbX => by
     have h3 := hX b hbX; simp [vblk] at hb; omega) (by omega)) ?_
    rintro v w10 ⟨rfl, hr10, hf10⟩; refine Sa ?_; refine QW.again (.inl (putS s1 { kind := (kindsN n).getD i 0, kids := [(a : Int), (b : Int)] }, s1.out.length)) ⟨hf.trans hf10, hf10.blk _ _ _ hsb (by decide) (by decide), hf10.blk _ _ _ hkb2 (by decide) (by decide), by show s.at_ < s1.at_; omega, k2.trans g2, by simp [putS]; omega, hr10, fun r hl => hcont r (.loop_go hop hp hl)⟩ Sub5 (by show c.T.length - s1.at_ + 1 < c.T.length - t.at_ + 1; omega)
   ·have hd' : d = (s.deep : Int) ∨ d = s.deep - 1 := by rw [← g2]; exact hd
    have hk' : kc (below n) (adv t).deep + 1 ≤ kc (.lev n) s.deep := by rw [show (adv t).deep = s.deep from g2]; exact hkb
    refine Sa ?_; refine LW.call0 (vs := [.pointer (some ⟨c.rb, 0, none⟩), .agg ⟨nvL ⟨{ kind := (kindsN n).getD i 0, kids := [(a : Int), z] }, .slice (some ⟨K, 0, none⟩) 2 2⟩⟩]) rfl rfl (rput_bad hc (hr8.ext hx9) (by omega) ⟨{ kind := (kindsN n).getD i 0, kids := [(a : Int), z] }, .slice (some ⟨K, 0, none⟩) 2 2⟩ rfl) ?_; rintro v w10 ⟨⟨y, rfl⟩, hr10, hf10⟩; refine Sa ?_; exact QW.again (.inr (e, d, y)) ⟨hf.trans hf10, hf10.blk _ _ _ hsb (by decide) (by decide), hf10.blk _ _ _ hkb2 (by decide) (by decide), hcont _ (.loop_err hop hp), hd', hr10.mono hk'⟩ Sub5 (by show 0 < _ + 1; omega)
theorem runary_ret {c : PCtx} (hc : c.Ok) (s : PSt) (h1 : RC c 129 [] .prim s) (h2 : ∀ s', s.at_ < s'.at_ → RC c 95 [] .unary s') : RC c 95 [] .unary s := by
 intro w X hX h; have hlen := hc.len; have hl := h.len; refine Rte Tryz.func95 Tryz.ntmps95 ?_; refine Sa ?_; refine Lc0 rfl rfl (is_ok hc h [45]) ?_; rintro v w1 ⟨rfl, hx1⟩; replace h := h.ext hx1; replace hX : ∀ b ∈ X, b < w1.heap.size := fun b hb => Nat.lt_of_lt_of_le (hX b hb) hx1.size; refine Sa ?_; refine Cwc (fun hi => ?_) fun hi => ?_
 ·have hi : isS c.T s [45] = false := by simpa using hi
  refine Sa ?_; refine Lc0 rfl rfl (h1 w1 X hX h) ?_; rintro v w2 ⟨z, rfl, hf, hr⟩; refine Sa ?_; exact QW.body1 Tryz.results95 rfl ⟨z, rfl, (Fq.ext hx1).trans hf, rx_map hr (fun r hp => .un_prim hi hp) (Nat.le_refl _)⟩
 have hi : isS c.T s [45] = true := by simpa using hi
 refine Sa ?_; refine Lc0 rfl rfl (ropen_ok hc h (by rw [(isS_kind hi).1]; decide)) ?_; rintro v w2 ⟨rfl, hf, ⟨hd, hr⟩ | ⟨hd, hr⟩⟩; rotate_left
 ·have hr0 := hr; obtain ⟨h0, he, i, outv, m, xs, hB, ho, hle⟩ := hr; refine Sa ?_; exact QW.body1 Tryz.results95 rfl ⟨0, rfl, (Fq.ext hx1).trans hf, .inr ⟨6, s.deep, .un_deep hi hd, .inl rfl, hr0.mono (by have := kc_le .unary s.deep; omega)⟩⟩
 have hr0 := hr; obtain ⟨a0, a1, a2, a3, outv, nvs, hB, ho, hm, hk⟩ := hr; refine Sa ?_; refine Lc0 rfl rfl (h2 (deeper (adv s)) (by show s.at_ < s.at_ + 1; omega) w2 X (fun b hb => Nat.lt_of_lt_of_le (hX b hb) hf.size) hr0) ?_; rintro v w3 ⟨z, rfl, hf3, hres⟩; clear hB ho hm hk outv nvs; have hff := ((Fq.ext hx1).trans hf).trans hf3; have hz3 := (hf.trans hf3).size; rcases hres with ⟨s1, a, rfl, hp, hr, g1, g2, g3⟩ | ⟨e, d, hp, hdd, hr⟩
 ·have g1' : s.at_ + 1 < s1.at_ := g1; have g2' : s1.deep = s.deep + 1 := g2; have g3' : s.at_ + 1 + s1.out.length ≤ s1.at_ + s.out.length := g3; obtain ⟨a0, a1, a2, a3, outv, nvs, hB, ho, hm, hk⟩ := hr; have hB0 := hB; refine Sa ?_; refine Lwt fun w4 hc4 hB => ?_; have e4 : (s1.deep : Int) - 1 = (((upper s1).deep : Nat) : Int) := by show (s1.deep : Int) - 1 = ((s1.deep - 1 : Nat) : Int); omega
  replace hB : Blk w4 c.rb [c.tokv, .int .i64 s1.at_, .int .i64 ((s1.deep : Int) - 1), .int .i64 0, outv] 95 := hB; rw [e4] at hB; obtain ⟨hr4, hf4⟩ := Rq.set hc (s := s1) (s' := upper s1) a0 ho hm hk hB0 hc4 hB rfl a1 (by show s1.deep - 1 ≤ 12; omega) a3; have hz4 := hf4.size; refine Sa ?_; refine Lwl fun K w5 hbK hx5 hK => ?_; replace hK : Blk w5 K (icells [(a : Int)]) 3 := hK; refine Sa ?_; refine LW.call0 (vs := [.pointer (some ⟨c.rb, 0, none⟩), .agg ⟨nvL ⟨{ kind := 8, kids := [(a : Int)] }, .slice (some ⟨K, 0, none⟩) 1 1⟩⟩]) rfl rfl (rput_ok hc (hr4.ext hx5) ⟨{ kind := 8, kids := [(a : Int)] }, .slice (some ⟨K, 0, none⟩) 1 1⟩ (.inr ⟨K, 1, [], rfl, by rw [List.append_nil]; exact hK⟩) (fun b hb hbX => by
   have h3 := hX b hbX; simp [vblk] at hb; omega) (by show s1.out.length + 1 ≤ s1.at_; omega)) ?_
  rintro v w6 ⟨rfl, hr6, hf6⟩; refine Sa ?_; exact QW.body1 Tryz.results95 rfl ⟨_, rfl, ((hff.trans hf4).trans (.ext hx5)).trans hf6, .inl ⟨putS (upper s1) { kind := 8, kids := [(a : Int)] }, s1.out.length, rfl, .un_ok hi hd hp, hr6, by show s.at_ < s1.at_; omega, by show s1.deep - 1 = s.deep; omega, by simp [putS, upper]; omega⟩⟩
 ·have hdd : d = ((s.deep + 1 : Nat) : Int) ∨ d = ((s.deep + 1 : Nat) : Int) - 1 := hdd; obtain ⟨h0, he, i, outv, m, xs, hB, ho, hle⟩ := hr; have hB0 := hB; have hkk : kc .unary (deeper (adv s)).deep + 1 ≤ kc .unary s.deep := by
   show 400 + 6 * (12 - (s.deep + 1)) + 0 + 1 ≤ 400 + 6 * (12 - s.deep) + 0; omega
  refine Sa ?_; refine Lwt fun w4 hc4 hB => ?_; replace hB : Blk w4 c.rb [c.tokv, .int .i64 i, .int .i64 (d - 1), .int .i64 e, outv] 95 := hB; obtain ⟨hr4, hf4⟩ := Re.set hc h0 ho hB0 hc4 he hB hle; refine Sa ?_; refine Lwl fun K w5 hbK hx5 hK => ?_; refine Sa ?_; refine LW.call0 (vs := [.pointer (some ⟨c.rb, 0, none⟩), .agg ⟨nvL ⟨{ kind := 8, kids := [z] }, .slice (some ⟨K, 0, none⟩) 1 1⟩⟩]) rfl rfl (rput_bad hc (hr4.ext hx5) (by have := kc_le .unary (deeper (adv s)).deep; omega) ⟨{ kind := 8, kids := [z] }, .slice (some ⟨K, 0, none⟩) 1 1⟩ rfl) ?_; rintro v w6 ⟨⟨y, rfl⟩, hr6, hf6⟩; refine Sa ?_; exact QW.body1 Tryz.results95 rfl ⟨y, rfl, ((hff.trans hf4).trans (.ext hx5)).trans hf6, .inr ⟨e, d - 1, .un_err hi hd hp, by omega, hr6.mono hkk⟩⟩
theorem rput0_ok {c : PCtx} {X : List Nat} (hc : c.Ok) {w : World} {s : PSt} (h : Rq c X w s) (n : NodeD) (hn : n.kids = []) (hs : s.out.length + 1 ≤ s.at_) : Ret Tryz.prog 98 [.pointer (some ⟨c.rb, 0, none⟩), .agg ⟨nvL ⟨n, .slice none 0 0⟩⟩] w
  (fun v w' => v = .int .i64 s.out.length ∧ Rq c X w' (putS s n) ∧ Fq w w') :=
 rput_ok hc h ⟨n, .slice none 0 0⟩ (.inl ⟨rfl, hn⟩) (by simp [vblk]) hs
theorem rref_ret {c : PCtx} {X : List Nat} (hc : c.Ok) (s : PSt) (hk4 : (tokAt c.T s).kind = 4) (w : World) (h : Rq c X w s) :
  Ret Tryz.prog 167 [.pointer (some ⟨c.rb, 0, none⟩), .agg ⟨refL (tokAt c.T s).ref⟩] w (fun v w' => ∃ z, v = .int .i64 z ∧ Fq w w' ∧ (RG c X .prim s w' z ∨ RB c .prim s w')) := by
 have hlen := hc.len; have hl := h.len; obtain ⟨a0, a1, a2, a3, outv, nvs, hB, ho, hm, hk⟩ := h; have hnx := rd_next hc a1 (by omega); refine Rte Tryz.func167 Tryz.ntmps167 ?_; refine Sa ?_; refine Lwb fun A w1 hbA hx1 hA => ?_; replace hA : Blk w1 A (refL (tokAt c.T s).ref) 98 := hA; have h1 : Rq c X w1 s := Rq.ext ⟨a0, a1, a2, a3, outv, nvs, hB, ho, hm, hk⟩ hx1; obtain ⟨a0, a1, a2, a3, outv, nvs, hB, ho, hm, hk⟩ := h1; have hB0 := hB; refine Sa ?_; refine Lwt fun w2 hc2 hB => ?_; replace hB : Blk w2 c.rb [c.tokv, .int .i64 (adv s).at_, .int .i64 (adv s).deep, .int .i64 0, outv] 95 := hB; obtain ⟨h2, hf2⟩ := Rq.set hc (s := s) (s' := adv s) a0 ho hm hk hB0 hc2 hB rfl hnx a2 (by show s.out.length ≤ s.at_ + 1; omega); replace hA := hf2.blk _ _ _ hA (by decide) (by decide); have hf := (Fq.ext hx1).trans hf2; refine Sa ?_; refine Lc0 rfl rfl (is_ok hc h2 [58]) ?_; rintro v w3 ⟨rfl, hx3⟩; replace h2 := h2.ext hx3; replace hA := hA.ext hx3; replace hf := hf.trans (.ext hx3); refine Sa ?_; refine Cwc (fun hi => ?_) fun hi => ?_
 ·have hi : isS c.T (adv s) [58] = false := by simpa using hi
  refine Sa ?_; refine LW.call0 (vs := [.pointer (some ⟨c.rb, 0, none⟩), .agg ⟨nvL ⟨{ kind := 5, ref := (tokAt c.T s).ref }, .slice none 0 0⟩⟩]) rfl rfl (rput0_ok hc h2 { kind := 5, ref := (tokAt c.T s).ref } rfl (by show s.out.length + 1 ≤ s.at_ + 1; omega)) ?_; rintro v w4 ⟨rfl, hr, hf4⟩; refine Sa ?_; exact QW.body1 Tryz.results167 rfl ⟨_, rfl, hf.trans hf4, .inl ⟨_, _, rfl, .pr_ref hk4 hi, hr, by show s.at_ < s.at_ + 1; omega, rfl, by simp [putS, adv]; omega⟩⟩
 have hi : isS c.T (adv s) [58] = true := by simpa using hi
 obtain ⟨a0, a1, a2, a3, outv, nvs, hB, ho, hm, hk⟩ := h2; have hnx2 := rd_next hc a1 (by rw [(isS_kind hi).1]; decide); have hnx3 : s.at_ + 1 + 1 < c.T.length := hnx2; have hB0 := hB; refine Sa ?_; refine Lwt fun w4 hc4 hB => ?_; replace hB : Blk w4 c.rb [c.tokv, .int .i64 (adv (adv s)).at_, .int .i64 (adv (adv s)).deep, .int .i64 0, outv] 95 := hB; obtain ⟨h4, hf4⟩ := Rq.set hc (s := adv s) (s' := adv (adv s)) a0 ho hm hk hB0 hc4 hB rfl hnx2 a2 (by show s.out.length ≤ s.at_ + 1 + 1; omega); replace hA := hf4.blk _ _ _ hA (by decide) (by decide); replace hf := hf.trans hf4; have hh4 := h4; obtain ⟨a0, a1, a2, a3, outv, nvs, hB, ho, hm, hk⟩ := h4; have hT := hc.tok.ext a0; have hg : c.T[(adv (adv s)).at_]? = some (tokAt c.T (adv (adv s))) := by simp only [tokAt, List.getD_eq_getElem?_getD, List.getElem?_eq_getElem a1, Option.getD_some]
 unfold PCtx.tokv at hB; refine Sa ?_; refine CW.drawHeld (fun w' => Ext w4 w') (fun w' h => h) (by kernel_rfl) fun w5 hx5 => ?_; refine Sh ?_; refine HW.take 8 rfl rfl rfl rfl (fun w _ => Y.gs rfl ⟨by omega, by show (((s.at_ + 1 + 1 : Nat) : Int)) < _; omega⟩) rfl (by kernel_rfl) (by kernel_rfl) (by kernel_rfl) (fun _ _ _ h => h) ?_; refine HW.take 9 rfl rfl rfl rfl (fun w hw => Y.load_agg (cs := tokL (tokAt c.T (adv (adv s)))) (i := 0 + (adv (adv s)).at_ * 9) rfl (hT.ext hw) rfl rfl rfl (by rw [Nat.zero_add]; exact flat_agg tok_len hg)) rfl (by kernel_rfl) (by kernel_rfl) (by kernel_rfl) (fun _ _ _ h => h) ?_; refine HW.one 10 (by kernel_rfl) rfl rfl (fun hS => ?_); refine Lwa fun R w6 hbR hx6 hR => ?_; apply LW.nil; refine QW.held (hS.trans hx6) ?_; refine HW.one 11 (by kernel_rfl) rfl rfl (fun hS => ?_); refine Lws fun w7 hc7 hR => ?_; replace hR : Blk w7 R (tokL (tokAt c.T (adv (adv s)))) 100 := hR; have hx7 : Ext w4 w7 := (hx5.trans hx6).step hc7 (by simp; have := hx5.size; omega); apply LW.nil; refine QW.held hx7 ?_; refine HW.done (by kernel_rfl) ?_; replace hh4 := hh4.ext hx7; replace hA := hA.ext hx7; replace hf := hf.trans (.ext hx7); refine Sa ?_; have fin : ((tokAt c.T (adv (adv s))).kind ≠ 4 ∨ rangesB (tokAt c.T s).ref (tokAt c.T (adv (adv s))).ref = false) → ∀ w8, Re c w8 5 (adv (adv s)).deep (adv (adv s)).out.length → RG c X .prim s w8 0 ∨ RB c .prim s w8 := fun hn w8 hr =>
  .inr ⟨5, s.deep, .pr_norange hk4 hi hn, .inl rfl, Re.mono hr (by have := kc_le .prim s.deep; show s.out.length ≤ _; omega)⟩
 refine Lwp (fun h5 => ?_) fun h5 => ?_
 ·have h5 : (tokAt c.T (adv (adv s))).kind ≠ 4 := by simpa using h5
  refine Sa ?_; refine Lc0 rfl rfl (rfail_ok hc hh4 5 (by decide)) ?_; rintro v w8 ⟨rfl, hr, hf8⟩; refine Sa ?_; exact QW.body1 Tryz.results167 rfl ⟨0, rfl, hf.trans hf8, fin (.inl h5) _ hr⟩
 have h5 : (tokAt c.T (adv (adv s))).kind = 4 := by simpa using h5
 refine Sa ?_; refine LW.load_agg (cs := refL (tokAt c.T (adv (adv s))).ref) rfl hR rfl rfl rfl ⟨rfl, rfl, rfl, rfl, rfl, trivial⟩ rfl ?_; refine Sa ?_; refine Lc0 rfl rfl (span_ret (tokAt c.T s).ref (tokAt c.T (adv (adv s))).ref w7) ?_; rintro v w8 ⟨rfl, hx8⟩; replace hh4 := hh4.ext hx8; replace hA := hA.ext hx8; replace hR := hR.ext hx8; replace hf := hf.trans (.ext hx8); refine Sa ?_; refine Cwc (fun h6 => ?_) fun h6 => ?_
 ·have h6 : rangesB (tokAt c.T s).ref (tokAt c.T (adv (adv s))).ref = false := by simpa using h6
  refine Sa ?_; refine Lc0 rfl rfl (rfail_ok hc hh4 5 (by decide)) ?_; rintro v w9 ⟨rfl, hr, hf9⟩; refine Sa ?_; exact QW.body1 Tryz.results167 rfl ⟨0, rfl, hf.trans hf9, fin (.inr h6) _ hr⟩
 have h6 : rangesB (tokAt c.T s).ref (tokAt c.T (adv (adv s))).ref = true := by simpa using h6
 obtain ⟨a0, a1, a2, a3, outv, nvs, hB, ho, hm, hk⟩ := hh4; have hnx4 := rd_next hc a1 (by rw [h5]; decide); have hB0 := hB; refine Sa ?_; refine Lwt fun w9 hc9 hB => ?_; replace hB : Blk w9 c.rb [c.tokv, .int .i64 (adv (adv (adv s))).at_, .int .i64 (adv (adv (adv s))).deep, .int .i64 0, outv] 95 := hB; obtain ⟨h9, hf9⟩ := Rq.set hc (s := adv (adv s)) (s' := adv (adv (adv s))) a0 ho hm hk hB0 hc9 hB rfl hnx4 a2 (by show s.out.length ≤ s.at_ + 1 + 1 + 1; omega); replace hA := hf9.blk _ _ _ hA (by decide) (by decide); replace hR := hf9.blk _ _ _ hR (by decide) (by decide); replace hf := hf.trans hf9; refine Sa ?_; refine LW.load_agg (cs := refL (tokAt c.T (adv (adv s))).ref) rfl hR rfl rfl rfl ⟨rfl, rfl, rfl, rfl, rfl, trivial⟩ rfl ?_; refine Sa ?_; refine LW.call0 (vs := [.pointer (some ⟨c.rb, 0, none⟩), .agg ⟨nvL ⟨{ kind := 6, ref := (tokAt c.T s).ref, to := (tokAt c.T (adv (adv s))).ref }, .slice none 0 0⟩⟩]) rfl rfl (rput0_ok hc h9 { kind := 6, ref := (tokAt c.T s).ref, to := (tokAt c.T (adv (adv s))).ref } rfl (by show s.out.length + 1 ≤ s.at_ + 1 + 1 + 1; omega)) ?_; rintro v w10 ⟨rfl, hr, hf10⟩; refine Sa ?_; exact QW.body1 Tryz.results167 rfl ⟨_, rfl, hf.trans hf10, .inl ⟨_, _, rfl, .pr_range hk4 hi h5 h6, hr, by show s.at_ < s.at_ + 1 + 1 + 1; omega, rfl, by simp [putS, adv]; omega⟩⟩
theorem Own.fq {w w' : World} {lo e size n : Nat} {v : Value} {xs : List Value} (h : Own w lo e size v n xs) (f : Fq w w') (h1 : e ≠ 95) (h2 : e ≠ 133) : Own w' lo e size v n xs := by
 obtain ⟨hl, h | ⟨g, cap, sp, rfl, hB, a1, a2, a3⟩⟩ := h
 ·exact ⟨hl, .inl h⟩
 ·exact ⟨hl, .inr ⟨g, cap, sp, rfl, f.blk _ _ _ hB h1 h2, a1, a2, a3⟩⟩
theorem Rq.grow {c : PCtx} {X X' : List Nat} {w : World} {s : PSt} (h : Rq c X w s) (hX : ∀ b ∈ X', b ∈ X ∨ w.heap.size ≤ b) : Rq c X' w s := by
 obtain ⟨h0, h1, h2, h3, outv, nvs, hB, ho, hm, hk⟩ := h; refine ⟨h0, h1, h2, h3, outv, nvs, hB, ho, hm, fun y hy => ⟨(hk y hy).1, fun b hb hbX => ?_⟩⟩; rcases hX b hbX with hx | hx
 ·exact (hk y hy).2 b hb hx
 ·rcases (hk y hy).1 with ⟨e, _⟩ | ⟨g, cap, sp, e, hg⟩
  ·rw [e] at hb; simp [vblk] at hb
  ·rw [e] at hb; simp [vblk] at hb; have := hg.lt; omega
theorem Rq.other {c : PCtx} {X S : List Nat} {w w' : World} {s : PSt} (h : Rq c X w s) (k : Chg S w w') (hS : ∀ b ∈ S, c.w0.heap.size ≤ b ∧ b ∈ X ∧ ∀ l T, Blk w b l T → T = 3) : Rq c X w' s := by
 obtain ⟨h0, h1, h2, h3, outv, nvs, hB, ho, hm, hk⟩ := h; refine ⟨h0.step k (fun b hb => (hS b hb).1), h1, h2, h3, outv, nvs, hB.chg k (fun hb => absurd ((hS _ hb).2.2 _ _ hB) (by decide)), ho.chg k (fun b hb hbS => ?_), hm, fun y hy => ⟨?_, (hk y hy).2⟩⟩
 ·obtain ⟨_, ⟨e, _⟩ | ⟨g, cap, sp, e, hg, _⟩⟩ := ho
  ·rw [e] at hb; simp [vblk] at hb
  ·rw [e] at hb; simp [vblk] at hb; subst hb; exact absurd ((hS _ hbS).2.2 _ _ hg) (by decide)
 ·rcases (hk y hy).1 with e | ⟨g, cap, sp, e, hg⟩
  ·exact .inl e
  ·exact .inr ⟨g, cap, sp, e, hg.chg k (fun hb => (hk y hy).2 g (by rw [e]; simp [vblk]) (hS _ hb).2.1)⟩
theorem Re.other {c : PCtx} {S : List Nat} {w w' : World} {e d : Int} {k : Nat} (h : Re c w e d k) (kk : Chg S w w') (hS : ∀ b ∈ S, c.w0.heap.size ≤ b ∧ ∀ l T, Blk w b l T → T = 3) : Re c w' e d k := by
 obtain ⟨h0, he, i, outv, n, xs, hB, ho, hn⟩ := h; refine ⟨h0.step kk (fun b hb => (hS b hb).1), he, i, outv, n, xs, hB.chg kk (fun hb => absurd ((hS _ hb).2 _ _ hB) (by decide)), ho.chg kk (fun b hb hbS => ?_), hn⟩; obtain ⟨_, ⟨e, _⟩ | ⟨g, cap, sp, e, hg, _⟩⟩ := ho
 ·rw [e] at hb; simp [vblk] at hb
 ·rw [e] at hb; simp [vblk] at hb; subst hb; exact absurd ((hS _ hbS).2 _ _ hg) (by decide)
theorem rname_ret {c : PCtx} (hc : c.Ok) (s : PSt) (hk3 : (tokAt c.T s).kind = 3) (hE : ∀ s', s.at_ < s'.at_ → RC c 74 [.int .i64 0] (.lev 0) s') (w : World) (X : List Nat) (hX : ∀ b ∈ X, b < w.heap.size) (h : Rq c X w s) :
  Ret Tryz.prog 168 [.pointer (some ⟨c.rb, 0, none⟩), str (tokAt c.T s).text] w (fun v w' => ∃ z, v = .int .i64 z ∧ Fq w w' ∧ (RG c X .prim s w' z ∨ RB c .prim s w')) := by
 have hlen := hc.len; have hl := h.len; have hw0 := h.1.size; have hkp := kc_le .prim s.deep; obtain ⟨a0, a1, a2, a3, outv, nvs, hB, ho, hm, hk⟩ := h; have hnx := rd_next hc a1 (by omega); have hB0 := hB; refine Rte Tryz.func168 Tryz.ntmps168 ?_; refine Sa ?_; refine Lwt fun w1 hc1 hB => ?_; replace hB : Blk w1 c.rb [c.tokv, .int .i64 (adv s).at_, .int .i64 (adv s).deep, .int .i64 0, outv] 95 := hB; obtain ⟨h1, hf⟩ := Rq.set hc (s := s) (s' := adv s) a0 ho hm hk hB0 hc1 hB rfl hnx a2 (by show s.out.length ≤ s.at_ + 1; omega); have hsl : (adv s).out.length + 1 ≤ (adv s).at_ := by show s.out.length + 1 ≤ s.at_ + 1; omega
 refine Sa ?_; refine Cwc (fun ht => ?_) fun ht => ?_
 ·have ht : (tokAt c.T s).text = trueT := of_decide_eq_true ht; refine Sa ?_; refine LW.call0 (vs := [.pointer (some ⟨c.rb, 0, none⟩), .agg ⟨nvL ⟨{ kind := 3, num := 1 }, .slice none 0 0⟩⟩]) rfl rfl (rput0_ok hc h1 { kind := 3, num := 1 } rfl hsl) ?_; rintro v w2 ⟨rfl, hr, hf2⟩; refine Sa ?_; exact QW.body1 Tryz.results168 rfl ⟨_, rfl, hf.trans hf2, .inl ⟨_, _, rfl, .pr_true hk3 ht, hr, by show s.at_ < s.at_ + 1; omega, rfl, by simp [putS, adv]; omega⟩⟩
 have ht : (tokAt c.T s).text ≠ trueT := of_decide_eq_false ht; refine Sa ?_; refine Cwc (fun hfl => ?_) fun hfl => ?_
 ·have hfl : (tokAt c.T s).text = falseT := of_decide_eq_true hfl; refine Sa ?_; refine LW.call0 (vs := [.pointer (some ⟨c.rb, 0, none⟩), .agg ⟨nvL ⟨{ kind := 3 }, .slice none 0 0⟩⟩]) rfl rfl (rput0_ok hc h1 { kind := 3 } rfl hsl) ?_; rintro v w2 ⟨rfl, hr, hf2⟩; refine Sa ?_; exact QW.body1 Tryz.results168 rfl ⟨_, rfl, hf.trans hf2, .inl ⟨_, _, rfl, .pr_false hk3 hfl, hr, by show s.at_ < s.at_ + 1; omega, rfl, by simp [putS, adv]; omega⟩⟩
 have hfl : (tokAt c.T s).text ≠ falseT := of_decide_eq_false hfl; refine Sa ?_; refine Lc0 rfl rfl (is_ok hc h1 [40]) ?_; rintro v w2 ⟨rfl, hx2⟩; replace h1 := h1.ext hx2; replace hf := hf.trans (.ext hx2); refine Sa ?_; refine Cwc (fun hi => ?_) fun hi => ?_
 ·have hi : isS c.T (adv s) [40] = false := by simpa using hi
  refine Sa ?_; refine Lc0 rfl rfl (rfail_ok hc h1 5 (by decide)) ?_; rintro v w3 ⟨rfl, hr, hf3⟩; refine Sa ?_; exact QW.body1 Tryz.results168 rfl ⟨0, rfl, hf.trans hf3, .inr ⟨5, s.deep, .pr_nocall hk3 ht hfl hi, .inl rfl, Re.mono hr (by show s.out.length ≤ _; omega)⟩⟩
 have hi : isS c.T (adv s) [40] = true := by simpa using hi
 refine Sa ?_; refine Lc0 rfl rfl (ropen_ok hc h1 (by rw [(isS_kind hi).1]; decide)) ?_; rintro v w3 ⟨rfl, hf3, ⟨hd, hr⟩ | ⟨hd, hr⟩⟩; rotate_left
 ·replace hf := hf.trans hf3; have hd : 12 ≤ s.deep := hd; have hpe : PE c.T .prim s (.err 6) := .pr_calldeep hk3 ht hfl hi hd; have hr0 := hr; obtain ⟨h0, he, i, outv, m, xs, hB, ho, hle⟩ := hr; refine Sa ?_; have kz : ((s.deep : Int) = s.deep + 1 ∨ (s.deep : Int) = s.deep) := .inr rfl; have hk2 : (adv s).out.length + 1 ≤ kc .prim s.deep := by show s.out.length + 1 ≤ _; omega
  refine Lc0 rfl rfl (rwant_bad hr0 [41]) ?_; rintro v w4 ⟨rfl, hx4⟩; replace hB := hB.ext hx4; have hB0 := hB; have hdd : ((adv s).deep : Int) = s.deep := rfl; refine Sa ?_; refine Lwt fun w5 hc5 hB => ?_; replace hB : Blk w5 c.rb [c.tokv, .int .i64 i, .int .i64 (((adv s).deep : Int) - 1), .int .i64 6, outv] 95 := hB; obtain ⟨hr5, hf5⟩ := Re.set hc (h0.trans hx4) (ho.ext hx4) hB0 hc5 he hB hle; refine Sa ?_; refine LW.call0 (vs := [.pointer (some ⟨c.rb, 0, none⟩), .agg ⟨nvL ⟨{ kind := 7, text := (tokAt c.T s).text }, .slice none 0 0⟩⟩]) rfl rfl (rput_bad hc hr5 (by show s.out.length ≤ _; omega) ⟨{ kind := 7, text := (tokAt c.T s).text }, .slice none 0 0⟩ rfl) ?_; rintro v w6 ⟨⟨y, rfl⟩, hr6, hf6⟩; refine Sa ?_; exact QW.body1 Tryz.results168 rfl ⟨y, rfl, ((hf.trans (.ext hx4)).trans hf5).trans hf6, .inr ⟨6, _, hpe, .inr rfl, hr6.mono hk2⟩⟩
 replace hf := hf.trans hf3; have hd : s.deep < 12 := hd; have hr0 := hr; obtain ⟨_, _, _, _, outv1, nvs1, hB1, _⟩ := hr; refine Sa ?_
 try refine LW.know (t := 35) (c := true) rfl (by simp) ?_
 refine Sa ?_; refine Lc0 rfl rfl (is_ok hc hr0 [41]) ?_; rintro v w4 ⟨rfl, hx4⟩; replace hr0 := hr0.ext hx4; replace hf := hf.trans (.ext hx4); replace hX : ∀ b ∈ X, b < w4.heap.size := fun b hb => Nat.lt_of_lt_of_le (hX b hb) hf.size; refine Sa ?_; refine Cwc (fun h41 => ?_) fun h41 => ?_; rotate_left
 ·have h41 : isS c.T (deeper (adv (adv s))) [41] = true := by simpa using h41
  refine Sa ?_; refine Lc0 rfl rfl (rwant_ok hc hr0 [41]) ?_; rintro v w5 ⟨rfl, hf5, ⟨_, hr5⟩ | ⟨hn, _⟩⟩; rotate_left
  ·rw [h41] at hn; cases hn
  obtain ⟨b0, b1, b2, b3, outv, nvs, hB, ho, hm, hk⟩ := hr5; have hB0 := hB; refine Sa ?_; refine Lwt fun w6 hc6 hB => ?_; have e6 : ((adv (deeper (adv (adv s)))).deep : Int) - 1 = ((upper (adv (deeper (adv (adv s))))).deep : Nat) := by show ((s.deep + 1 : Nat) : Int) - 1 = ((s.deep + 1 - 1 : Nat) : Int); omega
  replace hB : Blk w6 c.rb [c.tokv, .int .i64 (adv (deeper (adv (adv s)))).at_, .int .i64 (((adv (deeper (adv (adv s)))).deep : Int) - 1), .int .i64 0, outv] 95 := hB; rw [e6] at hB; obtain ⟨hr6, hf6⟩ := Rq.set hc (s := adv (deeper (adv (adv s)))) (s' := upper (adv (deeper (adv (adv s))))) b0 ho hm hk hB0 hc6 hB rfl b1 (by show s.deep + 1 - 1 ≤ 12; omega) b3; refine Sa ?_; refine LW.call0 (vs := [.pointer (some ⟨c.rb, 0, none⟩), .agg ⟨nvL ⟨{ kind := 7, text := (tokAt c.T s).text }, .slice none 0 0⟩⟩]) rfl rfl (rput0_ok hc hr6 { kind := 7, text := (tokAt c.T s).text } rfl (by show s.out.length + 1 ≤ s.at_ + 1 + 1 + 1; omega)) ?_; rintro v w7 ⟨rfl, hr7, hf7⟩; refine Sa ?_; exact QW.body1 Tryz.results168 rfl ⟨_, rfl, ((hf.trans hf5).trans hf6).trans hf7, .inl ⟨_, _, rfl, .pr_call0 hk3 ht hfl hi hd h41, hr7, by show s.at_ < s.at_ + 1 + 1 + 1; omega, rfl, by show s.at_ + (s.out ++ [_]).length ≤ s.at_ + 1 + 1 + 1 + s.out.length; simp; omega⟩⟩
 have h41 : isS c.T (deeper (adv (adv s))) [41] = false := by simpa using h41
 refine Sa ?_; refine CW.loop (ι := PSt × List Int × Value) (fun k w' => s.at_ + 1 + 1 ≤ k.1.at_ ∧ k.1.deep = s.deep + 1 ∧ s.at_ + 1 + 1 + k.1.out.length ≤ k.1.at_ + s.out.length ∧ k.2.1.length ≤ k.1.at_ ∧ Rq c (vblk k.2.2 ++ X) w' k.1 ∧ Fq w w' ∧ Own w' c.w0.heap.size 3 1 k.2.2 k.2.1.length (icells k.2.1) ∧ (∀ b ∈ vblk k.2.2, w4.heap.size ≤ b) ∧ Fq w4 w' ∧
   ∀ r, PE c.T (.args (tokAt c.T s).text k.2.1) k.1 r → PE c.T .prim s r) (fun k => [(0, .pointer (some ⟨c.rb, 0, none⟩)), (1, str (tokAt c.T s).text), (5, k.2.2)]) (fun k => c.T.length - k.1.at_) (deeper (adv (adv s)), [], .slice none 0 0)
  ⟨Nat.le_refl _, rfl, by show s.at_ + 1 + 1 + s.out.length ≤ s.at_ + 1 + 1 + s.out.length; omega, by simp, hr0, hf, Own.nil _ _ _ _, by simp [vblk], Fq.refl _, fun r hr => .pr_call hk3 ht hfl hi hd h41 hr⟩ Sub3 ?_
 clear hB1; rintro ⟨t, ks, kv⟩ w5 ⟨g1, g2, g3, g4, hr, hf', ho, hfresh, hfw, hcont⟩; simp only at g1 g2 g3 g4 hr ho hfresh hcont; show CW _ _ _ _ _ [(0, .pointer (some ⟨c.rb, 0, none⟩)), (1, str (tokAt c.T s).text), (5, kv)] _; have htl := hr.len; have hz5 := hfw.size; have hr0 := hr; obtain ⟨_, _, _, _, outv1, nvs1, hB1, _⟩ := hr; refine Sa ?_
 try refine CW.yes rfl (by simp) ?_
 refine Sa ?_; refine Lc0 rfl rfl (hE t (by omega) w5 (vblk kv ++ X) (fun b hb => by
  rw [List.mem_append] at hb; rcases hb with hb | hb
  ·exact (ho.lt hb).2
  ·exact Nat.lt_of_lt_of_le (hX b hb) hz5) hr0) ?_
 rintro v w6 ⟨z, rfl, hf6, hres⟩; have ho6 := Own.fq ho hf6 (by decide) (by decide); replace hf' := hf'.trans hf6; have hfw6 := hfw.trans hf6; refine Sa ?_; refine Lwl fun A w7 hbA hx7 hA => ?_; replace hA : Blk w7 A [.int .i64 z] 3 := hA; have ho7 := ho6.ext hx7; replace hf' := hf'.trans (.ext hx7); have hfw7 := hfw6.trans (.ext hx7); have hz7 := hfw7.size; have hw7 := hf'.size; refine Sa ?_; refine LW.append rfl rfl rfl rfl rfl rfl ho7 (by omega) hA rfl rfl rfl (by show (ks.length + 1) * 9 ≤ 140737488355328; omega) rfl ?_; intro kv' w8 hc8 ho8 hnew; have ho8' : Own w8 c.w0.heap.size 3 1 kv' (ks ++ [z]).length (icells (ks ++ [z])) := by simpa [icells] using ho8
 have hf8 : Fq w5 w8 → True := fun _ => trivial; have hx48 : ∀ b l T, Blk w4 b l T → T ≠ 95 → T ≠ 133 → Blk w8 b l T := fun b l T hb n1 n2 => (hfw7.blk b l T hb n1 n2).chg hc8 (fun hm => by
  have := hfresh b hm; have := hb.lt; omega)
 have hfw8 : Fq w4 w8 := ⟨Nat.le_trans hz7 hc8.size, hx48⟩; have hff8 : Fq w w8 := hf.trans hfw8; have hfresh' : ∀ b ∈ vblk kv', w4.heap.size ≤ b := fun b hb => by
  rcases hnew b hb with hh | hh
  ·exact hfresh b hh
  ·omega
 obtain ⟨kp, kq, rfl⟩ := ho8'.slice; have hone : (Value.slice kp (ks ++ [z]).length kq).oneCell' = true := rfl; rcases hres with ⟨t', a', rfl, hp', hr6, k1, k2, k3⟩ | ⟨e, d, hp', hdd, hr6⟩; rotate_left
 ·have hr8 : Re c w8 e d (kc (.lev 0) t.deep) := (hr6.ext hx7).other hc8 (fun b hb => ⟨(ho7.lt hb).1, fun l T k => Own.type ho7 hb k⟩); have hpe : PE c.T .prim s (.err e) := hcont _ (.ar_err hp'); have hdc : d = (s.deep : Int) + 1 ∨ d = (s.deep : Int) := by rw [g2] at hdd; omega
  have hkk : kc (.lev 0) t.deep + 1 ≤ kc .prim s.deep := by
   rw [g2]; show 400 + 6 * (12 - (s.deep + 1)) + (4 - 0) + 1 ≤ 400 + 6 * (12 - s.deep) + 0; omega
  have hk0 := kc_le (.lev 0) t.deep; refine Sa ?_; refine Lc0 rfl rfl (is_bad hr8 [44]) ?_; rintro v w9 ⟨rfl, hx9⟩; replace hr8 := hr8.ext hx9; refine Sa ?_; refine Lc0 rfl rfl (rwant_bad hr8 [41]) ?_; rintro v w10 ⟨rfl, hx10⟩; replace hr8 := hr8.ext hx10; have hx10' := hx9.trans hx10; obtain ⟨h0, he, i, outv, m, xs, hB, hoo, hle⟩ := hr8; have hB0 := hB; refine Sa ?_; refine Lwt fun w11 hc11 hB => ?_; replace hB : Blk w11 c.rb [c.tokv, .int .i64 i, .int .i64 (d - 1), .int .i64 e, outv] 95 := hB; obtain ⟨hr11, hf11⟩ := Re.set hc h0 hoo hB0 hc11 he hB hle; refine Sa ?_; refine LW.call0 (vs := [.pointer (some ⟨c.rb, 0, none⟩), .agg ⟨nvL ⟨{ kind := 7, text := (tokAt c.T s).text, kids := ks }, .slice kp (ks ++ [z]).length kq⟩⟩]) rfl rfl (rput_bad hc hr11 (by omega) ⟨{ kind := 7, text := (tokAt c.T s).text, kids := ks }, .slice kp (ks ++ [z]).length kq⟩ hone) ?_; rintro v w12 ⟨⟨y, rfl⟩, hr12, hf12⟩; refine Sa ?_; exact QW.body1 Tryz.results168 rfl ⟨y, rfl, ((hff8.trans (.ext hx10')).trans hf11).trans hf12, .inr ⟨e, _, hpe, by omega, hr12.mono hkk⟩⟩
 have hr8 : Rq c (vblk (Value.slice kp (ks ++ [((a' : Nat) : Int)]).length kq) ++ X) w8 t' := by
  have h5 := (hr6.ext hx7).grow (X' := vblk kv ++ (vblk (Value.slice kp (ks ++ [((a' : Nat) : Int)]).length kq) ++ X)) (fun b hb => by
   simp only [List.mem_append] at hb ⊢; rcases hb with hb | hb | hb
   ·exact .inl (.inl hb)
   ·rcases hnew b hb with hh | hh
    ·exact .inl (.inl hh)
    ·exact .inr hh
   ·exact .inl (.inr hb))
  have h6 := h5.other hc8 (fun b hb => ⟨(ho7.lt hb).1, List.mem_append_left _ hb, fun l T k => Own.type ho7 hb k⟩); exact h6.grow (fun b hb => .inl (List.mem_append_right _ hb))
 refine Sa ?_; refine Lc0 rfl rfl (is_ok hc hr8 [44]) ?_; rintro v w9 ⟨rfl, hx9⟩; replace hr8 := hr8.ext hx9; replace ho8' := ho8'.ext hx9; replace hff8 := hff8.trans (.ext hx9); replace hfw8 := hfw8.trans (.ext hx9); refine Sa ?_; refine Cwc (fun h44 => ?_) fun h44 => ?_; rotate_left
 ·have h44 : isS c.T t' [44] = true := by simpa using h44
  obtain ⟨b0, b1, b2, b3, outv, nvs, hB, hoo, hm, hk⟩ := hr8; have hnx2 := rd_next hc b1 (by rw [(isS_kind h44).1]; decide); have hB0 := hB; refine Sa ?_; refine Lwt fun w10 hc10 hB => ?_; replace hB : Blk w10 c.rb [c.tokv, .int .i64 (adv t').at_, .int .i64 (adv t').deep, .int .i64 0, outv] 95 := hB; obtain ⟨hr10, hf10⟩ := Rq.set hc (s := t') (s' := adv t') b0 hoo hm hk hB0 hc10 hB rfl hnx2 b2 (by show t'.out.length ≤ t'.at_ + 1; omega); refine Sa ?_; exact QW.again (adv t', ks ++ [((a' : Nat) : Int)], .slice kp (ks ++ [((a' : Nat) : Int)]).length kq) ⟨by show s.at_ + 1 + 1 ≤ t'.at_ + 1; omega, k2.trans g2, by show s.at_ + 1 + 1 + t'.out.length ≤ t'.at_ + 1 + s.out.length; omega, by show (ks ++ [_]).length ≤ t'.at_ + 1; simp; omega, hr10, hff8.trans hf10, Own.fq ho8' hf10 (by decide) (by decide), hfresh', hfw8.trans hf10, fun r hr => hcont r (.ar_go hp' h44 hr)⟩ Sub3 (by show c.T.length - (t'.at_ + 1) < c.T.length - t.at_; omega)
 have h44 : isS c.T t' [44] = false := by simpa using h44
 refine Sa ?_; refine Lc0 rfl rfl (rwant_ok hc hr8 [41]) ?_; rintro v w10 ⟨rfl, hf10, ⟨h5, hr10⟩ | ⟨h5, hr10⟩⟩; rotate_left
 ·have hpe : PE c.T .prim s (.err 5) := hcont _ (.ar_open hp' h44 h5); have hl8 := hr8.len; obtain ⟨h0, he, i, outv, m, xs, hB, hoo, hle⟩ := hr10; have hB0 := hB; refine Sa ?_; refine Lwt fun w11 hc11 hB => ?_; replace hB : Blk w11 c.rb [c.tokv, .int .i64 i, .int .i64 ((t'.deep : Int) - 1), .int .i64 5, outv] 95 := hB; obtain ⟨hr11, hf11⟩ := Re.set hc h0 hoo hB0 hc11 he hB hle; refine Sa ?_; refine LW.call0 (vs := [.pointer (some ⟨c.rb, 0, none⟩), .agg ⟨nvL ⟨{ kind := 7, text := (tokAt c.T s).text, kids := ks }, .slice kp (ks ++ [((a' : Nat) : Int)]).length kq⟩⟩]) rfl rfl (rput_bad hc hr11 (by omega) ⟨{ kind := 7, text := (tokAt c.T s).text, kids := ks }, .slice kp (ks ++ [((a' : Nat) : Int)]).length kq⟩ hone) ?_; rintro v w12 ⟨⟨y, rfl⟩, hr12, hf12⟩; refine Sa ?_; exact QW.body1 Tryz.results168 rfl ⟨y, rfl, ((hff8.trans hf10).trans hf11).trans hf12, .inr ⟨5, _, hpe, by omega, hr12.mono (by omega)⟩⟩
 have ho10 := Own.fq ho8' hf10 (by decide) (by decide); obtain ⟨b0, b1, b2, b3, outv, nvs, hB, hoo, hm, hk⟩ := hr10; have hB0 := hB; refine Sa ?_; refine Lwt fun w11 hc11 hB => ?_; have hud : (upper (adv t')).deep = s.deep := by show t'.deep - 1 = s.deep; omega
 have e9 : (t'.deep : Int) - 1 = (((upper (adv t')).deep : Nat) : Int) := by rw [hud]; omega
 replace hB : Blk w11 c.rb [c.tokv, .int .i64 (adv t').at_, .int .i64 ((t'.deep : Int) - 1), .int .i64 0, outv] 95 := hB; rw [e9] at hB; obtain ⟨hr11, hf11⟩ := Rq.set hc (s := adv t') (s' := upper (adv t')) b0 hoo hm hk hB0 hc11 hB rfl b1 (by rw [hud]; omega) b3; have ho11 := Own.fq ho10 hf11 (by decide) (by decide); have hr11' : Rq c X w11 (upper (adv t')) := hr11.grow (fun b hb => .inl (List.mem_append_right _ hb)); refine Sa ?_; refine LW.call0 (vs := [.pointer (some ⟨c.rb, 0, none⟩), .agg ⟨nvL ⟨{ kind := 7, text := (tokAt c.T s).text, kids := ks ++ [((a' : Nat) : Int)] }, .slice kp (ks ++ [((a' : Nat) : Int)]).length kq⟩⟩]) rfl rfl (rput_ok hc hr11' ⟨{ kind := 7, text := (tokAt c.T s).text, kids := ks ++ [((a' : Nat) : Int)] }, .slice kp (ks ++ [((a' : Nat) : Int)]).length kq⟩ (own_kids ho11) (fun b hb hbX => by
  have := hfresh' b hb; have := hX b hbX; omega) (by show t'.out.length + 1 ≤ t'.at_ + 1; omega)) ?_
 rintro v w12 ⟨rfl, hr12, hf12⟩; refine Sa ?_; exact QW.body1 Tryz.results168 rfl ⟨_, rfl, ((hff8.trans hf10).trans hf11).trans hf12, .inl ⟨putS (upper (adv t')) { kind := 7, text := (tokAt c.T s).text, kids := ks ++ [((a' : Nat) : Int)] }, t'.out.length, rfl, hcont _ (.ar_end hp' h44 h5), hr12, by show s.at_ < t'.at_ + 1; omega, hud, by show s.at_ + (t'.out ++ [_]).length ≤ t'.at_ + 1 + s.out.length; simp; omega⟩⟩
theorem rprim_ret {c : PCtx} (hc : c.Ok) (s : PSt) (hE : ∀ s', s.at_ < s'.at_ → RC c 74 [.int .i64 0] (.lev 0) s') : RC c 129 [] .prim s := by
 intro w X hX h; have hlen := hc.len; have hrange := tok_kinds hc h.2.1; have hl := h.len; have hkp := kc_le .prim s.deep; have h0 := h; obtain ⟨a0, a1, a2, a3, outv, nvs, hB, ho, hm, hk⟩ := h0; have hT := hc.tok.ext a0; have hg : c.T[s.at_]? = some (tokAt c.T s) := by simp only [tokAt, List.getD_eq_getElem?_getD, List.getElem?_eq_getElem a1, Option.getD_some]
 have hB0 := hB; unfold PCtx.tokv at hB; refine Rte Tryz.func129 Tryz.ntmps129 ?_; refine Sa ?_; refine CW.drawHeld (fun w' => Ext w w') (fun w' h => h) (by kernel_rfl) fun w5 hx5 => ?_; refine Sh ?_; refine HW.take 8 rfl rfl rfl rfl (fun w _ => Y.gs rfl ⟨by omega, by omega⟩) rfl (by kernel_rfl) (by kernel_rfl) (by kernel_rfl) (fun _ _ _ h => h) ?_; refine HW.take 9 rfl rfl rfl rfl (fun w hw => Y.load_agg (cs := tokL (tokAt c.T s)) (i := 0 + s.at_ * 9) rfl (hT.ext hw) rfl rfl rfl (by rw [Nat.zero_add]; exact flat_agg tok_len hg)) rfl (by kernel_rfl) (by kernel_rfl) (by kernel_rfl) (fun _ _ _ h => h) ?_; refine HW.one 10 (by kernel_rfl) rfl rfl (fun hS => ?_); refine Lwa fun R w6 hbR hx6 hR => ?_; apply LW.nil; refine QW.held (hS.trans hx6) ?_; refine HW.one 11 (by kernel_rfl) rfl rfl (fun hS => ?_); refine Lws fun w7 hc7 hR => ?_; replace hR : Blk w7 R (tokL (tokAt c.T s)) 100 := hR; have hx7 : Ext w w7 := (hx5.trans hx6).step hc7 (by simp; have := hx5.size; omega); apply LW.nil; refine QW.held hx7 ?_; refine HW.done (by kernel_rfl) ?_; replace h := h.ext hx7; have hf := Fq.ext hx7; replace hX : ∀ b ∈ X, b < w7.heap.size := fun b hb => Nat.lt_of_lt_of_le (hX b hb) hx7.size; refine Sa ?_; refine Lc0 rfl rfl (is_ok hc h [40]) ?_; rintro v w8 ⟨rfl, hx8⟩; replace h := h.ext hx8; replace hR := hR.ext hx8; replace hf := hf.trans (.ext hx8); replace hX : ∀ b ∈ X, b < w8.heap.size := fun b hb => Nat.lt_of_lt_of_le (hX b hb) hx8.size; refine Sa ?_; refine Cwc (fun hi => ?_) fun hi => ?_
 ·have hi : isS c.T s [40] = true := hi; refine Sa ?_; refine Lc0 rfl rfl (ropen_ok hc h (by rw [(isS_kind hi).1]; decide)) ?_; rintro v w9 ⟨rfl, hf9, ⟨hd, hr⟩ | ⟨hd, hr⟩⟩; rotate_left
  ·have hr0 := hr; obtain ⟨_, he, i, outv, m, xs, hB, ho, hle⟩ := hr; refine Sa ?_; exact QW.body1 Tryz.results129 rfl ⟨0, rfl, hf.trans hf9, .inr ⟨6, s.deep, .pr_deep hi hd, .inl rfl, hr0.mono (by omega)⟩⟩
  have hr0 := hr; obtain ⟨_, _, _, _, outv1, nvs1, hB1, _⟩ := hr; replace hf := hf.trans hf9; refine Sa ?_; refine Lc0 rfl rfl (hE (deeper (adv s)) (by show s.at_ < s.at_ + 1; omega) w9 X (fun b hb => Nat.lt_of_lt_of_le (hX b hb) hf9.size) hr0) ?_; rintro v w10 ⟨z, rfl, hf10, hres⟩; replace hf := hf.trans hf10; rcases hres with ⟨s1, a, rfl, hp, hr, g1, g2, g3⟩ | ⟨e, d, hp, hdd, hr⟩; rotate_left
  ·have hdd : d = ((s.deep + 1 : Nat) : Int) ∨ d = ((s.deep + 1 : Nat) : Int) - 1 := hdd; have hkk : kc (.lev 0) (deeper (adv s)).deep ≤ kc .prim s.deep := by
    show 400 + 6 * (12 - (s.deep + 1)) + (4 - 0) ≤ 400 + 6 * (12 - s.deep) + 0; omega
   refine Sa ?_; refine Lc0 rfl rfl (rwant_bad hr [41]) ?_; rintro v w11 ⟨rfl, hx11⟩; replace hr := hr.ext hx11; obtain ⟨h0, he, i, outv, m, xs, hB, ho, hle⟩ := hr; have hB0 := hB; refine Sa ?_; refine Lwt fun w12 hc12 hB => ?_; replace hB : Blk w12 c.rb [c.tokv, .int .i64 i, .int .i64 (d - 1), .int .i64 e, outv] 95 := hB; obtain ⟨hr12, hf12⟩ := Re.set hc h0 ho hB0 hc12 he hB hle; refine Sa ?_; exact QW.body1 Tryz.results129 rfl ⟨z, rfl, (hf.trans (.ext hx11)).trans hf12, .inr ⟨e, d - 1, .pr_err hi hd hp, by omega, hr12.mono hkk⟩⟩
  have g1' : s.at_ + 1 < s1.at_ := g1; have g2' : s1.deep = s.deep + 1 := g2; have g3' : s.at_ + 1 + s1.out.length ≤ s1.at_ + s.out.length := g3; have hl1 := hr.len; refine Sa ?_; refine Lc0 rfl rfl (rwant_ok hc hr [41]) ?_; rintro v w11 ⟨rfl, hf11, ⟨h41, hr⟩ | ⟨h41, hr⟩⟩; rotate_left
  ·obtain ⟨h0, he, i, outv, m, xs, hB, ho, hle⟩ := hr; have hB0 := hB; refine Sa ?_; refine Lwt fun w12 hc12 hB => ?_; replace hB : Blk w12 c.rb [c.tokv, .int .i64 i, .int .i64 ((s1.deep : Int) - 1), .int .i64 5, outv] 95 := hB; obtain ⟨hr12, hf12⟩ := Re.set hc h0 ho hB0 hc12 he hB hle; refine Sa ?_; exact QW.body1 Tryz.results129 rfl ⟨_, rfl, (hf.trans hf11).trans hf12, .inr ⟨5, _, .pr_open hi hd hp h41, by omega, hr12.mono (by omega)⟩⟩
  obtain ⟨b0, b1, b2, b3, outv, nvs, hB, ho, hm, hk⟩ := hr; have hB0 := hB; refine Sa ?_; refine Lwt fun w12 hc12 hB => ?_; have e12 : (s1.deep : Int) - 1 = (((upper (adv s1)).deep : Nat) : Int) := by show (s1.deep : Int) - 1 = ((s1.deep - 1 : Nat) : Int); omega
  replace hB : Blk w12 c.rb [c.tokv, .int .i64 (adv s1).at_, .int .i64 ((s1.deep : Int) - 1), .int .i64 0, outv] 95 := hB; rw [e12] at hB; obtain ⟨hr12, hf12⟩ := Rq.set hc (s := adv s1) (s' := upper (adv s1)) b0 ho hm hk hB0 hc12 hB rfl b1 (by show s1.deep - 1 ≤ 12; omega) b3; refine Sa ?_; exact QW.body1 Tryz.results129 rfl ⟨_, rfl, (hf.trans hf11).trans hf12, .inl ⟨upper (adv s1), a, rfl, .pr_ok hi hd hp h41, hr12, by show s.at_ < s1.at_ + 1; omega, by show s1.deep - 1 = s.deep; omega, by show s.at_ + s1.out.length ≤ s1.at_ + 1 + s.out.length; omega⟩⟩
 have hi : isS c.T s [40] = false := hi; have q1 : s.at_ < s.at_ + 1 := by omega
 have q3 : ∀ n : NodeD, s.at_ + (s.out ++ [n]).length ≤ s.at_ + 1 + s.out.length := fun n => by simp; omega
 have hsl : (adv s).out.length + 1 ≤ (adv s).at_ := by show s.out.length + 1 ≤ s.at_ + 1; omega
 refine Sa ?_; refine Cwc (fun h1 => ?_) fun h1 => ?_
 ·have h1 : (tokAt c.T s).kind = 1 := by simpa using h1
  obtain ⟨a0, a1, a2, a3, outv, nvs, hB, ho, hm, hk⟩ := h; have hnx := rd_next hc a1 (by omega); have hB0 := hB; refine Sa ?_; refine Lwt fun w9 hc9 hB => ?_; replace hB : Blk w9 c.rb [c.tokv, .int .i64 (adv s).at_, .int .i64 (adv s).deep, .int .i64 0, outv] 95 := hB; obtain ⟨h9, hf9⟩ := Rq.set hc (s := s) (s' := adv s) a0 ho hm hk hB0 hc9 hB rfl hnx a2 (by show s.out.length ≤ s.at_ + 1; omega); replace hf := hf.trans hf9; replace hR := hf9.blk _ _ _ hR (by decide) (by decide); refine Sa ?_; refine LW.call0 (vs := [.pointer (some ⟨c.rb, 0, none⟩), .agg ⟨nvL ⟨{ kind := 1, num := (tokAt c.T s).num }, .slice none 0 0⟩⟩]) rfl rfl (rput0_ok hc h9 { kind := 1, num := (tokAt c.T s).num } rfl hsl) ?_; rintro v w10 ⟨rfl, hr, hf10⟩; refine Sa ?_; exact QW.body1 Tryz.results129 rfl ⟨_, rfl, hf.trans hf10, .inl ⟨_, _, rfl, .pr_num h1, hr, q1, rfl, q3 _⟩⟩
 have h1 : (tokAt c.T s).kind ≠ 1 := by simpa using h1
 refine Sa ?_; refine Cwc (fun h2 => ?_) fun h2 => ?_
 ·have h2 : (tokAt c.T s).kind = 2 := by simpa using h2
  obtain ⟨a0, a1, a2, a3, outv, nvs, hB, ho, hm, hk⟩ := h; have hnx := rd_next hc a1 (by omega); have hB0 := hB; refine Sa ?_; refine Lwt fun w9 hc9 hB => ?_; replace hB : Blk w9 c.rb [c.tokv, .int .i64 (adv s).at_, .int .i64 (adv s).deep, .int .i64 0, outv] 95 := hB; obtain ⟨h9, hf9⟩ := Rq.set hc (s := s) (s' := adv s) a0 ho hm hk hB0 hc9 hB rfl hnx a2 (by show s.out.length ≤ s.at_ + 1; omega); replace hf := hf.trans hf9; replace hR := hf9.blk _ _ _ hR (by decide) (by decide); refine Sa ?_; refine LW.call0 (vs := [.pointer (some ⟨c.rb, 0, none⟩), .agg ⟨nvL ⟨{ kind := 2, text := (tokAt c.T s).text }, .slice none 0 0⟩⟩]) rfl rfl (rput0_ok hc h9 { kind := 2, text := (tokAt c.T s).text } rfl hsl) ?_; rintro v w10 ⟨rfl, hr, hf10⟩; refine Sa ?_; exact QW.body1 Tryz.results129 rfl ⟨_, rfl, hf.trans hf10, .inl ⟨_, _, rfl, .pr_text h2, hr, q1, rfl, q3 _⟩⟩
 have h2 : (tokAt c.T s).kind ≠ 2 := by simpa using h2
 refine Sa ?_; refine Cwc (fun h6 => ?_) fun h6 => ?_
 ·have h6 : (tokAt c.T s).kind = 6 := by simpa using h6
  obtain ⟨a0, a1, a2, a3, outv, nvs, hB, ho, hm, hk⟩ := h; have hnx := rd_next hc a1 (by omega); have hB0 := hB; refine Sa ?_; refine Lwt fun w9 hc9 hB => ?_; replace hB : Blk w9 c.rb [c.tokv, .int .i64 (adv s).at_, .int .i64 (adv s).deep, .int .i64 0, outv] 95 := hB; obtain ⟨h9, hf9⟩ := Rq.set hc (s := s) (s' := adv s) a0 ho hm hk hB0 hc9 hB rfl hnx a2 (by show s.out.length ≤ s.at_ + 1; omega); replace hf := hf.trans hf9; replace hR := hf9.blk _ _ _ hR (by decide) (by decide); refine Sa ?_; refine LW.call0 (vs := [.pointer (some ⟨c.rb, 0, none⟩), .agg ⟨nvL ⟨{ kind := 4 }, .slice none 0 0⟩⟩]) rfl rfl (rput0_ok hc h9 { kind := 4 } rfl hsl) ?_; rintro v w10 ⟨rfl, hr, hf10⟩; refine Sa ?_; exact QW.body1 Tryz.results129 rfl ⟨_, rfl, hf.trans hf10, .inl ⟨_, _, rfl, .pr_dead h6, hr, q1, rfl, q3 _⟩⟩
 have h6 : (tokAt c.T s).kind ≠ 6 := by simpa using h6
 refine Sa ?_; refine Cwc (fun h4 => ?_) fun h4 => ?_
 ·have h4 : (tokAt c.T s).kind = 4 := by simpa using h4
  refine Sa ?_; refine LW.load_agg (cs := refL (tokAt c.T s).ref) rfl hR rfl rfl rfl ⟨rfl, rfl, rfl, rfl, rfl, trivial⟩ rfl ?_; refine Sa ?_; refine Lc0 rfl rfl (rref_ret hc s h4 w8 h) ?_; rintro v w9 ⟨z, rfl, hf9, hres⟩; refine Sa ?_; exact QW.body1 Tryz.results129 rfl ⟨z, rfl, hf.trans hf9, hres⟩
 have h4 : (tokAt c.T s).kind ≠ 4 := by simpa using h4
 refine Sa ?_; refine Cwc (fun h3 => ?_) fun h3 => ?_
 ·have h3 : (tokAt c.T s).kind = 3 := by simpa using h3
  refine Sa ?_; refine Lc0 rfl rfl (rname_ret hc s h3 hE w8 X hX h) ?_; rintro v w9 ⟨z, rfl, hf9, hres⟩; refine Sa ?_; exact QW.body1 Tryz.results129 rfl ⟨z, rfl, hf.trans hf9, hres⟩
 have h3 : (tokAt c.T s).kind ≠ 3 := by simpa using h3
 have hpe : PE c.T .prim s (.err 5) := by
  by_cases h0 : (tokAt c.T s).kind = 0
  ·exact .pr_end h0
  ·have h5 : (tokAt c.T s).kind = 5 := by omega
   exact .pr_sign h5 (by simpa [isS, h5] using hi)
 refine Sa ?_; refine Lc0 rfl rfl (rfail_ok hc h 5 (by decide)) ?_; rintro v w9 ⟨rfl, hr, hf9⟩; refine Sa ?_; exact QW.body1 Tryz.results129 rfl ⟨0, rfl, hf.trans hf9, .inr ⟨5, s.deep, hpe, .inl rfl, hr.mono (by omega)⟩⟩
theorem rreaders {c : PCtx} (hc : c.Ok) : ∀ (m : Nat) (s : PSt), c.T.length - s.at_ ≤ m → (∀ n : Nat, n < 4 → RC c 74 [.int .i64 (n : Int)] (.lev n) s) ∧ RC c 74 [.int .i64 4] .unary s ∧ RC c 95 [] .unary s
 | 0, s, hm => by
  have key : ∀ f a m, RC c f a m s := fun f a m w X hX h => absurd h.2.1 (by omega)
  exact ⟨fun _ _ => key _ _ _, key _ _ _, key _ _ _⟩
 | m + 1, s, hm => by
  by_cases hs : s.at_ < c.T.length
  ·have ih := fun (s' : PSt) (h : s.at_ < s'.at_) => rreaders hc m s' (by omega); have hp := rprim_ret hc s (fun s' h => (ih s' h).1 0 (by omega)); have hu := runary_ret hc s hp (fun s' h => (ih s' h).2.2); have h4 := row4_ret s hu; have h3 : RC c 74 [.int .i64 3] (.lev 3) s := row_ret hc 3 (by omega) s h4 (fun s' h _ => (ih s' h).2.1); have h2 : RC c 74 [.int .i64 2] (.lev 2) s := row_ret hc 2 (by omega) s h3 (fun s' h _ => (ih s' h).1 3 (by omega)); have h1 : RC c 74 [.int .i64 1] (.lev 1) s := row_ret hc 1 (by omega) s h2 (fun s' h _ => (ih s' h).1 2 (by omega)); have h0 : RC c 74 [.int .i64 0] (.lev 0) s := row_ret hc 0 (by omega) s h1 (fun s' h _ => (ih s' h).1 1 (by omega)); refine ⟨fun n hn => ?_, h4, hu⟩; have : n = 0 ∨ n = 1 ∨ n = 2 ∨ n = 3 := by omega
   rcases this with rfl | rfl | rfl | rfl
   ·exact h0
   ·exact h1
   ·exact h2
   ·exact h3
  ·have key : ∀ f a m, RC c f a m s := fun f a m w X hX h => absurd h.2.1 hs; exact ⟨fun _ _ => key _ _ _, key _ _ _, key _ _ _⟩
def RResV (w : World) (lo : Nat) (v : Value) (o : Except Int (List NodeD)) : Prop := match o with
 | .error e => v = .agg ⟨[.slice none 0 0, .int .i64 e]⟩
 | .ok l => ∃ sv, v = .agg ⟨[sv, .int .i64 0]⟩ ∧ Nodes w lo sv l
theorem parseT_long {s : List UInt8} (h : 300 < s.length) : parseT s = .error 4 := by unfold parseT; rw [if_pos h]
theorem parseT_none {s : List UInt8} (h : ¬ 300 < s.length) (e : lexT s = none) : parseT s = .error 5 := by unfold parseT; rw [if_neg h, e]
theorem RParse_ok (s : List UInt8) (hs : s.length ≤ 9223372036854775807) (w : World) : Ret Tryz.prog 54 [str s] w (fun v w' => (RResV w' w.heap.size v (parseT s) ∧ ∀ e, parseT s = .error e → e ≠ 0) ∧ Ext w w') := by
 refine Rte Tryz.func54 Tryz.ntmps54 ?_; refine Sa ?_; refine Lwa fun L w1 hbL hx1 hL => ?_; refine Sa ?_; refine Lc0 rfl rfl (rLex_ret s hs w1) ?_; rintro v w2 ⟨hv, hx2⟩; replace hL := hL.ext hx2; have hx2' := hx1.trans hx2; have hz1 := hx1.size; have hLw : w.heap.size ≤ L := by omega
 by_cases hbig : 300 < s.length
 ·rw [RLexV, if_pos hbig] at hv; subst hv; have hpt := parseT_long hbig; refine Sa ?_; refine Lwa fun K w3 hbK hx3 hK => ?_; replace hL := hL.ext hx3; refine Sa ?_; refine Lws fun w4 hc4 hK => ?_; have hx4' : Ext w2 w4 := hx3.step hc4 (by simp; omega); replace hL := hL.chg hc4 (by simp; intro h; subst h; exact absurd (hL.inj (by assumption)) (by decide)); refine Sa ?_; refine Lws fun w5 hc5 hL => ?_; refine Sa ?_; refine QW.body_c Tryz.results54 rfl hL rfl rfl rfl ⟨⟨by rw [hpt]; rfl, fun e0 h0' => by rw [hpt] at h0'; simp only [Except.error.injEq] at h0'; omega⟩, (hx2'.trans hx4').step hc5 (by simpa using hLw)⟩
 cases hlex : lexT s with
 | none =>
  rw [RLexV, if_neg hbig, hlex] at hv; subst hv; have hpt := parseT_none hbig hlex; refine Sa ?_; refine Lwa fun K w3 hbK hx3 hK => ?_; replace hL := hL.ext hx3; refine Sa ?_; refine Lws fun w4 hc4 hK => ?_; have hx4' : Ext w2 w4 := hx3.step hc4 (by simp; omega); replace hL := hL.chg hc4 (by simp; intro h; subst h; exact absurd (hL.inj (by assumption)) (by decide)); refine Sa ?_; refine Lws fun w5 hc5 hL => ?_; refine Sa ?_
  refine QW.body_c Tryz.results54 rfl hL rfl rfl rfl ⟨⟨by rw [hpt]; rfl, fun e0 h0' => by rw [hpt] at h0'; simp only [Except.error.injEq] at h0'; omega⟩, (hx2'.trans hx4').step hc5 (by simpa using hLw)⟩
 | some T =>
 rw [RLexV, if_neg hbig, hlex] at hv; obtain ⟨sv, rfl, hown⟩ := hv; obtain ⟨k0, k1, k2⟩ := lexF_kinds _ s 0 (Nat.le_refl _) hlex; have htl := lexT_len hlex; obtain ⟨tb, tcap, tsp, rfl, hT, _⟩ := hown.get (List.length_pos_iff.2 k0); refine Sa ?_; refine Lwa fun K w3 hbK hx3 hK => ?_; replace hL := hL.ext hx3; replace hT := hT.ext hx3; refine Sa ?_; refine Lws fun w4 hc4 hK => ?_; have hx4' : Ext w2 w4 := hx3.step hc4 (by simp; omega); have hx4 : Ext w w4 := hx2'.trans hx4'; replace hL := hL.chg hc4 (by have := hL.lt; simp; intro h; subst h; exact absurd (hL.inj (by assumption)) (by decide)); replace hT := hT.chg hc4 (by simp; intro h; subst h; exact absurd (hT.inj (by assumption)) (by decide)); refine Sa ?_; refine Lwb fun R w5 hbR hx5 hR => ?_; replace hL := hL.ext hx5; obtain ⟨c, hc0⟩ : ∃ c : PCtx, c = ⟨T, tb, tcap, tsp, R, w4⟩ := ⟨_, rfl⟩; have hc : c.Ok := by
  subst hc0; exact ⟨hT, by show T.length ≤ 301; omega, k2, k1, by show w4.heap.size ≤ R; omega⟩
 have hcT : c.T = T := by rw [hc0]
 have hcR : c.rb = R := by rw [hc0]
 have hcw : c.w0 = w4 := by rw [hc0]
 have hcv : c.tokv = .slice (some ⟨tb, 0, none⟩) T.length tcap := by rw [hc0]; rfl
 have hct : c.tb = tb := by rw [hc0]
 have hcs : c.tsp = tsp := by rw [hc0]
 have hrd : Rq c [] w5 ⟨0, [], 0⟩ := by
  refine ⟨by rw [hcw]; exact hx5, by rw [hcT]; exact List.length_pos_iff.2 k0, by simp, by simp, .slice none 0 0, [], ?_, Own.nil _ _ _ _, rfl, by simp⟩; rw [hcR, hcv]; exact hR
 have hrow := (rreaders hc _ ⟨0, [], 0⟩ (Nat.le_refl _)).1 0 (by omega) w5 [] (by simp) hrd; rw [hcR] at hrow; refine Sa ?_; refine Lc0 rfl rfl hrow ?_; rintro v w6 ⟨z, rfl, hf6, hres⟩; replace hL := hf6.blk _ _ _ hL (by decide) (by decide); rcases hres with ⟨s1, a, rfl, hp, hr, g1, g2, g3⟩ | ⟨e, d, hp, hdd, hr⟩; rotate_left
 ·have hpt : parseT s = .error e := parseT_of (by omega) hlex (.inl (by rw [← hcT]; exact hp)); obtain ⟨h0, he, i, outv, m, xs, hB, ho, hle⟩ := hr; rw [hcR] at hB; rw [hcw] at h0; refine Sa ?_; refine Cwd ?_; refine Sq ?_; refine QL.know (t := 24) (c := false) rfl (by simp [he]) ?_; refine Sq ?_; refine QL.nil fun w7 hx7 => ?_; replace hB := hB.ext hx7; replace hL := hL.ext hx7; replace h0 := h0.trans hx7; refine Sa ?_
  try refine CW.yes rfl (by simp [he]) ?_
  refine Sa ?_; refine Lws fun w9 hc9 hL => ?_; refine Sa ?_; refine QW.body_c Tryz.results54 rfl hL rfl rfl rfl ⟨⟨by rw [hpt]; rfl, fun e0 h0' => by rw [hpt] at h0'; simp only [Except.error.injEq] at h0'; omega⟩, (hx4.trans h0).step hc9 (by simpa using hLw)⟩
 have hl := hr.len; have hr0 := hr; obtain ⟨h0, h1, h2, h3, outv, nvs, hB, ho, hm, hk⟩ := hr; have hT6 := hc.tok.ext h0; have hgt : c.T[s1.at_]? = some (tokAt c.T s1) := by simp only [tokAt, List.getD_eq_getElem?_getD, List.getElem?_eq_getElem h1, Option.getD_some]
 have hi0 : (c.T.flatMap tokL ++ c.tsp)[0 + s1.at_ * 9 + 0]? = some (.int .i64 (tokAt c.T s1).kind) := by
  rw [Nat.zero_add]; exact flat_get tok_len c.T c.tsp s1.at_ _ 0 hgt (by decide)
 rw [hcR, hcv] at hB; rw [hct] at hT6; have hlen := hc.len; have hTl : c.T.length = T.length := by rw [hcT]
 refine Sa ?_; refine Cwd ?_; refine Sq ?_; refine QL.know (t := 24) (c := true) rfl (by simp) ?_; refine Sqz ?_; refine QL.load (i := 0 + s1.at_ * 9 + 0) rfl hT6 hi0 rfl rfl rfl ?_; refine Sqz ?_; refine QL.nil fun w7 hx7 => ?_; replace hB := hB.ext hx7; replace hL := hL.ext hx7; replace hr0 := hr0.ext hx7; refine Sa ?_; refine Cwc (fun hk0 => ?_) fun hk0 => ?_
 ·have hk0 : (tokAt c.T s1).kind ≠ 0 := by simpa using hk0
  have hpt : parseT s = .error 5 := parseT_of (by omega) hlex (.inr ⟨rfl, s1, a, by rw [← hcT]; exact hp, by rw [← hcT]; exact hk0⟩); have hfail := rfail_ok hc hr0 5 (by decide); rw [hcR] at hfail; refine Sa ?_; refine Lc0 rfl rfl hfail ?_; rintro v w8 ⟨rfl, hr8, hf8⟩; replace hL := hf8.blk _ _ _ hL (by decide) (by decide); obtain ⟨h0, he, i, outv, m, xs, hB, ho, hle⟩ := hr8; rw [hcR] at hB; rw [hcw] at h0; refine Sa ?_
  try refine CW.yes rfl (by simp [he]) ?_
  refine Sa ?_; refine Lws fun w9 hc9 hL => ?_; refine Sa ?_; refine QW.body_c Tryz.results54 rfl hL rfl rfl rfl ⟨⟨by rw [hpt]; rfl, fun e0 h0' => by rw [hpt] at h0'; simp only [Except.error.injEq] at h0'; omega⟩, (hx4.trans h0).step hc9 (by simpa using hLw)⟩
 have hk0 : (tokAt c.T s1).kind = 0 := by simpa using hk0
 have hpt : parseT s = .ok s1.out := parseT_of (by omega) hlex ⟨s1, a, by rw [← hcT]; exact hp, by rw [← hcT]; exact hk0, rfl⟩; have ho7 := ho.ext hx7; rw [hcw] at ho7 h0; obtain ⟨q1, q2, rfl⟩ := ho7.slice; refine Sa ?_; have hoL : ∀ b, b ∈ vblk (Value.slice q1 nvs.length q2) → b ∉ [L] := fun b hb h => by
  simp only [List.mem_singleton] at h; subst h; exact absurd (Own.type ho7 hb hL) (by decide)
 have hL0 := hL; refine Lws fun w8 hc8 hL => ?_; refine Sa ?_; refine QW.body_c Tryz.results54 rfl hL rfl rfl rfl ⟨⟨?_, fun e0 h0' => by rw [hpt] at h0'; cases h0'⟩, (hx4.trans (h0.trans hx7)).step hc8 (by simpa using hLw)⟩; rw [hpt]; refine ⟨_, rfl, nvs, (ho7.chg hc8 hoL).low hx4.size, hm, fun x hx => ?_⟩; have hkx := ((hk x hx).1.fq (.ext hx7)); rcases hkx with e | ⟨g, cap, sp, e, hg⟩
 ·exact .inl e
 ·exact .inr ⟨g, cap, sp, e, hg.chg hc8 (fun hm => by simp at hm; subst hm; exact absurd (hg.inj hL0) (by decide))⟩
theorem printable_ret (s : List UInt8) (hs : s.length ≤ 1000000) (w : World) : Ret Tryz.prog 132 [str s] w (fun v w' => v = .bool (prB s) ∧ Ext w w') := by
 refine Rte Tryz.func132 Tryz.ntmps132 ?_; refine Sa ?_; refine CW.loop (ι := Nat) (fun k w' => k ≤ s.length ∧ Ext w w' ∧ ∀ j, j < k → 32 ≤ byte s j) (fun k => [(0, str s), (3, .int .i64 k)]) (fun k => s.length - k) 0 ⟨by omega, Chg.refl _ _, by omega⟩ Sub2 ?_; rintro k w1 ⟨hk, hx, hall⟩; refine Sa ?_; refine Cwc (fun h1 => ?_) fun h1 => ?_
 ·have h1 : k < s.length := by simp at h1; omega
  refine Sa ?_; refine Cwc (fun h2 => ?_) fun h2 => ?_
  ·have h2 : byte s k < 32 := by simpa using h2
   refine Sa ?_; refine QW.body1 Tryz.results132 rfl ⟨?_, hx⟩; have : prB s = false := by
    simp only [prB, decide_eq_false_iff_not]; intro hh; have := hh k h1; omega
   rw [this]
  ·have h2 : ¬ byte s k < 32 := by simpa using h2
   refine Sa ?_; refine QW.again (k + 1) ⟨by omega, hx, fun j hj => ?_⟩ Sub2 (by omega); by_cases e : j = k
   ·subst e; omega
   ·exact hall j (by omega)
 ·have h1 : k = s.length := by simp at h1; omega
  subst h1; refine Sa ?_; refine QW.body1 Tryz.results132 rfl ⟨?_, hx⟩; have : prB s = true := by simp only [prB, decide_eq_true_eq]; exact hall
  rw [this]
theorem noRef_ret (x : RefD) (w : World) : Ret Tryz.prog 131 [.agg ⟨refL x⟩] w (fun v w' => v = .bool (decide (x = refN)) ∧ Ext w w') := by
 refine Rte Tryz.func131 Tryz.ntmps131 ?_; refine Sa ?_; refine Lwb fun A w1 hbA hx1 hA => ?_; replace hA : Blk w1 A (refL x) 98 := hA; refine Sa ?_; refine Sl ?_; refine LW.eql_agg (xs := refL x) (ys := refL refN) (c := decide (x = refN)) rfl rfl eqg_ref4 (fun w => eqr_ref x refN 9998 w) rfl ?_; refine Sa ?_; exact QW.body1 Tryz.results131 rfl ⟨rfl, hx1⟩
theorem arms_ret (k : Int) (w : World) : Ret Tryz.prog 99 [.int .i64 k] w (fun v w' => v = .int .i64 (countI k) ∧ Ext w w') := by
 have fin : ∀ z, countI k = z → (Value.int .i64 z = .int .i64 (countI k) ∧ Ext w w) := fun z h => ⟨by rw [h], Chg.refl _ _⟩; refine Rte Tryz.func99 Tryz.ntmps99 ?_; refine Sa ?_; by_cases h1 : 1 ≤ k; rotate_left
 ·refine LW.know (t := 6) (c := false) rfl (by simp; omega) ?_; refine Sa ?_; refine CW.no rfl (by simp; omega) ?_; refine Sa ?_; refine CW.no rfl (by simp; omega) ?_; refine Sa ?_; refine LW.know (t := 19) (c := false) rfl (by simp; omega) ?_; refine Sa ?_; exact QW.body1 Tryz.results99 rfl (fin _ (by unfold countI; rw [if_pos (by omega)]))
 refine LW.know (t := 6) (c := true) rfl (by simpa using h1) ?_; refine Sa ?_; refine Cwc (fun h2 => ?_) fun h2 => ?_
 ·have h2 : k ≤ 6 := by simpa using h2
  refine Sa ?_; exact QW.body1 Tryz.results99 rfl (fin _ (by unfold countI; rw [if_neg (by omega), if_neg (by omega), if_neg (by omega), if_neg (by omega)]))
 have h2 : 6 < k := by simpa using h2
 refine Sa ?_; refine Cwc (fun h3 => ?_) fun h3 => ?_
 ·have h3 : k = 7 := by simpa using h3
  refine Sa ?_; exact QW.body1 Tryz.results99 rfl (fin _ (by unfold countI; rw [if_neg (by omega), if_pos h3]))
 have h3 : k ≠ 7 := by simpa using h3
 refine Sa ?_; refine Cwc (fun h4 => ?_) fun h4 => ?_
 ·have h4 : k = 8 := by simpa using h4
  refine Sa ?_; exact QW.body1 Tryz.results99 rfl (fin _ (by unfold countI; rw [if_neg (by omega), if_neg (by omega), if_pos h4]))
 have h4 : k ≠ 8 := by simpa using h4
 refine Sa ?_; refine LW.know (t := 19) (c := true) rfl (by simp; omega) ?_; refine Sa ?_; refine Cwc (fun h5 => ?_) fun h5 => ?_
 ·have h5 : k ≤ 19 := by simpa using h5
  refine Sa ?_; exact QW.body1 Tryz.results99 rfl (fin _ (by unfold countI; rw [if_neg (by omega), if_neg (by omega), if_neg (by omega), if_pos (by omega)]))
 have h5 : 19 < k := by simpa using h5
 refine Sa ?_; exact QW.body1 Tryz.results99 rfl (fin _ (by unfold countI; rw [if_pos (by omega)]))
theorem leaf_ret (n : NodeD) (p : Option Addr) (k c : Nat) (w : World) (ht : n.text.length ≤ 1000) (hr : n.ref.sheet.length ≤ 9223372036854775807) (hto : n.to.sheet.length ≤ 9223372036854775807) : Ret Tryz.prog 100 [.agg ⟨nvL ⟨n, .slice p k c⟩⟩] w (fun v w' => v = .bool (plainB n) ∧ Ext w w') := by
 obtain ⟨kd, num, text, ref, to, kids⟩ := n; simp only at ht hr hto; refine Rte Tryz.func100 Tryz.ntmps100 ?_; refine Sa ?_; refine Lwb fun A w1 hbA hx hA => ?_; replace hA : Blk w1 A (nvL ⟨⟨kd, num, text, ref, to, kids⟩, .slice p k c⟩) 133 := hA; by_cases k1 : kd = 1
 ·subst k1; refine Sa ?_; refine Lwp (fun ht1 => ?_) fun ht1 => ?_
  ·refine Sa ?_; refine QW.body1 Tryz.results100 rfl ⟨by have ht1 : text ≠ [] := (by simpa using ht1); simp [plainB, bareN, ht1], hx⟩
  have ht1 : text = [] := by simpa using ht1
  refine Sa ?_; refine LW.load_agg (cs := refL ref) rfl hA rfl rfl rfl ⟨rfl, rfl, rfl, rfl, rfl, trivial⟩ rfl ?_; refine Sa ?_; refine Lc0 rfl rfl (noRef_ret ref _) ?_; rintro v w2 ⟨rfl, hx2⟩; replace hA := hA.ext hx2; replace hx := hx.trans hx2; refine Sa ?_; refine Lwp (fun hr1 => ?_) fun hr1 => ?_
  ·refine Sa ?_; refine QW.body1 Tryz.results100 rfl ⟨by have hr1 : ref ≠ refN := (by simpa using hr1); simp [plainB, bareN, hr1], hx⟩
  have hr1 : ref = refN := by simpa using hr1
  refine Sa ?_; refine LW.load_agg (cs := refL to) rfl hA rfl rfl rfl ⟨rfl, rfl, rfl, rfl, rfl, trivial⟩ rfl ?_; refine Sa ?_; refine Lc0 rfl rfl (noRef_ret to _) ?_; rintro v w3 ⟨rfl, hx3⟩; replace hA := hA.ext hx3; replace hx := hx.trans hx3; refine Sa ?_; refine Cwc (fun ho1 => ?_) fun ho1 => ?_
  ·refine Sa ?_; refine QW.body1 Tryz.results100 rfl ⟨by have ho1 : to ≠ refN := (by simpa using ho1); simp [plainB, bareN, ho1], hx⟩
  have ho1 : to = refN := by simpa using ho1
  refine Sa ?_; refine QW.body1 Tryz.results100 rfl ⟨by simp [plainB, okK, bareN, ht1, hr1, ho1], hx⟩
 by_cases k3 : kd = 3
 ·subst k3; refine Sa ?_; refine Lwp (fun ht1 => ?_) fun ht1 => ?_
  ·refine Sa ?_; refine QW.body1 Tryz.results100 rfl ⟨by have ht1 : text ≠ [] := (by simpa using ht1); simp [plainB, bareN, ht1], hx⟩
  have ht1 : text = [] := by simpa using ht1
  refine Sa ?_; refine LW.load_agg (cs := refL ref) rfl hA rfl rfl rfl ⟨rfl, rfl, rfl, rfl, rfl, trivial⟩ rfl ?_; refine Sa ?_; refine Lc0 rfl rfl (noRef_ret ref _) ?_; rintro v w2 ⟨rfl, hx2⟩; replace hA := hA.ext hx2; replace hx := hx.trans hx2; refine Sa ?_; refine Lwp (fun hr1 => ?_) fun hr1 => ?_
  ·refine Sa ?_; refine QW.body1 Tryz.results100 rfl ⟨by have hr1 : ref ≠ refN := (by simpa using hr1); simp [plainB, bareN, hr1], hx⟩
  have hr1 : ref = refN := by simpa using hr1
  refine Sa ?_; refine LW.load_agg (cs := refL to) rfl hA rfl rfl rfl ⟨rfl, rfl, rfl, rfl, rfl, trivial⟩ rfl ?_; refine Sa ?_; refine Lc0 rfl rfl (noRef_ret to _) ?_; rintro v w3 ⟨rfl, hx3⟩; replace hA := hA.ext hx3; replace hx := hx.trans hx3; refine Sa ?_; refine Cwc (fun ho1 => ?_) fun ho1 => ?_
  ·refine Sa ?_; refine QW.body1 Tryz.results100 rfl ⟨by have ho1 : to ≠ refN := (by simpa using ho1); simp [plainB, bareN, ho1], hx⟩
  have ho1 : to = refN := by simpa using ho1
  refine Sa ?_; refine Lwp (fun hz => ?_) fun hz => ?_
  ·refine Sa ?_; refine QW.body1 Tryz.results100 rfl ⟨by have hz : num = 0 := (by simpa using hz); simp [plainB, okK, bareN, ht1, hr1, ho1, hz], hx⟩
  have hz : num ≠ 0 := by simpa using hz
  refine Sa ?_; refine QW.body1 Tryz.results100 rfl ⟨by simp [plainB, okK, bareN, ht1, hr1, ho1, hz], hx⟩
 by_cases k2 : kd = 2
 ·subst k2; refine Sa ?_; refine Lwp (fun hn1 => ?_) fun hn1 => ?_
  ·refine Sa ?_; refine QW.body1 Tryz.results100 rfl ⟨by have hn1 : num ≠ 0 := (by simpa using hn1); simp [plainB, bareN, hn1], hx⟩
  have hn1 : num = 0 := by simpa using hn1
  refine Sa ?_; refine LW.load_agg (cs := refL ref) rfl hA rfl rfl rfl ⟨rfl, rfl, rfl, rfl, rfl, trivial⟩ rfl ?_; refine Sa ?_; refine Lc0 rfl rfl (noRef_ret ref _) ?_; rintro v w2 ⟨rfl, hx2⟩; replace hA := hA.ext hx2; replace hx := hx.trans hx2; refine Sa ?_; refine Lwp (fun hr1 => ?_) fun hr1 => ?_
  ·refine Sa ?_; refine QW.body1 Tryz.results100 rfl ⟨by have hr1 : ref ≠ refN := (by simpa using hr1); simp [plainB, bareN, hr1], hx⟩
  have hr1 : ref = refN := by simpa using hr1
  refine Sa ?_; refine LW.load_agg (cs := refL to) rfl hA rfl rfl rfl ⟨rfl, rfl, rfl, rfl, rfl, trivial⟩ rfl ?_; refine Sa ?_; refine Lc0 rfl rfl (noRef_ret to _) ?_; rintro v w3 ⟨rfl, hx3⟩; replace hA := hA.ext hx3; replace hx := hx.trans hx3; refine Sa ?_; refine Cwc (fun ho1 => ?_) fun ho1 => ?_
  ·refine Sa ?_; refine QW.body1 Tryz.results100 rfl ⟨by have ho1 : to ≠ refN := (by simpa using ho1); simp [plainB, bareN, ho1], hx⟩
  have ho1 : to = refN := by simpa using ho1
  refine Sa ?_; refine Lc0 rfl rfl (printable_ret text (by omega) _) ?_; rintro v w4 ⟨rfl, hx4⟩; refine Sa ?_; refine QW.body1 Tryz.results100 rfl ⟨by simp [plainB, okK, bareN, hn1, hr1, ho1], hx.trans hx4⟩
 by_cases k7 : kd = 7
 ·subst k7; refine Sa ?_; refine Lwp (fun hn1 => ?_) fun hn1 => ?_
  ·refine Sa ?_; refine QW.body1 Tryz.results100 rfl ⟨by have hn1 : num ≠ 0 := (by simpa using hn1); simp [plainB, bareN, hn1], hx⟩
  have hn1 : num = 0 := by simpa using hn1
  refine Sa ?_; refine LW.load_agg (cs := refL ref) rfl hA rfl rfl rfl ⟨rfl, rfl, rfl, rfl, rfl, trivial⟩ rfl ?_; refine Sa ?_; refine Lc0 rfl rfl (noRef_ret ref _) ?_; rintro v w2 ⟨rfl, hx2⟩; replace hA := hA.ext hx2; replace hx := hx.trans hx2; refine Sa ?_; refine Lwp (fun hr1 => ?_) fun hr1 => ?_
  ·refine Sa ?_; refine QW.body1 Tryz.results100 rfl ⟨by have hr1 : ref ≠ refN := (by simpa using hr1); simp [plainB, bareN, hr1], hx⟩
  have hr1 : ref = refN := by simpa using hr1
  refine Sa ?_; refine LW.load_agg (cs := refL to) rfl hA rfl rfl rfl ⟨rfl, rfl, rfl, rfl, rfl, trivial⟩ rfl ?_; refine Sa ?_; refine Lc0 rfl rfl (noRef_ret to _) ?_; rintro v w3 ⟨rfl, hx3⟩; replace hA := hA.ext hx3; replace hx := hx.trans hx3; refine Sa ?_; refine Cwc (fun ho1 => ?_) fun ho1 => ?_
  ·refine Sa ?_; refine QW.body1 Tryz.results100 rfl ⟨by have ho1 : to ≠ refN := (by simpa using ho1); simp [plainB, bareN, ho1], hx⟩
  have ho1 : to = refN := by simpa using ho1
  refine Sa ?_; refine Lc0 rfl rfl (ReadRef_ret text (by omega) _) ?_; rintro v w4 ⟨rfl, hx4⟩; obtain ⟨x, hx0⟩ := readV_form text; rw [hx0]; replace hA := hA.ext hx4; have hzz := (hx.trans hx4).size; refine Sa ?_; refine Lwa fun R w5 hbR hx5 hR => ?_; replace hA := hA.ext hx5; refine Sa ?_; refine Lws fun w6 hc6 hR => ?_; replace hA := hA.chg hc6 (by have := hA.lt; simp; intro h; subst h; exact absurd (hA.inj (by assumption)) (by decide)); replace hx := (hx.trans (hx4.trans hx5)).step hc6 (by simp; omega); refine Sa ?_; refine Lc0 rfl rfl (rcalled_ret text (by omega) _) ?_; rintro v w7 ⟨rfl, hx7⟩; replace hA := hA.ext hx7; replace hx := hx.trans hx7; refine Sa ?_; refine Lwp (fun q1 => ?_) fun q1 => ?_; rotate_left
  ·refine Sa ?_; refine QW.body1 Tryz.results100 rfl ⟨by simp [plainB, okK, bareN, nameF, q1], hx⟩
  have q1 : fnB text = true := q1; refine Sa ?_; refine Lwp (fun q2 => ?_) fun q2 => ?_; rotate_left
  ·refine Sa ?_; refine QW.body1 Tryz.results100 rfl ⟨by have q2 : okRead text = true := (by simpa using q2); simp [plainB, okK, bareN, nameF, q2], hx⟩
  have q2 : okRead text = false := by simpa using q2
  refine Sa ?_; refine Lwp (fun q3 => ?_) fun q3 => ?_; rotate_left
  ·refine Sa ?_; refine QW.body1 Tryz.results100 rfl ⟨by have q3 : text = trueT := (by simpa [trueT] using q3); simp [plainB, okK, bareN, nameF, q3], hx⟩
  have q3 : text ≠ trueT := by simpa [trueT] using q3
  refine Sa ?_; refine QW.body1 Tryz.results100 rfl ⟨by by_cases h4 : text = [70, 65, 76, 83, 69] <;> simp [plainB, okK, bareN, nameF, q1, q2, q3, hn1, hr1, ho1, falseT, h4], hx⟩
 by_cases k5 : kd = 5
 ·subst k5; refine Sa ?_; refine Lwp (fun hn1 => ?_) fun hn1 => ?_
  ·refine Sa ?_; refine QW.body1 Tryz.results100 rfl ⟨by have hn1 : num ≠ 0 := (by simpa using hn1); simp [plainB, bareN, hn1], hx⟩
  have hn1 : num = 0 := by simpa using hn1
  refine Sa ?_; refine Lwp (fun ht1 => ?_) fun ht1 => ?_
  ·refine Sa ?_; refine QW.body1 Tryz.results100 rfl ⟨by have ht1 : text ≠ [] := (by simpa using ht1); simp [plainB, bareN, ht1], hx⟩
  have ht1 : text = [] := by simpa using ht1
  refine Sa ?_; refine LW.load_agg (cs := refL to) rfl hA rfl rfl rfl ⟨rfl, rfl, rfl, rfl, rfl, trivial⟩ rfl ?_; refine Sa ?_; refine Lc0 rfl rfl (noRef_ret to _) ?_; rintro v w3 ⟨rfl, hx3⟩; replace hA := hA.ext hx3; replace hx := hx.trans hx3; refine Sa ?_; refine Cwc (fun ho1 => ?_) fun ho1 => ?_
  ·refine Sa ?_; refine QW.body1 Tryz.results100 rfl ⟨by have ho1 : to ≠ refN := (by simpa using ho1); simp [plainB, bareN, ho1], hx⟩
  have ho1 : to = refN := by simpa using ho1
  refine Sa ?_; refine LW.load_agg (cs := refL ref) rfl hA rfl rfl rfl ⟨rfl, rfl, rfl, rfl, rfl, trivial⟩ rfl ?_; refine Sa ?_; refine Lc0 rfl rfl (rMay_ret ref (by omega) _) ?_; rintro v w4 ⟨rfl, hx4⟩; refine Sa ?_; refine QW.body1 Tryz.results100 rfl ⟨by simp [plainB, okK, bareN, hn1, ht1, ho1], hx.trans hx4⟩
 by_cases k6 : kd = 6
 ·subst k6; refine Sa ?_; refine Lwp (fun hn1 => ?_) fun hn1 => ?_
  ·refine Sa ?_; refine QW.body1 Tryz.results100 rfl ⟨by have hn1 : num ≠ 0 := (by simpa using hn1); simp [plainB, bareN, hn1], hx⟩
  have hn1 : num = 0 := by simpa using hn1
  refine Sa ?_; refine Lwp (fun ht1 => ?_) fun ht1 => ?_
  ·refine Sa ?_; refine QW.body1 Tryz.results100 rfl ⟨by have ht1 : text ≠ [] := (by simpa using ht1); simp [plainB, bareN, ht1], hx⟩
  have ht1 : text = [] := by simpa using ht1
  refine Sa ?_; refine LW.load_agg (cs := refL ref) rfl hA rfl rfl rfl ⟨rfl, rfl, rfl, rfl, rfl, trivial⟩ rfl ?_; refine Sa ?_; refine Lc0 rfl rfl (rMay_ret ref (by omega) _) ?_; rintro v w4 ⟨rfl, hx4⟩; replace hA := hA.ext hx4; replace hx := hx.trans hx4; refine Sa ?_; refine Lwp (fun m1 => ?_) fun m1 => ?_; rotate_left
  ·refine Sa ?_; refine QW.body1 Tryz.results100 rfl ⟨by simp [plainB, okK, bareN, m1], hx⟩
  have m1 : mayB ref = true := m1; refine Sa ?_; refine LW.load_agg (cs := refL to) rfl hA rfl rfl rfl ⟨rfl, rfl, rfl, rfl, rfl, trivial⟩ rfl ?_; refine Sa ?_; refine Lc0 rfl rfl (rMay_ret to (by omega) _) ?_; rintro v w5 ⟨rfl, hx5⟩; replace hA := hA.ext hx5; replace hx := hx.trans hx5; refine Sa ?_; refine Lwp (fun m2 => ?_) fun m2 => ?_; rotate_left
  ·refine Sa ?_; refine QW.body1 Tryz.results100 rfl ⟨by simp [plainB, okK, bareN, m1, m2], hx⟩
  have m2 : mayB to = true := m2; refine Sa ?_; refine LW.load_agg (cs := refL ref) rfl hA rfl rfl rfl ⟨rfl, rfl, rfl, rfl, rfl, trivial⟩ rfl ?_; refine Sa ?_; refine LW.load_agg (cs := refL to) rfl hA rfl rfl rfl ⟨rfl, rfl, rfl, rfl, rfl, trivial⟩ rfl ?_; refine Sa ?_; refine Lc0 rfl rfl (span_ret ref to _) ?_; rintro v w6 ⟨rfl, hx6⟩; refine Sa ?_; refine QW.body1 Tryz.results100 rfl ⟨by simp [plainB, okK, bareN, hn1, ht1, m1, m2], hx.trans hx6⟩
 have hb : bareN ⟨kd, num, text, ref, to, kids⟩ = ⟨kd, num, text, ref, to, kids⟩ := by simp [bareN, k1, k2, k3, k5, k6, k7]
 have hok : okK ⟨kd, num, text, ref, to, kids⟩ = true := by simp [okK, k1, k2, k3, k5, k6, k7]
 have hpb : plainB ⟨kd, num, text, ref, to, kids⟩ = (decide (num = 0) && (decide (text = []) && (decide (ref = refN) && decide (to = refN)))) := by rw [plainB, hb, hok, Bool.true_and]
 rw [hpb]; refine Sa ?_; refine LW.know (t := 8) (c := true) rfl (by simp [k1]) ?_; refine Sa ?_; refine LW.know (t := 13) (c := true) rfl (by simp [k3]) ?_; refine Sa ?_; refine Lwp (fun hn1 => ?_) fun hn1 => ?_
 ·refine Sa ?_; refine QW.body1 Tryz.results100 rfl ⟨by have hn1 : num ≠ 0 := (by simpa using hn1); simp [hn1], hx⟩
 have hn1 : num = 0 := by simpa using hn1
 refine Sa ?_; refine LW.know (t := 22) (c := true) rfl (by simp [k2]) ?_; refine Sa ?_; refine LW.know (t := 27) (c := true) rfl (by simp [k7]) ?_; refine Sa ?_; refine Lwp (fun ht1 => ?_) fun ht1 => ?_
 ·refine Sa ?_; refine QW.body1 Tryz.results100 rfl ⟨by have ht1 : text ≠ [] := (by simpa using ht1); simp [ht1], hx⟩
 have ht1 : text = [] := by simpa using ht1
 refine Sa ?_; refine LW.know (t := 37) (c := true) rfl (by simp [k5]) ?_; refine Sa ?_; refine LW.know (t := 42) (c := true) rfl (by simp [k6]) ?_; refine Sa ?_; refine LW.load_agg (cs := refL ref) rfl hA rfl rfl rfl ⟨rfl, rfl, rfl, rfl, rfl, trivial⟩ rfl ?_; refine Sa ?_; refine Lc0 rfl rfl (noRef_ret ref _) ?_; rintro v w2 ⟨rfl, hx2⟩; replace hA := hA.ext hx2; replace hx := hx.trans hx2; refine Sa ?_; refine Lwp (fun hr1 => ?_) fun hr1 => ?_
 ·refine Sa ?_; refine QW.body1 Tryz.results100 rfl ⟨by have hr1 : ref ≠ refN := (by simpa using hr1); simp [hr1], hx⟩
 have hr1 : ref = refN := by simpa using hr1
 refine Sa ?_; refine LW.know (t := 53) (c := true) rfl (by simp [k6]) ?_; refine Sa ?_; refine LW.load_agg (cs := refL to) rfl hA rfl rfl rfl ⟨rfl, rfl, rfl, rfl, rfl, trivial⟩ rfl ?_; refine Sa ?_; refine Lc0 rfl rfl (noRef_ret to _) ?_; rintro v w3 ⟨rfl, hx3⟩; replace hA := hA.ext hx3; replace hx := hx.trans hx3; refine Sa ?_; refine Cwc (fun ho1 => ?_) fun ho1 => ?_
 ·refine Sa ?_; refine QW.body1 Tryz.results100 rfl ⟨by have ho1 : to ≠ refN := (by simpa using ho1); simp [ho1], hx⟩
 have ho1 : to = refN := by simpa using ho1
 refine Sa ?_; refine CW.no rfl (decide_eq_false k1) ?_; refine Sa ?_; refine CW.no rfl (decide_eq_false k3) ?_; refine Sa ?_; refine CW.no rfl (decide_eq_false k2) ?_; refine Sa ?_; refine CW.no rfl (decide_eq_false k7) ?_; refine Sa ?_; refine CW.no rfl (decide_eq_false k5) ?_; refine Sa ?_; refine CW.no rfl (decide_eq_false k6) ?_; refine Sa ?_; refine QW.body1 Tryz.results100 rfl ⟨by simp [hn1, ht1, hr1, ho1], hx⟩
theorem rTree_any (l : List NodeD) (v : Value) (w : World) (hN : NodesR w v l) (hs : ShortT l) (hkl : ∀ n ∈ l, n.kids.length ≤ 1000000) : Ret Tryz.prog 76 [v] w (fun v' w' => v' = .bool (treeB l) ∧ Ext w w') := by
 obtain ⟨p, c, rfl⟩ := hN.slice; have hl := hN.1; refine Rte Tryz.func76 Tryz.ntmps76 ?_; refine Sa ?_; refine CW.loop (ι := Nat × List Int × Option Addr × Nat) (fun x w' => x.1 ≤ l.length ∧ x.2.1.length ≤ x.1 ∧ Ext w w' ∧ treeGo 0 [] l = treeGo x.1 x.2.1 (l.drop x.1) ∧ Own w' w.heap.size 3 1 (.slice x.2.2.1 x.2.1.length x.2.2.2) x.2.1.length (icells x.2.1))
  (fun x => [(0, .slice p l.length c), (3, .slice x.2.2.1 x.2.1.length x.2.2.2), (4, .int .i64 x.1)]) (fun x => l.length - x.1) (0, [], none, 0) ⟨by omega, by simp, Chg.refl _ _, rfl, Own.nil _ _ _ _⟩ Sub3 ?_
 rintro ⟨i, st, sp, sc⟩ w1 ⟨hi, hst, hx, heq, ho⟩; dsimp only at hi hst heq ho ⊢; replace hN := hN.ext hx; refine Sa ?_; refine Cwc (fun h1 => ?_) fun h1 => ?_; rotate_left
 ·have h1 : i = l.length := by simp at h1; omega
  subst h1; refine Sa ?_; refine QW.body1 Tryz.results76 rfl ⟨?_, hx⟩; rw [List.drop_length] at heq; rw [treeB, heq]; have : decide ((st.length : Int) = 1) = decide (st.length = 1) := decide_eq_decide.mpr (by omega); exact congrArg Value.bool this
 have h1 : i < l.length := by simp at h1; omega
 obtain ⟨nd, hnd⟩ : ∃ nd, l[i]? = some nd := ⟨_, List.getElem?_eq_getElem h1⟩; obtain ⟨a, kp, kc, rfl, hk, hcell⟩ := hN.at hnd; have hmem := List.mem_of_getElem? hnd; obtain ⟨hs1, hs2, hs3⟩ := hs nd hmem; have hkn := hkl nd hmem; refine Sa ?_; refine LW.idx_addr rfl rfl rfl rfl rfl (by omega) (by omega) rfl ?_; refine LW.load_cells (cs := nvL ⟨nd, .slice kp nd.kids.length kc⟩) rfl hcell rfl rfl rfl rfl ?_; refine Lwa fun C w2 hbC hx2 hC => ?_; refine Lws fun w3 hc3 hC => ?_; replace hC : Blk w3 C (nvL ⟨nd, .slice kp nd.kids.length kc⟩) 133 := hC; refine Sa ?_; refine Lc0 rfl rfl (arms_ret nd.kind w3) ?_; rintro v w4 ⟨rfl, hx4⟩; replace hC := hC.ext hx4; have hsz1 := hx.size; have hsz2 := hx2.size; have hx04 : Ext w1 w4 := (hx2.step hc3 (by simp; omega)).trans hx4; replace hk := hk.ext hx04; replace ho := ho.ext hx04; replace hx := hx.trans hx04; refine Sl ?_; apply LW.nil; apply QW.then_n; refine CW.seq_cut (ι := Unit) (fun _ w' => w' = w4) (fun _ => [(0, .slice (some a) l.length c), (3, .slice sp st.length sc), (4, .int .i64 i), (5, .pointer (some ⟨C, 0, none⟩)), (6, .int .i64 (kidN nd))]) ?_ ?_
 ·refine Sa ?_; refine Cwc (fun h2 => ?_) fun h2 => ?_
  ·have h2 : countI nd.kind = -1 := by simpa using h2
   refine Sa ?_; exact QW.head () rfl (by have : kidN nd = nd.kids.length := if_pos h2; rw [this]; exact (Sub.cons rfl (Sub.cons rfl (Sub.cons rfl (Sub.cons rfl (Sub.cons rfl (Sub.nil)))))))
  ·have h2 : ¬ countI nd.kind = -1 := by simpa using h2
   refine Sa ?_; exact QW.head () rfl (by have : kidN nd = countI nd.kind := if_neg h2; rw [this]; exact (Sub.cons rfl (Sub.cons rfl (Sub.cons rfl (Sub.cons rfl (Sub.cons rfl (Sub.nil)))))))
 rintro _ w5 rfl; have hk0 := hk.1; have hdrop : l.drop i = nd :: l.drop (i + 1) := by rw [List.drop_eq_getElem_cons h1]; congr 1; rw [List.getElem?_eq_getElem h1] at hnd; exact Option.some.inj hnd
 have hstep : ¬ (kidN nd = nd.kids.length ∧ nd.kids.length ≤ st.length ∧ st.drop (st.length - nd.kids.length) = nd.kids ∧ plainB nd = true) → treeGo i st (l.drop i) = none := fun h => by rw [hdrop, treeGo, treeStep, if_neg h]
 have hno : ∀ w', Ext w5 w' → ¬ (kidN nd = nd.kids.length ∧ nd.kids.length ≤ st.length ∧ st.drop (st.length - nd.kids.length) = nd.kids ∧ plainB nd = true) → (Value.bool false = .bool (treeB l) ∧ Ext w w') := fun w' hx' h => ⟨by rw [treeB, heq, hstep h], hx.trans hx'⟩; refine Sa ?_; refine Lwp (fun q0 => ?_) fun q0 => ?_
 ·have q0 : kidN nd < 0 := by simpa using q0
  refine Sa ?_; exact QW.body1 Tryz.results76 rfl (hno _ (Chg.refl _ _) (fun h => by have := h.1; omega))
 have q0 : 0 ≤ kidN nd := by simpa using q0
 refine Sa ?_; refine Lwp (fun q1 => ?_) fun q1 => ?_
 ·have q1 : kidN nd ≠ nd.kids.length := by simpa using q1
  refine Sa ?_; exact QW.body1 Tryz.results76 rfl (hno _ (Chg.refl _ _) (fun h => q1 h.1))
 have n1 : kidN nd = nd.kids.length := by simpa using q1
 refine Sa ?_; refine Lwp (fun q2 => ?_) fun q2 => ?_
 ·have q2 : st.length < kidN nd := by simpa using q2
  refine Sa ?_; exact QW.body1 Tryz.results76 rfl (hno _ (Chg.refl _ _) (fun h => by have := h.2.1; omega))
 have n2 : nd.kids.length ≤ st.length := by simp at q2; omega
 refine Sa ?_; refine Lc0 rfl rfl (leaf_ret nd kp nd.kids.length kc _ hs1 hs2 hs3) ?_; rintro v w6 ⟨rfl, hx6⟩; refine Sa ?_; refine Cwc (fun q3 => ?_) fun q3 => ?_
 ·have q3 : plainB nd = false := by simpa using q3
  refine Sa ?_; exact QW.body1 Tryz.results76 rfl (hno _ hx6 (fun h => by rw [q3] at h; exact absurd h.2.2.2 (by simp)))
 have n4 : plainB nd = true := by simpa using q3
 rw [n1]; replace hC := hC.ext hx6; replace hk := hk.ext hx6; replace ho := ho.ext hx6; refine Sa ?_; refine CW.loop (ι := Nat) (fun j w' => j ≤ nd.kids.length ∧ Ext w6 w' ∧ ∀ m, m < j → st.getD (st.length - nd.kids.length + m) 0 = nd.kids.getD m 0) (fun j => [(0, .slice (some a) l.length c), (3, .slice sp st.length sc), (4, .int .i64 i), (5, .pointer (some ⟨C, 0, none⟩)), (6, .int .i64 (nd.kids.length : Int)), (7, .int .i64 (j : Int))]) (fun j => nd.kids.length - j) 0 ⟨by omega, Chg.refl _ _, by omega⟩ Sub6 ?_; rintro j w7 ⟨hj, hx7, hall⟩; replace hC := hC.ext hx7; replace hk := hk.ext hx7; replace ho := ho.ext hx7; refine Sa ?_; refine Cwc (fun q4 => ?_) fun q4 => ?_
 ·have q4 : j < nd.kids.length := by simp at q4; omega
  obtain ⟨ka, rfl, hkc⟩ := hk.at q4; obtain ⟨sa, rfl, hsc⟩ : ∃ sa, sp = some sa ∧ ∀ m u, (icells st)[m]? = some u → w7.cell? (sa.add m) = some u := by
   rcases Own.cells ho (Nat.le_refl _) with ⟨_, e⟩ | ⟨sa, e, hh⟩
   ·omega
   ·rw [List.take_length] at hh; exact ⟨sa, e, hh⟩
  have hst2 := hsc (st.length - nd.kids.length + j) (.int .i64 (st.getD (st.length - nd.kids.length + j) 0)) (icells_get (by simp [List.getD_eq_getElem?_getD, List.getElem?_eq_getElem (show st.length - nd.kids.length + j < st.length by omega)])); refine Sa ?_; refine Cwd ?_; refine Sq ?_; refine QL.yields rfl rfl rfl (fun w' hw => Y.idx_addr rfl rfl rfl rfl rfl (by omega) (by omega)) ?_; refine QL.yields rfl rfl rfl (fun w' hw => Y.load_cell rfl (cell_ext hw (by rw [← hst2]; congr 2; show ((st.length : Int) - nd.kids.length + j).toNat * 1 = _; omega)) rfl rfl) ?_; refine Sq ?_; refine QL.yields rfl rfl rfl (fun w' hw => Y.idx_addr rfl rfl rfl rfl rfl (by omega) (by omega)) ?_; refine QL.yields rfl rfl rfl (fun w' hw => Y.load_cell rfl (cell_ext hw (by rw [← hkc]; congr 2; show (j : Int).toNat * 1 = _; omega)) rfl rfl) ?_; refine Sq ?_; refine QL.nil fun w8 hx8 => ?_; refine Sa ?_; refine Cwc (fun q5 => ?_) fun q5 => ?_
  ·have q5 : st.getD (st.length - nd.kids.length + j) 0 ≠ nd.kids.getD j 0 := by simpa only [Bool.not_eq_true', decide_eq_false_iff_not] using q5
   refine Sa ?_; refine QW.body1 Tryz.results76 rfl (hno _ ((hx6.trans hx7).trans hx8) (fun h => q5 ?_)); have h3 := h.2.2.1; rw [show nd.kids.getD j 0 = (st.drop (st.length - nd.kids.length)).getD j 0 from by rw [h3]]; simp [List.getD_eq_getElem?_getD, List.getElem?_drop]
  ·have q5 : st.getD (st.length - nd.kids.length + j) 0 = nd.kids.getD j 0 := by simpa only [Bool.not_eq_false', decide_eq_true_eq] using q5
   refine Sa ?_; refine QW.again (j + 1) ⟨by omega, hx7.trans hx8, fun m hm => ?_⟩ Sub6 (by omega); by_cases e : m = j
   ·subst e; exact q5
   ·exact hall m (by omega)
 have q4 : j = nd.kids.length := by simp at q4; omega
 subst q4; have n3 : st.drop (st.length - nd.kids.length) = nd.kids := by
  apply List.ext_getElem
  ·simp; omega
  ·intro m h1 h2; have := hall m h2; rw [List.getElem_drop]
   simpa [List.getD_eq_getElem?_getD, List.getElem?_eq_getElem h2, List.getElem?_eq_getElem (show st.length - nd.kids.length + m < st.length by omega)] using this
 have hxx := (hx.trans hx6).trans hx7; refine Sa ?_; refine LW.slice_to (i := st.length - nd.kids.length) rfl (by show some (Value.int .i64 _) = some (Value.int .i64 _); congr 2; omega) (by show some (Value.int .i64 _) = some (Value.int .i64 _); congr 2; omega) rfl rfl rfl ?_ rfl ?_
 ·have := Own.cap_ ho; omega
 refine Sa ?_; refine Lwl fun B w9 hbB hx9 hB => ?_; replace ho := ho.ext hx9; replace hxx := hxx.trans hx9; refine LW.append_full (xs := icells (st.take (st.length - nd.kids.length))) (lo := w.heap.size) rfl rfl rfl rfl rfl (by exact rfl) ?_ (Own.cells ho (by omega)) hxx.size hB (by exact rfl) (by exact rfl) (by exact rfl) ?_ rfl fun v' w10 hx10 ho10 => ?_
 ·rw [icells_len, List.length_take]; show _ = (st.length - nd.kids.length) * 1; omega
 ·show (st.length - nd.kids.length + 1) * (8 + 1) ≤ _; omega
 refine Sa ?_; obtain ⟨p', c', rfl⟩ := ho10.slice; have e1 : icells (st.take (st.length - nd.kids.length)) ++ [.int .i64 (i : Int)] = icells (st.take (st.length - nd.kids.length) ++ [(i : Int)]) := by simp [icells]
 have e2 : (st.take (st.length - nd.kids.length) ++ [(i : Int)]).length = st.length - nd.kids.length + 1 := by simp [List.length_take]
 refine QW.again (i + 1, st.take (st.length - nd.kids.length) ++ [(i : Int)], p', c') ⟨by omega, by rw [e2]; omega, hxx.trans hx10, ?_, ?_⟩ ?_ (by omega)
 ·rw [heq, hdrop, treeGo, treeStep, if_pos ⟨n1, n2, n3, n4⟩]
 ·dsimp only; rw [e2, ← e1]; exact ho10
 ·dsimp only; rw [e2]; exact Sub3
theorem rTree_ret (l : List NodeD) (v : Value) (w : World) (hN : NodesR w v l) (hs : Short l) (hkl : ∀ n ∈ l, n.kids.length ≤ 1000000) : Ret Tryz.prog 76 [v] w (fun v' w' => v' = .bool (treeB l) ∧ Ext w w') := rTree_any l v w hN hs.t hkl
end Go.Proofs.YtgdohpcnpgjpaaaGreatDoor
