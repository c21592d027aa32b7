/-
  Walks: the reader of a formula's tokens: its small functions.
-/
import Derived.Test.YtfpklhgkndnjjaaDoorTab
import Derived.Test.YtfpklhgkndnjjaaDoorEngC
import Derived.Test.YtfpklhgkndnjjaaDoorLaw4
import Derived.Test.YtfpklhgkndnjjaaDoorParP
namespace Go.Proofs.YtfpklhgkndnjjaaDoor
open Go Go.E

/-! ### What memory holds -/

def icells (ks : List Int) : List Value := ks.map fun k => .int .i64 k
/-- The kids of a node. -/
def KidsOk (w : World) (kv : Value) (ks : List Int) : Prop := kv = .slice none 0 0 ∧ ks = [] ∨ ∃ b cap sp, kv = .slice (some ⟨b, 0, none⟩) ks.length cap ∧ Blk w b (icells ks ++ sp) 3
structure NV where
  node : NodeD
  kv : Value
def nvL (x : NV) : List Value := [.int .i64 x.node.kind, .int .i64 x.node.num, str x.node.text, str x.node.ref.sheet, .int .i64 x.node.ref.col, .int .i64 x.node.ref.row, .bool x.node.ref.ac, .bool x.node.ref.ar, str x.node.to.sheet, .int .i64 x.node.to.col, .int .i64 x.node.to.row, .bool x.node.to.ac, .bool x.node.to.ar, x.kv]
theorem nv_len (x : NV) : (nvL x).length = 14 := rfl

/-- Blocks that are no reader's and no nodes' are as they were. -/
structure Fr (w w' : World) : Prop where
  size : w.heap.size ≤ w'.heap.size
  blk : ∀ b l T, Blk w b l T → T ≠ 86 → T ≠ 59 → Blk w' b l T
theorem Fr.refl (w : World) : Fr w w := ⟨Nat.le_refl _, fun _ _ _ h _ _ => h⟩
theorem Fr.trans {a b c : World} (h : Fr a b) (k : Fr b c) : Fr a c := ⟨Nat.le_trans h.size k.size, fun x l T hx h1 h2 => k.blk x l T (h.blk x l T hx h1 h2) h1 h2⟩
theorem Fr.ext {a b : World} (h : Ext a b) : Fr a b := ⟨h.size, fun _ _ _ hx _ _ => hx.ext h⟩
theorem _root_.Go.E.Blk.inj {w : World} {b : Nat} {l l' : List Value} {T T' : TypeId} (h : Blk w b l T) (k : Blk w b l' T') : T = T' := by
  have := h.symm.trans k
  simp only [Option.some.injEq, Obj.cells.injEq] at this
  exact this.2.1
theorem Fr.chg {S : List Nat} {a b : World} (h : Chg S a b) (hs : ∀ k ∈ S, ∀ l T, Blk a k l T → T = 86 ∨ T = 59) : Fr a b :=
  ⟨h.size, fun x l T hx h1 h2 => hx.chg h (fun hm => by rcases hs x hm l T hx with e | e <;> contradiction)⟩

theorem KidsOk.fr {w w' : World} {kv : Value} {ks : List Int} (h : KidsOk w kv ks) (f : Fr w w') : KidsOk w' kv ks := by
  rcases h with h | ⟨b, cap, sp, e, hb⟩
  · exact .inl h
  · exact .inr ⟨b, cap, sp, e, f.blk _ _ _ hb (by decide) (by decide)⟩

structure PCtx where
  T : List TokD
  tb : Nat
  tcap : Nat
  tsp : List Value
  rb : Nat
  w0 : World
def PCtx.tokv (c : PCtx) : Value := .slice (some ⟨c.tb, 0, none⟩) c.T.length c.tcap
structure PCtx.Ok (c : PCtx) : Prop where
  tok : Blk c.w0 c.tb (c.T.flatMap tokL ++ c.tsp) 47
  len : c.T.length ≤ 301
  last : ∀ i, i < c.T.length → (c.T.getD i tokZ).kind ≠ 0 → i + 1 < c.T.length
  kinds : ∀ t ∈ c.T, 0 ≤ t.kind ∧ t.kind ≤ 6
  new : c.w0.heap.size ≤ c.rb

/-- The reader, with what it has put. -/
def Rd (c : PCtx) (X : List Nat) (w : World) (s : PSt) : Prop :=
  Ext c.w0 w ∧ s.at_ < c.T.length ∧ s.deep ≤ 12 ∧ s.out.length ≤ s.at_ ∧ ∃ (outv : Value) (nvs : List NV), Blk w c.rb [c.tokv, .int .i64 s.at_, outv, .int .i64 s.deep] 86 ∧
    Own w c.w0.heap.size 59 14 outv nvs.length (nvs.flatMap nvL) ∧ nvs.map NV.node = s.out ∧ ∀ x ∈ nvs, KidsOk w x.kv x.node.kids ∧ ∀ b ∈ vblk x.kv, b ∉ X
theorem Rd.ext {c : PCtx} {X : List Nat} {w w' : World} {s : PSt} (h : Rd c X w s) (x : Ext w w') : Rd c X w' s := by
  obtain ⟨h0, h1, h2, h3, outv, nvs, hB, ho, hm, hk⟩ := h
  exact ⟨h0.trans x, h1, h2, h3, outv, nvs, hB.ext x, ho.ext x, hm, fun y hy => ⟨(hk y hy).1.fr (.ext x), (hk y hy).2⟩⟩
/-- A field of the reader that is written. -/
theorem Rd.set {c : PCtx} {X : List Nat} (hc : c.Ok) {w w' : World} {s s' : PSt} {outv : Value} {nvs : List NV} (h0 : Ext c.w0 w) (ho : Own w c.w0.heap.size 59 14 outv nvs.length (nvs.flatMap nvL)) (hm : nvs.map NV.node = s.out) (hk : ∀ x ∈ nvs, KidsOk w x.kv x.node.kids ∧ ∀ b ∈ vblk x.kv, b ∉ X)
    (hB0 : Blk w c.rb [c.tokv, .int .i64 s.at_, outv, .int .i64 s.deep] 86) (hch : Chg [c.rb] w w') (hB : Blk w' c.rb [c.tokv, .int .i64 s'.at_, outv, .int .i64 s'.deep] 86)
    (hso : s'.out = s.out) (h1 : s'.at_ < c.T.length) (h2 : s'.deep ≤ 12) (h3 : s'.out.length ≤ s'.at_) : Rd c X w' s' ∧ Fr w w' := by
  have hf : Fr w w' := Fr.chg hch (fun k hk l T hb => by simp at hk; subst hk; exact .inl (hb.inj hB0))
  refine ⟨⟨h0.step hch (by simpa using hc.new), h1, h2, h3, outv, nvs, hB, ho.chg hch (fun j hj hb => ?_), by rw [hm, hso], fun x hx => ⟨(hk x hx).1.fr hf, (hk x hx).2⟩⟩, hf⟩
  simp only [List.mem_singleton] at hb
  subst hb
  obtain ⟨hl, ⟨rfl, _⟩ | ⟨g, cap, sp, rfl, hg, _⟩⟩ := ho
  · simp [vblk] at hj
  · simp [vblk] at hj
    have e := hg.inj (hj ▸ hB0)
    exact absurd e (by decide)

theorem now_ret {c : PCtx} {X : List Nat} (hc : c.Ok) {w : World} {s : PSt} (h : Rd c X w s) : Ret Tryd.prog 52 [.pointer (some ⟨c.rb, 0, none⟩)] w (fun v w' => v = .agg ⟨tokL (tokAt c.T s)⟩ ∧ Ext w w') := by
  obtain ⟨h0, h1, h2, h3, outv, nvs, hB, ho, hm, hk⟩ := h
  have hT := hc.tok.ext h0
  have hg : c.T[s.at_]? = some (tokAt c.T s) := by simp [tokAt, List.getD_eq_getElem?_getD, List.getElem?_eq_getElem h1]
  refine Ret.enter Tryd.func52 rfl Tryd.ntmps52 (by kernel_rfl) rfl ?_
  (repeat (first | refine La ?_ | refine Lb ?_ | refine Lc ?_ | refine Ld ?_ | refine Le ?_ | refine Lf ?_ | refine Lg ?_ | apply LW.nil | apply QW.then_n | apply QW.round | apply RW.succ | apply CW.seq | apply CW.region | apply CW.skip | apply CW.block | apply CW.ret | apply CW.exit | apply QW.then_ret | apply QW.then_exit | apply QW.blk_n | apply QW.blk_ret | apply QW.blk_exit | refine Ca ?_ | refine Cb ?_ | refine Cc ?_ | refine Lh ?_ | refine Li ?_ | refine Lj ?_ | refine Lk ?_ | refine Ll ?_))
  (apply LW.alloc; exact rfl; exact rfl; exact rfl; intro R w1 hbR hx hR)
  replace hB := hB.ext hx
  replace hT := hT.ext hx
  (repeat (first | refine La ?_ | refine Lb ?_ | refine Lc ?_ | refine Ld ?_ | refine Le ?_ | refine Lf ?_ | refine Lg ?_ | apply LW.nil | apply QW.then_n | apply QW.round | apply RW.succ | apply CW.seq | apply CW.region | apply CW.skip | apply CW.block | apply CW.ret | apply CW.exit | apply QW.then_ret | apply QW.then_exit | apply QW.blk_n | apply QW.blk_ret | apply QW.blk_exit | refine Ca ?_ | refine Cb ?_ | refine Cc ?_ | refine Lh ?_ | refine Li ?_ | refine Lj ?_ | refine Lk ?_ | refine Ll ?_))
  refine CW.drawTail 10 (by kernel_rfl) (by kernel_rfl) fun w2 hx2 => ?_
  replace hB := hB.ext hx2
  replace hT := hT.ext hx2
  replace hR := hR.ext hx2
  unfold PCtx.tokv at hB
  (repeat (first | refine Ta ?_ | refine Te ?_ | refine Tf ?_ | refine Tg ?_ | refine Tm ?_))
  refine TL.yields rfl rfl rfl (Y.load_agg (cs := tokL (tokAt c.T s)) (i := 0 + s.at_ * 9) rfl hT rfl rfl rfl (by rw [Nat.zero_add]; exact flat_agg tok_len hg)) ?_
  refine TL.nil ?_
  show LW _ _ _ [_] _ _ _ _
  (apply LW.store_all; exact rfl; exact rfl; exact rfl; assumption; exact rfl; exact rfl; exact rfl; intro w3 hc3 hR)
  replace hR : Blk w3 R (tokL (tokAt c.T s)) 47 := hR
  (repeat (first | refine La ?_ | refine Lb ?_ | refine Lc ?_ | refine Ld ?_ | refine Le ?_ | refine Lf ?_ | refine Lg ?_ | apply LW.nil | apply QW.then_n | apply QW.round | apply RW.succ | apply CW.seq | apply CW.region | apply CW.skip | apply CW.block | apply CW.ret | apply CW.exit | apply QW.then_ret | apply QW.then_exit | apply QW.blk_n | apply QW.blk_ret | apply QW.blk_exit | refine Ca ?_ | refine Cb ?_ | refine Cc ?_ | refine Lh ?_ | refine Li ?_ | refine Lj ?_ | refine Lk ?_ | refine Ll ?_))
  exact QW.body_c Tryd.results52 rfl hR rfl rfl rfl ⟨rfl, (hx.trans hx2).step hc3 (by simp; omega)⟩
end Go.Proofs.YtfpklhgkndnjjaaDoor
