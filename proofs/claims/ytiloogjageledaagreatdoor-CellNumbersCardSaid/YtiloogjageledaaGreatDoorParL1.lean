/-
  Plain: what a formula's tokens are as nodes: a relation. No program in sight.
  Walks: the reader of a formula's tokens: its small functions.
  Walks: the reader of a formula's tokens: signs that are taken, nodes that are put.
  Walks: the reader of a formula's tokens: a level of operators.
-/
import Derived.Test.YtiloogjageledaaGreatDoorLexL
import Derived.Test.YtiloogjageledaaGreatDoorTab
import Derived.Test.YtiloogjageledaaGreatDoorEngC
import Derived.Test.YtiloogjageledaaGreatDoorLexM
namespace Go.Proofs.YtiloogjageledaaGreatDoor
open Go Go.E

/-- A node, as data. -/
structure NodeD where
  kind : Int
  num : Int := 0
  text : List UInt8 := []
  ref : RefD := refN
  to : RefD := refN
  kids : List Int := []
deriving DecidableEq

structure PSt where
  at_ : Nat
  out : List NodeD
  deep : Nat

inductive PRes where
  | ok (s : PSt) (p : Nat)
  | err (e : Int)

inductive PMode where
  | lev (n : Nat)
  | loop (n : Nat) (a : Nat)
  | unary
  | prim
  | args (name : List UInt8) (ks : List Int)

def tokZ : TokD := ⟨0, [], 0, refN, 0⟩
def tokAt (T : List TokD) (s : PSt) : TokD := T.getD s.at_ tokZ
def isS (T : List TokD) (s : PSt) (x : List UInt8) : Bool := decide ((tokAt T s).kind = 5) && decide ((tokAt T s).text = x)
def adv (s : PSt) : PSt := { s with at_ := s.at_ + 1 }
def deeper (s : PSt) : PSt := { s with deep := s.deep + 1 }
def upper (s : PSt) : PSt := { s with deep := s.deep - 1 }
def putS (s : PSt) (n : NodeD) : PSt := { s with out := s.out ++ [n] }
/-- The operators of a level. -/
def signsN : Nat → List (List UInt8)
  | 0 => [[61], [60, 62], [60], [60, 61], [62], [62, 61]]
  | 1 => [[38]]
  | 2 => [[43], [45]]
  | _ => [[42], [47]]
def kindsN : Nat → List Int
  | 0 => [9, 10, 11, 12, 13, 14]
  | 1 => [15]
  | 2 => [16, 17]
  | _ => [18, 19]
/-- Which operator of a level stands there. -/
def opIx (T : List TokD) (s : PSt) (n : Nat) : Option Nat := if (tokAt T s).kind = 5 then (signsN n).findIdx? (fun x => decide (x = (tokAt T s).text)) else none
def below (n : Nat) : PMode := if n < 3 then .lev (n + 1) else .unary
def rangesB (a b : RefD) : Bool := decide (b.sheet = []) && decide (a.col ≤ b.col) && decide (a.row ≤ b.row)

def trueT : List UInt8 := [84, 82, 85, 69]
def falseT : List UInt8 := [70, 65, 76, 83, 69]

inductive PE (T : List TokD) : PMode → PSt → PRes → Prop
  | lev_err {n s e} : PE T (below n) s (.err e) → PE T (.lev n) s (.err e)
  | lev_ok {n s s1 a r} : PE T (below n) s (.ok s1 a) → PE T (.loop n a) s1 r → PE T (.lev n) s r
  | loop_end {n s a} : opIx T s n = none → PE T (.loop n a) s (.ok s a)
  | loop_err {n s a i e} : opIx T s n = some i → PE T (below n) (adv s) (.err e) → PE T (.loop n a) s (.err e)
  | loop_go {n : Nat} {s : PSt} {a i : Nat} {s1 : PSt} {b : Nat} {r : PRes} : opIx T s n = some i → PE T (below n) (adv s) (.ok s1 b) → PE T (.loop n s1.out.length) (putS s1 { kind := (kindsN n).getD i 0, kids := [(a : Int), (b : Int)] }) r → PE T (.loop n a) s r
  | un_prim {s r} : isS T s [45] = false → PE T .prim s r → PE T .unary s r
  | un_deep {s} : isS T s [45] = true → 12 ≤ s.deep → PE T .unary s (.err 6)
  | un_err {s e} : isS T s [45] = true → s.deep < 12 → PE T .unary (deeper (adv s)) (.err e) → PE T .unary s (.err e)
  | un_ok {s s1 : PSt} {a : Nat} : isS T s [45] = true → s.deep < 12 → PE T .unary (deeper (adv s)) (.ok s1 a) → PE T .unary s (.ok (putS (upper s1) { kind := 8, kids := [(a : Int)] }) s1.out.length)
  | pr_sign {s} : (tokAt T s).kind = 5 → (tokAt T s).text ≠ [40] → PE T .prim s (.err 5)
  | pr_deep {s} : isS T s [40] = true → 12 ≤ s.deep → PE T .prim s (.err 6)
  | pr_err {s e} : isS T s [40] = true → s.deep < 12 → PE T (.lev 0) (deeper (adv s)) (.err e) → PE T .prim s (.err e)
  | pr_open {s s1 a} : isS T s [40] = true → s.deep < 12 → PE T (.lev 0) (deeper (adv s)) (.ok s1 a) → isS T s1 [41] = false → PE T .prim s (.err 5)
  | pr_ok {s s1 a} : isS T s [40] = true → s.deep < 12 → PE T (.lev 0) (deeper (adv s)) (.ok s1 a) → isS T s1 [41] = true → PE T .prim s (.ok (upper (adv s1)) a)
  | pr_end {s} : (tokAt T s).kind = 0 → PE T .prim s (.err 5)
  | pr_num {s} : (tokAt T s).kind = 1 → PE T .prim s (.ok (putS (adv s) { kind := 1, num := (tokAt T s).num }) s.out.length)
  | pr_text {s} : (tokAt T s).kind = 2 → PE T .prim s (.ok (putS (adv s) { kind := 2, text := (tokAt T s).text }) s.out.length)
  | pr_dead {s} : (tokAt T s).kind = 6 → PE T .prim s (.ok (putS (adv s) { kind := 4 }) s.out.length)
  | pr_ref {s} : (tokAt T s).kind = 4 → isS T (adv s) [58] = false → PE T .prim s (.ok (putS (adv s) { kind := 5, ref := (tokAt T s).ref }) s.out.length)
  | pr_range {s} : (tokAt T s).kind = 4 → isS T (adv s) [58] = true → (tokAt T (adv (adv s))).kind = 4 → rangesB (tokAt T s).ref (tokAt T (adv (adv s))).ref = true →
      PE T .prim s (.ok (putS (adv (adv (adv s))) { kind := 6, ref := (tokAt T s).ref, to := (tokAt T (adv (adv s))).ref }) s.out.length)
  | pr_norange {s} : (tokAt T s).kind = 4 → isS T (adv s) [58] = true → ((tokAt T (adv (adv s))).kind ≠ 4 ∨ rangesB (tokAt T s).ref (tokAt T (adv (adv s))).ref = false) → PE T .prim s (.err 5)
  | pr_true {s} : (tokAt T s).kind = 3 → (tokAt T s).text = trueT → PE T .prim s (.ok (putS (adv s) { kind := 3, num := 1 }) s.out.length)
  | pr_false {s} : (tokAt T s).kind = 3 → (tokAt T s).text = falseT → PE T .prim s (.ok (putS (adv s) { kind := 3 }) s.out.length)
  | pr_nocall {s} : (tokAt T s).kind = 3 → (tokAt T s).text ≠ trueT → (tokAt T s).text ≠ falseT → isS T (adv s) [40] = false → PE T .prim s (.err 5)
  | pr_calldeep {s} : (tokAt T s).kind = 3 → (tokAt T s).text ≠ trueT → (tokAt T s).text ≠ falseT → isS T (adv s) [40] = true → 12 ≤ s.deep → PE T .prim s (.err 6)
  | pr_call0 {s} : (tokAt T s).kind = 3 → (tokAt T s).text ≠ trueT → (tokAt T s).text ≠ falseT → isS T (adv s) [40] = true → s.deep < 12 → isS T (deeper (adv (adv s))) [41] = true →
      PE T .prim s (.ok (putS (upper (adv (deeper (adv (adv s))))) { kind := 7, text := (tokAt T s).text }) s.out.length)
  | pr_call {s r} : (tokAt T s).kind = 3 → (tokAt T s).text ≠ trueT → (tokAt T s).text ≠ falseT → isS T (adv s) [40] = true → s.deep < 12 → isS T (deeper (adv (adv s))) [41] = false →
      PE T (.args (tokAt T s).text []) (deeper (adv (adv s))) r → PE T .prim s r
  | ar_err {x ks s e} : PE T (.lev 0) s (.err e) → PE T (.args x ks) s (.err e)
  | ar_go {x ks s s1} {a : Nat} {r} : PE T (.lev 0) s (.ok s1 a) → isS T s1 [44] = true → PE T (.args x (ks ++ [(a : Int)])) (adv s1) r → PE T (.args x ks) s r
  | ar_open {x ks s s1 a} : PE T (.lev 0) s (.ok s1 a) → isS T s1 [44] = false → isS T s1 [41] = false → PE T (.args x ks) s (.err 5)
  | ar_end {x ks s s1} {a : Nat} : PE T (.lev 0) s (.ok s1 a) → isS T s1 [44] = false → isS T s1 [41] = true → PE T (.args x ks) s (.ok (putS (upper (adv s1)) { kind := 7, text := x, kids := ks ++ [(a : Int)] }) s1.out.length)

/-- What comes of a formula's tokens: nodes, or an error. -/
def Parsed (T : List TokD) (o : Except Int (List NodeD)) : Prop :=
  match o with
  | .error e => PE T (.lev 0) ⟨0, [], 0⟩ (.err e) ∨ e = 5 ∧ ∃ s a, PE T (.lev 0) ⟨0, [], 0⟩ (.ok s a) ∧ (tokAt T s).kind ≠ 0
  | .ok l => ∃ s a, PE T (.lev 0) ⟨0, [], 0⟩ (.ok s a) ∧ (tokAt T s).kind = 0 ∧ s.out = l
end Go.Proofs.YtiloogjageledaaGreatDoor

namespace Go.Proofs.YtiloogjageledaaGreatDoor
open Go Go.E

/-! ### What memory holds -/

def icells (ks : List Int) : List Value := ks.map fun k => .int .i64 k
/-- The kids of a node. -/
def KidsOk (w : World) (kv : Value) (ks : List Int) : Prop := kv = .slice none 0 0 ∧ ks = [] ∨ ∃ b cap sp, kv = .slice (some ⟨b, 0, none⟩) ks.length cap ∧ Blk w b (icells ks ++ sp) 3
structure NV where
  node : NodeD
  kv : Value
def nvL (x : NV) : List Value := [.int .i64 x.node.kind, .int .i64 x.node.num, str x.node.text, str x.node.ref.sheet, .int .i64 x.node.ref.col, .int .i64 x.node.ref.row, .bool x.node.ref.ac, .bool x.node.ref.ar, str x.node.to.sheet, .int .i64 x.node.to.col, .int .i64 x.node.to.row, .bool x.node.to.ac, .bool x.node.to.ar, x.kv]
theorem nv_len (x : NV) : (nvL x).length = 14 := rfl

/-- Blocks that are no reader's and no nodes' are as they were. -/
structure Fr (w w' : World) : Prop where
  size : w.heap.size ≤ w'.heap.size
  blk : ∀ b l T, Blk w b l T → T ≠ 99 → T ≠ 38 → Blk w' b l T
theorem Fr.refl (w : World) : Fr w w := ⟨Nat.le_refl _, fun _ _ _ h _ _ => h⟩
theorem Fr.trans {a b c : World} (h : Fr a b) (k : Fr b c) : Fr a c := ⟨Nat.le_trans h.size k.size, fun x l T hx h1 h2 => k.blk x l T (h.blk x l T hx h1 h2) h1 h2⟩
theorem Fr.ext {a b : World} (h : Ext a b) : Fr a b := ⟨h.size, fun _ _ _ hx _ _ => hx.ext h⟩
theorem _root_.Go.E.Blk.inj {w : World} {b : Nat} {l l' : List Value} {T T' : TypeId} (h : Blk w b l T) (k : Blk w b l' T') : T = T' := by
  have := h.symm.trans k
  simp only [Option.some.injEq, Obj.cells.injEq] at this
  exact this.2.1
theorem Fr.chg {S : List Nat} {a b : World} (h : Chg S a b) (hs : ∀ k ∈ S, ∀ l T, Blk a k l T → T = 99 ∨ T = 38) : Fr a b :=
  ⟨h.size, fun x l T hx h1 h2 => hx.chg h (fun hm => by rcases hs x hm l T hx with e | e <;> contradiction)⟩

theorem KidsOk.fr {w w' : World} {kv : Value} {ks : List Int} (h : KidsOk w kv ks) (f : Fr w w') : KidsOk w' kv ks := by
  rcases h with h | ⟨b, cap, sp, e, hb⟩
  · exact .inl h
  · exact .inr ⟨b, cap, sp, e, f.blk _ _ _ hb (by decide) (by decide)⟩

structure PCtx where
  T : List TokD
  tb : Nat
  tcap : Nat
  tsp : List Value
  rb : Nat
  w0 : World
def PCtx.tokv (c : PCtx) : Value := .slice (some ⟨c.tb, 0, none⟩) c.T.length c.tcap
structure PCtx.Ok (c : PCtx) : Prop where
  tok : Blk c.w0 c.tb (c.T.flatMap tokL ++ c.tsp) 102
  len : c.T.length ≤ 301
  last : ∀ i, i < c.T.length → (c.T.getD i tokZ).kind ≠ 0 → i + 1 < c.T.length
  kinds : ∀ t ∈ c.T, 0 ≤ t.kind ∧ t.kind ≤ 6
  new : c.w0.heap.size ≤ c.rb

/-- The reader, with what it has put. -/
def Rd (c : PCtx) (X : List Nat) (w : World) (s : PSt) : Prop :=
  Ext c.w0 w ∧ s.at_ < c.T.length ∧ s.deep ≤ 12 ∧ s.out.length ≤ s.at_ ∧ ∃ (outv : Value) (nvs : List NV), Blk w c.rb [c.tokv, .int .i64 s.at_, outv, .int .i64 s.deep] 99 ∧
    Own w c.w0.heap.size 38 14 outv nvs.length (nvs.flatMap nvL) ∧ nvs.map NV.node = s.out ∧ ∀ x ∈ nvs, KidsOk w x.kv x.node.kids ∧ ∀ b ∈ vblk x.kv, b ∉ X
theorem Rd.ext {c : PCtx} {X : List Nat} {w w' : World} {s : PSt} (h : Rd c X w s) (x : Ext w w') : Rd c X w' s := by
  obtain ⟨h0, h1, h2, h3, outv, nvs, hB, ho, hm, hk⟩ := h
  exact ⟨h0.trans x, h1, h2, h3, outv, nvs, hB.ext x, ho.ext x, hm, fun y hy => ⟨(hk y hy).1.fr (.ext x), (hk y hy).2⟩⟩
/-- A field of the reader that is written. -/
theorem Rd.set {c : PCtx} {X : List Nat} (hc : c.Ok) {w w' : World} {s s' : PSt} {outv : Value} {nvs : List NV} (h0 : Ext c.w0 w) (ho : Own w c.w0.heap.size 38 14 outv nvs.length (nvs.flatMap nvL)) (hm : nvs.map NV.node = s.out) (hk : ∀ x ∈ nvs, KidsOk w x.kv x.node.kids ∧ ∀ b ∈ vblk x.kv, b ∉ X)
    (hB0 : Blk w c.rb [c.tokv, .int .i64 s.at_, outv, .int .i64 s.deep] 99) (hch : Chg [c.rb] w w') (hB : Blk w' c.rb [c.tokv, .int .i64 s'.at_, outv, .int .i64 s'.deep] 99)
    (hso : s'.out = s.out) (h1 : s'.at_ < c.T.length) (h2 : s'.deep ≤ 12) (h3 : s'.out.length ≤ s'.at_) : Rd c X w' s' ∧ Fr w w' := by
  have hf : Fr w w' := Fr.chg hch (fun k hk l T hb => by simp at hk; subst hk; exact .inl (hb.inj hB0))
  refine ⟨⟨h0.step hch (by simpa using hc.new), h1, h2, h3, outv, nvs, hB, ho.chg hch (fun j hj hb => ?_), by rw [hm, hso], fun x hx => ⟨(hk x hx).1.fr hf, (hk x hx).2⟩⟩, hf⟩
  simp only [List.mem_singleton] at hb
  subst hb
  obtain ⟨hl, ⟨rfl, _⟩ | ⟨g, cap, sp, rfl, hg, _⟩⟩ := ho
  · simp [vblk] at hj
  · simp [vblk] at hj
    have e := hg.inj (hj ▸ hB0)
    exact absurd e (by decide)

theorem now_ret {c : PCtx} {X : List Nat} (hc : c.Ok) {w : World} {s : PSt} (h : Rd c X w s) : Ret Tryz.prog 68 [.pointer (some ⟨c.rb, 0, none⟩)] w (fun v w' => v = .agg ⟨tokL (tokAt c.T s)⟩ ∧ Ext w w') := by
  obtain ⟨h0, h1, h2, h3, outv, nvs, hB, ho, hm, hk⟩ := h
  have hT := hc.tok.ext h0
  have hg : c.T[s.at_]? = some (tokAt c.T s) := by simp [tokAt, List.getD_eq_getElem?_getD, List.getElem?_eq_getElem h1]
  refine Ret.enter Tryz.func68 rfl Tryz.ntmps68 (by kernel_rfl) rfl ?_
  refine Sa ?_
  (apply LW.alloc; exact rfl; exact rfl; exact rfl; intro R w1 hbR hx hR)
  replace hB := hB.ext hx
  replace hT := hT.ext hx
  refine Sa ?_
  refine CW.drawTail 10 (by kernel_rfl) (by kernel_rfl) fun w2 hx2 => ?_
  replace hB := hB.ext hx2
  replace hT := hT.ext hx2
  replace hR := hR.ext hx2
  unfold PCtx.tokv at hB
  refine Stz ?_
  refine TL.yields rfl rfl rfl (Y.load_agg (cs := tokL (tokAt c.T s)) (i := 0 + s.at_ * 9) rfl hT rfl rfl rfl (by rw [Nat.zero_add]; exact flat_agg tok_len hg)) ?_
  refine TL.nil ?_
  show LW _ _ _ [_] _ _ _ _
  (apply LW.store_all; exact rfl; exact rfl; exact rfl; assumption; exact rfl; exact rfl; exact rfl; intro w3 hc3 hR)
  replace hR : Blk w3 R (tokL (tokAt c.T s)) 102 := hR
  refine Sa ?_
  exact QW.body_c Tryz.results68 rfl hR rfl rfl rfl ⟨rfl, (hx.trans hx2).step hc3 (by simp; omega)⟩
end Go.Proofs.YtiloogjageledaaGreatDoor

namespace Go.Proofs.YtiloogjageledaaGreatDoor
open Go Go.E

abbrev pv (e : Int) : Value := .iface 95 (.int .i64 e)

theorem fail_ret (b : Nat) (e : Int) (w : World) : RetP Tryz.prog 69 [.pointer (some ⟨b, 0, none⟩), .int .i64 e] w (fun _ _ => False) (fun v w' => v = pv e ∧ Ext w w') := by
  refine RetP.enter Tryz.func69 rfl Tryz.ntmps69 (by kernel_rfl) rfl ?_
  refine Sa ?_
  refine LW.mkIface rfl rfl rfl rfl ?_
  refine Sa ?_
  refine LW.panic rfl ?_
  (repeat (first | apply QW.then_panic | apply QW.blk_panic))
  exact QW.panicP ⟨rfl, Chg.refl _ _⟩

theorem rd_next {c : PCtx} (hc : c.Ok) {s : PSt} (h1 : s.at_ < c.T.length) (hk : (tokAt c.T s).kind ≠ 0) : s.at_ + 1 < c.T.length := hc.last _ h1 hk
theorem isS_kind {T : List TokD} {s : PSt} {x : List UInt8} (h : isS T s x = true) : (tokAt T s).kind = 5 ∧ (tokAt T s).text = x := by
  simpa [isS] using h

def mayS (T : List TokD) (s : PSt) (x : List UInt8) : PSt := if isS T s x then adv s else s

theorem may_ret {c : PCtx} {X : List Nat} (hc : c.Ok) {w : World} {s : PSt} (h : Rd c X w s) (x : List UInt8) : Ret Tryz.prog 248 [.pointer (some ⟨c.rb, 0, none⟩), str x] w
    (fun v w' => v = .bool (isS c.T s x) ∧ Rd c X w' (mayS c.T s x) ∧ Fr w w') := by
  refine Ret.enter Tryz.func248 rfl Tryz.ntmps248 (by kernel_rfl) rfl ?_
  refine Sa ?_
  refine LW.call0 rfl rfl (now_ret hc h) ?_
  rintro v w1 ⟨rfl, hx1⟩
  replace h := h.ext hx1
  refine Sa ?_
  (apply LW.alloc; exact rfl; exact rfl; exact rfl; intro C w2 hbC hx2 hC)
  refine Sa ?_
  (apply LW.store_all; exact rfl; exact rfl; exact rfl; assumption; exact rfl; exact rfl; exact rfl; intro w3 hc3 hC)
  replace hC : Blk w3 C (tokL (tokAt c.T s)) 102 := hC
  have hx3 : Ext w w3 := (hx1.trans hx2).step hc3 (by simp; have := hx1.size; omega)
  have hx3' : Ext w1 w3 := hx2.step hc3 (by simp; omega)
  replace h := h.ext hx3'
  have hlen := hc.len
  refine Sa ?_
  refine LW.part rfl rfl rfl (fun h1 => ?_) (fun h1 => ?_)
  · have h1 : (tokAt c.T s).kind ≠ 5 := by simpa using h1
    have hi : isS c.T s x = false := by simp [isS, h1]
    refine Sa ?_
    exact QW.body1 Tryz.results248 rfl ⟨by rw [hi], by rw [mayS, hi]; exact h, .ext hx3⟩
  have h1 : (tokAt c.T s).kind = 5 := by simpa using h1
  refine Sa ?_
  refine CW.cond rfl (fun h2 => ?_) (fun h2 => ?_)
  · have h2 : (tokAt c.T s).text ≠ x := by simpa using h2
    have hi : isS c.T s x = false := by simp [isS, h2]
    refine Sa ?_
    exact QW.body1 Tryz.results248 rfl ⟨by rw [hi], by rw [mayS, hi]; exact h, .ext hx3⟩
  have h2 : (tokAt c.T s).text = x := by simpa using h2
  have hi : isS c.T s x = true := by simp [isS, h1, h2]
  obtain ⟨a0, a1, a2, a3, outv, nvs, hB, ho, hm, hk⟩ := h
  have hnx := rd_next hc a1 (by omega)
  have hB0 := hB
  refine Sa ?_
  (apply LW.store; exact rfl; exact rfl; exact rfl; assumption; exact rfl; exact rfl; exact rfl; intro w4 hc4 hB)
  replace hB : Blk w4 c.rb [c.tokv, .int .i64 ((s.at_ + 1 : Nat) : Int), outv, .int .i64 s.deep] 99 := hB
  obtain ⟨hr, hf⟩ := Rd.set hc (s := s) (s' := adv s) a0 ho hm hk hB0 hc4 hB rfl hnx a2 (by show s.out.length ≤ s.at_ + 1; omega)
  refine Sa ?_
  exact QW.body1 Tryz.results248 rfl ⟨by rw [hi], by rw [mayS, hi]; exact hr, (Fr.ext hx3).trans hf⟩

theorem need_ret {c : PCtx} {X : List Nat} (hc : c.Ok) {w : World} {s : PSt} (h : Rd c X w s) (x : List UInt8) : RetP Tryz.prog 239 [.pointer (some ⟨c.rb, 0, none⟩), str x] w
    (fun v w' => v = .tuple #[] ∧ isS c.T s x = true ∧ Rd c X w' (adv s) ∧ Fr w w') (fun v w' => v = pv 5 ∧ isS c.T s x = false ∧ Ext c.w0 w') := by
  refine RetP.enter Tryz.func239 rfl Tryz.ntmps239 (by kernel_rfl) rfl ?_
  refine Sa ?_
  refine LW.call0 rfl rfl (may_ret hc h x) ?_
  rintro v w1 ⟨rfl, hr, hf⟩
  refine Sa ?_
  refine CW.cond rfl (fun h1 => ?_) (fun h1 => ?_)
  · have h1 : isS c.T s x = false := by simpa using h1
    rw [mayS, h1, if_neg (by simp)] at hr
    refine Sa ?_
    refine LW.callP0 rfl rfl (fail_ret c.rb 5 w1) ?_ (fun _ _ hh => hh.elim)
    rintro v w2 ⟨rfl, hx2⟩
    (repeat (first | apply QW.then_panic | apply QW.blk_panic))
    exact QW.panicP ⟨rfl, h1, hr.1.trans hx2⟩
  · have h1 : isS c.T s x = true := by simpa using h1
    rw [mayS, if_pos h1] at hr
    refine Sa ?_
    exact QW.bodyP0n Tryz.results239 ⟨rfl, h1, hr, hf⟩

theorem open_ret {c : PCtx} {X : List Nat} (hc : c.Ok) {w : World} {s : PSt} (h : Rd c X w s) (x : List UInt8) : RetP Tryz.prog 227 [.pointer (some ⟨c.rb, 0, none⟩), str x] w
    (fun v w' => v = .tuple #[] ∧ isS c.T s x = true ∧ s.deep < 12 ∧ Rd c X w' (deeper (adv s)) ∧ Fr w w')
    (fun v w' => Ext c.w0 w' ∧ (v = pv 6 ∧ isS c.T s x = true ∧ 12 ≤ s.deep ∨ v = pv 5 ∧ isS c.T s x = false)) := by
  have hd12 := h.2.2.1
  have hlen := hc.len
  refine RetP.enter Tryz.func227 rfl Tryz.ntmps227 (by kernel_rfl) rfl ?_
  refine Sa ?_
  refine LW.call0 rfl rfl (now_ret hc h) ?_
  rintro v w1 ⟨rfl, hx1⟩
  replace h := h.ext hx1
  refine Sa ?_
  (apply LW.alloc; exact rfl; exact rfl; exact rfl; intro C w2 hbC hx2 hC)
  refine Sa ?_
  (apply LW.store_all; exact rfl; exact rfl; exact rfl; assumption; exact rfl; exact rfl; exact rfl; intro w3 hc3 hC)
  replace hC : Blk w3 C (tokL (tokAt c.T s)) 102 := hC
  have hx3 : Ext w w3 := (hx1.trans hx2).step hc3 (by simp; have := hx1.size; omega)
  have hx3' : Ext w1 w3 := hx2.step hc3 (by simp; omega)
  replace h := h.ext hx3'
  refine Sa ?_
  refine LW.part rfl rfl rfl (fun h1 => ?_) (fun h1 => ?_)
  · have h1 : (tokAt c.T s).kind = 5 := by simpa using h1
    refine Sa ?_
    refine LW.part rfl rfl rfl (fun h2 => ?_) (fun h2 => ?_)
    · have h2 : (tokAt c.T s).text = x := by simpa using h2
      have hi : isS c.T s x = true := by simp [isS, h1, h2]
      have hh := h
      obtain ⟨a0, a1, a2, a3, outv, nvs, hB, ho, hm, hk⟩ := hh
      refine Sa ?_
      refine CW.cond rfl (fun h3 => ?_) (fun h3 => ?_)
      · have h3 : 12 ≤ s.deep := by simp at h3; omega
        refine Sa ?_
        refine LW.callP0 rfl rfl (fail_ret c.rb 6 w3) ?_ (fun _ _ hh => hh.elim)
        rintro v w4 ⟨rfl, hx4⟩
        (repeat (first | apply QW.then_panic | apply QW.blk_panic))
        exact QW.panicP ⟨h.1.trans hx4, .inl ⟨rfl, hi, h3⟩⟩
      · have h3 : s.deep < 12 := by simp at h3; omega
        clear hB ho hm hk
        refine Sa ?_
        refine LW.callP0 rfl rfl (need_ret hc h x) ?_ ?_
        · rintro v w4 ⟨rfl, hi2, hx4⟩
          (repeat (first | apply QW.then_panic | apply QW.blk_panic))
          exact QW.panicP ⟨hx4, .inr ⟨rfl, hi2⟩⟩
        rintro v w4 ⟨rfl, hi2, hr, hf⟩
        have hh2 := hr
        obtain ⟨a0, a1, a2, a3, outv, nvs, hB, ho, hm, hk⟩ := hh2
        have hB0 := hB
        simp only [adv] at hB
        refine Sa ?_
        (apply LW.store; exact rfl; exact rfl; exact rfl; assumption; exact rfl; exact rfl; exact rfl; intro w5 hc5 hB)
        replace hB : Blk w5 c.rb [c.tokv, .int .i64 (adv s).at_, outv, .int .i64 ((s.deep + 1 : Nat) : Int)] 99 := hB
        obtain ⟨hr5, hf5⟩ := Rd.set hc (s := adv s) (s' := deeper (adv s)) a0 ho hm hk hB0 hc5 hB rfl a1 (by show s.deep + 1 ≤ 12; omega) a3
        refine Sa ?_
        exact QW.bodyP0n Tryz.results227 ⟨rfl, hi2, h3, hr5, ((Fr.ext hx3).trans hf).trans hf5⟩
    · have h2 : (tokAt c.T s).text ≠ x := by simpa using h2
      have hi : isS c.T s x = false := by simp [isS, h2]
      refine Sa ?_
      refine Sa ?_
      refine LW.callP0 rfl rfl (need_ret hc h x) ?_ ?_
      · rintro v w4 ⟨rfl, hi2, hx4⟩
        (repeat (first | apply QW.then_panic | apply QW.blk_panic))
        exact QW.panicP ⟨hx4, .inr ⟨rfl, hi2⟩⟩
      rintro v w4 ⟨rfl, hi2, hr, hf⟩
      rw [hi] at hi2
      cases hi2
  · have h1 : (tokAt c.T s).kind ≠ 5 := by simpa using h1
    have hi : isS c.T s x = false := by simp [isS, h1]
    refine Sa ?_
    refine Sa ?_
    refine LW.callP0 rfl rfl (need_ret hc h x) ?_ ?_
    · rintro v w4 ⟨rfl, hi2, hx4⟩
      (repeat (first | apply QW.then_panic | apply QW.blk_panic))
      exact QW.panicP ⟨hx4, .inr ⟨rfl, hi2⟩⟩
    rintro v w4 ⟨rfl, hi2, hr, hf⟩
    rw [hi] at hi2
    cases hi2

theorem KidsOk.one {w : World} {kv : Value} {ks : List Int} (h : KidsOk w kv ks) : kv.oneCell' = true := by
  rcases h with ⟨rfl, _⟩ | ⟨b, cap, sp, rfl, _⟩ <;> rfl

theorem put_ret {c : PCtx} {X : List Nat} (hc : c.Ok) {w : World} {s : PSt} (h : Rd c X w s) (x : NV) (hx : KidsOk w x.kv x.node.kids) (hxX : ∀ b ∈ vblk x.kv, b ∉ X) (hs : s.out.length + 1 ≤ s.at_) : Ret Tryz.prog 154 [.pointer (some ⟨c.rb, 0, none⟩), .agg ⟨nvL x⟩] w
    (fun v w' => v = .int .i64 s.out.length ∧ Rd c X w' (putS s x.node) ∧ Fr w w') := by
  have hlen := hc.len
  obtain ⟨a0, a1, a2, a3, outv, nvs, hB, ho, hm, hk⟩ := h
  have hnl : nvs.length = s.out.length := by rw [← hm]; simp
  obtain ⟨p1, q1, e1⟩ := ho.slice
  subst e1
  have hkv : x.kv.oneCell' = true := hx.one
  have hnv : (nvL x).all (·.oneCell') = true := by
    simp only [nvL, List.all_cons, hkv]
    rfl
  refine Ret.enter Tryz.func154 rfl Tryz.ntmps154 (by kernel_rfl) rfl ?_
  refine Sa ?_
  (apply LW.box; exact rfl; exact rfl; exact rfl; intro C w1 hbC hx1 hC)
  replace hC : Blk w1 C (nvL x) 38 := hC
  replace hB := hB.ext hx1
  refine Sa ?_
  refine CW.drawAny (by kernel_rfl) fun w2 hx2 => ?_
  replace hB := hB.ext hx2
  replace hC := hC.ext hx2
  have hx2' := hx1.trans hx2
  have hz2 := hx2'.size
  refine AW.take 0 rfl rfl rfl rfl (fun w => Y.pure rfl) rfl rfl (by kernel_rfl) (by kernel_rfl) (by kernel_rfl) (fun _ _ _ h => h) ?_
  refine AW.take 1 rfl rfl rfl rfl (fun w => Y.pure rfl) rfl rfl (by kernel_rfl) (by kernel_rfl) (by kernel_rfl) (fun _ _ _ h => h) ?_
  refine AW.take 2 rfl rfl rfl rfl (fun w => Y.pure rfl) rfl rfl (by kernel_rfl) (by kernel_rfl) (by kernel_rfl) (fun _ _ _ h => h) ?_
  refine AW.take 3 rfl rfl rfl rfl (fun w => Y.pure rfl) rfl rfl (by kernel_rfl) (by kernel_rfl) (by kernel_rfl) (fun _ _ _ h => h) ?_
  refine AW.two 4 5 (by kernel_rfl) rfl rfl rfl rfl ?_ ?_
  · refine Sa ?_
    apply QW.any
    refine AW.one 5 (by kernel_rfl) rfl rfl ?_
    refine Sa ?_
    apply QW.any
    refine AW.one 6 (by kernel_rfl) rfl rfl ?_
    (apply LW.buildSlice; exact rfl; exact rfl; exact rfl; exact rfl; exact rfl; exact rfl; exact rfl; exact rfl; exact rfl; intro A w3 hbA hx3 hA)
    replace hA : Blk w3 A (nvL x) 38 := hA
    have hB3 := hB.ext hx3
    have hx3' := hx2'.trans hx3
    have hz3 := hx3'.size
    have ho3 := ho.ext hx3'
    refine Sa ?_
    apply QW.any
    refine AW.one 7 (by kernel_rfl) rfl rfl ?_
    refine LW.append rfl rfl rfl rfl rfl rfl ho3 (by have := a0.size; omega) hA rfl hnv rfl (by show (nvs.length + 1) * 137 ≤ 140737488355328; omega) rfl ?_
    intro v' w4 hc4 ho4 hnew
    have hrb : c.rb ∉ vblk (Value.slice p1 nvs.length q1) := fun hm => by
      obtain ⟨_, ⟨e, _⟩ | ⟨g, cap, sp, e, hg, _⟩⟩ := ho3
      · rw [e] at hm; simp [vblk] at hm
      · rw [e] at hm
        simp [vblk] at hm
        exact absurd (hg.inj (hm ▸ hB3)) (by decide)
    have hf4 : Fr w3 w4 := Fr.chg hc4 (fun k hk l T hb => by
      obtain ⟨_, ⟨e, _⟩ | ⟨g, cap, sp, e, hg, _⟩⟩ := ho3
      · rw [e] at hk; simp [vblk] at hk
      · rw [e] at hk
        simp [vblk] at hk
        subst hk
        exact .inr (hb.inj hg))
    have hB4 := hB3.chg hc4 hrb
    have hx4 : Ext c.w0 w4 := (a0.trans hx3').step hc4 (fun k hk => (ho3.lt hk).1)
    obtain ⟨p2, q2, e2⟩ := ho4.slice
    subst e2
    refine Sa ?_
    apply QW.any
    refine AW.one 8 (by kernel_rfl) rfl rfl ?_
    refine Sa ?_
    apply QW.any
    refine AW.one 9 (by kernel_rfl) rfl rfl ?_
    refine Sa ?_
    apply QW.any
    refine AW.one 10 (by kernel_rfl) rfl rfl ?_
    have hB0 := hB4
    (apply LW.store; exact rfl; exact rfl; exact rfl; assumption; exact rfl; exact rfl; exact rfl; intro w5 hc5 hB4)
    replace hB4 : Blk w5 c.rb [c.tokv, .int .i64 s.at_, .slice p2 (nvs.length + 1) q2, .int .i64 s.deep] 99 := hB4
    have hrb2 : ∀ j, j ∈ vblk (Value.slice p2 (nvs.length + 1) q2) → j ∉ [c.rb] := fun j hj hb => by
      simp only [List.mem_singleton] at hb
      subst hb
      obtain ⟨_, ⟨e, _⟩ | ⟨g, cap, sp, e, hg, _⟩⟩ := ho4
      · rw [e] at hj; simp [vblk] at hj
      · rw [e] at hj
        simp [vblk] at hj
        exact absurd (hg.inj (hj ▸ hB0)) (by decide)
    have hf5 : Fr w4 w5 := Fr.chg hc5 (fun k hk l T hb => by simp at hk; subst hk; exact .inl (hb.inj hB0))
    have hff : Fr w w5 := ((Fr.ext hx3').trans hf4).trans hf5
    have ho5 := ho4.chg hc5 hrb2
    apply LW.nil
    apply QW.any
    refine AW.done (by kernel_rfl) ?_
    refine Sa ?_
    refine QW.body1 Tryz.results154 rfl ⟨by rw [← hnl]; congr 1; omega, ⟨hx4.step hc5 (by simpa using hc.new), a1, a2, by simp [putS]; omega, .slice p2 (nvs.length + 1) q2, nvs ++ [x], hB4, by simpa using ho5, by simp [putS, hm], ?_⟩, hff⟩
    intro y hy
    rw [List.mem_append] at hy
    rcases hy with hy | hy
    · exact ⟨(hk y hy).1.fr hff, (hk y hy).2⟩
    · simp only [List.mem_singleton] at hy
      subst hy
      exact ⟨hx.fr hff, hxX⟩
  · refine Sa ?_
    apply QW.any
    refine AW.two 4 6 (by kernel_rfl) rfl rfl rfl rfl ?_ ?_
    · refine Sa ?_
      apply QW.any
      refine AW.one 6 (by kernel_rfl) rfl rfl ?_
      (apply LW.buildSlice; exact rfl; exact rfl; exact rfl; exact rfl; exact rfl; exact rfl; exact rfl; exact rfl; exact rfl; intro A w3 hbA hx3 hA)
      replace hA : Blk w3 A (nvL x) 38 := hA
      have hB3 := hB.ext hx3
      have hx3' := hx2'.trans hx3
      have hz3 := hx3'.size
      have ho3 := ho.ext hx3'
      refine Sa ?_
      apply QW.any
      refine AW.one 7 (by kernel_rfl) rfl rfl ?_
      refine LW.append rfl rfl rfl rfl rfl rfl ho3 (by have := a0.size; omega) hA rfl hnv rfl (by show (nvs.length + 1) * 137 ≤ 140737488355328; omega) rfl ?_
      intro v' w4 hc4 ho4 hnew
      have hrb : c.rb ∉ vblk (Value.slice p1 nvs.length q1) := fun hm => by
        obtain ⟨_, ⟨e, _⟩ | ⟨g, cap, sp, e, hg, _⟩⟩ := ho3
        · rw [e] at hm; simp [vblk] at hm
        · rw [e] at hm
          simp [vblk] at hm
          exact absurd (hg.inj (hm ▸ hB3)) (by decide)
      have hf4 : Fr w3 w4 := Fr.chg hc4 (fun k hk l T hb => by
        obtain ⟨_, ⟨e, _⟩ | ⟨g, cap, sp, e, hg, _⟩⟩ := ho3
        · rw [e] at hk; simp [vblk] at hk
        · rw [e] at hk
          simp [vblk] at hk
          subst hk
          exact .inr (hb.inj hg))
      have hB4 := hB3.chg hc4 hrb
      have hx4 : Ext c.w0 w4 := (a0.trans hx3').step hc4 (fun k hk => (ho3.lt hk).1)
      obtain ⟨p2, q2, e2⟩ := ho4.slice
      subst e2
      refine Sa ?_
      apply QW.any
      refine AW.one 8 (by kernel_rfl) rfl rfl ?_
      refine Sa ?_
      apply QW.any
      refine AW.one 9 (by kernel_rfl) rfl rfl ?_
      refine Sa ?_
      apply QW.any
      refine AW.one 10 (by kernel_rfl) rfl rfl ?_
      have hB0 := hB4
      (apply LW.store; exact rfl; exact rfl; exact rfl; assumption; exact rfl; exact rfl; exact rfl; intro w5 hc5 hB4)
      replace hB4 : Blk w5 c.rb [c.tokv, .int .i64 s.at_, .slice p2 (nvs.length + 1) q2, .int .i64 s.deep] 99 := hB4
      have hrb2 : ∀ j, j ∈ vblk (Value.slice p2 (nvs.length + 1) q2) → j ∉ [c.rb] := fun j hj hb => by
        simp only [List.mem_singleton] at hb
        subst hb
        obtain ⟨_, ⟨e, _⟩ | ⟨g, cap, sp, e, hg, _⟩⟩ := ho4
        · rw [e] at hj; simp [vblk] at hj
        · rw [e] at hj
          simp [vblk] at hj
          exact absurd (hg.inj (hj ▸ hB0)) (by decide)
      have hf5 : Fr w4 w5 := Fr.chg hc5 (fun k hk l T hb => by simp at hk; subst hk; exact .inl (hb.inj hB0))
      have hff : Fr w w5 := ((Fr.ext hx3').trans hf4).trans hf5
      have ho5 := ho4.chg hc5 hrb2
      apply LW.nil
      apply QW.any
      refine AW.done (by kernel_rfl) ?_
      refine Sa ?_
      refine QW.body1 Tryz.results154 rfl ⟨by rw [← hnl]; congr 1; omega, ⟨hx4.step hc5 (by simpa using hc.new), a1, a2, by simp [putS]; omega, .slice p2 (nvs.length + 1) q2, nvs ++ [x], hB4, by simpa using ho5, by simp [putS, hm], ?_⟩, hff⟩
      intro y hy
      rw [List.mem_append] at hy
      rcases hy with hy | hy
      · exact ⟨(hk y hy).1.fr hff, (hk y hy).2⟩
      · simp only [List.mem_singleton] at hy
        subst hy
        exact ⟨hx.fr hff, hxX⟩
    · (apply LW.buildSlice; exact rfl; exact rfl; exact rfl; exact rfl; exact rfl; exact rfl; exact rfl; exact rfl; exact rfl; intro A w3 hbA hx3 hA)
      replace hA : Blk w3 A (nvL x) 38 := hA
      have hB3 := hB.ext hx3
      have hx3' := hx2'.trans hx3
      have hz3 := hx3'.size
      have ho3 := ho.ext hx3'
      refine Sa ?_
      apply QW.any
      refine AW.one 4 (by kernel_rfl) rfl rfl ?_
      refine Sa ?_
      apply QW.any
      refine AW.one 7 (by kernel_rfl) rfl rfl ?_
      refine LW.append rfl rfl rfl rfl rfl rfl ho3 (by have := a0.size; omega) hA rfl hnv rfl (by show (nvs.length + 1) * 137 ≤ 140737488355328; omega) rfl ?_
      intro v' w4 hc4 ho4 hnew
      have hrb : c.rb ∉ vblk (Value.slice p1 nvs.length q1) := fun hm => by
        obtain ⟨_, ⟨e, _⟩ | ⟨g, cap, sp, e, hg, _⟩⟩ := ho3
        · rw [e] at hm; simp [vblk] at hm
        · rw [e] at hm
          simp [vblk] at hm
          exact absurd (hg.inj (hm ▸ hB3)) (by decide)
      have hf4 : Fr w3 w4 := Fr.chg hc4 (fun k hk l T hb => by
        obtain ⟨_, ⟨e, _⟩ | ⟨g, cap, sp, e, hg, _⟩⟩ := ho3
        · rw [e] at hk; simp [vblk] at hk
        · rw [e] at hk
          simp [vblk] at hk
          subst hk
          exact .inr (hb.inj hg))
      have hB4 := hB3.chg hc4 hrb
      have hx4 : Ext c.w0 w4 := (a0.trans hx3').step hc4 (fun k hk => (ho3.lt hk).1)
      obtain ⟨p2, q2, e2⟩ := ho4.slice
      subst e2
      refine Sa ?_
      apply QW.any
      refine AW.one 8 (by kernel_rfl) rfl rfl ?_
      refine Sa ?_
      apply QW.any
      refine AW.one 9 (by kernel_rfl) rfl rfl ?_
      refine Sa ?_
      apply QW.any
      refine AW.one 10 (by kernel_rfl) rfl rfl ?_
      have hB0 := hB4
      (apply LW.store; exact rfl; exact rfl; exact rfl; assumption; exact rfl; exact rfl; exact rfl; intro w5 hc5 hB4)
      replace hB4 : Blk w5 c.rb [c.tokv, .int .i64 s.at_, .slice p2 (nvs.length + 1) q2, .int .i64 s.deep] 99 := hB4
      have hrb2 : ∀ j, j ∈ vblk (Value.slice p2 (nvs.length + 1) q2) → j ∉ [c.rb] := fun j hj hb => by
        simp only [List.mem_singleton] at hb
        subst hb
        obtain ⟨_, ⟨e, _⟩ | ⟨g, cap, sp, e, hg, _⟩⟩ := ho4
        · rw [e] at hj; simp [vblk] at hj
        · rw [e] at hj
          simp [vblk] at hj
          exact absurd (hg.inj (hj ▸ hB0)) (by decide)
      have hf5 : Fr w4 w5 := Fr.chg hc5 (fun k hk l T hb => by simp at hk; subst hk; exact .inl (hb.inj hB0))
      have hff : Fr w w5 := ((Fr.ext hx3').trans hf4).trans hf5
      have ho5 := ho4.chg hc5 hrb2
      apply LW.nil
      apply QW.any
      refine AW.done (by kernel_rfl) ?_
      refine Sa ?_
      refine QW.body1 Tryz.results154 rfl ⟨by rw [← hnl]; congr 1; omega, ⟨hx4.step hc5 (by simpa using hc.new), a1, a2, by simp [putS]; omega, .slice p2 (nvs.length + 1) q2, nvs ++ [x], hB4, by simpa using ho5, by simp [putS, hm], ?_⟩, hff⟩
      intro y hy
      rw [List.mem_append] at hy
      rcases hy with hy | hy
      · exact ⟨(hk y hy).1.fr hff, (hk y hy).2⟩
      · simp only [List.mem_singleton] at hy
        subst hy
        exact ⟨hx.fr hff, hxX⟩
end Go.Proofs.YtiloogjageledaaGreatDoor

namespace Go.Proofs.YtiloogjageledaaGreatDoor
open Go Go.E

theorem findIdx_first {α : Type} (p : α → Bool) (d : α) : ∀ (l : List α) (k : Nat), k < l.length → (∀ j, j < k → p (l.getD j d) = false) → p (l.getD k d) = true → l.findIdx? p = some k
  | [], k, hk, _, _ => by simp at hk
  | x :: r, 0, _, _, h => by
    have h : p x = true := h
    simp [List.findIdx?_cons, h]
  | x :: r, k + 1, hk, hn, h => by
    have h0 : p x = false := hn 0 (by omega)
    have ih := findIdx_first p d r k (by simpa using hk) (fun j hj => hn (j + 1) (by omega)) h
    simp [List.findIdx?_cons, h0, ih]
theorem findIdx_none {α : Type} (p : α → Bool) (d : α) : ∀ (l : List α), (∀ j, j < l.length → p (l.getD j d) = false) → l.findIdx? p = none
  | [], _ => rfl
  | x :: r, hn => by
    have h0 : p x = false := hn 0 (by simp)
    have ih := findIdx_none p d r (fun j hj => hn (j + 1) (by simp; omega))
    simp [List.findIdx?_cons, h0, ih]
def ixZ : Option Nat → Int
  | some i => i
  | none => -1

theorem index_ret (xs : List (List UInt8)) (hl : xs.length ≤ 100) (s : List UInt8) (b cap : Nat) (w : World) (hB : Blk w b (xs.map str) 9) : Ret Tryz.prog 153 [.slice (some ⟨b, 0, none⟩) xs.length cap, str s] w
    (fun v w' => v = .int .i64 (ixZ (xs.findIdx? (fun x => decide (x = s)))) ∧ Ext w w') := by
  refine Ret.enter Tryz.func153 rfl Tryz.ntmps153 (by kernel_rfl) rfl ?_
  refine Sa ?_
  refine CW.loop (ι := Nat) (fun k w' => k ≤ xs.length ∧ Ext w w' ∧ ∀ j, j < k → decide (xs.getD j [] = s) = false) (fun k => [(0, .slice (some ⟨b, 0, none⟩) xs.length cap), (1, str s), (7, .int .i64 xs.length), (8, .int .i64 k)]) (fun k => xs.length - k) 0 ⟨by omega, Chg.refl _ _, by omega⟩ (Sub.cons rfl (Sub.cons rfl (Sub.cons rfl (Sub.cons rfl (Sub.nil))))) ?_
  rintro k w1 ⟨hk, hx, hall⟩
  replace hB := hB.ext hx
  refine Sa ?_
  refine CW.cond rfl (fun h1 => ?_) (fun h1 => ?_)
  · have h1 : k < xs.length := by simp at h1; omega
    have hv : (xs.map str)[k]? = some (str (xs.getD k [])) := by simp [List.getD_eq_getElem?_getD, List.getElem?_eq_getElem h1]
    refine Sa ?_
    refine LW.idx_slice (j := k) rfl rfl rfl rfl rfl (by omega) (by omega) (by show 0 + _ * 1 = _; omega) rfl ?_
    refine LW.load rfl hB hv rfl rfl rfl ?_
    refine Sa ?_
    refine CW.cond rfl (fun h2 => ?_) (fun h2 => ?_)
    · have h2 : decide (xs.getD k [] = s) = true := by simpa using (by simpa using h2 : s = xs.getD k []).symm
      refine Sa ?_
      refine QW.body1 Tryz.results153 rfl ⟨?_, hx⟩
      rw [findIdx_first (fun x => decide (x = s)) [] xs k h1 hall h2]
      rfl
    · have h2 : decide (xs.getD k [] = s) = false := by
        have h2 : ¬ s = xs.getD k [] := by simpa using h2
        simpa using fun e => h2 e.symm
      refine Sa ?_
      refine QW.again (k + 1) ⟨by omega, hx, fun j hj => ?_⟩ (Sub.cons rfl (Sub.cons rfl (Sub.cons rfl (Sub.cons rfl (Sub.nil))))) (by omega)
      by_cases e : j = k
      · subst e; exact h2
      · exact hall j (by omega)
  · have h1 : k = xs.length := by simp at h1; omega
    subst h1
    refine Sa ?_
    refine QW.body1 Tryz.results153 rfl ⟨?_, hx⟩
    rw [findIdx_none (fun x => decide (x = s)) [] xs hall]
    rfl

theorem ranges_ret (a b : RefD) (w : World) : Ret Tryz.prog 120 [.agg ⟨refL a⟩, .agg ⟨refL b⟩] w (fun v w' => v = .bool (rangesB a b) ∧ Ext w w') := by
  refine Ret.enter Tryz.func120 rfl Tryz.ntmps120 (by kernel_rfl) rfl ?_
  refine Sa ?_
  (apply LW.box; exact rfl; exact rfl; exact rfl; intro A w1 hbA hx1 hA)
  replace hA : Blk w1 A (refL a) 35 := hA
  refine Sa ?_
  (apply LW.box; exact rfl; exact rfl; exact rfl; intro B w2 hbB hx2 hB)
  replace hB : Blk w2 B (refL b) 35 := hB
  replace hA := hA.ext hx2
  have hx := hx1.trans hx2
  refine Sa ?_
  refine LW.part rfl rfl rfl (fun h1 => ?_) (fun h1 => ?_)
  · refine Sa ?_
    refine LW.part rfl rfl rfl (fun h2 => ?_) (fun h2 => ?_)
    all_goals
      refine Sa ?_
      refine QW.body1 Tryz.results120 rfl ⟨?_, hx⟩
      simp [rangesB, h1, h2]
  · refine Sa ?_
    refine QW.body1 Tryz.results120 rfl ⟨?_, hx⟩
    simp [rangesB, h1]

/-! ### Contracts of the readers -/

def POk (c : PCtx) (X : List Nat) (m : PMode) (s : PSt) (w : World) (v : Value) (w' : World) : Prop :=
  ∃ (s' : PSt) (p : Nat), v = .int .i64 (p : Int) ∧ PE c.T m s (.ok s' p) ∧ Rd c X w' s' ∧ Fr w w' ∧ s.at_ < s'.at_ ∧ s'.deep = s.deep ∧ s.at_ + s'.out.length ≤ s'.at_ + s.out.length
def PBad (c : PCtx) (m : PMode) (s : PSt) (v : Value) (w' : World) : Prop := ∃ e, v = pv e ∧ PE c.T m s (.err e) ∧ Ext c.w0 w'
def PC (c : PCtx) (f : Nat) (m : PMode) (s : PSt) : Prop := ∀ w X, (∀ b ∈ X, b < w.heap.size) → Rd c X w s → RetP Tryz.prog f [.pointer (some ⟨c.rb, 0, none⟩)] w (POk c X m s w) (PBad c m s)

theorem lens (n : Nat) : (signsN n).length = (kindsN n).length ∧ (signsN n).length ≤ 6 := by
  match n with
  | 0 | 1 | 2 | n + 3 => exact ⟨rfl, by simp [signsN]⟩
theorem findIdx_lt {α : Type} {p : α → Bool} {l : List α} {i : Nat} (h : l.findIdx? p = some i) : i < l.length := (List.findIdx?_eq_some_iff_findIdx_eq.1 h).1

theorem Rd.len {c : PCtx} {X : List Nat} {w : World} {s : PSt} (h : Rd c X w s) : s.at_ < c.T.length ∧ s.deep ≤ 12 ∧ s.out.length ≤ s.at_ := ⟨h.2.1, h.2.2.1, h.2.2.2.1⟩

theorem chain_ret {c : PCtx} {X : List Nat} (hc : c.Ok) (n fB sb kb : Nat) (s : PSt) (w : World) (hX : ∀ b ∈ X, b < w.heap.size) (h : Rd c X w s) (hsb : Blk w sb ((signsN n).map str) 9) (hkb : Blk w kb (icells (kindsN n)) 3)
    (h1 : PC c fB (below n) s) (h2 : ∀ s', s.at_ < s'.at_ → s'.deep = s.deep → PC c fB (below n) s') :
    RetP Tryz.prog 110 [.pointer (some ⟨c.rb, 0, none⟩), .agg ⟨[.func (.func fB) #[.pointer (some ⟨c.rb, 0, none⟩)] #[], .slice (some ⟨sb, 0, none⟩) (signsN n).length (signsN n).length, .slice (some ⟨kb, 0, none⟩) (kindsN n).length (kindsN n).length]⟩] w
      (POk c X (.lev n) s w) (PBad c (.lev n) s) := by
  have hlen := hc.len
  obtain ⟨hl1, hl2⟩ := lens n
  refine RetP.enter Tryz.func110 rfl Tryz.ntmps110 (by kernel_rfl) rfl ?_
  refine Sa ?_
  (apply LW.box; exact rfl; exact rfl; exact rfl; intro L w1 hbL hx1 hL)
  replace hsb := hsb.ext hx1
  replace hkb := hkb.ext hx1
  replace h := h.ext hx1
  have hf1 := Fr.ext hx1
  refine Sa ?_
  refine LW.callP rfl rfl rfl (h1 w1 X (fun b hb => Nat.lt_of_lt_of_le (hX b hb) hx1.size) h) ?_ ?_
  · rintro v w2 ⟨e, rfl, hp, hx⟩
    (repeat (first | apply QW.then_panic | apply QW.blk_panic))
    exact QW.panicP ⟨e, rfl, .lev_err hp, hx⟩
  rintro v w2 ⟨s1, a, rfl, hp, hr, hf, g1, g2, g3⟩
  refine Sa ?_
  refine CW.loop (ι := PSt × Nat) (fun k w' => s.at_ < k.1.at_ ∧ k.1.deep = s.deep ∧ s.at_ + k.1.out.length ≤ k.1.at_ + s.out.length ∧ Rd c X w' k.1 ∧ Fr w1 w' ∧ ∀ r, PE c.T (.loop n k.2) k.1 r → PE c.T (.lev n) s r) (fun k => [(0, .pointer (some ⟨c.rb, 0, none⟩)), (3, .pointer (some ⟨L, 0, none⟩)), (5, .int .i64 (k.2 : Int))]) (fun k => c.T.length - k.1.at_) (s1, a)
    ⟨g1, g2, g3, hr, hf, fun r hl => .lev_ok hp hl⟩ (Sub.cons rfl (Sub.cons rfl (Sub.cons rfl (Sub.nil)))) ?_
  clear hr hp g1 g2 g3 hf a s1 w2
  rintro ⟨t, a⟩ w2 ⟨g1, g2, g3, hr, hf, hcont⟩
  simp only at g1 g2 g3 hr hcont
  show CW _ _ _ _ _ [(0, .pointer (some ⟨c.rb, 0, none⟩)), (3, .pointer (some ⟨L, 0, none⟩)), (5, .int .i64 (a : Int))] _
  have hL2 := hf.blk _ _ _ hL (by decide) (by decide)
  have hsb2 := hf.blk _ _ _ hsb (by decide) (by decide)
  have hkb2 := hf.blk _ _ _ hkb (by decide) (by decide)
  obtain ⟨q1, q2, q3⟩ := hr.len
  obtain ⟨r1, r2, r3⟩ := h.len
  refine Sa ?_
  refine LW.call0 rfl rfl (now_ret hc hr) ?_
  rintro v w3 ⟨rfl, hx3⟩
  refine Sa ?_
  (apply LW.alloc; exact rfl; exact rfl; exact rfl; intro C w4 hbC hx4 hC)
  refine Sa ?_
  (apply LW.store_all; exact rfl; exact rfl; exact rfl; assumption; exact rfl; exact rfl; exact rfl; intro w5 hc5 hC)
  replace hC : Blk w5 C (tokL (tokAt c.T t)) 102 := hC
  have hx5 : Ext w2 w5 := (hx3.trans hx4).step hc5 (by simp; have := hx3.size; omega)
  replace hL2 := hL2.ext hx5
  replace hsb2 := hsb2.ext hx5
  replace hkb2 := hkb2.ext hx5
  replace hr := hr.ext hx5
  replace hf := hf.trans (.ext hx5)
  refine Sa ?_
  refine CW.cond rfl (fun hk => ?_) (fun hk => ?_)
  · have hk : (tokAt c.T t).kind = 5 := by simpa using hk
    refine Sa ?_
    refine LW.call0 rfl rfl (index_ret (signsN n) (by omega) (tokAt c.T t).text sb _ _ hsb2) ?_
    rintro v w6 ⟨rfl, hx6⟩
    replace hL2 := hL2.ext hx6
    replace hkb2 := hkb2.ext hx6
    replace hr := hr.ext hx6
    replace hf := hf.trans (.ext hx6)
    have hop : opIx c.T t n = (signsN n).findIdx? (fun x => decide (x = (tokAt c.T t).text)) := by rw [opIx, if_pos hk]
    cases hi : (signsN n).findIdx? (fun x => decide (x = (tokAt c.T t).text)) with
    | none =>
      rw [hi] at hop
      simp only [ixZ]
      refine Sa ?_
      exact QW.bodyP1 Tryz.results110 rfl ⟨t, a, rfl, hcont _ (.loop_end hop), hr, hf1.trans hf, g1, g2, g3⟩
    | some i =>
      rw [hi] at hop
      have hil := findIdx_lt hi
      simp only [ixZ]
      refine Sa ?_
      obtain ⟨a0, a1, a2, a3, outv, nvs, hB, ho, hm, hkids⟩ := hr
      have hnx := rd_next hc a1 (by omega)
      have hB0 := hB
      refine Sa ?_
      (apply LW.store; exact rfl; exact rfl; exact rfl; assumption; exact rfl; exact rfl; exact rfl; intro w7 hc7 hB)
      replace hB : Blk w7 c.rb [c.tokv, .int .i64 (adv t).at_, outv, .int .i64 t.deep] 99 := hB
      obtain ⟨hr, hf7⟩ := Rd.set hc (s := t) (s' := adv t) a0 ho hm hkids hB0 hc7 hB rfl hnx a2 (by show t.out.length ≤ t.at_ + 1; omega)
      replace hf := hf.trans hf7
      replace hL2 := hf7.blk _ _ _ hL2 (by decide) (by decide)
      replace hkb2 := hf7.blk _ _ _ hkb2 (by decide) (by decide)
      refine Sa ?_
      refine LW.callP rfl rfl rfl (h2 (adv t) (by show s.at_ < t.at_ + 1; omega) g2 w7 X (fun b hb => Nat.lt_of_lt_of_le (hX b hb) (hf1.trans hf).size) hr) ?_ ?_
      · rintro v w8 ⟨e, rfl, hp, hx⟩
        (repeat (first | apply QW.then_panic | apply QW.blk_panic))
        exact QW.panicP ⟨e, rfl, hcont _ (.loop_err hop hp), hx⟩
      rintro v w8 ⟨s1, b, rfl, hp, hr8, hf8, k1, k2, k3⟩
      have k1' : t.at_ + 1 < s1.at_ := k1
      have k3' : t.at_ + 1 + s1.out.length ≤ s1.at_ + t.out.length := k3
      replace hf := hf.trans hf8
      have hz8 := (hf1.trans hf).size
      replace hL2 := hf8.blk _ _ _ hL2 (by decide) (by decide)
      replace hkb2 := hf8.blk _ _ _ hkb2 (by decide) (by decide)
      have hkv : (icells (kindsN n))[i]? = some (.int .i64 ((kindsN n).getD i 0)) := by simp [icells, List.getD_eq_getElem?_getD, List.getElem?_eq_getElem (show i < (kindsN n).length by omega)]
      refine Sa ?_
      refine LW.idx_slice (j := i) rfl rfl rfl rfl rfl (by omega) (by omega) (by show 0 + _ * 1 = _; omega) rfl ?_
      refine LW.load rfl hkb2 hkv rfl rfl rfl ?_
      refine Sa ?_
      (apply LW.buildSlice; exact rfl; exact rfl; exact rfl; exact rfl; exact rfl; exact rfl; exact rfl; exact rfl; exact rfl; intro K w9 hbK hx9 hK)
      replace hK : Blk w9 K (icells [(a : Int), (b : Int)]) 3 := hK
      replace hr8 := hr8.ext hx9
      replace hf := hf.trans (.ext hx9)
      refine Sa ?_
      refine LW.call0 (vs := [.pointer (some ⟨c.rb, 0, none⟩), .agg ⟨nvL ⟨{ kind := (kindsN n).getD i 0, kids := [(a : Int), (b : Int)] }, .slice (some ⟨K, 0, none⟩) 2 2⟩⟩]) rfl rfl (put_ret hc hr8 ⟨{ kind := (kindsN n).getD i 0, kids := [(a : Int), (b : Int)] }, .slice (some ⟨K, 0, none⟩) 2 2⟩ (.inr ⟨K, 2, [], rfl, by rw [List.append_nil]; exact hK⟩) (fun b hb hbX => by
        have h3 := hX b hbX
        simp [vblk] at hb
        omega) (by omega)) ?_
      rintro v w10 ⟨rfl, hr10, hf10⟩
      refine Sa ?_
      refine QW.again (putS s1 { kind := (kindsN n).getD i 0, kids := [(a : Int), (b : Int)] }, s1.out.length) ⟨by show s.at_ < s1.at_; omega, k2.trans g2, by simp [putS]; omega, hr10, hf.trans hf10, fun r hl => hcont r (.loop_go hop hp hl)⟩ (Sub.cons rfl (Sub.cons rfl (Sub.cons rfl (Sub.nil)))) (by show c.T.length - s1.at_ < c.T.length - t.at_; omega)
  · have hk : (tokAt c.T t).kind ≠ 5 := by simpa using hk
    have hop : opIx c.T t n = none := by rw [opIx, if_neg hk]
    refine Sa ?_
    exact QW.bodyP1 Tryz.results110 rfl ⟨t, a, rfl, hcont _ (.loop_end hop), hr, hf1.trans hf, g1, g2, g3⟩
end Go.Proofs.YtiloogjageledaaGreatDoor
