/-
  Walks: a formula's nodes made by numbers.
-/
import Derived.Test.YtiloogjageledaaGreatDoorLaw6A
import Derived.Test.YtiloogjageledaaGreatDoorEngH
namespace Go.Proofs.YtiloogjageledaaGreatDoor
open Go Go.E

/-! ### Plain -/

/-- No brackets. -/
def noP (s : List UInt8) : Bool := s.all (fun c => decide (c ≠ 40) && decide (c ≠ 41))
def FineM (nd : NodeD) : Prop := nd.text.length ≤ 10 ∧ nd.ref.sheet.length ≤ 10 ∧ nd.to.sheet.length ≤ 10 ∧ nd.num ≤ 255 ∧ nd.kids.length ≤ 100 ∧ noP nd.text = true
def shM (n : Int) : List UInt8 := if n / 8 % 3 = 2 then [84] else []
def refM (n : Int) : RefD := ⟨shM n, n / 16 % 5, n / 8 % 7, decide (128 < n), false⟩
def refA (n : Int) : RefD := ⟨[], n / 16 % 3, n / 8 % 4, false, false⟩
def refB (n : Int) : RefD := ⟨[], 1 + n / 16, 2 + n / 8, false, false⟩
def leafM (n : Int) : List NodeD := [{ kind := 1, num := n }, { kind := 5, ref := refM n }, { kind := 6, ref := refA n, to := refB n }, { kind := 2, text := [97, 34] ++ Lib.itoa n }, { kind := 3, num := n / 32 % 2 }, { kind := 4 }]
def okM (nd : NodeD) : Bool := plainB nd && decide (kidN nd = nd.kids.length) && decide (nd.text.length ≤ 10) && decide (nd.ref.sheet.length ≤ 10) && decide (nd.to.sheet.length ≤ 10) && decide (nd.num ≤ 255) && decide (nd.kids.length ≤ 100) && noP nd.text
theorem okM_parts {nd : NodeD} (h : okM nd = true) : plainB nd = true ∧ kidN nd = nd.kids.length ∧ FineM nd := by
  simp only [okM, Bool.and_eq_true, decide_eq_true_eq] at h
  obtain ⟨⟨⟨⟨⟨⟨⟨h0, h1⟩, h2⟩, h3⟩, h4⟩, h5⟩, h6⟩, h7⟩ := h
  exact ⟨h0, h1, h2, h3, h4, h5, h6, h7⟩
def allLeaf (n : Nat) : Bool := (leafM (n : Int)).all okM
theorem leaf_all : ∀ n : Fin 256, allLeaf n.val = true := by decide +kernel
theorem leaf_ok {n : Int} (h0 : 0 ≤ n) (h1 : n ≤ 255) {nd : NodeD} (h : nd ∈ leafM n) : plainB nd = true ∧ kidN nd = nd.kids.length ∧ FineM nd := by
  have := leaf_all ⟨n.toNat, by omega⟩
  simp only [allLeaf] at this
  rw [show ((n.toNat : Nat) : Int) = n by omega] at this
  exact okM_parts (List.all_eq_true.1 this nd h)
theorem op_ok {k : Int} (h0 : 9 ≤ k) (h1 : k ≤ 19) (a b : Int) : plainB { kind := k, kids := [a, b] } = true ∧ kidN { kind := k, kids := [a, b] } = ([a, b] : List Int).length ∧ FineM { kind := k, kids := [a, b] } := by
  obtain ⟨h2, h3⟩ := two_node h0 h1 a b
  exact ⟨h3, h2, by simp [FineM, refN, noP]⟩
theorem neg_ok (a : Int) : plainB { kind := 8, kids := [a] } = true ∧ kidN { kind := 8, kids := [a] } = ([a] : List Int).length ∧ FineM { kind := 8, kids := [a] } := ⟨rfl, rfl, by simp [FineM, refN, noP]⟩
theorem call_ok {ks : List Int} (h : ks.length ≤ 100) : plainB { kind := 7, text := [83, 85, 77], kids := ks } = true ∧ kidN { kind := 7, text := [83, 85, 77], kids := ks } = ks.length ∧ FineM { kind := 7, text := [83, 85, 77], kids := ks } := by
  obtain ⟨h2, h3⟩ := call_node (x := [83, 85, 77]) (by decide +kernel) ks
  exact ⟨h3, h2, by simp [FineM, refN, noP]; omega⟩

/-! ### What memory holds -/

def NP (w0 w : World) (l : List NodeD) (outv stv : Value) : Prop := ∃ nvs : List NV, Own w w0.heap.size 38 14 outv nvs.length (nvs.flatMap nvL) ∧ nvs.map NV.node = l ∧ ∀ x ∈ nvs, KidsOk w x.kv x.node.kids ∧ ∀ b ∈ vblk x.kv, b ∉ vblk stv
theorem KidsOk.chg {S : List Nat} {w w' : World} {kv stv : Value} {ks : List Int} (h : KidsOk w kv ks) (hn : ∀ b ∈ vblk kv, b ∉ vblk stv) (hc : Chg S w w') (h2 : ∀ b ∈ S, b ∈ vblk stv ∨ ∃ l T, Blk w b l T ∧ T ≠ 3) : KidsOk w' kv ks := by
  rcases h with h | ⟨b, cap, sp, e, hb⟩
  · exact .inl h
  · refine .inr ⟨b, cap, sp, e, hb.chg hc (fun hm => ?_)⟩
    rcases h2 b hm with h2 | ⟨l, T, h3, h4⟩
    · exact hn b (by rw [e]; simp [vblk]) h2
    · exact h4 (h3.inj hb)
theorem KidsOk.lt {w : World} {kv : Value} {ks : List Int} (h : KidsOk w kv ks) : ∀ b ∈ vblk kv, b < w.heap.size := by
  rcases h with ⟨rfl, _⟩ | ⟨b, cap, sp, rfl, hb⟩
  · simp [vblk]
  · simp [vblk]; exact hb.lt
theorem NP.chg {S : List Nat} {w0 w w' : World} {l : List NodeD} {outv stv : Value} (h : NP w0 w l outv stv) (hc : Chg S w w') (h1 : ∀ b ∈ vblk outv, b ∉ S) (h2 : ∀ b ∈ S, b ∈ vblk stv ∨ ∃ l T, Blk w b l T ∧ T ≠ 3) : NP w0 w' l outv stv := by
  obtain ⟨nvs, ho, hm, hk⟩ := h
  exact ⟨nvs, ho.chg hc h1, hm, fun x hx => ⟨(hk x hx).1.chg (hk x hx).2 hc h2, (hk x hx).2⟩⟩
theorem NP.ext {w0 w w' : World} {l : List NodeD} {outv stv : Value} (h : NP w0 w l outv stv) (hx : Ext w w') : NP w0 w' l outv stv := h.chg hx (by simp) (by simp)
theorem NP.stv {w0 w : World} {l : List NodeD} {outv stv stv' : Value} (h : NP w0 w l outv stv) (hs : ∀ j ∈ vblk stv', j ∈ vblk stv ∨ w.heap.size ≤ j) : NP w0 w l outv stv' := by
  obtain ⟨nvs, ho, hm, hk⟩ := h
  refine ⟨nvs, ho, hm, fun x hx => ⟨(hk x hx).1, fun b hb hj => ?_⟩⟩
  rcases hs b hj with hs | hs
  · exact (hk x hx).2 b hb hs
  · have := (hk x hx).1.lt b hb; omega
/-- A stack's value: one that has been made, or the head of one. -/
def SV (w0 w : World) (v : Value) (s : List Int) : Prop := Own w w0.heap.size 3 1 v s.length (icells s) ∨ ∃ p, v = .slice p s.length s.length ∧ (p = none ∧ s.length = 0 ∨ ∃ a, p = some a ∧ ∀ j u, (icells s)[j]? = some u → w.cell? (a.add j) = some u)

structure MI (w0 w : World) (l : List NodeD) (st : List Int) (outv stv : Value) : Prop where
  ext : Ext w0 w
  sown : Own w w0.heap.size 3 1 stv st.length (icells st)
  go : treeGo 0 [] l = some st
  le : st.length ≤ l.length
  pos : 0 < l.length → 0 < st.length
  fine : ∀ nd ∈ l, FineM nd
  np : NP w0 w l outv stv
theorem MI.grow {w0 w w' : World} {l : List NodeD} {st : List Int} {outv stv : Value} (h : MI w0 w l st outv stv) (hx : Ext w w') : MI w0 w' l st outv stv := ⟨h.ext.trans hx, h.sown.ext hx, h.go, h.le, h.pos, h.fine, h.np.ext hx⟩

theorem MI.chgX {w0 w w' : World} {l : List NodeD} {st : List Int} {outv stv : Value} {X : Nat} {L : List Value} (h : MI w0 w l st outv stv) (hw : w0.heap.size ≤ X) (hXo : X ∉ vblk outv) (hXs : X ∉ vblk stv) (hX0 : Blk w X L 38) (hc : Chg [X] w w') : MI w0 w' l st outv stv :=
  ⟨h.ext.step hc (by simpa using hw), h.sown.chg hc (fun b hb hm => hXs (by simp at hm; subst hm; exact hb)), h.go, h.le, h.pos, h.fine, h.np.chg hc (fun b hb hm => hXo (by simp at hm; subst hm; exact hb)) (fun b hb => by
    simp only [List.mem_singleton] at hb
    subst hb
    exact .inr ⟨_, _, hX0, by decide⟩)⟩
structure CI (w0 w : World) (l : List NodeD) (outv : Value) (X : Nat) (nd : NodeD) (kv : Value) (s2 : List Int) (stv : Value) : Prop where
  ext : Ext w0 w
  np : NP w0 w l outv stv
  blk : Blk w X (nvL ⟨nd, kv⟩) 38
  kids : KidsOk w kv nd.kids
  apart : ∀ b ∈ vblk kv, b ∉ vblk stv
  sv : SV w0 w stv s2
  go : treeGo 0 [] (l ++ [nd]) = some (s2 ++ [(l.length : Int)])
  fine : FineM nd
  le : s2.length ≤ l.length
theorem vblk_same (p : Option Addr) (m c m' c' : Nat) : vblk (.slice p m c) = vblk (.slice p m' c') := by cases p <;> rfl
theorem ci_pop {w0 w w' : World} {l : List NodeD} {s2 ks : List Int} {outv kv : Value} {sp : Option Addr} {sc n X : Nat} {nd : NodeD} {L : List Value} (h : MI w0 w l (s2 ++ ks) outv (.slice sp n sc)) (hn : n = (s2 ++ ks).length) (hw : w0.heap.size ≤ X) (hXo : X ∉ vblk outv) (hXs : X ∉ vblk (.slice sp n sc)) (hX0 : Blk w X L 38) (hc : Chg [X] w w') (hX : Blk w' X (nvL ⟨nd, kv⟩) 38)
    (hkv : KidsOk w kv ks) (hfr : ∀ b ∈ vblk kv, b ∉ vblk (.slice sp n sc)) (ok : plainB nd = true ∧ kidN nd = nd.kids.length ∧ FineM nd) (hk : nd.kids = ks) : CI w0 w' l outv X nd kv s2 (.slice sp s2.length s2.length) := by
  subst hk
  have hS : ∀ b ∈ [X], b ∈ vblk (.slice sp n sc) ∨ ∃ l T, Blk w b l T ∧ T ≠ 3 := fun b hb => by
    simp only [List.mem_singleton] at hb
    subst hb
    exact .inr ⟨_, _, hX0, by decide⟩
  have ho := h.sown.chg hc (fun b hb hm => hXs (by simp at hm; subst hm; exact hb))
  subst hn
  refine ⟨h.ext.step hc (by simpa using hw), (h.np.chg hc (fun b hb hm => hXo (by simp at hm; subst hm; exact hb)) hS).stv (fun j hj => .inl (by rw [vblk_same sp _ _ s2.length s2.length]; exact hj)), hX, hkv.chg hfr hc hS, fun b hb => by rw [vblk_same sp _ _ (s2 ++ nd.kids).length sc]; exact hfr b hb, .inr ⟨sp, rfl, ?_⟩, ?_, ok.2.2, ?_⟩
  · have := Own.cells ho (i := s2.length) (by simp)
    rw [List.take_left'] at this
    · exact this
    · rfl
  · have := tree_put (n := nd) h.go rfl ok.2.1 ok.1
    simpa using this
  · have := h.le
    simp at this
    omega
theorem ci_leaf {w0 w w' : World} {l : List NodeD} {st : List Int} {outv stv : Value} {X : Nat} {nd : NodeD} {L : List Value} (h : MI w0 w l st outv stv) (hw : w0.heap.size ≤ X) (hXo : X ∉ vblk outv) (hXs : X ∉ vblk stv) (hX0 : Blk w X L 38) (hc : Chg [X] w w') (hX : Blk w' X (nvL ⟨nd, .slice none 0 0⟩) 38)
    (ok : plainB nd = true ∧ kidN nd = nd.kids.length ∧ FineM nd) (hk : nd.kids = []) : CI w0 w' l outv X nd (.slice none 0 0) st stv := by
  have ho := h.sown.chg hc (fun b hb hm => hXs (by simp at hm; subst hm; exact hb))
  refine ⟨h.ext.step hc (by simpa using hw), h.np.chg hc (fun b hb hm => hXo (by simp at hm; subst hm; exact hb)) (fun b hb => by
    simp only [List.mem_singleton] at hb
    subst hb
    exact .inr ⟨_, _, hX0, by decide⟩), hX, .inl ⟨rfl, hk⟩, by simp [vblk], .inl ho, ?_, ok.2.2, h.le⟩
  have := tree_put (st' := st) (ks := []) (n := nd) (by simpa using h.go) hk ok.2.1 ok.1
  simpa using this

/-- Behind the stack's growth. -/
structure TI (w0 w : World) (l : List NodeD) (outv : Value) (X : Nat) (nd : NodeD) (kv : Value) (s2 : List Int) (stv : Value) : Prop where
  ext : Ext w0 w
  np : NP w0 w l outv stv
  blk : Blk w X (nvL ⟨nd, kv⟩) 38
  kids : KidsOk w kv nd.kids
  apart : ∀ b ∈ vblk kv, b ∉ vblk stv
  sown : Own w w0.heap.size 3 1 stv (s2.length + 1) (icells (s2 ++ [(l.length : Int)]))
theorem ti_of {w0 w w' : World} {l : List NodeD} {outv : Value} {X : Nat} {nd : NodeD} {kv : Value} {s2 : List Int} {stv stv' : Value} {S : List Nat} (h : CI w0 w l outv X nd kv s2 stv) (hc : Chg S w w') (hS : ∀ b ∈ S, w0.heap.size ≤ b ∧ b ∈ vblk stv) (hT : ∀ b ∈ S, ∀ L T, Blk w b L T → T = 3) (hs : ∀ j ∈ vblk stv', j ∈ vblk stv ∨ w.heap.size ≤ j)
    (ho : Own w' w0.heap.size 3 1 stv' (s2.length + 1) (icells s2 ++ [.int .i64 (l.length : Int)])) : TI w0 w' l outv X nd kv s2 stv' := by
  have hout : ∀ b ∈ vblk outv, b ∉ S := fun b hb hm => by
    obtain ⟨nvs, hon, _, _⟩ := h.np
    obtain ⟨_, ⟨e, _⟩ | ⟨g, cap, sp, e, hg, _⟩⟩ := hon
    · rw [e] at hb; simp [vblk] at hb
    · rw [e] at hb
      simp [vblk] at hb
      subst hb
      exact absurd (hT _ hm _ _ hg) (by decide)
  refine ⟨h.ext.step hc (fun b hb => (hS b hb).1), ?_, h.blk.chg hc (fun hm => absurd (hT _ hm _ _ h.blk) (by decide)), h.kids.chg h.apart hc (fun b hb => .inl (hS b hb).2), fun b hb hj => ?_, ?_⟩
  · obtain ⟨nvs, a1, a2, a3⟩ := h.np
    refine ⟨nvs, a1.chg hc hout, a2, fun x hx => ⟨(a3 x hx).1.chg (a3 x hx).2 hc (fun b hb => .inl (hS b hb).2), fun b hb hj => ?_⟩⟩
    rcases hs b hj with h1 | h1
    · exact (a3 x hx).2 b hb h1
    · have := (a3 x hx).1.lt b hb; omega
  · rcases hs b hj with h1 | h1
    · exact h.apart b hb h1
    · have := h.kids.lt b hb; omega
  · have e1 : icells (s2 ++ [(l.length : Int)]) = icells s2 ++ [.int .i64 (l.length : Int)] := by simp [icells]
    rw [e1]
    exact ho

/-- What the call hands back. -/
def MadeV (ns : List Int) (v : Value) (w : World) (l : List NodeD) : Prop := NodesR w v l ∧ Short l ∧ NumOk l ∧ (∀ n ∈ l, n.kids.length ≤ 100) ∧ (l = [] ↔ ns = []) ∧ (l = [] ∨ treeB l = true) ∧ ∀ n ∈ l, noP n.text = true

set_option maxHeartbeats 4000000 in
theorem Made_ret (ns : List Int) (vn : Value) (w : World) (hin : InS .u8 w vn ns) (hb : ∀ z ∈ ns, 0 ≤ z ∧ z ≤ 255) : Ret Tryz.prog 31 [vn] w (fun v w' => ∃ l, MadeV ns v w' l ∧ Ext w w') := by
  obtain ⟨np, nc, rfl⟩ := hin.slice
  have hnl := hin.1
  refine Ret.enter Tryz.func31 rfl Tryz.ntmps31 (by kernel_rfl) rfl ?_
  refine Sa ?_
  refine CW.loop (ι := List NodeD × List Int × Option Addr × Nat × Option Addr × Nat) (fun x w' => x.1.length ≤ ns.length ∧ x.1.length ≤ 40 ∧ MI w w' x.1 x.2.1 (.slice x.2.2.1 x.1.length x.2.2.2.1) (.slice x.2.2.2.2.1 x.2.1.length x.2.2.2.2.2)) (fun x => [(0, .slice np ns.length nc), (3, .slice x.2.2.1 x.1.length x.2.2.2.1), (4, .slice x.2.2.2.2.1 x.2.1.length x.2.2.2.2.2), (5, .int .i64 (x.1.length : Int))]) (fun x => 40 - x.1.length) ([], [], none, 0, none, 0) ⟨by simp, by simp, ⟨Chg.refl _ _, Own.nil _ _ _ _, rfl, by simp, by simp, by simp, ⟨[], Own.nil _ _ _ _, rfl, by simp⟩⟩⟩ (Sub.cons rfl (Sub.cons rfl (Sub.cons rfl (Sub.cons rfl (Sub.nil))))) ?_
  rintro ⟨l, st, op, oc, sp, sc⟩ w1 ⟨hl1, hl2, hM⟩
  dsimp only at hl1 hl2 hM
  show CW _ _ _ _ _ [(0, .slice np ns.length nc), (3, .slice op l.length oc), (4, .slice sp st.length sc), (5, .int .i64 (l.length : Int))] _
  have hle := hM.le
  have hfine := hM.fine
  have hmx : l.length ≤ 40 := hl2
  refine Sa ?_
  refine LW.part rfl rfl rfl (fun h1 => ?_) (fun h1 => ?_)
  rotate_left
  · have h1 : l.length = ns.length := by simp at h1; omega
    have hfin : l = [] ↔ ns = [] := by rw [← List.length_eq_zero_iff, ← List.length_eq_zero_iff, h1]
    clear h1
    refine Sa ?_
    have h80 : l.length + st.length ≤ 80 := by omega
    refine CW.loop (ι := List NodeD × List Int × Option Addr × Nat × Option Addr × Nat) (fun x w' => x.1.length + x.2.1.length ≤ 80 ∧ (x.1 = [] ↔ ns = []) ∧ MI w w' x.1 x.2.1 (.slice x.2.2.1 x.1.length x.2.2.2.1) (.slice x.2.2.2.2.1 x.2.1.length x.2.2.2.2.2)) (fun x => [(3, .slice x.2.2.1 x.1.length x.2.2.2.1), (4, .slice x.2.2.2.2.1 x.2.1.length x.2.2.2.2.2)]) (fun x => x.2.1.length) (l, st, op, oc, sp, sc) ⟨h80, hfin, hM⟩ (Sub.cons rfl (Sub.cons rfl (Sub.nil))) ?_
    clear hM hfin h80 hl1 hl2 hle hmx hfine
    rintro ⟨l, st, op, oc, sp, sc⟩ w3 ⟨h80, hfin, hM⟩
    dsimp only at h80 hfin hM
    show CW _ _ _ _ _ [(3, .slice op l.length oc), (4, .slice sp st.length sc)] _
    have hle := hM.le
    have hfine := hM.fine
    refine Sa ?_
    refine CW.cond rfl (fun g1 => ?_) (fun g1 => ?_)
    rotate_left
    · have g1 : st.length ≤ 1 := by simp at g1; omega
      obtain ⟨nvs, hon, hm, hk⟩ := hM.np
      have hnl : nvs.length = l.length := by rw [← hm]; simp
      have hN : Nodes w3 w.heap.size (.slice op l.length oc) l := ⟨nvs, hon, hm, fun x hx => (hk x hx).1⟩
      refine Sa ?_
      refine QW.body1 Tryz.results31 rfl ⟨l, ⟨hN.row (by omega) (fun n hn => by have := (hfine n hn).2.2.2.2.1; omega), fun n hn => by obtain ⟨a1, a2, a3, _⟩ := hfine n hn; exact ⟨by omega, by omega, by omega⟩, numOk_of (fun n hn => by have := (hfine n hn).2.2.2.1; omega), fun n hn => (hfine n hn).2.2.2.2.1, hfin, ?_, fun n hn => (hfine n hn).2.2.2.2.2⟩, hM.ext⟩
      rcases Nat.eq_zero_or_pos l.length with h | h
      · exact .inl (List.eq_nil_of_length_eq_zero h)
      · have := hM.pos h
        refine .inr ?_
        unfold treeB
        rw [hM.go]
        exact decide_eq_true (by omega)
    have q2 : 2 ≤ st.length := by simp at g1; omega
    obtain ⟨s2, a, b, rfl⟩ : ∃ s2 a b, st = s2 ++ [a, b] := by
      refine ⟨st.take (st.length - 2), st[st.length - 2], st[st.length - 1], ?_⟩
      conv => lhs; rw [← List.take_append_drop (st.length - 2) st]
      congr 1
      rw [List.drop_eq_getElem_cons (by omega), List.drop_eq_getElem_cons (by omega), List.drop_eq_nil_of_le (by omega)]
      congr 2
      congr 1
      omega
    have hsl : (s2 ++ [a, b]).length = s2.length + 2 := by simp
    obtain ⟨sa, rfl, hcs⟩ : ∃ sa, sp = some sa ∧ ∀ w', Own w' w.heap.size 3 1 (.slice sp (s2 ++ [a, b]).length sc) (s2 ++ [a, b]).length (icells (s2 ++ [a, b])) → w'.cell? (sa.add ((((s2 ++ [a, b]).length : Int) - 2).toNat * 1)) = some (.int .i64 a) ∧ w'.cell? (sa.add ((((s2 ++ [a, b]).length : Int) - 1).toNat * 1)) = some (.int .i64 b) := by
      cases sp with
      | none =>
        obtain ⟨_, ⟨_, e⟩ | ⟨g, cap, sp, e, _⟩⟩ := hM.sown
        · omega
        · simp at e
      | some sa =>
        refine ⟨sa, rfl, fun w' ho => ?_⟩
        rcases Own.cells ho (Nat.le_refl _) with ⟨e, _⟩ | ⟨a', e, hc⟩
        · cases e
        · obtain rfl := Option.some.inj e
          rw [List.take_length] at hc
          rw [show (((s2 ++ [a, b]).length : Int) - 2).toNat * 1 = s2.length by omega, show (((s2 ++ [a, b]).length : Int) - 1).toNat * 1 = s2.length + 1 by omega]
          exact ⟨hc _ _ (by simp [icells]), hc _ _ (by simp [icells])⟩
    have hM3 := hM
    refine Sa ?_
    refine CW.drawHeld (fun w' => w'.cell? (sa.add ((((s2 ++ [a, b]).length : Int) - 2).toNat * 1)) = some (.int .i64 a) ∧ w'.cell? (sa.add ((((s2 ++ [a, b]).length : Int) - 1).toNat * 1)) = some (.int .i64 b)) (fun w' h => hcs w' (hM3.sown.ext h)) (by kernel_rfl) fun w4 hx4 => ?_
    replace hM3 := hM3.grow hx4
    refine Sh ?_
    refine HW.take 5 rfl rfl rfl rfl (fun w _ => Y.idx_addr rfl rfl rfl rfl rfl (by omega) (by omega)) rfl (by kernel_rfl) (by kernel_rfl) (by kernel_rfl) (fun _ _ _ h => h) ?_
    refine HW.take 6 rfl rfl rfl rfl (fun w hw => Y.load_cell rfl hw.1 rfl rfl) rfl (by kernel_rfl) (by kernel_rfl) (by kernel_rfl) (fun _ _ _ h => h) ?_
    refine Sh ?_
    refine HW.take 11 rfl rfl rfl rfl (fun w _ => Y.idx_addr rfl rfl rfl rfl rfl (by omega) (by omega)) rfl (by kernel_rfl) (by kernel_rfl) (by kernel_rfl) (fun _ _ _ h => h) ?_
    refine HW.take 12 rfl rfl rfl rfl (fun w hw => Y.load_cell rfl hw.2 rfl rfl) rfl (by kernel_rfl) (by kernel_rfl) (by kernel_rfl) (fun _ _ _ h => h) ?_
    refine HW.one 13 (by kernel_rfl) rfl rfl (fun hS => ?_)
    (apply LW.buildSlice; exact rfl; exact rfl; exact rfl; exact rfl; exact rfl; exact rfl; exact rfl; exact rfl; exact rfl; intro B w5 hbB hx5 hB)
    have hBs : ∀ j ∈ vblk (Value.slice (some sa) (s2 ++ [a, b]).length sc), j < B := fun j hh => by
      have := (hM3.sown.lt hh).2
      omega
    replace hM3 := hM3.grow hx5
    replace hB : Blk w5 B (icells [a, b]) 3 := hB
    apply LW.nil
    refine QW.held (hcs _ hM3.sown) ?_
    refine HW.one 14 (by kernel_rfl) rfl rfl (fun hS => ?_)
    refine Lh ?_
    apply LW.nil
    refine QW.held hS ?_
    refine HW.one 15 (by kernel_rfl) rfl rfl (fun hS => ?_)
    (apply LW.buildSlice; exact rfl; exact rfl; exact rfl; exact rfl; exact rfl; exact rfl; exact rfl; exact rfl; exact rfl; intro C w6 hbC hx6 hC)
    replace hM3 := hM3.grow hx6
    replace hB := hB.ext hx6
    replace hC : Blk w6 C (nvL ⟨{ kind := 15, kids := [a, b] }, .slice (some ⟨B, 0, none⟩) 2 2⟩) 38 := hC
    apply LW.nil
    refine QW.held (hcs _ hM3.sown) ?_
    refine HW.one 16 (by kernel_rfl) rfl rfl (fun hS => ?_)
    obtain ⟨nvs, hon, hm, hk⟩ := hM3.np
    have hnl : nvs.length = l.length := by rw [← hm]; simp
    have hz6 := hM3.ext.size
    refine LW.append rfl rfl rfl rfl rfl rfl hon (by omega) hC rfl rfl rfl (by show (nvs.length + 1) * 137 ≤ 140737488355328; omega) rfl ?_
    intro v2 w7 hc7 hon2 hv7
    have hkk : ∀ {kv : Value} {ks : List Int}, KidsOk w6 kv ks → KidsOk w7 kv ks := fun {kv ks} h1 => h1.chg (stv := .slice none 0 0) (by simp [vblk]) hc7 (fun b hb => .inr (by
      obtain ⟨_, ⟨e, _⟩ | ⟨g, cap, sp, e, hg, _⟩⟩ := hon
      · rw [e] at hb; simp [vblk] at hb
      · rw [e] at hb
        simp [vblk] at hb
        subst hb
        exact ⟨_, _, hg, by decide⟩))
    have hs7 : Own w7 w.heap.size 3 1 (.slice (some sa) (s2 ++ [a, b]).length sc) (s2 ++ [a, b]).length (icells (s2 ++ [a, b])) := hM3.sown.chg hc7 (fun j hb hm2 => by
      obtain ⟨_, ⟨e, _⟩ | ⟨g, cap, sp, e, hg, _⟩⟩ := hon
      · rw [e] at hm2; simp [vblk] at hm2
      · rw [e] at hm2
        simp [vblk] at hm2
        subst hm2
        exact absurd (Own.type hM3.sown hb hg) (by decide))
    have e1 : (nvs.flatMap nvL ++ nvL ⟨{ kind := 15, kids := [a, b] }, .slice (some ⟨B, 0, none⟩) 2 2⟩) = (nvs ++ [(⟨{ kind := 15, kids := [a, b] }, .slice (some ⟨B, 0, none⟩) 2 2⟩ : NV)]).flatMap nvL := by simp
    have e2 : nvs.length + 1 = (nvs ++ [(⟨{ kind := 15, kids := [a, b] }, .slice (some ⟨B, 0, none⟩) 2 2⟩ : NV)]).length := by simp
    rw [e1, e2] at hon2
    obtain ⟨p4, c4, rfl⟩ := hon2.slice
    have hx7 : Ext w w7 := hM3.ext.step hc7 (fun j hb => (hon.lt hb).1)
    have hkB : KidsOk w7 (.slice (some ⟨B, 0, none⟩) 2 2) [a, b] := hkk (.inr ⟨B, 2, [], rfl, by rw [List.append_nil]; exact hB⟩)
    apply LW.nil
    refine QW.held (hcs _ hs7) ?_
    refine HW.one 17 (by kernel_rfl) rfl rfl (fun hS => ?_)
    refine La ?_
    apply LW.nil
    refine QW.held hS ?_
    refine HW.done (by kernel_rfl) ?_
    refine Sa ?_
    refine LW.slice_to (i := s2.length) rfl (by show some (Value.int .i64 _) = some (Value.int .i64 _); congr 2; omega) (by show some (Value.int .i64 _) = some (Value.int .i64 _); congr 2; omega) rfl rfl rfl ?_ rfl ?_
    · have := Own.cap_ hs7; omega
    rw [← e2]
    refine Sa ?_
    (apply LW.buildSlice; exact rfl; exact rfl; exact rfl; exact rfl; exact rfl; exact rfl; exact rfl; exact rfl; exact rfl; intro G w8 hbG hx8 hG)
    have eG : ((nvs.length + 1 : Nat) : Int) - 1 = (l.length : Int) := by omega
    rw [eG] at hG
    replace hG : Blk w8 G [.int .i64 (l.length : Int)] 3 := hG
    have hz7 := hx7.size
    have hz8 := hx8.size
    have hp7 := Own.cells (hs7.ext hx8) (i := s2.length) (by omega)
    rw [List.take_left'] at hp7
    rotate_left
    · rfl
    refine LW.append_piece (xs := icells s2) (lo := w.heap.size) rfl rfl rfl rfl rfl (by exact rfl) (by rw [icells_len]; show _ = _ * 1; omega) hp7 (by omega) hG (by exact rfl) (by exact rfl) (by exact rfl) (by show (s2.length + 1) * 9 ≤ _; omega) rfl ?_
    intro v' w9 hx9 ho9 hv9
    obtain ⟨p3, c3, rfl⟩ := ho9.slice
    have hel : (l ++ [({ kind := 15, kids := [a, b] } : NodeD)]).length = l.length + 1 := by simp
    have hes : (s2 ++ [(l.length : Int)]).length = s2.length + 1 := by simp
    have hen : (nvs ++ [(⟨{ kind := 15, kids := [a, b] }, .slice (some ⟨B, 0, none⟩) 2 2⟩ : NV)]).length = (l ++ [({ kind := 15, kids := [a, b] } : NodeD)]).length := by simp [hnl]
    have e6 : icells (s2 ++ [(l.length : Int)]) = icells s2 ++ [.int .i64 (l.length : Int)] := by simp [icells]
    obtain ⟨o1, o2, o3⟩ := op_ok (k := 15) (by omega) (by omega) a b
    refine Sa ?_
    refine QW.again (l ++ [{ kind := 15, kids := [a, b] }], s2 ++ [(l.length : Int)], p4, c4, p3, c3) ⟨by rw [hel, hes]; omega, ?_, ?_⟩ ?_ (by show (s2 ++ [(l.length : Int)]).length < (s2 ++ [a, b]).length; rw [hes]; omega)
    · dsimp only
      have hne : l ≠ [] := fun h => by rw [h] at hle; simp at hle
      exact ⟨fun h => by simp at h, fun h => absurd (hfin.2 h) hne⟩
    · dsimp only
      rw [hes, ← hen]
      refine ⟨(hx7.trans hx8).trans hx9, by rw [hes, e6]; exact ho9, ?_, by rw [hes, hel]; omega, fun _ => by rw [hes]; omega, fun x hx => ?_, ⟨_, (hon2.ext hx8).ext hx9, by simp [hm], fun x hx => ?_⟩⟩
      · have := tree_put (st' := s2) (n := { kind := 15, kids := [a, b] }) hM3.go rfl o2 o1
        simpa using this
      · rcases List.mem_append.1 hx with hx | hx
        · exact hfine x hx
        · simp at hx; subst hx; exact o3
      · rcases List.mem_append.1 hx with hx | hx
        · have h1 := hkk (hk x hx).1
          refine ⟨(h1.chg (stv := .slice none 0 0) (by simp [vblk]) hx8 (by simp)).chg (stv := .slice none 0 0) (by simp [vblk]) hx9 (by simp), fun j hj hh => ?_⟩
          have := h1.lt j hj
          have := hv9 j hh
          omega
        · simp at hx
          subst hx
          refine ⟨(hkB.chg (stv := .slice none 0 0) (by simp [vblk]) hx8 (by simp)).chg (stv := .slice none 0 0) (by simp [vblk]) hx9 (by simp), fun j hj hh => ?_⟩
          have := hkB.lt j hj
          have := hv9 j hh
          omega
    · dsimp only
      rw [hes, ← hen, ← e2]
      exact (Sub.cons rfl (Sub.cons rfl (Sub.nil)))
  have h1 : l.length < ns.length := by simp at h1; omega
  refine Sa ?_
  refine CW.cond rfl (fun h2 => ?_) (fun h2 => ?_)
  rotate_left
  · have h2 : l.length = 40 := by simp at h2; omega
    have hfin : l = [] ↔ ns = [] := by rw [← List.length_eq_zero_iff, ← List.length_eq_zero_iff]; omega
    clear h1 h2
    refine Sa ?_
    have h80 : l.length + st.length ≤ 80 := by omega
    refine CW.loop (ι := List NodeD × List Int × Option Addr × Nat × Option Addr × Nat) (fun x w' => x.1.length + x.2.1.length ≤ 80 ∧ (x.1 = [] ↔ ns = []) ∧ MI w w' x.1 x.2.1 (.slice x.2.2.1 x.1.length x.2.2.2.1) (.slice x.2.2.2.2.1 x.2.1.length x.2.2.2.2.2)) (fun x => [(3, .slice x.2.2.1 x.1.length x.2.2.2.1), (4, .slice x.2.2.2.2.1 x.2.1.length x.2.2.2.2.2)]) (fun x => x.2.1.length) (l, st, op, oc, sp, sc) ⟨h80, hfin, hM⟩ (Sub.cons rfl (Sub.cons rfl (Sub.nil))) ?_
    clear hM hfin h80 hl1 hl2 hle hmx hfine
    rintro ⟨l, st, op, oc, sp, sc⟩ w3 ⟨h80, hfin, hM⟩
    dsimp only at h80 hfin hM
    show CW _ _ _ _ _ [(3, .slice op l.length oc), (4, .slice sp st.length sc)] _
    have hle := hM.le
    have hfine := hM.fine
    refine Sa ?_
    refine CW.cond rfl (fun g1 => ?_) (fun g1 => ?_)
    rotate_left
    · have g1 : st.length ≤ 1 := by simp at g1; omega
      obtain ⟨nvs, hon, hm, hk⟩ := hM.np
      have hnl : nvs.length = l.length := by rw [← hm]; simp
      have hN : Nodes w3 w.heap.size (.slice op l.length oc) l := ⟨nvs, hon, hm, fun x hx => (hk x hx).1⟩
      refine Sa ?_
      refine QW.body1 Tryz.results31 rfl ⟨l, ⟨hN.row (by omega) (fun n hn => by have := (hfine n hn).2.2.2.2.1; omega), fun n hn => by obtain ⟨a1, a2, a3, _⟩ := hfine n hn; exact ⟨by omega, by omega, by omega⟩, numOk_of (fun n hn => by have := (hfine n hn).2.2.2.1; omega), fun n hn => (hfine n hn).2.2.2.2.1, hfin, ?_, fun n hn => (hfine n hn).2.2.2.2.2⟩, hM.ext⟩
      rcases Nat.eq_zero_or_pos l.length with h | h
      · exact .inl (List.eq_nil_of_length_eq_zero h)
      · have := hM.pos h
        refine .inr ?_
        unfold treeB
        rw [hM.go]
        exact decide_eq_true (by omega)
    have q2 : 2 ≤ st.length := by simp at g1; omega
    obtain ⟨s2, a, b, rfl⟩ : ∃ s2 a b, st = s2 ++ [a, b] := by
      refine ⟨st.take (st.length - 2), st[st.length - 2], st[st.length - 1], ?_⟩
      conv => lhs; rw [← List.take_append_drop (st.length - 2) st]
      congr 1
      rw [List.drop_eq_getElem_cons (by omega), List.drop_eq_getElem_cons (by omega), List.drop_eq_nil_of_le (by omega)]
      congr 2
      congr 1
      omega
    have hsl : (s2 ++ [a, b]).length = s2.length + 2 := by simp
    obtain ⟨sa, rfl, hcs⟩ : ∃ sa, sp = some sa ∧ ∀ w', Own w' w.heap.size 3 1 (.slice sp (s2 ++ [a, b]).length sc) (s2 ++ [a, b]).length (icells (s2 ++ [a, b])) → w'.cell? (sa.add ((((s2 ++ [a, b]).length : Int) - 2).toNat * 1)) = some (.int .i64 a) ∧ w'.cell? (sa.add ((((s2 ++ [a, b]).length : Int) - 1).toNat * 1)) = some (.int .i64 b) := by
      cases sp with
      | none =>
        obtain ⟨_, ⟨_, e⟩ | ⟨g, cap, sp, e, _⟩⟩ := hM.sown
        · omega
        · simp at e
      | some sa =>
        refine ⟨sa, rfl, fun w' ho => ?_⟩
        rcases Own.cells ho (Nat.le_refl _) with ⟨e, _⟩ | ⟨a', e, hc⟩
        · cases e
        · obtain rfl := Option.some.inj e
          rw [List.take_length] at hc
          rw [show (((s2 ++ [a, b]).length : Int) - 2).toNat * 1 = s2.length by omega, show (((s2 ++ [a, b]).length : Int) - 1).toNat * 1 = s2.length + 1 by omega]
          exact ⟨hc _ _ (by simp [icells]), hc _ _ (by simp [icells])⟩
    have hM3 := hM
    refine Sa ?_
    refine CW.drawHeld (fun w' => w'.cell? (sa.add ((((s2 ++ [a, b]).length : Int) - 2).toNat * 1)) = some (.int .i64 a) ∧ w'.cell? (sa.add ((((s2 ++ [a, b]).length : Int) - 1).toNat * 1)) = some (.int .i64 b)) (fun w' h => hcs w' (hM3.sown.ext h)) (by kernel_rfl) fun w4 hx4 => ?_
    replace hM3 := hM3.grow hx4
    refine Sh ?_
    refine HW.take 5 rfl rfl rfl rfl (fun w _ => Y.idx_addr rfl rfl rfl rfl rfl (by omega) (by omega)) rfl (by kernel_rfl) (by kernel_rfl) (by kernel_rfl) (fun _ _ _ h => h) ?_
    refine HW.take 6 rfl rfl rfl rfl (fun w hw => Y.load_cell rfl hw.1 rfl rfl) rfl (by kernel_rfl) (by kernel_rfl) (by kernel_rfl) (fun _ _ _ h => h) ?_
    refine Sh ?_
    refine HW.take 11 rfl rfl rfl rfl (fun w _ => Y.idx_addr rfl rfl rfl rfl rfl (by omega) (by omega)) rfl (by kernel_rfl) (by kernel_rfl) (by kernel_rfl) (fun _ _ _ h => h) ?_
    refine HW.take 12 rfl rfl rfl rfl (fun w hw => Y.load_cell rfl hw.2 rfl rfl) rfl (by kernel_rfl) (by kernel_rfl) (by kernel_rfl) (fun _ _ _ h => h) ?_
    refine HW.one 13 (by kernel_rfl) rfl rfl (fun hS => ?_)
    (apply LW.buildSlice; exact rfl; exact rfl; exact rfl; exact rfl; exact rfl; exact rfl; exact rfl; exact rfl; exact rfl; intro B w5 hbB hx5 hB)
    have hBs : ∀ j ∈ vblk (Value.slice (some sa) (s2 ++ [a, b]).length sc), j < B := fun j hh => by
      have := (hM3.sown.lt hh).2
      omega
    replace hM3 := hM3.grow hx5
    replace hB : Blk w5 B (icells [a, b]) 3 := hB
    apply LW.nil
    refine QW.held (hcs _ hM3.sown) ?_
    refine HW.one 14 (by kernel_rfl) rfl rfl (fun hS => ?_)
    refine Lh ?_
    apply LW.nil
    refine QW.held hS ?_
    refine HW.one 15 (by kernel_rfl) rfl rfl (fun hS => ?_)
    (apply LW.buildSlice; exact rfl; exact rfl; exact rfl; exact rfl; exact rfl; exact rfl; exact rfl; exact rfl; exact rfl; intro C w6 hbC hx6 hC)
    replace hM3 := hM3.grow hx6
    replace hB := hB.ext hx6
    replace hC : Blk w6 C (nvL ⟨{ kind := 15, kids := [a, b] }, .slice (some ⟨B, 0, none⟩) 2 2⟩) 38 := hC
    apply LW.nil
    refine QW.held (hcs _ hM3.sown) ?_
    refine HW.one 16 (by kernel_rfl) rfl rfl (fun hS => ?_)
    obtain ⟨nvs, hon, hm, hk⟩ := hM3.np
    have hnl : nvs.length = l.length := by rw [← hm]; simp
    have hz6 := hM3.ext.size
    refine LW.append rfl rfl rfl rfl rfl rfl hon (by omega) hC rfl rfl rfl (by show (nvs.length + 1) * 137 ≤ 140737488355328; omega) rfl ?_
    intro v2 w7 hc7 hon2 hv7
    have hkk : ∀ {kv : Value} {ks : List Int}, KidsOk w6 kv ks → KidsOk w7 kv ks := fun {kv ks} h1 => h1.chg (stv := .slice none 0 0) (by simp [vblk]) hc7 (fun b hb => .inr (by
      obtain ⟨_, ⟨e, _⟩ | ⟨g, cap, sp, e, hg, _⟩⟩ := hon
      · rw [e] at hb; simp [vblk] at hb
      · rw [e] at hb
        simp [vblk] at hb
        subst hb
        exact ⟨_, _, hg, by decide⟩))
    have hs7 : Own w7 w.heap.size 3 1 (.slice (some sa) (s2 ++ [a, b]).length sc) (s2 ++ [a, b]).length (icells (s2 ++ [a, b])) := hM3.sown.chg hc7 (fun j hb hm2 => by
      obtain ⟨_, ⟨e, _⟩ | ⟨g, cap, sp, e, hg, _⟩⟩ := hon
      · rw [e] at hm2; simp [vblk] at hm2
      · rw [e] at hm2
        simp [vblk] at hm2
        subst hm2
        exact absurd (Own.type hM3.sown hb hg) (by decide))
    have e1 : (nvs.flatMap nvL ++ nvL ⟨{ kind := 15, kids := [a, b] }, .slice (some ⟨B, 0, none⟩) 2 2⟩) = (nvs ++ [(⟨{ kind := 15, kids := [a, b] }, .slice (some ⟨B, 0, none⟩) 2 2⟩ : NV)]).flatMap nvL := by simp
    have e2 : nvs.length + 1 = (nvs ++ [(⟨{ kind := 15, kids := [a, b] }, .slice (some ⟨B, 0, none⟩) 2 2⟩ : NV)]).length := by simp
    rw [e1, e2] at hon2
    obtain ⟨p4, c4, rfl⟩ := hon2.slice
    have hx7 : Ext w w7 := hM3.ext.step hc7 (fun j hb => (hon.lt hb).1)
    have hkB : KidsOk w7 (.slice (some ⟨B, 0, none⟩) 2 2) [a, b] := hkk (.inr ⟨B, 2, [], rfl, by rw [List.append_nil]; exact hB⟩)
    apply LW.nil
    refine QW.held (hcs _ hs7) ?_
    refine HW.one 17 (by kernel_rfl) rfl rfl (fun hS => ?_)
    refine La ?_
    apply LW.nil
    refine QW.held hS ?_
    refine HW.done (by kernel_rfl) ?_
    refine Sa ?_
    refine LW.slice_to (i := s2.length) rfl (by show some (Value.int .i64 _) = some (Value.int .i64 _); congr 2; omega) (by show some (Value.int .i64 _) = some (Value.int .i64 _); congr 2; omega) rfl rfl rfl ?_ rfl ?_
    · have := Own.cap_ hs7; omega
    rw [← e2]
    refine Sa ?_
    (apply LW.buildSlice; exact rfl; exact rfl; exact rfl; exact rfl; exact rfl; exact rfl; exact rfl; exact rfl; exact rfl; intro G w8 hbG hx8 hG)
    have eG : ((nvs.length + 1 : Nat) : Int) - 1 = (l.length : Int) := by omega
    rw [eG] at hG
    replace hG : Blk w8 G [.int .i64 (l.length : Int)] 3 := hG
    have hz7 := hx7.size
    have hz8 := hx8.size
    have hp7 := Own.cells (hs7.ext hx8) (i := s2.length) (by omega)
    rw [List.take_left'] at hp7
    rotate_left
    · rfl
    refine LW.append_piece (xs := icells s2) (lo := w.heap.size) rfl rfl rfl rfl rfl (by exact rfl) (by rw [icells_len]; show _ = _ * 1; omega) hp7 (by omega) hG (by exact rfl) (by exact rfl) (by exact rfl) (by show (s2.length + 1) * 9 ≤ _; omega) rfl ?_
    intro v' w9 hx9 ho9 hv9
    obtain ⟨p3, c3, rfl⟩ := ho9.slice
    have hel : (l ++ [({ kind := 15, kids := [a, b] } : NodeD)]).length = l.length + 1 := by simp
    have hes : (s2 ++ [(l.length : Int)]).length = s2.length + 1 := by simp
    have hen : (nvs ++ [(⟨{ kind := 15, kids := [a, b] }, .slice (some ⟨B, 0, none⟩) 2 2⟩ : NV)]).length = (l ++ [({ kind := 15, kids := [a, b] } : NodeD)]).length := by simp [hnl]
    have e6 : icells (s2 ++ [(l.length : Int)]) = icells s2 ++ [.int .i64 (l.length : Int)] := by simp [icells]
    obtain ⟨o1, o2, o3⟩ := op_ok (k := 15) (by omega) (by omega) a b
    refine Sa ?_
    refine QW.again (l ++ [{ kind := 15, kids := [a, b] }], s2 ++ [(l.length : Int)], p4, c4, p3, c3) ⟨by rw [hel, hes]; omega, ?_, ?_⟩ ?_ (by show (s2 ++ [(l.length : Int)]).length < (s2 ++ [a, b]).length; rw [hes]; omega)
    · dsimp only
      have hne : l ≠ [] := fun h => by rw [h] at hle; simp at hle
      exact ⟨fun h => by simp at h, fun h => absurd (hfin.2 h) hne⟩
    · dsimp only
      rw [hes, ← hen]
      refine ⟨(hx7.trans hx8).trans hx9, by rw [hes, e6]; exact ho9, ?_, by rw [hes, hel]; omega, fun _ => by rw [hes]; omega, fun x hx => ?_, ⟨_, (hon2.ext hx8).ext hx9, by simp [hm], fun x hx => ?_⟩⟩
      · have := tree_put (st' := s2) (n := { kind := 15, kids := [a, b] }) hM3.go rfl o2 o1
        simpa using this
      · rcases List.mem_append.1 hx with hx | hx
        · exact hfine x hx
        · simp at hx; subst hx; exact o3
      · rcases List.mem_append.1 hx with hx | hx
        · have h1 := hkk (hk x hx).1
          refine ⟨(h1.chg (stv := .slice none 0 0) (by simp [vblk]) hx8 (by simp)).chg (stv := .slice none 0 0) (by simp [vblk]) hx9 (by simp), fun j hj hh => ?_⟩
          have := h1.lt j hj
          have := hv9 j hh
          omega
        · simp at hx
          subst hx
          refine ⟨(hkB.chg (stv := .slice none 0 0) (by simp [vblk]) hx8 (by simp)).chg (stv := .slice none 0 0) (by simp [vblk]) hx9 (by simp), fun j hj hh => ?_⟩
          have := hkB.lt j hj
          have := hv9 j hh
          omega
    · dsimp only
      rw [hes, ← hen, ← e2]
      exact (Sub.cons rfl (Sub.cons rfl (Sub.nil)))
  have h2 : l.length < 40 := by simp at h2; omega
  obtain ⟨z, hz⟩ : ∃ z, ns[l.length]? = some z := ⟨_, List.getElem?_eq_getElem h1⟩
  obtain ⟨hz0, hz1⟩ := hb z (List.mem_of_getElem? hz)
  obtain ⟨na, rfl, hzc⟩ : ∃ na, np = some na ∧ w1.cell? (na.add (((l.length : Nat) : Int).toNat * 1)) = some (.int .u8 z) := by
    obtain ⟨_, ⟨_, e2⟩ | ⟨a, cap, e, hc⟩⟩ := hin.ext hM.ext
    · subst e2; simp at h1
    · simp only [Value.slice.injEq] at e
      refine ⟨a, e.1, ?_⟩
      rw [show ((l.length : Nat) : Int).toNat * 1 = l.length by omega]
      exact hc _ _ hz
  refine Sa ?_
  refine Lo ?_
  refine Lp hzc ?_
  refine Sa ?_
  (apply LW.alloc; exact rfl; exact rfl; exact rfl; intro X w2 hbX hx2 hX)
  have hXo : X ∉ vblk (.slice op l.length oc) := by
    obtain ⟨nvs, ho, hm, _⟩ := hM.np
    intro hh
    have := (ho.lt hh).2
    omega
  have hXs : X ∉ vblk (.slice sp st.length sc) := fun hh => by
    have := (hM.sown.lt hh).2
    omega
  have hXw : w.heap.size ≤ X := by have := hM.ext.size; omega
  replace hM := hM.grow hx2
  refine Sa ?_
  have hX0 := hX
  (apply LW.store_all; exact rfl; exact rfl; exact rfl; assumption; exact rfl; exact rfl; exact rfl; intro w3 hc3 hX)
  replace hX : Blk w3 X (nvL ⟨{ kind := 1, num := z }, .slice none 0 0⟩) 38 := hX
  have hC0 := ci_leaf hM hXw hXo hXs hX0 hc3 hX (leaf_ok hz0 hz1 (by simp [leafM])) rfl
  apply LW.nil
  apply QW.then_n
  refine CW.seq_cut (ι := NodeD × Value × List Int × Value) (fun x w' => CI w w' l (.slice op l.length oc) X x.1 x.2.1 x.2.2.1 x.2.2.2) (fun x => [(0, .slice (some na) ns.length nc), (3, .slice op l.length oc), (4, x.2.2.2), (5, .int .i64 (l.length : Int)), (7, .pointer (some ⟨X, 0, none⟩))]) ?_ ?_
  · have hM3 := hM.chgX hXw hXo hXs hX0 hc3
    clear hC0
    refine Sa ?_
    refine LW.part rfl rfl rfl (fun q1 => ?_) (fun q1 => ?_)
    · have q1 : z % 3 = 0 := by simpa using q1
      refine Sa ?_
      refine CW.cond rfl (fun q2 => ?_) (fun q2 => ?_)
      · have q2 : 2 ≤ st.length := by simp at q2; omega
        obtain ⟨s2, a, b, rfl⟩ : ∃ s2 a b, st = s2 ++ [a, b] := by
          refine ⟨st.take (st.length - 2), st[st.length - 2], st[st.length - 1], ?_⟩
          conv => lhs; rw [← List.take_append_drop (st.length - 2) st]
          congr 1
          rw [List.drop_eq_getElem_cons (by omega), List.drop_eq_getElem_cons (by omega), List.drop_eq_nil_of_le (by omega)]
          congr 2
          congr 1
          omega
        have hsl : (s2 ++ [a, b]).length = s2.length + 2 := by simp
        obtain ⟨sa, rfl, hcs⟩ : ∃ sa, sp = some sa ∧ ∀ w', Own w' w.heap.size 3 1 (.slice sp (s2 ++ [a, b]).length sc) (s2 ++ [a, b]).length (icells (s2 ++ [a, b])) → w'.cell? (sa.add ((((s2 ++ [a, b]).length : Int) - 2).toNat * 1)) = some (.int .i64 a) ∧ w'.cell? (sa.add ((((s2 ++ [a, b]).length : Int) - 1).toNat * 1)) = some (.int .i64 b) := by
          cases sp with
          | none =>
            obtain ⟨_, ⟨_, e⟩ | ⟨g, cap, sp, e, _⟩⟩ := hM.sown
            · omega
            · simp at e
          | some sa =>
            refine ⟨sa, rfl, fun w' ho => ?_⟩
            rcases Own.cells ho (Nat.le_refl _) with ⟨e, _⟩ | ⟨a', e, hc⟩
            · cases e
            · obtain rfl := Option.some.inj e
              rw [List.take_length] at hc
              rw [show (((s2 ++ [a, b]).length : Int) - 2).toNat * 1 = s2.length by omega, show (((s2 ++ [a, b]).length : Int) - 1).toNat * 1 = s2.length + 1 by omega]
              exact ⟨hc _ _ (by simp [icells]), hc _ _ (by simp [icells])⟩
        refine Sa ?_
        refine CW.drawHeld (fun w' => w'.cell? (sa.add ((((s2 ++ [a, b]).length : Int) - 2).toNat * 1)) = some (.int .i64 a) ∧ w'.cell? (sa.add ((((s2 ++ [a, b]).length : Int) - 1).toNat * 1)) = some (.int .i64 b)) (fun w' h => hcs w' (hM3.sown.ext h)) (by kernel_rfl) fun w4 hx4 => ?_
        replace hM3 := hM3.grow hx4
        replace hX := hX.ext hx4
        refine Sh ?_
        refine HW.take 8 rfl rfl rfl rfl (fun w _ => Y.idx_addr rfl rfl rfl rfl rfl (by omega) (by omega)) rfl (by kernel_rfl) (by kernel_rfl) (by kernel_rfl) (fun _ _ _ h => h) ?_
        refine HW.take 9 rfl rfl rfl rfl (fun w hw => Y.load_cell rfl hw.1 rfl rfl) rfl (by kernel_rfl) (by kernel_rfl) (by kernel_rfl) (fun _ _ _ h => h) ?_
        refine Sh ?_
        refine HW.take 14 rfl rfl rfl rfl (fun w _ => Y.idx_addr rfl rfl rfl rfl rfl (by omega) (by omega)) rfl (by kernel_rfl) (by kernel_rfl) (by kernel_rfl) (fun _ _ _ h => h) ?_
        refine HW.take 15 rfl rfl rfl rfl (fun w hw => Y.load_cell rfl hw.2 rfl rfl) rfl (by kernel_rfl) (by kernel_rfl) (by kernel_rfl) (fun _ _ _ h => h) ?_
        refine HW.one 16 (by kernel_rfl) rfl rfl (fun hS => ?_)
        (apply LW.buildSlice; exact rfl; exact rfl; exact rfl; exact rfl; exact rfl; exact rfl; exact rfl; exact rfl; exact rfl; intro B w5 hbB hx5 hB)
        have hBs : B ∉ vblk (Value.slice (some sa) (s2 ++ [a, b]).length sc) := fun hh => by
          have := (hM3.sown.lt hh).2
          omega
        replace hM3 := hM3.grow hx5
        replace hX := hX.ext hx5
        replace hB : Blk w5 B (icells [a, b]) 3 := hB
        apply LW.nil
        refine QW.held (hcs _ hM3.sown) ?_
        refine HW.one 17 (by kernel_rfl) rfl rfl (fun hS => ?_)
        refine Lh ?_
        apply LW.nil
        refine QW.held hS ?_
        refine HW.one 18 (by kernel_rfl) rfl rfl (fun hS => ?_)
        have hX1 := hX
        (apply LW.store_all; exact rfl; exact rfl; exact rfl; assumption; exact rfl; exact rfl; exact rfl; intro w6 hc6 hX)
        replace hX : Blk w6 X (nvL ⟨{ kind := 9 + z / 3 % 11, kids := [a, b] }, .slice (some ⟨B, 0, none⟩) 2 2⟩) 38 := hX
        have hM6 := hM3.chgX hXw hXo hXs hX1 hc6
        apply LW.nil
        refine QW.held (hcs _ hM6.sown) ?_
        refine HW.done (by kernel_rfl) ?_
        refine Sa ?_
        refine LW.slice_to (i := s2.length) rfl (by show some (Value.int .i64 _) = some (Value.int .i64 _); congr 2; omega) (by show some (Value.int .i64 _) = some (Value.int .i64 _); congr 2; omega) rfl rfl rfl ?_ rfl ?_
        · have := Own.cap_ hM6.sown; omega
        refine Sa ?_
        exact QW.head (_, _, _, _) (ci_pop hM3 rfl hXw hXo hXs hX1 hc6 hX (.inr ⟨B, 2, [], rfl, by rw [List.append_nil]; exact hB⟩) (by simp [vblk] at hBs ⊢; exact hBs) (op_ok (by omega) (by omega) a b) rfl) (Sub.cons rfl (Sub.cons rfl (Sub.cons rfl (Sub.cons rfl (Sub.cons rfl (Sub.nil))))))
      · refine Sa ?_
        refine LW.part rfl rfl rfl (fun q3 => ?_) (fun q3 => ?_)
        · have q3 : z % 16 = 1 := by simpa using q3
          refine Sa ?_
          refine CW.cond rfl (fun q4 => ?_) (fun q4 => ?_)
          · have q4 : 1 ≤ st.length := by simp at q4; omega
            obtain ⟨s2, a, rfl⟩ : ∃ s2 a, st = s2 ++ [a] := ⟨st.dropLast, st.getLast (by intro h; subst h; simp at q4), (List.dropLast_concat_getLast _).symm⟩
            have hsl : (s2 ++ [a]).length = s2.length + 1 := by simp
            obtain ⟨sa, rfl, hcs⟩ : ∃ sa, sp = some sa ∧ ∀ w', Own w' w.heap.size 3 1 (.slice sp (s2 ++ [a]).length sc) (s2 ++ [a]).length (icells (s2 ++ [a])) → w'.cell? (sa.add ((((s2 ++ [a]).length : Int) - 1).toNat * 1)) = some (.int .i64 a) := by
              cases sp with
              | none =>
                obtain ⟨_, ⟨_, e⟩ | ⟨g, cap, sp, e, _⟩⟩ := hM.sown
                · omega
                · simp at e
              | some sa =>
                refine ⟨sa, rfl, fun w' ho => ?_⟩
                rcases Own.cells ho (Nat.le_refl _) with ⟨e, _⟩ | ⟨a', e, hc⟩
                · cases e
                · obtain rfl := Option.some.inj e
                  rw [List.take_length] at hc
                  rw [show (((s2 ++ [a]).length : Int) - 1).toNat * 1 = s2.length by omega]
                  exact hc _ _ (by simp [icells])
            refine Sa ?_
            refine Lo ?_
            refine Lp (hcs _ hM3.sown) ?_
            refine Sa ?_
            (apply LW.buildSlice; exact rfl; exact rfl; exact rfl; exact rfl; exact rfl; exact rfl; exact rfl; exact rfl; exact rfl; intro B w5 hbB hx5 hB)
            have hBs : B ∉ vblk (Value.slice (some sa) (s2 ++ [a]).length sc) := fun hh => by
              have := (hM3.sown.lt hh).2
              omega
            replace hM3 := hM3.grow hx5
            replace hX := hX.ext hx5
            replace hB : Blk w5 B (icells [a]) 3 := hB
            refine Sa ?_
            have hX1 := hX
            (apply LW.store_all; exact rfl; exact rfl; exact rfl; assumption; exact rfl; exact rfl; exact rfl; intro w6 hc6 hX)
            replace hX : Blk w6 X (nvL ⟨{ kind := 8, kids := [a] }, .slice (some ⟨B, 0, none⟩) 1 1⟩) 38 := hX
            have hM6 := hM3.chgX hXw hXo hXs hX1 hc6
            refine Sa ?_
            refine LW.slice_to (i := s2.length) rfl (by show some (Value.int .i64 _) = some (Value.int .i64 _); congr 2; omega) (by show some (Value.int .i64 _) = some (Value.int .i64 _); congr 2; omega) rfl rfl rfl ?_ rfl ?_
            · have := Own.cap_ hM6.sown; omega
            refine Sa ?_
            exact QW.head (_, _, _, _) (ci_pop hM3 rfl hXw hXo hXs hX1 hc6 hX (.inr ⟨B, 1, [], rfl, by rw [List.append_nil]; exact hB⟩) (by simp [vblk] at hBs ⊢; exact hBs) (neg_ok a) rfl) (Sub.cons rfl (Sub.cons rfl (Sub.cons rfl (Sub.cons rfl (Sub.cons rfl (Sub.nil))))))
          · refine Sa ?_
            refine CW.cond rfl (fun q5 => ?_) (fun q5 => ?_)
            · obtain ⟨kN, hkN, hkl⟩ : ∃ kN : Nat, (if z / 16 % 4 < (st.length : Int) then z / 16 % 4 else (st.length : Int)) = (kN : Int) ∧ kN ≤ st.length := ⟨(if z / 16 % 4 < (st.length : Int) then z / 16 % 4 else (st.length : Int)).toNat, by split <;> omega, by split <;> omega⟩
              obtain ⟨s2, ks, hst, hks⟩ : ∃ s2 ks : List Int, st = s2 ++ ks ∧ ks.length = kN := ⟨st.take (st.length - kN), st.drop (st.length - kN), (List.take_append_drop _ _).symm, by simp; omega⟩
              subst hst
              have hsl : (s2 ++ ks).length = s2.length + ks.length := by simp
              refine Sa ?_
              refine LW.min2 rfl rfl rfl ?_
              rw [hkN, ← hks]
              refine Sa ?_
              (apply LW.buildSlice0; exact rfl; exact rfl; exact rfl; exact rfl; intro B w5 hbB hx5 hB)
              have hold := fun (b : Nat) (hh : b ∈ vblk (Value.slice sp (s2 ++ ks).length sc)) => (hM3.sown.lt hh).2
              have hM5 := hM3.grow hx5
              have hz3 := hM3.ext.size
              have hz5 := hx5.size
              replace hX := hX.ext hx5
              refine Sa ?_
              refine LW.val rfl rfl rfl (Y.slice_from (i := s2.length) rfl (by show some (Value.int .i64 _) = some (Value.int .i64 _); congr 2; omega) rfl rfl rfl (by omega)) ?_
              have hfrom := Own.from_ hM5.sown (by omega) (i := s2.length) (by omega)
              rw [List.drop_left] at hfrom
              refine LW.append_any (lo := w.heap.size) (xs := []) (news := icells ks) rfl rfl rfl rfl rfl rfl (⟨rfl, .inr ⟨B, 0, [], rfl, hB, by simp, by simp, by omega⟩⟩) (by omega) (by rw [icells_len]; show _ = _ * 1; omega) (by
                obtain ⟨_, ⟨e, e2⟩ | ⟨a, cap, e, hc⟩⟩ := hfrom
                · simp only [Value.slice.injEq] at e
                  exact .inl ⟨e.1, by omega⟩
                · simp only [Value.slice.injEq] at e
                  refine .inr ⟨a, e.1, fun j u hj => ?_⟩
                  simp only [icells, List.getElem?_map] at hj
                  cases hg : ks[j]? with
                  | none => rw [hg] at hj; cases hj
                  | some y =>
                    rw [hg] at hj
                    obtain rfl := Option.some.inj hj
                    exact hc j y hg) (fun u hu => by
                simp only [icells, List.mem_map] at hu
                obtain ⟨_, _, rfl⟩ := hu
                rfl) (by show (0 + _) * 9 ≤ _; omega) rfl ?_
              intro v' w6 hc6 hown' hv'
              obtain ⟨p', c', rfl⟩ := hown'.slice
              have hx36 : Ext w3 w6 := hx5.step hc6 (by simp [vblk]; omega)
              replace hX := hX.chg hc6 (by simp [vblk]; intro e; subst e; exact absurd (hX.inj hB) (by decide))
              replace hM3 := hM3.grow hx36
              have hkfr : ∀ b ∈ vblk (Value.slice p' (0 + ((s2 ++ ks).length - s2.length)) c'), b ∉ vblk (Value.slice sp (s2 ++ ks).length sc) := fun b hb hh => by
                have h1 := hold b hh
                rcases hv' b hb with h2 | h2
                · simp [vblk] at h2; omega
                · omega
              have hm : 0 + ((s2 ++ ks).length - s2.length) = ks.length := by omega
              rw [hm] at hown' hkfr ⊢
              simp only [List.nil_append] at hown'
              have hkv : KidsOk w6 (.slice p' ks.length c') ks := own_kids hown'
              refine Sa ?_
              have hX1 := hX
              (apply LW.store_all; exact rfl; exact rfl; exact rfl; assumption; exact rfl; exact rfl; exact rfl; intro w8 hc8 hX)
              replace hX : Blk w8 X (nvL ⟨{ kind := 7, text := [83, 85, 77], kids := ks }, .slice p' ks.length c'⟩) 38 := hX
              have hM8 := hM3.chgX hXw hXo hXs hX1 hc8
              refine Sa ?_
              refine LW.slice_to (i := s2.length) rfl (by show some (Value.int .i64 _) = some (Value.int .i64 _); congr 2; omega) (by show some (Value.int .i64 _) = some (Value.int .i64 _); congr 2; omega) rfl rfl rfl ?_ rfl ?_
              · have := Own.cap_ hM8.sown; omega
              refine Sa ?_
              exact QW.head (_, _, _, _) (ci_pop hM3 rfl hXw hXo hXs hX1 hc8 hX hkv hkfr (call_ok (by omega)) rfl) (Sub.cons rfl (Sub.cons rfl (Sub.cons rfl (Sub.cons rfl (Sub.cons rfl (Sub.nil))))))
            refine Sa ?_
            refine CW.cond rfl (fun q6 => ?_) (fun q6 => ?_)
            · refine Sa ?_
              (apply LW.buildSlice; exact rfl; exact rfl; exact rfl; exact rfl; exact rfl; exact rfl; exact rfl; exact rfl; exact rfl; intro B w5 hbB hx5 hB)
              replace hM3 := hM3.grow hx5
              replace hX := hX.ext hx5
              have hsh : ([str [], str [], str [84]] : List Value)[0 + (z / 8 % 3).toNat * 1]? = some (str (shM z)) := by
                have : z / 8 % 3 = 0 ∨ z / 8 % 3 = 1 ∨ z / 8 % 3 = 2 := by omega
                rcases this with h | h | h <;> rw [h] <;> simp [shM, h]
              refine Sz ?_
              refine LW.load rfl hB hsh rfl rfl rfl ?_
              refine Sa ?_
              have hX1 := hX
              (apply LW.store_all; exact rfl; exact rfl; exact rfl; assumption; exact rfl; exact rfl; exact rfl; intro w6 hc6 hX)
              replace hX : Blk w6 X (nvL ⟨{ kind := 5, ref := refM z }, .slice none 0 0⟩) 38 := hX
              refine Sa ?_
              exact QW.head (_, _, _, _) (ci_leaf hM3 hXw hXo hXs hX1 hc6 hX (leaf_ok hz0 hz1 (by simp [leafM])) rfl) (Sub.cons rfl (Sub.cons rfl (Sub.cons rfl (Sub.cons rfl (Sub.cons rfl (Sub.nil))))))
            refine Sa ?_
            refine CW.cond rfl (fun q7 => ?_) (fun q7 => ?_)
            · refine Sa ?_
              have hX1 := hX
              (apply LW.store_all; exact rfl; exact rfl; exact rfl; assumption; exact rfl; exact rfl; exact rfl; intro w6 hc6 hX)
              replace hX : Blk w6 X (nvL ⟨{ kind := 6, ref := refA z, to := refB z }, .slice none 0 0⟩) 38 := hX
              refine Sa ?_
              exact QW.head (_, _, _, _) (ci_leaf hM3 hXw hXo hXs hX1 hc6 hX (leaf_ok hz0 hz1 (by simp [leafM])) rfl) (Sub.cons rfl (Sub.cons rfl (Sub.cons rfl (Sub.cons rfl (Sub.cons rfl (Sub.nil))))))
            refine Sa ?_
            refine CW.cond rfl (fun q8 => ?_) (fun q8 => ?_)
            · have hil := Lib.itoa_length_le z (by omega) (by omega)
              refine Sa ?_
              refine LW.call0 rfl rfl (Digits_ret z hz0 (by omega) _) ?_
              rintro v w5 ⟨rfl, hx5⟩
              replace hM3 := hM3.grow hx5
              replace hX := hX.ext hx5
              refine Sa ?_
              have hX1 := hX
              (apply LW.store_all; exact rfl; exact rfl; exact rfl; assumption; exact rfl; exact rfl; exact rfl; intro w6 hc6 hX)
              replace hX : Blk w6 X (nvL ⟨{ kind := 2, text := [97, 34] ++ Lib.itoa z }, .slice none 0 0⟩) 38 := hX
              refine Sa ?_
              exact QW.head (_, _, _, _) (ci_leaf hM3 hXw hXo hXs hX1 hc6 hX (leaf_ok hz0 hz1 (by simp [leafM])) rfl) (Sub.cons rfl (Sub.cons rfl (Sub.cons rfl (Sub.cons rfl (Sub.cons rfl (Sub.nil))))))
            refine Sa ?_
            refine CW.cond rfl (fun q9 => ?_) (fun q9 => ?_)
            · refine Sa ?_
              have hX1 := hX
              (apply LW.store_all; exact rfl; exact rfl; exact rfl; assumption; exact rfl; exact rfl; exact rfl; intro w6 hc6 hX)
              replace hX : Blk w6 X (nvL ⟨{ kind := 3, num := z / 32 % 2 }, .slice none 0 0⟩) 38 := hX
              refine Sa ?_
              exact QW.head (_, _, _, _) (ci_leaf hM3 hXw hXo hXs hX1 hc6 hX (leaf_ok hz0 hz1 (by simp [leafM])) rfl) (Sub.cons rfl (Sub.cons rfl (Sub.cons rfl (Sub.cons rfl (Sub.cons rfl (Sub.nil))))))
            refine Sa ?_
            refine CW.cond rfl (fun q10 => ?_) (fun q10 => ?_)
            · refine Sa ?_
              have hX1 := hX
              (apply LW.store_all; exact rfl; exact rfl; exact rfl; assumption; exact rfl; exact rfl; exact rfl; intro w6 hc6 hX)
              replace hX : Blk w6 X (nvL ⟨{ kind := 4 }, .slice none 0 0⟩) 38 := hX
              refine Sa ?_
              exact QW.head (_, _, _, _) (ci_leaf hM3 hXw hXo hXs hX1 hc6 hX (leaf_ok hz0 hz1 (by simp [leafM])) rfl) (Sub.cons rfl (Sub.cons rfl (Sub.cons rfl (Sub.cons rfl (Sub.cons rfl (Sub.nil))))))
            refine Sa ?_
            exact QW.head (_, _, _, _) (ci_leaf hM hXw hXo hXs hX0 hc3 hX (leaf_ok hz0 hz1 (by simp [leafM])) rfl) (Sub.cons rfl (Sub.cons rfl (Sub.cons rfl (Sub.cons rfl (Sub.cons rfl (Sub.nil))))))
        · refine Sa ?_
          refine Sa ?_
          refine CW.cond rfl (fun q5 => ?_) (fun q5 => ?_)
          · obtain ⟨kN, hkN, hkl⟩ : ∃ kN : Nat, (if z / 16 % 4 < (st.length : Int) then z / 16 % 4 else (st.length : Int)) = (kN : Int) ∧ kN ≤ st.length := ⟨(if z / 16 % 4 < (st.length : Int) then z / 16 % 4 else (st.length : Int)).toNat, by split <;> omega, by split <;> omega⟩
            obtain ⟨s2, ks, hst, hks⟩ : ∃ s2 ks : List Int, st = s2 ++ ks ∧ ks.length = kN := ⟨st.take (st.length - kN), st.drop (st.length - kN), (List.take_append_drop _ _).symm, by simp; omega⟩
            subst hst
            have hsl : (s2 ++ ks).length = s2.length + ks.length := by simp
            refine Sa ?_
            refine LW.min2 rfl rfl rfl ?_
            rw [hkN, ← hks]
            refine Sa ?_
            (apply LW.buildSlice0; exact rfl; exact rfl; exact rfl; exact rfl; intro B w5 hbB hx5 hB)
            have hold := fun (b : Nat) (hh : b ∈ vblk (Value.slice sp (s2 ++ ks).length sc)) => (hM3.sown.lt hh).2
            have hM5 := hM3.grow hx5
            have hz3 := hM3.ext.size
            have hz5 := hx5.size
            replace hX := hX.ext hx5
            refine Sa ?_
            refine LW.val rfl rfl rfl (Y.slice_from (i := s2.length) rfl (by show some (Value.int .i64 _) = some (Value.int .i64 _); congr 2; omega) rfl rfl rfl (by omega)) ?_
            have hfrom := Own.from_ hM5.sown (by omega) (i := s2.length) (by omega)
            rw [List.drop_left] at hfrom
            refine LW.append_any (lo := w.heap.size) (xs := []) (news := icells ks) rfl rfl rfl rfl rfl rfl (⟨rfl, .inr ⟨B, 0, [], rfl, hB, by simp, by simp, by omega⟩⟩) (by omega) (by rw [icells_len]; show _ = _ * 1; omega) (by
              obtain ⟨_, ⟨e, e2⟩ | ⟨a, cap, e, hc⟩⟩ := hfrom
              · simp only [Value.slice.injEq] at e
                exact .inl ⟨e.1, by omega⟩
              · simp only [Value.slice.injEq] at e
                refine .inr ⟨a, e.1, fun j u hj => ?_⟩
                simp only [icells, List.getElem?_map] at hj
                cases hg : ks[j]? with
                | none => rw [hg] at hj; cases hj
                | some y =>
                  rw [hg] at hj
                  obtain rfl := Option.some.inj hj
                  exact hc j y hg) (fun u hu => by
              simp only [icells, List.mem_map] at hu
              obtain ⟨_, _, rfl⟩ := hu
              rfl) (by show (0 + _) * 9 ≤ _; omega) rfl ?_
            intro v' w6 hc6 hown' hv'
            obtain ⟨p', c', rfl⟩ := hown'.slice
            have hx36 : Ext w3 w6 := hx5.step hc6 (by simp [vblk]; omega)
            replace hX := hX.chg hc6 (by simp [vblk]; intro e; subst e; exact absurd (hX.inj hB) (by decide))
            replace hM3 := hM3.grow hx36
            have hkfr : ∀ b ∈ vblk (Value.slice p' (0 + ((s2 ++ ks).length - s2.length)) c'), b ∉ vblk (Value.slice sp (s2 ++ ks).length sc) := fun b hb hh => by
              have h1 := hold b hh
              rcases hv' b hb with h2 | h2
              · simp [vblk] at h2; omega
              · omega
            have hm : 0 + ((s2 ++ ks).length - s2.length) = ks.length := by omega
            rw [hm] at hown' hkfr ⊢
            simp only [List.nil_append] at hown'
            have hkv : KidsOk w6 (.slice p' ks.length c') ks := own_kids hown'
            refine Sa ?_
            have hX1 := hX
            (apply LW.store_all; exact rfl; exact rfl; exact rfl; assumption; exact rfl; exact rfl; exact rfl; intro w8 hc8 hX)
            replace hX : Blk w8 X (nvL ⟨{ kind := 7, text := [83, 85, 77], kids := ks }, .slice p' ks.length c'⟩) 38 := hX
            have hM8 := hM3.chgX hXw hXo hXs hX1 hc8
            refine Sa ?_
            refine LW.slice_to (i := s2.length) rfl (by show some (Value.int .i64 _) = some (Value.int .i64 _); congr 2; omega) (by show some (Value.int .i64 _) = some (Value.int .i64 _); congr 2; omega) rfl rfl rfl ?_ rfl ?_
            · have := Own.cap_ hM8.sown; omega
            refine Sa ?_
            exact QW.head (_, _, _, _) (ci_pop hM3 rfl hXw hXo hXs hX1 hc8 hX hkv hkfr (call_ok (by omega)) rfl) (Sub.cons rfl (Sub.cons rfl (Sub.cons rfl (Sub.cons rfl (Sub.cons rfl (Sub.nil))))))
          refine Sa ?_
          refine CW.cond rfl (fun q6 => ?_) (fun q6 => ?_)
          · refine Sa ?_
            (apply LW.buildSlice; exact rfl; exact rfl; exact rfl; exact rfl; exact rfl; exact rfl; exact rfl; exact rfl; exact rfl; intro B w5 hbB hx5 hB)
            replace hM3 := hM3.grow hx5
            replace hX := hX.ext hx5
            have hsh : ([str [], str [], str [84]] : List Value)[0 + (z / 8 % 3).toNat * 1]? = some (str (shM z)) := by
              have : z / 8 % 3 = 0 ∨ z / 8 % 3 = 1 ∨ z / 8 % 3 = 2 := by omega
              rcases this with h | h | h <;> rw [h] <;> simp [shM, h]
            refine Sz ?_
            refine LW.load rfl hB hsh rfl rfl rfl ?_
            refine Sa ?_
            have hX1 := hX
            (apply LW.store_all; exact rfl; exact rfl; exact rfl; assumption; exact rfl; exact rfl; exact rfl; intro w6 hc6 hX)
            replace hX : Blk w6 X (nvL ⟨{ kind := 5, ref := refM z }, .slice none 0 0⟩) 38 := hX
            refine Sa ?_
            exact QW.head (_, _, _, _) (ci_leaf hM3 hXw hXo hXs hX1 hc6 hX (leaf_ok hz0 hz1 (by simp [leafM])) rfl) (Sub.cons rfl (Sub.cons rfl (Sub.cons rfl (Sub.cons rfl (Sub.cons rfl (Sub.nil))))))
          refine Sa ?_
          refine CW.cond rfl (fun q7 => ?_) (fun q7 => ?_)
          · refine Sa ?_
            have hX1 := hX
            (apply LW.store_all; exact rfl; exact rfl; exact rfl; assumption; exact rfl; exact rfl; exact rfl; intro w6 hc6 hX)
            replace hX : Blk w6 X (nvL ⟨{ kind := 6, ref := refA z, to := refB z }, .slice none 0 0⟩) 38 := hX
            refine Sa ?_
            exact QW.head (_, _, _, _) (ci_leaf hM3 hXw hXo hXs hX1 hc6 hX (leaf_ok hz0 hz1 (by simp [leafM])) rfl) (Sub.cons rfl (Sub.cons rfl (Sub.cons rfl (Sub.cons rfl (Sub.cons rfl (Sub.nil))))))
          refine Sa ?_
          refine CW.cond rfl (fun q8 => ?_) (fun q8 => ?_)
          · have hil := Lib.itoa_length_le z (by omega) (by omega)
            refine Sa ?_
            refine LW.call0 rfl rfl (Digits_ret z hz0 (by omega) _) ?_
            rintro v w5 ⟨rfl, hx5⟩
            replace hM3 := hM3.grow hx5
            replace hX := hX.ext hx5
            refine Sa ?_
            have hX1 := hX
            (apply LW.store_all; exact rfl; exact rfl; exact rfl; assumption; exact rfl; exact rfl; exact rfl; intro w6 hc6 hX)
            replace hX : Blk w6 X (nvL ⟨{ kind := 2, text := [97, 34] ++ Lib.itoa z }, .slice none 0 0⟩) 38 := hX
            refine Sa ?_
            exact QW.head (_, _, _, _) (ci_leaf hM3 hXw hXo hXs hX1 hc6 hX (leaf_ok hz0 hz1 (by simp [leafM])) rfl) (Sub.cons rfl (Sub.cons rfl (Sub.cons rfl (Sub.cons rfl (Sub.cons rfl (Sub.nil))))))
          refine Sa ?_
          refine CW.cond rfl (fun q9 => ?_) (fun q9 => ?_)
          · refine Sa ?_
            have hX1 := hX
            (apply LW.store_all; exact rfl; exact rfl; exact rfl; assumption; exact rfl; exact rfl; exact rfl; intro w6 hc6 hX)
            replace hX : Blk w6 X (nvL ⟨{ kind := 3, num := z / 32 % 2 }, .slice none 0 0⟩) 38 := hX
            refine Sa ?_
            exact QW.head (_, _, _, _) (ci_leaf hM3 hXw hXo hXs hX1 hc6 hX (leaf_ok hz0 hz1 (by simp [leafM])) rfl) (Sub.cons rfl (Sub.cons rfl (Sub.cons rfl (Sub.cons rfl (Sub.cons rfl (Sub.nil))))))
          refine Sa ?_
          refine CW.cond rfl (fun q10 => ?_) (fun q10 => ?_)
          · refine Sa ?_
            have hX1 := hX
            (apply LW.store_all; exact rfl; exact rfl; exact rfl; assumption; exact rfl; exact rfl; exact rfl; intro w6 hc6 hX)
            replace hX : Blk w6 X (nvL ⟨{ kind := 4 }, .slice none 0 0⟩) 38 := hX
            refine Sa ?_
            exact QW.head (_, _, _, _) (ci_leaf hM3 hXw hXo hXs hX1 hc6 hX (leaf_ok hz0 hz1 (by simp [leafM])) rfl) (Sub.cons rfl (Sub.cons rfl (Sub.cons rfl (Sub.cons rfl (Sub.cons rfl (Sub.nil))))))
          refine Sa ?_
          exact QW.head (_, _, _, _) (ci_leaf hM hXw hXo hXs hX0 hc3 hX (leaf_ok hz0 hz1 (by simp [leafM])) rfl) (Sub.cons rfl (Sub.cons rfl (Sub.cons rfl (Sub.cons rfl (Sub.cons rfl (Sub.nil))))))
    · refine Sa ?_
      refine Sa ?_
      refine LW.part rfl rfl rfl (fun q3 => ?_) (fun q3 => ?_)
      · have q3 : z % 16 = 1 := by simpa using q3
        refine Sa ?_
        refine CW.cond rfl (fun q4 => ?_) (fun q4 => ?_)
        · have q4 : 1 ≤ st.length := by simp at q4; omega
          obtain ⟨s2, a, rfl⟩ : ∃ s2 a, st = s2 ++ [a] := ⟨st.dropLast, st.getLast (by intro h; subst h; simp at q4), (List.dropLast_concat_getLast _).symm⟩
          have hsl : (s2 ++ [a]).length = s2.length + 1 := by simp
          obtain ⟨sa, rfl, hcs⟩ : ∃ sa, sp = some sa ∧ ∀ w', Own w' w.heap.size 3 1 (.slice sp (s2 ++ [a]).length sc) (s2 ++ [a]).length (icells (s2 ++ [a])) → w'.cell? (sa.add ((((s2 ++ [a]).length : Int) - 1).toNat * 1)) = some (.int .i64 a) := by
            cases sp with
            | none =>
              obtain ⟨_, ⟨_, e⟩ | ⟨g, cap, sp, e, _⟩⟩ := hM.sown
              · omega
              · simp at e
            | some sa =>
              refine ⟨sa, rfl, fun w' ho => ?_⟩
              rcases Own.cells ho (Nat.le_refl _) with ⟨e, _⟩ | ⟨a', e, hc⟩
              · cases e
              · obtain rfl := Option.some.inj e
                rw [List.take_length] at hc
                rw [show (((s2 ++ [a]).length : Int) - 1).toNat * 1 = s2.length by omega]
                exact hc _ _ (by simp [icells])
          refine Sa ?_
          refine Lo ?_
          refine Lp (hcs _ hM3.sown) ?_
          refine Sa ?_
          (apply LW.buildSlice; exact rfl; exact rfl; exact rfl; exact rfl; exact rfl; exact rfl; exact rfl; exact rfl; exact rfl; intro B w5 hbB hx5 hB)
          have hBs : B ∉ vblk (Value.slice (some sa) (s2 ++ [a]).length sc) := fun hh => by
            have := (hM3.sown.lt hh).2
            omega
          replace hM3 := hM3.grow hx5
          replace hX := hX.ext hx5
          replace hB : Blk w5 B (icells [a]) 3 := hB
          refine Sa ?_
          have hX1 := hX
          (apply LW.store_all; exact rfl; exact rfl; exact rfl; assumption; exact rfl; exact rfl; exact rfl; intro w6 hc6 hX)
          replace hX : Blk w6 X (nvL ⟨{ kind := 8, kids := [a] }, .slice (some ⟨B, 0, none⟩) 1 1⟩) 38 := hX
          have hM6 := hM3.chgX hXw hXo hXs hX1 hc6
          refine Sa ?_
          refine LW.slice_to (i := s2.length) rfl (by show some (Value.int .i64 _) = some (Value.int .i64 _); congr 2; omega) (by show some (Value.int .i64 _) = some (Value.int .i64 _); congr 2; omega) rfl rfl rfl ?_ rfl ?_
          · have := Own.cap_ hM6.sown; omega
          refine Sa ?_
          exact QW.head (_, _, _, _) (ci_pop hM3 rfl hXw hXo hXs hX1 hc6 hX (.inr ⟨B, 1, [], rfl, by rw [List.append_nil]; exact hB⟩) (by simp [vblk] at hBs ⊢; exact hBs) (neg_ok a) rfl) (Sub.cons rfl (Sub.cons rfl (Sub.cons rfl (Sub.cons rfl (Sub.cons rfl (Sub.nil))))))
        · refine Sa ?_
          refine CW.cond rfl (fun q5 => ?_) (fun q5 => ?_)
          · obtain ⟨kN, hkN, hkl⟩ : ∃ kN : Nat, (if z / 16 % 4 < (st.length : Int) then z / 16 % 4 else (st.length : Int)) = (kN : Int) ∧ kN ≤ st.length := ⟨(if z / 16 % 4 < (st.length : Int) then z / 16 % 4 else (st.length : Int)).toNat, by split <;> omega, by split <;> omega⟩
            obtain ⟨s2, ks, hst, hks⟩ : ∃ s2 ks : List Int, st = s2 ++ ks ∧ ks.length = kN := ⟨st.take (st.length - kN), st.drop (st.length - kN), (List.take_append_drop _ _).symm, by simp; omega⟩
            subst hst
            have hsl : (s2 ++ ks).length = s2.length + ks.length := by simp
            refine Sa ?_
            refine LW.min2 rfl rfl rfl ?_
            rw [hkN, ← hks]
            refine Sa ?_
            (apply LW.buildSlice0; exact rfl; exact rfl; exact rfl; exact rfl; intro B w5 hbB hx5 hB)
            have hold := fun (b : Nat) (hh : b ∈ vblk (Value.slice sp (s2 ++ ks).length sc)) => (hM3.sown.lt hh).2
            have hM5 := hM3.grow hx5
            have hz3 := hM3.ext.size
            have hz5 := hx5.size
            replace hX := hX.ext hx5
            refine Sa ?_
            refine LW.val rfl rfl rfl (Y.slice_from (i := s2.length) rfl (by show some (Value.int .i64 _) = some (Value.int .i64 _); congr 2; omega) rfl rfl rfl (by omega)) ?_
            have hfrom := Own.from_ hM5.sown (by omega) (i := s2.length) (by omega)
            rw [List.drop_left] at hfrom
            refine LW.append_any (lo := w.heap.size) (xs := []) (news := icells ks) rfl rfl rfl rfl rfl rfl (⟨rfl, .inr ⟨B, 0, [], rfl, hB, by simp, by simp, by omega⟩⟩) (by omega) (by rw [icells_len]; show _ = _ * 1; omega) (by
              obtain ⟨_, ⟨e, e2⟩ | ⟨a, cap, e, hc⟩⟩ := hfrom
              · simp only [Value.slice.injEq] at e
                exact .inl ⟨e.1, by omega⟩
              · simp only [Value.slice.injEq] at e
                refine .inr ⟨a, e.1, fun j u hj => ?_⟩
                simp only [icells, List.getElem?_map] at hj
                cases hg : ks[j]? with
                | none => rw [hg] at hj; cases hj
                | some y =>
                  rw [hg] at hj
                  obtain rfl := Option.some.inj hj
                  exact hc j y hg) (fun u hu => by
              simp only [icells, List.mem_map] at hu
              obtain ⟨_, _, rfl⟩ := hu
              rfl) (by show (0 + _) * 9 ≤ _; omega) rfl ?_
            intro v' w6 hc6 hown' hv'
            obtain ⟨p', c', rfl⟩ := hown'.slice
            have hx36 : Ext w3 w6 := hx5.step hc6 (by simp [vblk]; omega)
            replace hX := hX.chg hc6 (by simp [vblk]; intro e; subst e; exact absurd (hX.inj hB) (by decide))
            replace hM3 := hM3.grow hx36
            have hkfr : ∀ b ∈ vblk (Value.slice p' (0 + ((s2 ++ ks).length - s2.length)) c'), b ∉ vblk (Value.slice sp (s2 ++ ks).length sc) := fun b hb hh => by
              have h1 := hold b hh
              rcases hv' b hb with h2 | h2
              · simp [vblk] at h2; omega
              · omega
            have hm : 0 + ((s2 ++ ks).length - s2.length) = ks.length := by omega
            rw [hm] at hown' hkfr ⊢
            simp only [List.nil_append] at hown'
            have hkv : KidsOk w6 (.slice p' ks.length c') ks := own_kids hown'
            refine Sa ?_
            have hX1 := hX
            (apply LW.store_all; exact rfl; exact rfl; exact rfl; assumption; exact rfl; exact rfl; exact rfl; intro w8 hc8 hX)
            replace hX : Blk w8 X (nvL ⟨{ kind := 7, text := [83, 85, 77], kids := ks }, .slice p' ks.length c'⟩) 38 := hX
            have hM8 := hM3.chgX hXw hXo hXs hX1 hc8
            refine Sa ?_
            refine LW.slice_to (i := s2.length) rfl (by show some (Value.int .i64 _) = some (Value.int .i64 _); congr 2; omega) (by show some (Value.int .i64 _) = some (Value.int .i64 _); congr 2; omega) rfl rfl rfl ?_ rfl ?_
            · have := Own.cap_ hM8.sown; omega
            refine Sa ?_
            exact QW.head (_, _, _, _) (ci_pop hM3 rfl hXw hXo hXs hX1 hc8 hX hkv hkfr (call_ok (by omega)) rfl) (Sub.cons rfl (Sub.cons rfl (Sub.cons rfl (Sub.cons rfl (Sub.cons rfl (Sub.nil))))))
          refine Sa ?_
          refine CW.cond rfl (fun q6 => ?_) (fun q6 => ?_)
          · refine Sa ?_
            (apply LW.buildSlice; exact rfl; exact rfl; exact rfl; exact rfl; exact rfl; exact rfl; exact rfl; exact rfl; exact rfl; intro B w5 hbB hx5 hB)
            replace hM3 := hM3.grow hx5
            replace hX := hX.ext hx5
            have hsh : ([str [], str [], str [84]] : List Value)[0 + (z / 8 % 3).toNat * 1]? = some (str (shM z)) := by
              have : z / 8 % 3 = 0 ∨ z / 8 % 3 = 1 ∨ z / 8 % 3 = 2 := by omega
              rcases this with h | h | h <;> rw [h] <;> simp [shM, h]
            refine Sz ?_
            refine LW.load rfl hB hsh rfl rfl rfl ?_
            refine Sa ?_
            have hX1 := hX
            (apply LW.store_all; exact rfl; exact rfl; exact rfl; assumption; exact rfl; exact rfl; exact rfl; intro w6 hc6 hX)
            replace hX : Blk w6 X (nvL ⟨{ kind := 5, ref := refM z }, .slice none 0 0⟩) 38 := hX
            refine Sa ?_
            exact QW.head (_, _, _, _) (ci_leaf hM3 hXw hXo hXs hX1 hc6 hX (leaf_ok hz0 hz1 (by simp [leafM])) rfl) (Sub.cons rfl (Sub.cons rfl (Sub.cons rfl (Sub.cons rfl (Sub.cons rfl (Sub.nil))))))
          refine Sa ?_
          refine CW.cond rfl (fun q7 => ?_) (fun q7 => ?_)
          · refine Sa ?_
            have hX1 := hX
            (apply LW.store_all; exact rfl; exact rfl; exact rfl; assumption; exact rfl; exact rfl; exact rfl; intro w6 hc6 hX)
            replace hX : Blk w6 X (nvL ⟨{ kind := 6, ref := refA z, to := refB z }, .slice none 0 0⟩) 38 := hX
            refine Sa ?_
            exact QW.head (_, _, _, _) (ci_leaf hM3 hXw hXo hXs hX1 hc6 hX (leaf_ok hz0 hz1 (by simp [leafM])) rfl) (Sub.cons rfl (Sub.cons rfl (Sub.cons rfl (Sub.cons rfl (Sub.cons rfl (Sub.nil))))))
          refine Sa ?_
          refine CW.cond rfl (fun q8 => ?_) (fun q8 => ?_)
          · have hil := Lib.itoa_length_le z (by omega) (by omega)
            refine Sa ?_
            refine LW.call0 rfl rfl (Digits_ret z hz0 (by omega) _) ?_
            rintro v w5 ⟨rfl, hx5⟩
            replace hM3 := hM3.grow hx5
            replace hX := hX.ext hx5
            refine Sa ?_
            have hX1 := hX
            (apply LW.store_all; exact rfl; exact rfl; exact rfl; assumption; exact rfl; exact rfl; exact rfl; intro w6 hc6 hX)
            replace hX : Blk w6 X (nvL ⟨{ kind := 2, text := [97, 34] ++ Lib.itoa z }, .slice none 0 0⟩) 38 := hX
            refine Sa ?_
            exact QW.head (_, _, _, _) (ci_leaf hM3 hXw hXo hXs hX1 hc6 hX (leaf_ok hz0 hz1 (by simp [leafM])) rfl) (Sub.cons rfl (Sub.cons rfl (Sub.cons rfl (Sub.cons rfl (Sub.cons rfl (Sub.nil))))))
          refine Sa ?_
          refine CW.cond rfl (fun q9 => ?_) (fun q9 => ?_)
          · refine Sa ?_
            have hX1 := hX
            (apply LW.store_all; exact rfl; exact rfl; exact rfl; assumption; exact rfl; exact rfl; exact rfl; intro w6 hc6 hX)
            replace hX : Blk w6 X (nvL ⟨{ kind := 3, num := z / 32 % 2 }, .slice none 0 0⟩) 38 := hX
            refine Sa ?_
            exact QW.head (_, _, _, _) (ci_leaf hM3 hXw hXo hXs hX1 hc6 hX (leaf_ok hz0 hz1 (by simp [leafM])) rfl) (Sub.cons rfl (Sub.cons rfl (Sub.cons rfl (Sub.cons rfl (Sub.cons rfl (Sub.nil))))))
          refine Sa ?_
          refine CW.cond rfl (fun q10 => ?_) (fun q10 => ?_)
          · refine Sa ?_
            have hX1 := hX
            (apply LW.store_all; exact rfl; exact rfl; exact rfl; assumption; exact rfl; exact rfl; exact rfl; intro w6 hc6 hX)
            replace hX : Blk w6 X (nvL ⟨{ kind := 4 }, .slice none 0 0⟩) 38 := hX
            refine Sa ?_
            exact QW.head (_, _, _, _) (ci_leaf hM3 hXw hXo hXs hX1 hc6 hX (leaf_ok hz0 hz1 (by simp [leafM])) rfl) (Sub.cons rfl (Sub.cons rfl (Sub.cons rfl (Sub.cons rfl (Sub.cons rfl (Sub.nil))))))
          refine Sa ?_
          exact QW.head (_, _, _, _) (ci_leaf hM hXw hXo hXs hX0 hc3 hX (leaf_ok hz0 hz1 (by simp [leafM])) rfl) (Sub.cons rfl (Sub.cons rfl (Sub.cons rfl (Sub.cons rfl (Sub.cons rfl (Sub.nil))))))
      · refine Sa ?_
        refine Sa ?_
        refine CW.cond rfl (fun q5 => ?_) (fun q5 => ?_)
        · obtain ⟨kN, hkN, hkl⟩ : ∃ kN : Nat, (if z / 16 % 4 < (st.length : Int) then z / 16 % 4 else (st.length : Int)) = (kN : Int) ∧ kN ≤ st.length := ⟨(if z / 16 % 4 < (st.length : Int) then z / 16 % 4 else (st.length : Int)).toNat, by split <;> omega, by split <;> omega⟩
          obtain ⟨s2, ks, hst, hks⟩ : ∃ s2 ks : List Int, st = s2 ++ ks ∧ ks.length = kN := ⟨st.take (st.length - kN), st.drop (st.length - kN), (List.take_append_drop _ _).symm, by simp; omega⟩
          subst hst
          have hsl : (s2 ++ ks).length = s2.length + ks.length := by simp
          refine Sa ?_
          refine LW.min2 rfl rfl rfl ?_
          rw [hkN, ← hks]
          refine Sa ?_
          (apply LW.buildSlice0; exact rfl; exact rfl; exact rfl; exact rfl; intro B w5 hbB hx5 hB)
          have hold := fun (b : Nat) (hh : b ∈ vblk (Value.slice sp (s2 ++ ks).length sc)) => (hM3.sown.lt hh).2
          have hM5 := hM3.grow hx5
          have hz3 := hM3.ext.size
          have hz5 := hx5.size
          replace hX := hX.ext hx5
          refine Sa ?_
          refine LW.val rfl rfl rfl (Y.slice_from (i := s2.length) rfl (by show some (Value.int .i64 _) = some (Value.int .i64 _); congr 2; omega) rfl rfl rfl (by omega)) ?_
          have hfrom := Own.from_ hM5.sown (by omega) (i := s2.length) (by omega)
          rw [List.drop_left] at hfrom
          refine LW.append_any (lo := w.heap.size) (xs := []) (news := icells ks) rfl rfl rfl rfl rfl rfl (⟨rfl, .inr ⟨B, 0, [], rfl, hB, by simp, by simp, by omega⟩⟩) (by omega) (by rw [icells_len]; show _ = _ * 1; omega) (by
            obtain ⟨_, ⟨e, e2⟩ | ⟨a, cap, e, hc⟩⟩ := hfrom
            · simp only [Value.slice.injEq] at e
              exact .inl ⟨e.1, by omega⟩
            · simp only [Value.slice.injEq] at e
              refine .inr ⟨a, e.1, fun j u hj => ?_⟩
              simp only [icells, List.getElem?_map] at hj
              cases hg : ks[j]? with
              | none => rw [hg] at hj; cases hj
              | some y =>
                rw [hg] at hj
                obtain rfl := Option.some.inj hj
                exact hc j y hg) (fun u hu => by
            simp only [icells, List.mem_map] at hu
            obtain ⟨_, _, rfl⟩ := hu
            rfl) (by show (0 + _) * 9 ≤ _; omega) rfl ?_
          intro v' w6 hc6 hown' hv'
          obtain ⟨p', c', rfl⟩ := hown'.slice
          have hx36 : Ext w3 w6 := hx5.step hc6 (by simp [vblk]; omega)
          replace hX := hX.chg hc6 (by simp [vblk]; intro e; subst e; exact absurd (hX.inj hB) (by decide))
          replace hM3 := hM3.grow hx36
          have hkfr : ∀ b ∈ vblk (Value.slice p' (0 + ((s2 ++ ks).length - s2.length)) c'), b ∉ vblk (Value.slice sp (s2 ++ ks).length sc) := fun b hb hh => by
            have h1 := hold b hh
            rcases hv' b hb with h2 | h2
            · simp [vblk] at h2; omega
            · omega
          have hm : 0 + ((s2 ++ ks).length - s2.length) = ks.length := by omega
          rw [hm] at hown' hkfr ⊢
          simp only [List.nil_append] at hown'
          have hkv : KidsOk w6 (.slice p' ks.length c') ks := own_kids hown'
          refine Sa ?_
          have hX1 := hX
          (apply LW.store_all; exact rfl; exact rfl; exact rfl; assumption; exact rfl; exact rfl; exact rfl; intro w8 hc8 hX)
          replace hX : Blk w8 X (nvL ⟨{ kind := 7, text := [83, 85, 77], kids := ks }, .slice p' ks.length c'⟩) 38 := hX
          have hM8 := hM3.chgX hXw hXo hXs hX1 hc8
          refine Sa ?_
          refine LW.slice_to (i := s2.length) rfl (by show some (Value.int .i64 _) = some (Value.int .i64 _); congr 2; omega) (by show some (Value.int .i64 _) = some (Value.int .i64 _); congr 2; omega) rfl rfl rfl ?_ rfl ?_
          · have := Own.cap_ hM8.sown; omega
          refine Sa ?_
          exact QW.head (_, _, _, _) (ci_pop hM3 rfl hXw hXo hXs hX1 hc8 hX hkv hkfr (call_ok (by omega)) rfl) (Sub.cons rfl (Sub.cons rfl (Sub.cons rfl (Sub.cons rfl (Sub.cons rfl (Sub.nil))))))
        refine Sa ?_
        refine CW.cond rfl (fun q6 => ?_) (fun q6 => ?_)
        · refine Sa ?_
          (apply LW.buildSlice; exact rfl; exact rfl; exact rfl; exact rfl; exact rfl; exact rfl; exact rfl; exact rfl; exact rfl; intro B w5 hbB hx5 hB)
          replace hM3 := hM3.grow hx5
          replace hX := hX.ext hx5
          have hsh : ([str [], str [], str [84]] : List Value)[0 + (z / 8 % 3).toNat * 1]? = some (str (shM z)) := by
            have : z / 8 % 3 = 0 ∨ z / 8 % 3 = 1 ∨ z / 8 % 3 = 2 := by omega
            rcases this with h | h | h <;> rw [h] <;> simp [shM, h]
          refine Sz ?_
          refine LW.load rfl hB hsh rfl rfl rfl ?_
          refine Sa ?_
          have hX1 := hX
          (apply LW.store_all; exact rfl; exact rfl; exact rfl; assumption; exact rfl; exact rfl; exact rfl; intro w6 hc6 hX)
          replace hX : Blk w6 X (nvL ⟨{ kind := 5, ref := refM z }, .slice none 0 0⟩) 38 := hX
          refine Sa ?_
          exact QW.head (_, _, _, _) (ci_leaf hM3 hXw hXo hXs hX1 hc6 hX (leaf_ok hz0 hz1 (by simp [leafM])) rfl) (Sub.cons rfl (Sub.cons rfl (Sub.cons rfl (Sub.cons rfl (Sub.cons rfl (Sub.nil))))))
        refine Sa ?_
        refine CW.cond rfl (fun q7 => ?_) (fun q7 => ?_)
        · refine Sa ?_
          have hX1 := hX
          (apply LW.store_all; exact rfl; exact rfl; exact rfl; assumption; exact rfl; exact rfl; exact rfl; intro w6 hc6 hX)
          replace hX : Blk w6 X (nvL ⟨{ kind := 6, ref := refA z, to := refB z }, .slice none 0 0⟩) 38 := hX
          refine Sa ?_
          exact QW.head (_, _, _, _) (ci_leaf hM3 hXw hXo hXs hX1 hc6 hX (leaf_ok hz0 hz1 (by simp [leafM])) rfl) (Sub.cons rfl (Sub.cons rfl (Sub.cons rfl (Sub.cons rfl (Sub.cons rfl (Sub.nil))))))
        refine Sa ?_
        refine CW.cond rfl (fun q8 => ?_) (fun q8 => ?_)
        · have hil := Lib.itoa_length_le z (by omega) (by omega)
          refine Sa ?_
          refine LW.call0 rfl rfl (Digits_ret z hz0 (by omega) _) ?_
          rintro v w5 ⟨rfl, hx5⟩
          replace hM3 := hM3.grow hx5
          replace hX := hX.ext hx5
          refine Sa ?_
          have hX1 := hX
          (apply LW.store_all; exact rfl; exact rfl; exact rfl; assumption; exact rfl; exact rfl; exact rfl; intro w6 hc6 hX)
          replace hX : Blk w6 X (nvL ⟨{ kind := 2, text := [97, 34] ++ Lib.itoa z }, .slice none 0 0⟩) 38 := hX
          refine Sa ?_
          exact QW.head (_, _, _, _) (ci_leaf hM3 hXw hXo hXs hX1 hc6 hX (leaf_ok hz0 hz1 (by simp [leafM])) rfl) (Sub.cons rfl (Sub.cons rfl (Sub.cons rfl (Sub.cons rfl (Sub.cons rfl (Sub.nil))))))
        refine Sa ?_
        refine CW.cond rfl (fun q9 => ?_) (fun q9 => ?_)
        · refine Sa ?_
          have hX1 := hX
          (apply LW.store_all; exact rfl; exact rfl; exact rfl; assumption; exact rfl; exact rfl; exact rfl; intro w6 hc6 hX)
          replace hX : Blk w6 X (nvL ⟨{ kind := 3, num := z / 32 % 2 }, .slice none 0 0⟩) 38 := hX
          refine Sa ?_
          exact QW.head (_, _, _, _) (ci_leaf hM3 hXw hXo hXs hX1 hc6 hX (leaf_ok hz0 hz1 (by simp [leafM])) rfl) (Sub.cons rfl (Sub.cons rfl (Sub.cons rfl (Sub.cons rfl (Sub.cons rfl (Sub.nil))))))
        refine Sa ?_
        refine CW.cond rfl (fun q10 => ?_) (fun q10 => ?_)
        · refine Sa ?_
          have hX1 := hX
          (apply LW.store_all; exact rfl; exact rfl; exact rfl; assumption; exact rfl; exact rfl; exact rfl; intro w6 hc6 hX)
          replace hX : Blk w6 X (nvL ⟨{ kind := 4 }, .slice none 0 0⟩) 38 := hX
          refine Sa ?_
          exact QW.head (_, _, _, _) (ci_leaf hM3 hXw hXo hXs hX1 hc6 hX (leaf_ok hz0 hz1 (by simp [leafM])) rfl) (Sub.cons rfl (Sub.cons rfl (Sub.cons rfl (Sub.cons rfl (Sub.cons rfl (Sub.nil))))))
        refine Sa ?_
        exact QW.head (_, _, _, _) (ci_leaf hM hXw hXo hXs hX0 hc3 hX (leaf_ok hz0 hz1 (by simp [leafM])) rfl) (Sub.cons rfl (Sub.cons rfl (Sub.cons rfl (Sub.cons rfl (Sub.cons rfl (Sub.nil))))))
  · clear hC0 hM hX hX0 hXo hXs hx2 hc3
    rintro ⟨nd, kv, s2, stv⟩ w7 hC
    dsimp only at hC
    obtain ⟨p2, c2, rfl⟩ : ∃ p c, stv = .slice p s2.length c := by
      rcases hC.sv with h | ⟨p, e, _⟩
      · exact h.slice
      · exact ⟨p, _, e⟩
    have hgo := hC.go
    have hfn := hC.fine
    show CW _ _ _ _ _ [(0, .slice (some na) ns.length nc), (3, .slice op l.length oc), (4, .slice p2 s2.length c2), (5, .int .i64 (l.length : Int)), (7, .pointer (some ⟨X, 0, none⟩))] _
    have hle2 := hC.le
    have hz7 := hC.ext.size
    refine Sa ?_
    (apply LW.buildSlice; exact rfl; exact rfl; exact rfl; exact rfl; exact rfl; exact rfl; exact rfl; exact rfl; exact rfl; intro B w8 hbB hx8 hB)
    replace hB : Blk w8 B [.int .i64 (l.length : Int)] 3 := hB
    have hz8 := hx8.size
    rcases hC.sv with ho | ⟨p, e, hp⟩
    · refine LW.append rfl rfl rfl rfl rfl rfl (ho.ext hx8) (by omega) hB rfl rfl rfl (by show (s2.length + 1) * 9 ≤ _; omega) rfl ?_
      intro v' w9 hc9 ho9 hv9
      have hcc : Chg (vblk (.slice p2 s2.length c2)) w7 w9 := by
        have := Chg.trans hx8 hc9
        simpa using this
      have hT := ti_of hC hcc (fun b hb => ⟨(ho.lt hb).1, hb⟩) (fun b hb L T hL => Own.type ho hb hL) (fun j hj => by rcases hv9 j hj with h | h; exact .inl h; exact .inr (by omega)) ho9
      obtain ⟨p3, c3, rfl⟩ := hT.sown.slice
      clear hC ho9 hv9
      obtain ⟨hTx, ⟨nvs, hon, hm, hk⟩, hTb, hTk, hTa, hTs⟩ := hT
      have hnl : nvs.length = l.length := by rw [← hm]; simp
      have hz9 := hTx.size
      refine Sa ?_
      (apply LW.buildSlice; exact rfl; exact rfl; exact rfl; exact rfl; exact rfl; exact rfl; exact rfl; exact rfl; exact rfl; intro C w10 hbC hx10 hC)
      replace hC : Blk w10 C (nvL ⟨nd, kv⟩) 38 := hC
      have hz10 := hx10.size
      have hnv : (nvL ⟨nd, kv⟩).all (·.oneCell') = true := by
        simp only [nvL, List.all_cons, List.all_nil, hTk.one]
        rfl
      refine Sa ?_
      refine LW.append rfl rfl rfl rfl rfl rfl (hon.ext hx10) (by omega) hC rfl hnv rfl (by show (nvs.length + 1) * 137 ≤ 140737488355328; omega) rfl ?_
      intro v2 w11 hc11 hon2 hv11
      have e1 : (nvs.flatMap nvL ++ nvL ⟨nd, kv⟩) = (nvs ++ [(⟨nd, kv⟩ : NV)]).flatMap nvL := by simp
      have e2 : nvs.length + 1 = (nvs ++ [(⟨nd, kv⟩ : NV)]).length := by simp
      rw [e1, e2] at hon2
      obtain ⟨p4, c4, rfl⟩ := hon2.slice
      have hTy : ∀ b ∈ vblk (Value.slice op l.length oc), ∀ L T, Blk w10 b L T → T = 38 := fun b hb L T hL => Own.type (hon.ext hx10) hb hL
      have hcc2 : Chg (vblk (.slice op l.length oc)) w9 w11 := by
        have := Chg.trans hx10 hc11
        simpa using this
      have hkk : ∀ {kv : Value} {ks : List Int}, KidsOk w9 kv ks → (∀ b ∈ vblk kv, b ∉ vblk (Value.slice p3 (s2.length + 1) c3)) → KidsOk w11 kv ks := fun {kv ks} h1 h2 => (h1.chg h2 hx10 (by simp)).chg h2 hc11 (fun b hb => .inr (by
        obtain ⟨_, ⟨e, _⟩ | ⟨g, cap, sp, e, hg, _⟩⟩ := hon.ext hx10
        · rw [e] at hb; simp [vblk] at hb
        · rw [e] at hb
          simp [vblk] at hb
          subst hb
          exact ⟨_, _, hg, by decide⟩))
      have hsf : Own w11 w.heap.size 3 1 (.slice p3 (s2.length + 1) c3) (s2.length + 1) (icells (s2 ++ [(l.length : Int)])) := (hTs.ext hx10).chg hc11 (fun b hb hm2 => by
        obtain ⟨_, ⟨e, _⟩ | ⟨g, cap, sp, e, hg, _⟩⟩ := hon.ext hx10
        · rw [e] at hm2; simp [vblk] at hm2
        · rw [e] at hm2
          simp [vblk] at hm2
          subst hm2
          exact absurd (Own.type (hTs.ext hx10) hb hg) (by decide))
      have hel : (l ++ [nd]).length = l.length + 1 := by simp
      have hes : (s2 ++ [(l.length : Int)]).length = s2.length + 1 := by simp
      have hen : (nvs ++ [(⟨nd, kv⟩ : NV)]).length = (l ++ [nd]).length := by simp [hnl]
      refine Sa ?_
      refine QW.again (l ++ [nd], s2 ++ [(l.length : Int)], p4, c4, p3, c3) ⟨by rw [hel]; omega, by rw [hel]; omega, ?_⟩ ?_ (by show 40 - (l ++ [nd]).length < 40 - l.length; rw [hel]; omega)
      · dsimp only
        rw [hes, ← hen]
        refine ⟨hTx.step hcc2 (fun b hb => (hon.lt hb).1), by rw [hes]; exact hsf, hgo, by rw [hes, hel]; omega, fun _ => by rw [hes]; omega, fun x hx => ?_, ⟨_, hon2, by simp [hm], fun x hx => ?_⟩⟩
        · rcases List.mem_append.1 hx with hx | hx
          · exact hfine x hx
          · simp at hx; subst hx; exact hfn
        · rcases List.mem_append.1 hx with hx | hx
          · exact ⟨hkk (hk x hx).1 (hk x hx).2, (hk x hx).2⟩
          · simp at hx
            subst hx
            exact ⟨hkk hTk hTa, hTa⟩
      · dsimp only
        rw [hes, ← hen, ← e2]
        have e5 : (((nvs.length + 1 : Nat)) : Int) = (l.length : Int) + 1 := by omega
        rw [e5]
        exact (Sub.cons rfl (Sub.cons rfl (Sub.cons rfl (Sub.cons rfl (Sub.nil)))))
    · simp only [Value.slice.injEq] at e
      obtain ⟨e1, _, e3⟩ := e
      subst e1
      subst e3
      refine LW.append_piece (xs := icells s2) (lo := w.heap.size) rfl rfl rfl rfl rfl (by exact rfl) (by rw [icells_len]; show _ = _ * 1; omega) ?_ (by omega) hB (by exact rfl) (by exact rfl) (by exact rfl) (by show (s2.length + 1) * 9 ≤ _; omega) rfl ?_
      · rcases hp with h | ⟨a, h1, h2⟩
        · exact .inl h
        · exact .inr ⟨a, h1, fun j u hj => cell_ext hx8 (h2 j u hj)⟩
      intro v' w9 hx9 ho9 hv9
      have hT := ti_of hC (hx8.trans hx9) (by simp) (by simp) (fun j hj => .inr (by have := hv9 j hj; omega)) ho9
      obtain ⟨p3, c3, rfl⟩ := hT.sown.slice
      clear hC ho9 hv9
      obtain ⟨hTx, ⟨nvs, hon, hm, hk⟩, hTb, hTk, hTa, hTs⟩ := hT
      have hnl : nvs.length = l.length := by rw [← hm]; simp
      have hz9 := hTx.size
      refine Sa ?_
      (apply LW.buildSlice; exact rfl; exact rfl; exact rfl; exact rfl; exact rfl; exact rfl; exact rfl; exact rfl; exact rfl; intro C w10 hbC hx10 hC)
      replace hC : Blk w10 C (nvL ⟨nd, kv⟩) 38 := hC
      have hz10 := hx10.size
      have hnv : (nvL ⟨nd, kv⟩).all (·.oneCell') = true := by
        simp only [nvL, List.all_cons, List.all_nil, hTk.one]
        rfl
      refine Sa ?_
      refine LW.append rfl rfl rfl rfl rfl rfl (hon.ext hx10) (by omega) hC rfl hnv rfl (by show (nvs.length + 1) * 137 ≤ 140737488355328; omega) rfl ?_
      intro v2 w11 hc11 hon2 hv11
      have e1 : (nvs.flatMap nvL ++ nvL ⟨nd, kv⟩) = (nvs ++ [(⟨nd, kv⟩ : NV)]).flatMap nvL := by simp
      have e2 : nvs.length + 1 = (nvs ++ [(⟨nd, kv⟩ : NV)]).length := by simp
      rw [e1, e2] at hon2
      obtain ⟨p4, c4, rfl⟩ := hon2.slice
      have hTy : ∀ b ∈ vblk (Value.slice op l.length oc), ∀ L T, Blk w10 b L T → T = 38 := fun b hb L T hL => Own.type (hon.ext hx10) hb hL
      have hcc2 : Chg (vblk (.slice op l.length oc)) w9 w11 := by
        have := Chg.trans hx10 hc11
        simpa using this
      have hkk : ∀ {kv : Value} {ks : List Int}, KidsOk w9 kv ks → (∀ b ∈ vblk kv, b ∉ vblk (Value.slice p3 (s2.length + 1) c3)) → KidsOk w11 kv ks := fun {kv ks} h1 h2 => (h1.chg h2 hx10 (by simp)).chg h2 hc11 (fun b hb => .inr (by
        obtain ⟨_, ⟨e, _⟩ | ⟨g, cap, sp, e, hg, _⟩⟩ := hon.ext hx10
        · rw [e] at hb; simp [vblk] at hb
        · rw [e] at hb
          simp [vblk] at hb
          subst hb
          exact ⟨_, _, hg, by decide⟩))
      have hsf : Own w11 w.heap.size 3 1 (.slice p3 (s2.length + 1) c3) (s2.length + 1) (icells (s2 ++ [(l.length : Int)])) := (hTs.ext hx10).chg hc11 (fun b hb hm2 => by
        obtain ⟨_, ⟨e, _⟩ | ⟨g, cap, sp, e, hg, _⟩⟩ := hon.ext hx10
        · rw [e] at hm2; simp [vblk] at hm2
        · rw [e] at hm2
          simp [vblk] at hm2
          subst hm2
          exact absurd (Own.type (hTs.ext hx10) hb hg) (by decide))
      have hel : (l ++ [nd]).length = l.length + 1 := by simp
      have hes : (s2 ++ [(l.length : Int)]).length = s2.length + 1 := by simp
      have hen : (nvs ++ [(⟨nd, kv⟩ : NV)]).length = (l ++ [nd]).length := by simp [hnl]
      refine Sa ?_
      refine QW.again (l ++ [nd], s2 ++ [(l.length : Int)], p4, c4, p3, c3) ⟨by rw [hel]; omega, by rw [hel]; omega, ?_⟩ ?_ (by show 40 - (l ++ [nd]).length < 40 - l.length; rw [hel]; omega)
      · dsimp only
        rw [hes, ← hen]
        refine ⟨hTx.step hcc2 (fun b hb => (hon.lt hb).1), by rw [hes]; exact hsf, hgo, by rw [hes, hel]; omega, fun _ => by rw [hes]; omega, fun x hx => ?_, ⟨_, hon2, by simp [hm], fun x hx => ?_⟩⟩
        · rcases List.mem_append.1 hx with hx | hx
          · exact hfine x hx
          · simp at hx; subst hx; exact hfn
        · rcases List.mem_append.1 hx with hx | hx
          · exact ⟨hkk (hk x hx).1 (hk x hx).2, (hk x hx).2⟩
          · simp at hx
            subst hx
            exact ⟨hkk hTk hTa, hTa⟩
      · dsimp only
        rw [hes, ← hen, ← e2]
        have e5 : (((nvs.length + 1 : Nat)) : Int) = (l.length : Int) + 1 := by omega
        rw [e5]
        exact (Sub.cons rfl (Sub.cons rfl (Sub.cons rfl (Sub.cons rfl (Sub.nil)))))
end Go.Proofs.YtiloogjageledaaGreatDoor
