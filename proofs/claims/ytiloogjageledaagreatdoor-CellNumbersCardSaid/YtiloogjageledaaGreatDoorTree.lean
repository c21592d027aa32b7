/-
  Walks: whether nodes are a formula's: the small functions.
  Walks: whether a node has what its kind has.
  Walks: whether nodes are a formula's.
-/
import Derived.Test.YtiloogjageledaaGreatDoorParL2
import Derived.Test.YtiloogjageledaaGreatDoorEngE
import Derived.DataElems
namespace Go.Proofs.YtiloogjageledaaGreatDoor
open Go Go.E

/-- Are all bytes from 32 on? -/
def prB (l : List UInt8) : Bool := decide (∀ j, j < l.length → 32 ≤ byte l j)
theorem printed_ret (s : List UInt8) (hs : s.length ≤ 1000000) (w : World) : Ret Tryz.prog 117 [str s] w (fun v w' => v = .bool (prB s) ∧ Ext w w') := by
  refine Ret.enter Tryz.func117 rfl Tryz.ntmps117 (by kernel_rfl) rfl ?_
  refine Sa ?_
  refine CW.loop (ι := Nat) (fun k w' => k ≤ s.length ∧ Ext w w' ∧ ∀ j, j < k → 32 ≤ byte s j) (fun k => [(0, str s), (5, .int .i64 s.length), (6, .int .i64 k)]) (fun k => s.length - k) 0 ⟨by omega, Chg.refl _ _, by omega⟩ (Sub.cons rfl (Sub.cons rfl (Sub.cons rfl (Sub.nil)))) ?_
  rintro k w1 ⟨hk, hx, hall⟩
  refine Sa ?_
  refine CW.cond rfl (fun h1 => ?_) (fun h1 => ?_)
  · have h1 : k < s.length := by simp at h1; omega
    refine Sa ?_
    refine CW.cond rfl (fun h2 => ?_) (fun h2 => ?_)
    · have h2 : byte s k < 32 := by simpa using h2
      refine Sa ?_
      refine QW.body1 Tryz.results117 rfl ⟨?_, hx⟩
      have : prB s = false := by
        simp only [prB, decide_eq_false_iff_not]
        intro hh
        have := hh k h1
        omega
      rw [this]
    · have h2 : ¬ byte s k < 32 := by simpa using h2
      refine Sa ?_
      refine QW.again (k + 1) ⟨by omega, hx, fun j hj => ?_⟩ (Sub.cons rfl (Sub.cons rfl (Sub.cons rfl (Sub.nil)))) (by omega)
      by_cases e : j = k
      · subst e; omega
      · exact hall j (by omega)
  · have h1 : k = s.length := by simp at h1; omega
    subst h1
    refine Sa ?_
    refine QW.body1 Tryz.results117 rfl ⟨?_, hx⟩
    have : prB s = true := by simp only [prB, decide_eq_true_eq]; exact hall
    rw [this]

def nameF (s : List UInt8) : Bool := fnB s && !okRead s && !decide (s = trueT) && !decide (s = falseT)
theorem readV_form (s : List UInt8) : ∃ x, readV s = .tuple #[refV x, .bool (okRead s)] := by
  unfold readV
  cases okRead s
  · exact ⟨refZ, rfl⟩
  · exact ⟨candV s, rfl⟩
theorem tword_ret (s : List UInt8) (hs : s.length ≤ 1000) (w : World) (g : Glob w) : Ret Tryz.prog 118 [str s] w (fun v w' => v = .bool (nameF s) ∧ Ext w w') := by
  refine Ret.enter Tryz.func118 rfl Tryz.ntmps118 (by kernel_rfl) rfl ?_
  refine Sa ?_
  refine LW.call0 rfl rfl (Read_ret s hs w g) ?_
  rintro v w1 ⟨rfl, hx⟩
  obtain ⟨x, hx0⟩ := readV_form s
  rw [hx0]
  refine Sa ?_
  (apply LW.alloc; exact rfl; exact rfl; exact rfl; intro F w2 hbF hx2 hF)
  have hz := hx.size
  refine Sa ?_
  (apply LW.store_all; exact rfl; exact rfl; exact rfl; assumption; exact rfl; exact rfl; exact rfl; intro w3 hc3 hF)
  have hx3 : Ext w w3 := (hx.trans hx2).step hc3 (by simp; omega)
  refine Sa ?_
  refine LW.call0 rfl rfl (lName_ret s w3 (by omega)) ?_
  rintro v w4 ⟨rfl, hx4⟩
  replace hx4 := hx3.trans hx4
  refine Sa ?_
  refine LW.part rfl rfl rfl (fun h1 => ?_) (fun h1 => ?_)
  · have h1 : fnB s = true := h1
    refine Sa ?_
    refine LW.part rfl rfl rfl (fun h2 => ?_) (fun h2 => ?_)
    · have h2 : okRead s = false := by simpa using h2
      refine Sa ?_
      refine LW.part rfl rfl rfl (fun h3 => ?_) (fun h3 => ?_)
      · refine Sa ?_
        refine QW.body1 Tryz.results118 rfl ⟨?_, hx4⟩
        have h3 : ¬ s = trueT := by simpa [trueT] using h3
        by_cases h4 : s = [70, 65, 76, 83, 69] <;> simp [nameF, h1, h2, h3, falseT, h4]
      · refine Sa ?_
        refine QW.body1 Tryz.results118 rfl ⟨?_, hx4⟩
        have h3 : s = trueT := by simpa [trueT] using h3
        simp [nameF, h3]
    · have h2 : okRead s = true := by simpa using h2
      refine Sa ?_
      refine QW.body1 Tryz.results118 rfl ⟨?_, hx4⟩
      simp [nameF, h2]
  · have h1 : fnB s = false := h1
    refine Sa ?_
    refine QW.body1 Tryz.results118 rfl ⟨?_, hx4⟩
    simp [nameF, h1]

def countI (k : Int) : Int := if k < 1 ∨ 19 < k then -2 else if k = 7 then -1 else if k = 8 then 1 else if 8 < k then 2 else 0
theorem Count_ret (k : Int) (w : World) : Ret Tryz.prog 74 [.int .i64 k] w (fun v w' => v = .int .i64 (countI k) ∧ Ext w w') := by
  refine Ret.enter Tryz.func74 rfl Tryz.ntmps74 (by kernel_rfl) rfl ?_
  refine Sa ?_
  refine LW.part rfl rfl rfl (fun h1 => ?_) (fun h1 => ?_)
  · have h1 : k < 1 := by simpa using h1
    refine Sa ?_
    exact QW.body1 Tryz.results74 rfl ⟨by rw [countI, if_pos (.inl h1)], Chg.refl _ _⟩
  have h1 : ¬ k < 1 := by simpa using h1
  refine Sa ?_
  refine CW.cond rfl (fun h2 => ?_) (fun h2 => ?_)
  · have h2 : 19 < k := by simpa using h2
    refine Sa ?_
    exact QW.body1 Tryz.results74 rfl ⟨by rw [countI, if_pos (.inr h2)], Chg.refl _ _⟩
  have h2 : ¬ 19 < k := by simpa using h2
  have hn : ¬ (k < 1 ∨ 19 < k) := by omega
  refine Sa ?_
  refine CW.cond rfl (fun h3 => ?_) (fun h3 => ?_)
  · have h3 : k = 7 := by simpa using h3
    refine Sa ?_
    exact QW.body1 Tryz.results74 rfl ⟨by rw [countI, if_neg hn, if_pos h3], Chg.refl _ _⟩
  have h3 : ¬ k = 7 := by simpa using h3
  refine Sa ?_
  refine CW.cond rfl (fun h4 => ?_) (fun h4 => ?_)
  · have h4 : k = 8 := by simpa using h4
    refine Sa ?_
    exact QW.body1 Tryz.results74 rfl ⟨by rw [countI, if_neg hn, if_neg h3, if_pos h4], Chg.refl _ _⟩
  have h4 : ¬ k = 8 := by simpa using h4
  refine Sa ?_
  refine CW.cond rfl (fun h5 => ?_) (fun h5 => ?_)
  · have h5 : 8 < k := by simpa using h5
    refine Sa ?_
    exact QW.body1 Tryz.results74 rfl ⟨by rw [countI, if_neg hn, if_neg h3, if_neg h4, if_pos h5], Chg.refl _ _⟩
  · have h5 : ¬ 8 < k := by simpa using h5
    refine Sa ?_
    exact QW.body1 Tryz.results74 rfl ⟨by rw [countI, if_neg hn, if_neg h3, if_neg h4, if_neg h5], Chg.refl _ _⟩

/-- A row of numbers, wherever it lies. -/
def IntsR (w : World) (v : Value) (zs : List Int) : Prop :=
  zs.length ≤ 9223372036854775806 ∧ (v = .slice none 0 0 ∧ zs = [] ∨ ∃ a cap, v = .slice (some a) zs.length cap ∧ ∀ i z, zs[i]? = some z → w.cell? (a.add i) = some (.int .i64 z))
theorem IntsR.ext {w w' : World} {v : Value} {zs : List Int} (h : IntsR w v zs) (x : Ext w w') : IntsR w' v zs := by
  obtain ⟨h0, h | ⟨a, cap, e, h⟩⟩ := h
  · exact ⟨h0, .inl h⟩
  · exact ⟨h0, .inr ⟨a, cap, e, fun i z hz => cell_ext x (h i z hz)⟩⟩
theorem IntsR.slice {w : World} {v : Value} {zs : List Int} (h : IntsR w v zs) : ∃ p c, v = .slice p zs.length c := by
  obtain ⟨h0, ⟨rfl, rfl⟩ | ⟨a, cap, e, h⟩⟩ := h
  · exact ⟨_, _, rfl⟩
  · exact ⟨_, _, e⟩
theorem IntsR.at {w : World} {p : Option Addr} {c : Nat} {zs : List Int} (h : IntsR w (.slice p zs.length c) zs) {i : Nat} (hi : i < zs.length) : ∃ a, p = some a ∧ w.cell? (a.add i) = some (.int .i64 (zs.getD i 0)) := by
  obtain ⟨h0, ⟨e, e2⟩ | ⟨a, cap, e, h⟩⟩ := h
  · rw [e2] at hi; simp at hi
  · simp only [Value.slice.injEq] at e
    exact ⟨a, e.1, h i _ (by simp [List.getD_eq_getElem?_getD, List.getElem?_eq_getElem hi])⟩

theorem take_eq_step {a b : List Int} {k : Nat} (ha : k < a.length) (hb : k < b.length) (h : a.take k = b.take k) (hk : a.getD k 0 = b.getD k 0) : a.take (k + 1) = b.take (k + 1) := by
  rw [List.take_add_one, List.take_add_one, h, List.getElem?_eq_getElem ha, List.getElem?_eq_getElem hb]
  simp [List.getD_eq_getElem?_getD, List.getElem?_eq_getElem ha, List.getElem?_eq_getElem hb] at hk
  rw [hk]
theorem equal_ret (a b : List Int) (va vb : Value) (w : World) (ha : IntsR w va a) (hb : IntsR w vb b) : Ret Tryz.prog 75 [va, vb] w (fun v w' => v = .bool (decide (a = b)) ∧ Ext w w') := by
  obtain ⟨pa, ca, rfl⟩ := ha.slice
  obtain ⟨pb, cb, rfl⟩ := hb.slice
  have hal := ha.1
  have hbl := hb.1
  refine Ret.enter Tryz.func75 rfl Tryz.ntmps75 (by kernel_rfl) rfl ?_
  refine Sa ?_
  refine CW.cond rfl (fun h1 => ?_) (fun h1 => ?_)
  · have h1 : a.length ≠ b.length := by simp at h1; omega
    refine Sa ?_
    refine QW.body1 Tryz.results75 rfl ⟨?_, Chg.refl _ _⟩
    have : a ≠ b := fun e => h1 (by rw [e])
    simp [this]
  have h1 : a.length = b.length := by simp at h1; omega
  refine Sa ?_
  refine CW.loop (ι := Nat) (fun k w' => k ≤ a.length ∧ Ext w w' ∧ a.take k = b.take k) (fun k => [(0, .slice pa a.length ca), (1, .slice pb b.length cb), (12, .int .i64 a.length), (13, .int .i64 k)]) (fun k => a.length - k) 0 ⟨by omega, Chg.refl _ _, rfl⟩ (Sub.cons rfl (Sub.cons rfl (Sub.cons rfl (Sub.cons rfl (Sub.nil))))) ?_
  rintro k w1 ⟨hk, hx, heq⟩
  replace ha := ha.ext hx
  replace hb := hb.ext hx
  refine Sa ?_
  refine CW.cond rfl (fun h2 => ?_) (fun h2 => ?_)
  · have h2 : k < a.length := by simp at h2; omega
    obtain ⟨aa, rfl, hca⟩ := ha.at h2
    obtain ⟨ab, rfl, hcb⟩ := hb.at (show k < b.length by omega)
    refine Sa ?_
    refine CW.draw (by kernel_rfl) (by kernel_rfl) ?_
    refine Sq ?_
    refine QL.yields rfl rfl rfl (fun _ _ => Y.idx_addr rfl rfl rfl rfl rfl (by omega) (by omega)) ?_
    refine QL.yields rfl rfl rfl (fun w' hw => Y.load_cell rfl (by show w'.cell? (aa.add (k * 1)) = _; rw [Nat.mul_one]; exact cell_ext hw hca) rfl rfl) ?_
    refine Sq ?_
    refine QL.yields rfl rfl rfl (fun _ _ => Y.idx_addr rfl rfl rfl rfl rfl (by omega) (by omega)) ?_
    refine QL.yields rfl rfl rfl (fun w' hw => Y.load_cell rfl (by show w'.cell? (ab.add (k * 1)) = _; rw [Nat.mul_one]; exact cell_ext hw hcb) rfl rfl) ?_
    refine Sq ?_
    refine QL.nil fun w2 hx2 => ?_
    replace hx := hx.trans hx2
    refine Sa ?_
    refine CW.cond rfl (fun h3 => ?_) (fun h3 => ?_)
    · have h3 : a.getD k 0 ≠ b.getD k 0 := by simpa using h3
      refine Sa ?_
      refine QW.body1 Tryz.results75 rfl ⟨?_, hx⟩
      have : a ≠ b := fun e => h3 (by rw [e])
      simp [this]
    · have h3 : a.getD k 0 = b.getD k 0 := by simpa using h3
      refine Sa ?_
      exact QW.again (k + 1) ⟨by omega, hx, take_eq_step h2 (by omega) heq h3⟩ (Sub.cons rfl (Sub.cons rfl (Sub.cons rfl (Sub.cons rfl (Sub.nil))))) (by omega)
  · have h2 : k = a.length := by simp at h2; omega
    subst h2
    refine Sa ?_
    refine QW.body1 Tryz.results75 rfl ⟨?_, hx⟩
    have : a = b := by rwa [List.take_length, h1, List.take_length] at heq
    simp [this]
end Go.Proofs.YtiloogjageledaaGreatDoor

namespace Go.Proofs.YtiloogjageledaaGreatDoor
open Go Go.E

def okK (n : NodeD) : Bool :=
  if n.kind = 1 then decide (0 ≤ n.num) else if n.kind = 3 then decide (n.num = 0) || decide (n.num = 1) else if n.kind = 2 then prB n.text else if n.kind = 7 then nameF n.text
  else if n.kind = 5 then mayB n.ref else if n.kind = 6 then mayB n.ref && (mayB n.to && rangesB n.ref n.to) else true
def bareN (n : NodeD) : NodeD :=
  if n.kind = 1 then { n with num := 0 } else if n.kind = 3 then { n with num := 0 } else if n.kind = 2 then { n with text := [] } else if n.kind = 7 then { n with text := [] }
  else if n.kind = 5 then { n with ref := refN } else if n.kind = 6 then { n with ref := refN, to := refN } else n
def plainB (n : NodeD) : Bool := okK n && (decide ((bareN n).num = 0) && (decide ((bareN n).text = []) && (decide ((bareN n).ref = refN) && decide ((bareN n).to = refN))))

theorem plain_ret (n : NodeD) (p : Option Addr) (k c : Nat) (w : World) (g : Glob w) (ht : n.text.length ≤ 1000) (hr : n.ref.sheet.length ≤ 1000) (hto : n.to.sheet.length ≤ 1000) : Ret Tryz.prog 76 [.agg ⟨nvL ⟨n, .slice p k c⟩⟩] w (fun v w' => v = .bool (plainB n) ∧ Ext w w') := by
  refine Ret.enter Tryz.func76 rfl Tryz.ntmps76 (by kernel_rfl) rfl ?_
  apply CW.seq
  apply CW.region
  refine Sl ?_
  (apply LW.box; exact rfl; exact rfl; exact rfl; intro A w1 hbA hx1 hA)
  replace hA : Blk w1 A (nvL ⟨n, .slice p k c⟩) 38 := hA
  refine Sl ?_
  apply LW.nil
  apply QW.then_n
  apply CW.seq
  apply CW.region
  refine Sl ?_
  (apply LW.alloc; exact rfl; exact rfl; exact rfl; intro C w2 hbC hx2 hC)
  have hz1 := hx1.size
  have hAC : A ≠ C := by have := hA.lt; omega
  replace hA := hA.ext hx2
  refine Sl ?_
  (apply LW.store_all; exact rfl; exact rfl; exact rfl; assumption; exact rfl; exact rfl; exact rfl; intro w3 hc3 hC)
  replace hC : Blk w3 C (nvL ⟨n, .slice p k c⟩) 38 := hC
  replace hA := hA.chg hc3 (by simpa using hAC)
  have hx : Ext w w3 := (hx1.trans hx2).step hc3 (by simp; omega)
  apply LW.nil
  apply QW.then_n
  apply CW.seq
  apply CW.region
  refine Sl ?_
  apply LW.nil
  apply QW.then_n
  have hCw : w.heap.size ≤ C := by omega
  refine CW.seq_cut (ι := Unit) (fun _ w' => Ext w w' ∧ Blk w' C (nvL ⟨bareN n, .slice p k c⟩) 38) (fun _ => [(3, .pointer (some ⟨C, 0, none⟩)), (4, .bool (okK n))]) ?_ ?_
  · refine Sa ?_
    refine CW.cond rfl (fun h1 => ?_) (fun h1 => ?_)
    · have h1 : n.kind = 1 := by simpa using h1
      have hb : bareN n = { n with num := 0 } := by simp [bareN, h1]
      have ho : okK n = decide (0 ≤ n.num) := by simp [okK, h1]
      refine CW.drawHeld (fun w' => Blk w' A (nvL ⟨n, .slice p k c⟩) 38) (fun w' h => hA.ext h) (by kernel_rfl) fun w4 hx4 => ?_
      refine HW.take 0 rfl rfl rfl rfl (fun w _ => Y.pure rfl) rfl (by kernel_rfl) (by kernel_rfl) (by kernel_rfl) (fun _ _ _ h => h) ?_
      refine HW.take 1 rfl rfl rfl rfl (fun w hw => Y.load rfl hw rfl rfl rfl) rfl (by kernel_rfl) (by kernel_rfl) (by kernel_rfl) (fun _ _ _ h => h) ?_
      refine HW.take 2 rfl rfl rfl rfl (fun w _ => Y.pure rfl) rfl (by kernel_rfl) (by kernel_rfl) (by kernel_rfl) (fun _ _ _ h => h) ?_
      refine HW.take 3 rfl rfl rfl rfl (fun w _ => Y.pure rfl) rfl (by kernel_rfl) (by kernel_rfl) (by kernel_rfl) (fun _ _ _ h => h) ?_
      replace hC := hC.ext hx4
      refine HW.one 4 (by kernel_rfl) rfl rfl (fun hS => ?_)
      (apply LW.store; exact rfl; exact rfl; exact rfl; assumption; exact rfl; exact rfl; exact rfl; intro w5 hc5 hC)
      apply LW.nil
      refine QW.held (hS.chg hc5 (by simpa using hAC)) ?_
      refine HW.one 5 (by kernel_rfl) rfl rfl (fun hS => ?_)
      refine Sl ?_
      apply LW.nil
      refine QW.held hS ?_
      refine HW.done (by kernel_rfl) ?_
      refine Sa ?_
      exact QW.head () ⟨(hx.trans hx4).step hc5 (by simpa using hCw), by rw [hb]; exact hC⟩ (Sub.cons rfl (Sub.cons (by rw [ho]; rfl) Sub.nil))
    have h1 : n.kind ≠ 1 := by simpa using h1
    refine Sa ?_
    refine CW.cond rfl (fun h3 => ?_) (fun h3 => ?_)
    · have h3 : n.kind = 3 := by simpa using h3
      have hb : bareN n = { n with num := 0 } := by simp [bareN, h3]
      have ho : okK n = (decide (n.num = 0) || decide (n.num = 1)) := by simp [okK, h3]
      refine CW.drawHeld (fun w' => Blk w' A (nvL ⟨n, .slice p k c⟩) 38) (fun w' h => hA.ext h) (by kernel_rfl) fun w4 hx4 => ?_
      replace hC := hC.ext hx4
      refine HW.take 0 rfl rfl rfl rfl (fun w _ => Y.pure rfl) rfl (by kernel_rfl) (by kernel_rfl) (by kernel_rfl) (fun _ _ _ h => h) ?_
      refine HW.take 1 rfl rfl rfl rfl (fun w hw => Y.load rfl hw rfl rfl rfl) rfl (by kernel_rfl) (by kernel_rfl) (by kernel_rfl) (fun _ _ _ h => h) ?_
      refine HW.take 2 rfl rfl rfl rfl (fun w _ => Y.pure rfl) rfl (by kernel_rfl) (by kernel_rfl) (by kernel_rfl) (fun _ _ _ h => h) ?_
      refine HW.take 3 rfl rfl rfl rfl (fun w _ => Y.pure rfl) rfl (by kernel_rfl) (by kernel_rfl) (by kernel_rfl) (fun _ _ _ h => h) ?_
      by_cases hz : n.num = 0
      · refine HW.know (t := 19) (c := true) rfl (by simpa using hz) ?_
        refine HW.skip 4 rfl rfl rfl rfl rfl rfl rfl rfl (by kernel_rfl) (by kernel_rfl) (by kernel_rfl) (fun _ _ _ h => h) ?_
        refine HW.skip 5 rfl rfl rfl rfl rfl rfl rfl rfl (by kernel_rfl) (by kernel_rfl) (by kernel_rfl) (fun _ _ _ h => h) ?_
        refine HW.skip 6 rfl rfl rfl rfl rfl rfl rfl rfl (by kernel_rfl) (by kernel_rfl) (by kernel_rfl) (fun _ _ _ h => h) ?_
        refine HW.take 7 rfl rfl rfl rfl (fun w _ => Y.pure rfl) rfl (by kernel_rfl) (by kernel_rfl) (by kernel_rfl) (fun _ _ _ h => h) ?_
        refine HW.take 8 rfl rfl rfl rfl (fun w _ => Y.pure rfl) rfl (by kernel_rfl) (by kernel_rfl) (by kernel_rfl) (fun _ _ _ h => h) ?_
        refine HW.one 9 (by kernel_rfl) rfl rfl (fun hS => ?_)
        (apply LW.store; exact rfl; exact rfl; exact rfl; assumption; exact rfl; exact rfl; exact rfl; intro w5 hc5 hC)
        apply LW.nil
        refine QW.held (hS.chg hc5 (by simpa using hAC)) ?_
        refine HW.one 10 (by kernel_rfl) rfl rfl (fun hS => ?_)
        refine Sl ?_
        apply LW.nil
        refine QW.held hS ?_
        refine HW.done (by kernel_rfl) ?_
        refine Sa ?_
        exact QW.head () ⟨(hx.trans hx4).step hc5 (by simpa using hCw), by rw [hb]; exact hC⟩ (Sub.cons rfl (Sub.cons (by rw [ho, hz]; rfl) Sub.nil))
      · refine HW.know (t := 19) (c := false) rfl (by simpa using hz) ?_
        refine HW.takeW 4 rfl rfl rfl rfl (fun w _ => Y.pure rfl) rfl (by kernel_rfl) (by kernel_rfl) (by kernel_rfl) (fun _ _ _ h => h) ?_
        refine HW.takeW 5 rfl rfl rfl rfl (fun w hw => Y.load rfl hw rfl rfl rfl) rfl (by kernel_rfl) (by kernel_rfl) (by kernel_rfl) (fun _ _ _ h => h) ?_
        refine HW.takeW 6 rfl rfl rfl rfl (fun w _ => Y.pure rfl) rfl (by kernel_rfl) (by kernel_rfl) (by kernel_rfl) (fun _ _ _ h => h) ?_
        refine HW.take 7 rfl rfl rfl rfl (fun w _ => Y.pure rfl) rfl (by kernel_rfl) (by kernel_rfl) (by kernel_rfl) (fun _ _ _ h => h) ?_
        refine HW.take 8 rfl rfl rfl rfl (fun w _ => Y.pure rfl) rfl (by kernel_rfl) (by kernel_rfl) (by kernel_rfl) (fun _ _ _ h => h) ?_
        refine HW.one 9 (by kernel_rfl) rfl rfl (fun hS => ?_)
        (apply LW.store; exact rfl; exact rfl; exact rfl; assumption; exact rfl; exact rfl; exact rfl; intro w5 hc5 hC)
        apply LW.nil
        refine QW.held (hS.chg hc5 (by simpa using hAC)) ?_
        refine HW.one 10 (by kernel_rfl) rfl rfl (fun hS => ?_)
        refine Sl ?_
        apply LW.nil
        refine QW.held hS ?_
        refine HW.done (by kernel_rfl) ?_
        refine Sa ?_
        exact QW.head () ⟨(hx.trans hx4).step hc5 (by simpa using hCw), by rw [hb]; exact hC⟩ (Sub.cons rfl (Sub.cons (by rw [ho]; simp [hz]; rfl) Sub.nil))
    have h3 : n.kind ≠ 3 := by simpa using h3
    refine Sa ?_
    refine CW.cond rfl (fun h2 => ?_) (fun h2 => ?_)
    · have h2 : n.kind = 2 := by simpa using h2
      have hb : bareN n = { n with text := [] } := by simp [bareN, h2]
      have ho : okK n = prB n.text := by simp [okK, h2]
      refine Sa ?_
      refine LW.call0 rfl rfl (printed_ret n.text (by omega) w3) ?_
      rintro v w4 ⟨rfl, hx4⟩
      replace hC := hC.ext hx4
      refine Sa ?_
      (apply LW.store; exact rfl; exact rfl; exact rfl; assumption; exact rfl; exact rfl; exact rfl; intro w5 hc5 hC)
      refine Sa ?_
      exact QW.head () ⟨(hx.trans hx4).step hc5 (by simpa using hCw), by rw [hb]; exact hC⟩ (Sub.cons rfl (Sub.cons (by rw [ho]; rfl) Sub.nil))
    have h2 : n.kind ≠ 2 := by simpa using h2
    refine Sa ?_
    refine CW.cond rfl (fun h7 => ?_) (fun h7 => ?_)
    · have h7 : n.kind = 7 := by simpa using h7
      have hb : bareN n = { n with text := [] } := by simp [bareN, h7]
      have ho : okK n = nameF n.text := by simp [okK, h7]
      refine Sa ?_
      refine LW.call0 rfl rfl (tword_ret n.text ht w3 (g.ext hx)) ?_
      rintro v w4 ⟨rfl, hx4⟩
      replace hC := hC.ext hx4
      refine Sa ?_
      (apply LW.store; exact rfl; exact rfl; exact rfl; assumption; exact rfl; exact rfl; exact rfl; intro w5 hc5 hC)
      refine Sa ?_
      exact QW.head () ⟨(hx.trans hx4).step hc5 (by simpa using hCw), by rw [hb]; exact hC⟩ (Sub.cons rfl (Sub.cons (by rw [ho]; rfl) Sub.nil))
    have h7 : n.kind ≠ 7 := by simpa using h7
    refine Sa ?_
    refine CW.cond rfl (fun h5 => ?_) (fun h5 => ?_)
    · have h5 : n.kind = 5 := by simpa using h5
      have hb : bareN n = { n with ref := refN } := by simp [bareN, h5]
      have ho : okK n = mayB n.ref := by simp [okK, h5]
      refine Sa ?_
      refine LW.load_agg (cs := refL n.ref) rfl hA rfl rfl rfl ⟨rfl, rfl, rfl, rfl, rfl, trivial⟩ rfl ?_
      refine Sa ?_
      refine LW.call0 (vs := [refV n.ref]) rfl rfl (May_ret n.ref (by omega) w3) ?_
      rintro v w4 ⟨rfl, hx4⟩
      replace hC := hC.ext hx4
      refine Sa ?_
      refine LW.store_agg (cs := refL refN) rfl rfl rfl hC (Nat.le_of_ble_eq_true rfl) rfl rfl fun w5 hc5 hC => ?_
      refine Sa ?_
      exact QW.head () ⟨(hx.trans hx4).step hc5 (by simpa using hCw), by rw [hb]; exact hC⟩ (Sub.cons rfl (Sub.cons (by rw [ho]; rfl) Sub.nil))
    have h5 : n.kind ≠ 5 := by simpa using h5
    refine Sa ?_
    refine CW.cond rfl (fun h6 => ?_) (fun h6 => ?_)
    · have h6 : n.kind = 6 := by simpa using h6
      have hb : bareN n = { n with ref := refN, to := refN } := by simp [bareN, h6]
      have ho : okK n = (mayB n.ref && (mayB n.to && rangesB n.ref n.to)) := by simp [okK, h6]
      refine Sa ?_
      refine LW.store_agg (cs := refL refN) rfl rfl rfl hC (Nat.le_of_ble_eq_true rfl) rfl rfl fun w4 hc4 hC => ?_
      replace hA := hA.chg hc4 (by simpa using hAC)
      refine Sa ?_
      refine LW.store_agg (cs := refL refN) rfl rfl rfl hC (Nat.le_of_ble_eq_true rfl) rfl rfl fun w5 hc5 hC => ?_
      replace hA := hA.chg hc5 (by simpa using hAC)
      replace hC : Blk w5 C (nvL ⟨{ n with ref := refN, to := refN }, .slice p k c⟩) 38 := hC
      have hx5 : Ext w w5 := (hx.step hc4 (by simpa using hCw)).step hc5 (by simpa using hCw)
      refine Sa ?_
      refine LW.load_agg (cs := refL n.ref) rfl hA rfl rfl rfl ⟨rfl, rfl, rfl, rfl, rfl, trivial⟩ rfl ?_
      refine Sa ?_
      refine LW.call0 (vs := [refV n.ref]) rfl rfl (May_ret n.ref (by omega) w5) ?_
      rintro v w6 ⟨rfl, hx6⟩
      replace hA := hA.ext hx6
      replace hC := hC.ext hx6
      replace hx6 := hx5.trans hx6
      refine Sa ?_
      refine LW.part rfl rfl rfl (fun k1 => ?_) (fun k1 => ?_)
      · have k1 : mayB n.ref = true := k1
        refine Sa ?_
        refine LW.load_agg (cs := refL n.to) rfl hA rfl rfl rfl ⟨rfl, rfl, rfl, rfl, rfl, trivial⟩ rfl ?_
        refine Sa ?_
        refine LW.call0 (vs := [refV n.to]) rfl rfl (May_ret n.to (by omega) w6) ?_
        rintro v w7 ⟨rfl, hx7⟩
        replace hA := hA.ext hx7
        replace hC := hC.ext hx7
        replace hx7 := hx6.trans hx7
        refine Sa ?_
        refine LW.part rfl rfl rfl (fun k2 => ?_) (fun k2 => ?_)
        · have k2 : mayB n.to = true := k2
          refine Sa ?_
          refine LW.load_agg (cs := refL n.ref) rfl hA rfl rfl rfl ⟨rfl, rfl, rfl, rfl, rfl, trivial⟩ rfl ?_
          refine Sa ?_
          refine LW.load_agg (cs := refL n.to) rfl hA rfl rfl rfl ⟨rfl, rfl, rfl, rfl, rfl, trivial⟩ rfl ?_
          refine Sa ?_
          refine LW.call0 rfl rfl (ranges_ret n.ref n.to w7) ?_
          rintro v w8 ⟨rfl, hx8⟩
          replace hC := hC.ext hx8
          refine Sa ?_
          exact QW.head () ⟨hx7.trans hx8, by rw [hb]; exact hC⟩ (Sub.cons rfl (Sub.cons (by rw [ho, k1, k2]; rfl) Sub.nil))
        · have k2 : mayB n.to = false := k2
          refine Sa ?_
          exact QW.head () ⟨hx7, by rw [hb]; exact hC⟩ (Sub.cons rfl (Sub.cons (by rw [ho, k1, k2]; rfl) Sub.nil))
      · have k1 : mayB n.ref = false := k1
        refine Sa ?_
        exact QW.head () ⟨hx6, by rw [hb]; exact hC⟩ (Sub.cons rfl (Sub.cons (by rw [ho, k1]; rfl) Sub.nil))
    have h6 : n.kind ≠ 6 := by simpa using h6
    have hb : bareN n = n := by simp [bareN, h1, h2, h3, h5, h6, h7]
    have ho : okK n = true := by simp [okK, h1, h2, h3, h5, h6, h7]
    refine Sa ?_
    exact QW.head () ⟨hx, by rw [hb]; exact hC⟩ (Sub.cons rfl (Sub.cons (by rw [ho]; rfl) Sub.nil))
  rintro _ w4 ⟨hx4, hC4⟩
  clear hA hC
  refine Sa ?_
  refine LW.part rfl rfl rfl (fun q1 => ?_) (fun q1 => ?_)
  · have q1 : okK n = true := q1
    refine Sa ?_
    refine LW.part rfl rfl rfl (fun q2 => ?_) (fun q2 => ?_)
    · have q2 : (bareN n).num = 0 := by simpa using q2
      refine Sa ?_
      refine LW.part rfl rfl rfl (fun q3 => ?_) (fun q3 => ?_)
      · have q3 : (bareN n).text = [] := by simpa using q3
        refine Sa ?_
        refine LW.load_agg (cs := refL (bareN n).ref) rfl hC4 rfl rfl rfl ⟨rfl, rfl, rfl, rfl, rfl, trivial⟩ rfl ?_
        refine Sa ?_
        refine LW.eql_agg (ys := refL refN) rfl rfl eqg_ref4 (fun w' => eqr_ref (bareN n).ref refN 9998 w') rfl ?_
        refine Sa ?_
        refine LW.part rfl rfl rfl (fun q4 => ?_) (fun q4 => ?_)
        · have q4 : (bareN n).ref = refN := by simpa using q4
          refine Sa ?_
          refine LW.load_agg (cs := refL (bareN n).to) rfl hC4 rfl rfl rfl ⟨rfl, rfl, rfl, rfl, rfl, trivial⟩ rfl ?_
          refine Sa ?_
          refine LW.eql_agg (ys := refL refN) rfl rfl eqg_ref4 (fun w' => eqr_ref (bareN n).to refN 9998 w') rfl ?_
          refine Sa ?_
          refine QW.body1 Tryz.results76 rfl ⟨?_, hx4⟩
          simp [plainB, q1, q2, q3, q4]
        · have q4 : ¬ (bareN n).ref = refN := by simpa using q4
          refine Sa ?_
          refine QW.body1 Tryz.results76 rfl ⟨?_, hx4⟩
          simp [plainB, q4]
      · have q3 : ¬ (bareN n).text = [] := by simpa using q3
        refine Sa ?_
        refine QW.body1 Tryz.results76 rfl ⟨?_, hx4⟩
        simp [plainB, q3]
    · have q2 : ¬ (bareN n).num = 0 := by simpa using q2
      refine Sa ?_
      refine QW.body1 Tryz.results76 rfl ⟨?_, hx4⟩
      simp [plainB, q2]
  · have q1 : okK n = false := q1
    refine Sa ?_
    refine QW.body1 Tryz.results76 rfl ⟨?_, hx4⟩
    simp [plainB, q1]
end Go.Proofs.YtiloogjageledaaGreatDoor

namespace Go.Proofs.YtiloogjageledaaGreatDoor
open Go Go.E

/-- Nodes, wherever they lie. -/
def NodesR (w : World) (v : Value) (l : List NodeD) : Prop :=
  l.length ≤ 100000 ∧ (v = .slice none 0 0 ∧ l = [] ∨ ∃ a cap, v = .slice (some a) l.length cap ∧ ∀ i nd, l[i]? = some nd → ∃ kv, IntsR w kv nd.kids ∧ ∀ j u, (nvL ⟨nd, kv⟩)[j]? = some u → w.cell? ((a.add (i * 14)).add j) = some u)
theorem NodesR.ext {w w' : World} {v : Value} {l : List NodeD} (h : NodesR w v l) (x : Ext w w') : NodesR w' v l := by
  obtain ⟨h0, h | ⟨a, cap, e, h⟩⟩ := h
  · exact ⟨h0, .inl h⟩
  · exact ⟨h0, .inr ⟨a, cap, e, fun i nd hi => let ⟨kv, hk, hc⟩ := h i nd hi; ⟨kv, hk.ext x, fun j u hj => cell_ext x (hc j u hj)⟩⟩⟩
theorem NodesR.slice {w : World} {v : Value} {l : List NodeD} (h : NodesR w v l) : ∃ p c, v = .slice p l.length c := by
  obtain ⟨h0, ⟨rfl, rfl⟩ | ⟨a, cap, e, h⟩⟩ := h
  · exact ⟨_, _, rfl⟩
  · exact ⟨_, _, e⟩
theorem NodesR.at {w : World} {p : Option Addr} {c : Nat} {l : List NodeD} (h : NodesR w (.slice p l.length c) l) {i : Nat} {nd : NodeD} (hi : l[i]? = some nd) :
    ∃ a kp kc, p = some a ∧ IntsR w (.slice kp nd.kids.length kc) nd.kids ∧ ∀ j u, (nvL ⟨nd, .slice kp nd.kids.length kc⟩)[j]? = some u → w.cell? ((a.add (i * 14)).add j) = some u := by
  obtain ⟨h0, ⟨e, e2⟩ | ⟨a, cap, e, h⟩⟩ := h
  · rw [e2] at hi; simp at hi
  · simp only [Value.slice.injEq] at e
    obtain ⟨kv, hk, hc⟩ := h i nd hi
    obtain ⟨kp, kc, rfl⟩ := hk.slice
    exact ⟨a, kp, kc, e.1, hk, hc⟩

theorem icells_len (l : List Int) : (icells l).length = l.length := by simp [icells]
theorem icells_get {l : List Int} {i : Nat} {z : Int} (h : l[i]? = some z) : (icells l)[i]? = some (.int .i64 z) := by simp [icells, h]
/-- A slice of numbers that was made here, from a place on. -/
theorem Own.from_ {w : World} {lo n c : Nat} {p : Option Addr} {zs : List Int} (h : Own w lo 3 1 (.slice p n c) n (icells zs)) (hb : zs.length ≤ 100000) {i : Nat} (hi : i ≤ n) : IntsR w (.slice (if c = i then p else p.map (·.add (i * 1))) (n - i) (c - i)) (zs.drop i) := by
  obtain ⟨hl, ⟨e, hn⟩ | ⟨g, cap, sp, e, hB, h1, h2, h3⟩⟩ := h
  · simp only [Value.slice.injEq] at e
    obtain ⟨rfl, e2, rfl⟩ := e
    subst hn
    have : i = 0 := by omega
    subst this
    have : zs = [] := by simpa [icells] using hl
    subst this
    exact ⟨by simp, .inl ⟨by simp, rfl⟩⟩
  · simp only [Value.slice.injEq] at e
    obtain ⟨rfl, _, rfl⟩ := e
    rw [icells_len] at hl
    have hzn : zs.length = n := by omega
    refine ⟨by simp; omega, .inr ⟨if c = i then ⟨g, 0, none⟩ else (⟨g, 0, none⟩ : Addr).add (i * 1), c - i, ?_, fun j z hz => ?_⟩⟩
    · rw [List.length_drop, hzn]
      split <;> rfl
    · rw [List.getElem?_drop] at hz
      have hj : i + j < zs.length := by
        rcases Nat.lt_or_ge (i + j) zs.length with h | h
        · exact h
        · rw [List.getElem?_eq_none h] at hz; cases hz
      have hci : c ≠ i := by omega
      rw [if_neg hci, Addr.add_add]
      refine hB.getElem _ _ ?_
      rw [List.getElem?_append_left (by rw [icells_len]; omega), Nat.mul_one]
      exact icells_get hz
theorem Own.cells {w : World} {lo n c : Nat} {p : Option Addr} {zs : List Int} (h : Own w lo 3 1 (.slice p n c) n (icells zs)) {i : Nat} (hi : i ≤ n) : p = none ∧ i = 0 ∨ ∃ a, p = some a ∧ ∀ j u, (icells (zs.take i))[j]? = some u → w.cell? (a.add j) = some u := by
  obtain ⟨hl, ⟨e, hn⟩ | ⟨g, cap, sp, e, hB, h1, h2, h3⟩⟩ := h
  · simp only [Value.slice.injEq] at e
    exact .inl ⟨e.1, by omega⟩
  · simp only [Value.slice.injEq] at e
    refine .inr ⟨_, e.1, fun j u hu => hB.getElem _ _ ?_⟩
    have e1 : icells (zs.take i) = (icells zs).take i := by simp [icells, List.map_take]
    rw [e1] at hu
    have hj : j < i := by
      rcases Nat.lt_or_ge j i with h | h
      · exact h
      · rw [List.getElem?_take_eq_none h] at hu; cases hu
    rw [List.getElem?_take_of_lt hj] at hu
    have hj2 : j < (icells zs).length := by
      rcases Nat.lt_or_ge j (icells zs).length with h | h
      · exact h
      · rw [List.getElem?_eq_none h] at hu; cases hu
    rw [List.getElem?_append_left hj2]
    exact hu

theorem Own.cap_ {w : World} {lo n c : Nat} {p : Option Addr} {zs : List Value} (h : Own w lo 3 1 (.slice p n c) n zs) : n ≤ c := by
  obtain ⟨hl, ⟨e, hn⟩ | ⟨g, cap, sp, e, hB, h1, h2, h3⟩⟩ := h
  · omega
  · simp only [Value.slice.injEq] at e
    omega

/-! ### What it tells -/

def kidN (n : NodeD) : Int := if countI n.kind = -1 then n.kids.length else countI n.kind
def treeStep (i : Nat) (st : List Int) (n : NodeD) : Option (List Int) :=
  if kidN n = n.kids.length ∧ n.kids.length ≤ st.length ∧ st.drop (st.length - n.kids.length) = n.kids ∧ plainB n = true then some (st.take (st.length - n.kids.length) ++ [(i : Int)]) else none
def treeGo : Nat → List Int → List NodeD → Option (List Int)
  | _, st, [] => some st
  | i, st, n :: t => match treeStep i st n with
    | some st' => treeGo (i + 1) st' t
    | none => none
def treeB (l : List NodeD) : Bool := match treeGo 0 [] l with
  | some st => decide (st.length = 1)
  | none => false

def Short (l : List NodeD) : Prop := ∀ nd ∈ l, nd.text.length ≤ 1000 ∧ nd.ref.sheet.length ≤ 1000 ∧ nd.to.sheet.length ≤ 1000

theorem Tree_ret (l : List NodeD) (v : Value) (w : World) (g : Glob w) (hN : NodesR w v l) (hs : Short l) : Ret Tryz.prog 26 [v] w (fun v' w' => v' = .bool (treeB l) ∧ Ext w w') := by
  obtain ⟨p, c, rfl⟩ := hN.slice
  have hl := hN.1
  refine Ret.enter Tryz.func26 rfl Tryz.ntmps26 (by kernel_rfl) rfl ?_
  refine Sa ?_
  refine CW.loop (ι := Nat × List Int × Option Addr × Nat) (fun x w' => x.1 ≤ l.length ∧ x.2.1.length ≤ x.1 ∧ Ext w w' ∧ treeGo 0 [] l = treeGo x.1 x.2.1 (l.drop x.1) ∧ Own w' w.heap.size 3 1 (.slice x.2.2.1 x.2.1.length x.2.2.2) x.2.1.length (icells x.2.1))
    (fun x => [(3, .slice x.2.2.1 x.2.1.length x.2.2.2), (8, .slice p l.length c), (9, .int .i64 l.length), (10, .int .i64 x.1)]) (fun x => l.length - x.1) (0, [], none, 0) ⟨by omega, by simp, Chg.refl _ _, rfl, Own.nil _ _ _ _⟩ (Sub.cons rfl (Sub.cons rfl (Sub.cons rfl (Sub.cons rfl (Sub.nil))))) ?_
  rintro ⟨i, st, sp, sc⟩ w1 ⟨hi, hst, hx, heq, ho⟩
  dsimp only at hi hst heq ho ⊢
  replace hN := hN.ext hx
  refine Sa ?_
  refine CW.cond rfl (fun h1 => ?_) (fun h1 => ?_)
  · have h1 : i < l.length := by simp at h1; omega
    obtain ⟨nd, hnd⟩ : ∃ nd, l[i]? = some nd := ⟨_, List.getElem?_eq_getElem h1⟩
    obtain ⟨a, kp, kc, rfl, hk, hcell⟩ := hN.at hnd
    obtain ⟨hs1, hs2, hs3⟩ := hs nd (List.mem_of_getElem? hnd)
    refine Sa ?_
    refine LW.idx_addr rfl rfl rfl rfl rfl (by omega) (by omega) rfl ?_
    refine LW.load_cells (cs := nvL ⟨nd, .slice kp nd.kids.length kc⟩) rfl hcell rfl rfl rfl rfl ?_
    refine Sa ?_
    (apply LW.alloc; exact rfl; exact rfl; exact rfl; intro C w2 hbC hx2 hC)
    refine Sa ?_
    (apply LW.store_all; exact rfl; exact rfl; exact rfl; assumption; exact rfl; exact rfl; exact rfl; intro w3 hc3 hC)
    replace hC : Blk w3 C (nvL ⟨nd, .slice kp nd.kids.length kc⟩) 38 := hC
    refine Sa ?_
    refine LW.call0 rfl rfl (Count_ret nd.kind w3) ?_
    rintro v w4 ⟨rfl, hx4⟩
    replace hC := hC.ext hx4
    have hsz1 := hx.size
    have hsz2 := hx2.size
    have hx04 : Ext w1 w4 := (hx2.step hc3 (by simp; omega)).trans hx4
    replace hk := hk.ext hx04
    replace ho := ho.ext hx04
    replace hx := hx.trans hx04
    refine Sl ?_
    apply LW.nil
    apply QW.then_n
    refine CW.seq_cut (ι := Unit) (fun _ w' => w' = w4) (fun _ => [(3, .slice sp st.length sc), (4, .int .i64 i), (5, .pointer (some ⟨C, 0, none⟩)), (6, .int .i64 (kidN nd)), (8, .slice (some a) l.length c), (9, .int .i64 l.length), (10, .int .i64 i)]) ?_ ?_
    · refine Sa ?_
      refine CW.cond rfl (fun h2 => ?_) (fun h2 => ?_)
      · have h2 : countI nd.kind = -1 := by simpa using h2
        refine Sa ?_
        exact QW.head () rfl (by have : kidN nd = nd.kids.length := if_pos h2
                                 rw [this]; exact (Sub.cons rfl (Sub.cons rfl (Sub.cons rfl (Sub.cons rfl (Sub.cons rfl (Sub.cons rfl (Sub.cons rfl (Sub.nil)))))))))
      · have h2 : ¬ countI nd.kind = -1 := by simpa using h2
        refine Sa ?_
        exact QW.head () rfl (by have : kidN nd = countI nd.kind := if_neg h2
                                 rw [this]; exact (Sub.cons rfl (Sub.cons rfl (Sub.cons rfl (Sub.cons rfl (Sub.cons rfl (Sub.cons rfl (Sub.cons rfl (Sub.nil)))))))))
    rintro _ w5 rfl
    have hk0 := hk.1
    refine Sa ?_
    refine CW.drawHeld (fun w' => Blk w' C (nvL ⟨nd, .slice kp nd.kids.length kc⟩) 38) (fun w' h => hC.ext h) (by kernel_rfl) fun w6 hx6 => ?_
    replace hC := hC.ext hx6
    replace hk := hk.ext hx6
    replace ho := ho.ext hx6
    replace hx := hx.trans hx6
    refine Sh ?_
    have hdrop : l.drop i = nd :: l.drop (i + 1) := by rw [List.drop_eq_getElem_cons h1]; congr 1; rw [List.getElem?_eq_getElem h1] at hnd; exact Option.some.inj hnd
    have hstep : ¬ (kidN nd = nd.kids.length ∧ nd.kids.length ≤ st.length ∧ st.drop (st.length - nd.kids.length) = nd.kids ∧ plainB nd = true) → treeGo i st (l.drop i) = none := fun h => by rw [hdrop, treeGo, treeStep, if_neg h]
    by_cases n1 : kidN nd = nd.kids.length
    case neg =>
      refine HW.know (t := 34) (c := true) rfl (by simpa using n1) ?_
      refine Sh ?_
      refine HW.done (by kernel_rfl) ?_
      refine Sa ?_
      refine QW.body1 Tryz.results26 rfl ⟨?_, hx⟩
      rw [treeB, heq, hstep (fun h => n1 h.1)]
    by_cases n2 : nd.kids.length ≤ st.length
    case neg =>
      refine HW.know (t := 34) (c := false) rfl (by simpa using n1) ?_
      refine Sh ?_
      refine HW.know (t := 38) (c := true) rfl (by simp; omega) ?_
      refine Sh ?_
      refine HW.done (by kernel_rfl) ?_
      refine Sa ?_
      refine QW.body1 Tryz.results26 rfl ⟨?_, hx⟩
      rw [treeB, heq, hstep (fun h => n2 h.2.1)]
    refine HW.know (t := 34) (c := false) rfl (by simpa using n1) ?_
    refine Sh ?_
    refine HW.know (t := 38) (c := false) rfl (by simp; omega) ?_
    refine Sh ?_
    refine HW.takeW 12 rfl rfl rfl rfl (fun w _ => Y.slice_from (i := st.length - nd.kids.length) rfl (by show some (Value.int .i64 _) = some (Value.int .i64 _); congr 2; omega) rfl rfl rfl (by omega)) rfl (by kernel_rfl) (by kernel_rfl) (by kernel_rfl) (fun _ _ _ h => h) ?_
    refine Sh ?_
    refine HW.one 15 (by kernel_rfl) rfl rfl (fun hS => ?_)
    refine Sl ?_
    refine LW.call0 rfl rfl (equal_ret (st.drop (st.length - nd.kids.length)) nd.kids _ _ w6 (Own.from_ ho (by omega) (by omega)) hk) ?_
    rintro v w7 ⟨rfl, hx7⟩
    refine Sl ?_
    apply LW.nil
    replace hC := hC.ext hx7
    replace hk := hk.ext hx7
    replace ho := ho.ext hx7
    replace hx := hx.trans hx7
    refine QW.held hC ?_
    by_cases n3 : st.drop (st.length - nd.kids.length) = nd.kids
    case neg =>
      refine HW.know (t := 44) (c := false) rfl (by simpa using n3) ?_
      refine Sh ?_
      refine HW.done (by kernel_rfl) ?_
      refine Sa ?_
      refine QW.body1 Tryz.results26 rfl ⟨?_, hx⟩
      rw [treeB, heq, hstep (fun h => n3 h.2.2.1)]
    refine HW.know (t := 44) (c := true) rfl (by simpa using n3) ?_
    refine Sh ?_
    refine HW.one 20 (by kernel_rfl) rfl rfl (fun hS => ?_)
    refine Sl ?_
    refine LW.call0 rfl rfl (plain_ret nd kp nd.kids.length kc w7 (g.ext hx) hs1 hs2 hs3) ?_
    rintro v w8 ⟨rfl, hx8⟩
    refine Sl ?_
    apply LW.nil
    replace hC := hC.ext hx8
    replace ho := ho.ext hx8
    replace hx := hx.trans hx8
    refine QW.held hC ?_
    by_cases n4 : plainB nd = true
    case neg =>
      refine HW.know (t := 49) (c := false) rfl (by simpa using n4) ?_
      refine Sh ?_
      refine HW.done (by kernel_rfl) ?_
      refine Sa ?_
      refine QW.body1 Tryz.results26 rfl ⟨?_, hx⟩
      rw [treeB, heq, hstep (fun h => n4 h.2.2.2)]
    refine HW.know (t := 49) (c := true) rfl n4 ?_
    refine Sh ?_
    refine HW.done (by kernel_rfl) ?_
    refine Sa ?_
    refine LW.slice_to (i := st.length - nd.kids.length) rfl (by show some (Value.int .i64 _) = some (Value.int .i64 _); congr 2; omega) (by show some (Value.int .i64 _) = some (Value.int .i64 _); congr 2; omega) rfl rfl rfl ?_ rfl ?_
    · have := Own.cap_ ho; omega
    refine Sa ?_
    (apply LW.buildSlice; exact rfl; exact rfl; exact rfl; exact rfl; exact rfl; exact rfl; exact rfl; exact rfl; exact rfl; intro B w9 hbB hx9 hB)
    replace ho := ho.ext hx9
    replace hx := hx.trans hx9
    refine LW.append_full (xs := icells (st.take (st.length - nd.kids.length))) (lo := w.heap.size) rfl rfl rfl rfl rfl (by exact rfl) ?_ (Own.cells ho (by omega)) hx.size hB (by exact rfl) (by exact rfl) (by exact rfl) ?_ rfl fun v' w10 hx10 ho10 => ?_
    · rw [icells_len, List.length_take]
      show _ = (st.length - nd.kids.length) * 1
      omega
    · show (st.length - nd.kids.length + 1) * (8 + 1) ≤ _
      omega
    refine Sa ?_
    obtain ⟨p', c', rfl⟩ := ho10.slice
    have e1 : icells (st.take (st.length - nd.kids.length)) ++ [.int .i64 (i : Int)] = icells (st.take (st.length - nd.kids.length) ++ [(i : Int)]) := by simp [icells]
    have e2 : (st.take (st.length - nd.kids.length) ++ [(i : Int)]).length = st.length - nd.kids.length + 1 := by simp [List.length_take]
    refine QW.again (i + 1, st.take (st.length - nd.kids.length) ++ [(i : Int)], p', c') ⟨by omega, by rw [e2]; omega, hx.trans hx10, ?_, ?_⟩ ?_ (by omega)
    · rw [heq, hdrop, treeGo, treeStep, if_pos ⟨n1, n2, n3, n4⟩]
    · dsimp only
      rw [e2, ← e1]
      exact ho10
    · dsimp only
      rw [e2]
      exact (Sub.cons rfl (Sub.cons rfl (Sub.cons rfl (Sub.cons rfl (Sub.nil)))))
  · have h1 : i = l.length := by simp at h1; omega
    subst h1
    refine Sa ?_
    refine QW.body1 Tryz.results26 rfl ⟨?_, hx⟩
    rw [List.drop_length] at heq
    rw [treeB, heq]
    have : decide ((st.length : Int) = 1) = decide (st.length = 1) := decide_eq_decide.mpr (by omega)
    exact congrArg Value.bool this
end Go.Proofs.YtiloogjageledaaGreatDoor
