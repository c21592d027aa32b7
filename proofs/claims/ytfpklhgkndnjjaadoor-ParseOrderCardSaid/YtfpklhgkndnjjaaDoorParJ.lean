/-
  Walks: whether nodes are a formula's.
-/
import Derived.Test.YtfpklhgkndnjjaaDoorParI
import Derived.DataElems
namespace Go.Proofs.YtfpklhgkndnjjaaDoor
open Go Go.E

/-- Nodes, wherever they lie. -/
def NodesR (w : World) (v : Value) (l : List NodeD) : Prop :=
  l.length ≤ 100000 ∧ (v = .slice none 0 0 ∧ l = [] ∨ ∃ a cap, v = .slice (some a) l.length cap ∧ ∀ i nd, l[i]? = some nd → ∃ kv, IntsR w kv nd.kids ∧ ∀ j u, (nvL ⟨nd, kv⟩)[j]? = some u → w.cell? ((a.add (i * 14)).add j) = some u)
theorem NodesR.ext {w w' : World} {v : Value} {l : List NodeD} (h : NodesR w v l) (x : Ext w w') : NodesR w' v l := by
  obtain ⟨h0, h | ⟨a, cap, e, h⟩⟩ := h
  · exact ⟨h0, .inl h⟩
  · exact ⟨h0, .inr ⟨a, cap, e, fun i nd hi => let ⟨kv, hk, hc⟩ := h i nd hi; ⟨kv, hk.ext x, fun j u hj => cell_ext x (hc j u hj)⟩⟩⟩
theorem NodesR.slice {w : World} {v : Value} {l : List NodeD} (h : NodesR w v l) : ∃ p c, v = .slice p l.length c := by
  obtain ⟨h0, ⟨rfl, rfl⟩ | ⟨a, cap, e, h⟩⟩ := h
  · exact ⟨_, _, rfl⟩
  · exact ⟨_, _, e⟩
theorem NodesR.at {w : World} {p : Option Addr} {c : Nat} {l : List NodeD} (h : NodesR w (.slice p l.length c) l) {i : Nat} {nd : NodeD} (hi : l[i]? = some nd) :
    ∃ a kp kc, p = some a ∧ IntsR w (.slice kp nd.kids.length kc) nd.kids ∧ ∀ j u, (nvL ⟨nd, .slice kp nd.kids.length kc⟩)[j]? = some u → w.cell? ((a.add (i * 14)).add j) = some u := by
  obtain ⟨h0, ⟨e, e2⟩ | ⟨a, cap, e, h⟩⟩ := h
  · rw [e2] at hi; simp at hi
  · simp only [Value.slice.injEq] at e
    obtain ⟨kv, hk, hc⟩ := h i nd hi
    obtain ⟨kp, kc, rfl⟩ := hk.slice
    exact ⟨a, kp, kc, e.1, hk, hc⟩

theorem icells_len (l : List Int) : (icells l).length = l.length := by simp [icells]
theorem icells_get {l : List Int} {i : Nat} {z : Int} (h : l[i]? = some z) : (icells l)[i]? = some (.int .i64 z) := by simp [icells, h]
/-- A slice of numbers that was made here, from a place on. -/
theorem Own.from_ {w : World} {lo n c : Nat} {p : Option Addr} {zs : List Int} (h : Own w lo 3 1 (.slice p n c) n (icells zs)) (hb : zs.length ≤ 100000) {i : Nat} (hi : i ≤ n) : IntsR w (.slice (if c = i then p else p.map (·.add (i * 1))) (n - i) (c - i)) (zs.drop i) := by
  obtain ⟨hl, ⟨e, hn⟩ | ⟨g, cap, sp, e, hB, h1, h2, h3⟩⟩ := h
  · simp only [Value.slice.injEq] at e
    obtain ⟨rfl, e2, rfl⟩ := e
    subst hn
    have : i = 0 := by omega
    subst this
    have : zs = [] := by simpa [icells] using hl
    subst this
    exact ⟨by simp, .inl ⟨by simp, rfl⟩⟩
  · simp only [Value.slice.injEq] at e
    obtain ⟨rfl, _, rfl⟩ := e
    rw [icells_len] at hl
    have hzn : zs.length = n := by omega
    refine ⟨by simp; omega, .inr ⟨if c = i then ⟨g, 0, none⟩ else (⟨g, 0, none⟩ : Addr).add (i * 1), c - i, ?_, fun j z hz => ?_⟩⟩
    · rw [List.length_drop, hzn]
      split <;> rfl
    · rw [List.getElem?_drop] at hz
      have hj : i + j < zs.length := by
        rcases Nat.lt_or_ge (i + j) zs.length with h | h
        · exact h
        · rw [List.getElem?_eq_none h] at hz; cases hz
      have hci : c ≠ i := by omega
      rw [if_neg hci, Addr.add_add]
      refine hB.getElem _ _ ?_
      rw [List.getElem?_append_left (by rw [icells_len]; omega), Nat.mul_one]
      exact icells_get hz
theorem Own.cells {w : World} {lo n c : Nat} {p : Option Addr} {zs : List Int} (h : Own w lo 3 1 (.slice p n c) n (icells zs)) {i : Nat} (hi : i ≤ n) : p = none ∧ i = 0 ∨ ∃ a, p = some a ∧ ∀ j u, (icells (zs.take i))[j]? = some u → w.cell? (a.add j) = some u := by
  obtain ⟨hl, ⟨e, hn⟩ | ⟨g, cap, sp, e, hB, h1, h2, h3⟩⟩ := h
  · simp only [Value.slice.injEq] at e
    exact .inl ⟨e.1, by omega⟩
  · simp only [Value.slice.injEq] at e
    refine .inr ⟨_, e.1, fun j u hu => hB.getElem _ _ ?_⟩
    have e1 : icells (zs.take i) = (icells zs).take i := by simp [icells, List.map_take]
    rw [e1] at hu
    have hj : j < i := by
      rcases Nat.lt_or_ge j i with h | h
      · exact h
      · rw [List.getElem?_take_eq_none h] at hu; cases hu
    rw [List.getElem?_take_of_lt hj] at hu
    have hj2 : j < (icells zs).length := by
      rcases Nat.lt_or_ge j (icells zs).length with h | h
      · exact h
      · rw [List.getElem?_eq_none h] at hu; cases hu
    rw [List.getElem?_append_left hj2]
    exact hu

theorem Own.cap_ {w : World} {lo n c : Nat} {p : Option Addr} {zs : List Value} (h : Own w lo 3 1 (.slice p n c) n zs) : n ≤ c := by
  obtain ⟨hl, ⟨e, hn⟩ | ⟨g, cap, sp, e, hB, h1, h2, h3⟩⟩ := h
  · omega
  · simp only [Value.slice.injEq] at e
    omega

/-! ### What it tells -/

def kidN (n : NodeD) : Int := if countI n.kind = -1 then n.kids.length else countI n.kind
def treeStep (i : Nat) (st : List Int) (n : NodeD) : Option (List Int) :=
  if kidN n = n.kids.length ∧ n.kids.length ≤ st.length ∧ st.drop (st.length - n.kids.length) = n.kids ∧ plainB n = true then some (st.take (st.length - n.kids.length) ++ [(i : Int)]) else none
def treeGo : Nat → List Int → List NodeD → Option (List Int)
  | _, st, [] => some st
  | i, st, n :: t => match treeStep i st n with
    | some st' => treeGo (i + 1) st' t
    | none => none
def treeB (l : List NodeD) : Bool := match treeGo 0 [] l with
  | some st => decide (st.length = 1)
  | none => false

def Short (l : List NodeD) : Prop := ∀ nd ∈ l, nd.text.length ≤ 1000 ∧ nd.ref.sheet.length ≤ 1000 ∧ nd.to.sheet.length ≤ 1000

theorem Tree_ret (l : List NodeD) (v : Value) (w : World) (g : Glob w) (hN : NodesR w v l) (hs : Short l) : Ret Tryd.prog 33 [v] w (fun v' w' => v' = .bool (treeB l) ∧ Ext w w') := by
  obtain ⟨p, c, rfl⟩ := hN.slice
  have hl := hN.1
  refine Ret.enter Tryd.func33 rfl Tryd.ntmps33 (by kernel_rfl) rfl ?_
  (repeat (first | refine La ?_ | refine Lb ?_ | refine Lc ?_ | refine Ld ?_ | refine Le ?_ | refine Lf ?_ | refine Lg ?_ | apply LW.nil | apply QW.then_n | apply QW.round | apply RW.succ | apply CW.seq | apply CW.region | apply CW.skip | apply CW.block | apply CW.ret | apply CW.exit | apply QW.then_ret | apply QW.then_exit | apply QW.blk_n | apply QW.blk_ret | apply QW.blk_exit | refine Ca ?_ | refine Cb ?_ | refine Cc ?_ | refine Lh ?_ | refine Li ?_ | refine Lj ?_ | refine Lk ?_ | refine Ll ?_))
  refine CW.loop (ι := Nat × List Int × Option Addr × Nat) (fun x w' => x.1 ≤ l.length ∧ x.2.1.length ≤ x.1 ∧ Ext w w' ∧ treeGo 0 [] l = treeGo x.1 x.2.1 (l.drop x.1) ∧ Own w' w.heap.size 3 1 (.slice x.2.2.1 x.2.1.length x.2.2.2) x.2.1.length (icells x.2.1))
    (fun x => [(3, .slice x.2.2.1 x.2.1.length x.2.2.2), (8, .slice p l.length c), (9, .int .i64 l.length), (10, .int .i64 x.1)]) (fun x => l.length - x.1) (0, [], none, 0) ⟨by omega, by simp, Chg.refl _ _, rfl, Own.nil _ _ _ _⟩ (Sub.cons rfl (Sub.cons rfl (Sub.cons rfl (Sub.cons rfl (Sub.nil))))) ?_
  rintro ⟨i, st, sp, sc⟩ w1 ⟨hi, hst, hx, heq, ho⟩
  dsimp only at hi hst heq ho ⊢
  replace hN := hN.ext hx
  (repeat (first | refine La ?_ | refine Lb ?_ | refine Lc ?_ | refine Ld ?_ | refine Le ?_ | refine Lf ?_ | refine Lg ?_ | apply LW.nil | apply QW.then_n | apply QW.round | apply RW.succ | apply CW.seq | apply CW.region | apply CW.skip | apply CW.block | apply CW.ret | apply CW.exit | apply QW.then_ret | apply QW.then_exit | apply QW.blk_n | apply QW.blk_ret | apply QW.blk_exit | refine Ca ?_ | refine Cb ?_ | refine Cc ?_ | refine Lh ?_ | refine Li ?_ | refine Lj ?_ | refine Lk ?_ | refine Ll ?_))
  refine CW.cond rfl (fun h1 => ?_) (fun h1 => ?_)
  · have h1 : i < l.length := by simp at h1; omega
    obtain ⟨nd, hnd⟩ : ∃ nd, l[i]? = some nd := ⟨_, List.getElem?_eq_getElem h1⟩
    obtain ⟨a, kp, kc, rfl, hk, hcell⟩ := hN.at hnd
    obtain ⟨hs1, hs2, hs3⟩ := hs nd (List.mem_of_getElem? hnd)
    (repeat (first | refine La ?_ | refine Lb ?_ | refine Lc ?_ | refine Ld ?_ | refine Le ?_ | refine Lf ?_ | refine Lg ?_ | apply LW.nil | apply QW.then_n | apply QW.round | apply RW.succ | apply CW.seq | apply CW.region | apply CW.skip | apply CW.block | apply CW.ret | apply CW.exit | apply QW.then_ret | apply QW.then_exit | apply QW.blk_n | apply QW.blk_ret | apply QW.blk_exit | refine Ca ?_ | refine Cb ?_ | refine Cc ?_ | refine Lh ?_ | refine Li ?_ | refine Lj ?_ | refine Lk ?_ | refine Ll ?_))
    refine LW.idx_addr rfl rfl rfl rfl rfl (by omega) (by omega) rfl ?_
    refine LW.load_cells (cs := nvL ⟨nd, .slice kp nd.kids.length kc⟩) rfl hcell rfl rfl rfl rfl ?_
    (repeat (first | refine La ?_ | refine Lb ?_ | refine Lc ?_ | refine Ld ?_ | refine Le ?_ | refine Lf ?_ | refine Lg ?_ | apply LW.nil | apply QW.then_n | apply QW.round | apply RW.succ | apply CW.seq | apply CW.region | apply CW.skip | apply CW.block | apply CW.ret | apply CW.exit | apply QW.then_ret | apply QW.then_exit | apply QW.blk_n | apply QW.blk_ret | apply QW.blk_exit | refine Ca ?_ | refine Cb ?_ | refine Cc ?_ | refine Lh ?_ | refine Li ?_ | refine Lj ?_ | refine Lk ?_ | refine Ll ?_))
    (apply LW.alloc; exact rfl; exact rfl; exact rfl; intro C w2 hbC hx2 hC)
    (repeat (first | refine La ?_ | refine Lb ?_ | refine Lc ?_ | refine Ld ?_ | refine Le ?_ | refine Lf ?_ | refine Lg ?_ | apply LW.nil | apply QW.then_n | apply QW.round | apply RW.succ | apply CW.seq | apply CW.region | apply CW.skip | apply CW.block | apply CW.ret | apply CW.exit | apply QW.then_ret | apply QW.then_exit | apply QW.blk_n | apply QW.blk_ret | apply QW.blk_exit | refine Ca ?_ | refine Cb ?_ | refine Cc ?_ | refine Lh ?_ | refine Li ?_ | refine Lj ?_ | refine Lk ?_ | refine Ll ?_))
    (apply LW.store_all; exact rfl; exact rfl; exact rfl; assumption; exact rfl; exact rfl; exact rfl; intro w3 hc3 hC)
    replace hC : Blk w3 C (nvL ⟨nd, .slice kp nd.kids.length kc⟩) 59 := hC
    (repeat (first | refine La ?_ | refine Lb ?_ | refine Lc ?_ | refine Ld ?_ | refine Le ?_ | refine Lf ?_ | refine Lg ?_ | apply LW.nil | apply QW.then_n | apply QW.round | apply RW.succ | apply CW.seq | apply CW.region | apply CW.skip | apply CW.block | apply CW.ret | apply CW.exit | apply QW.then_ret | apply QW.then_exit | apply QW.blk_n | apply QW.blk_ret | apply QW.blk_exit | refine Ca ?_ | refine Cb ?_ | refine Cc ?_ | refine Lh ?_ | refine Li ?_ | refine Lj ?_ | refine Lk ?_ | refine Ll ?_))
    refine LW.call0 rfl rfl (Count_ret nd.kind w3) ?_
    rintro v w4 ⟨rfl, hx4⟩
    replace hC := hC.ext hx4
    have hsz1 := hx.size
    have hsz2 := hx2.size
    have hx04 : Ext w1 w4 := (hx2.step hc3 (by simp; omega)).trans hx4
    replace hk := hk.ext hx04
    replace ho := ho.ext hx04
    replace hx := hx.trans hx04
    (repeat (first | refine La ?_ | refine Lb ?_ | refine Lc ?_ | refine Ld ?_ | refine Le ?_ | refine Lf ?_ | refine Lg ?_ | refine Lh ?_ | refine Li ?_ | refine Lj ?_ | refine Lk ?_ | refine Ll ?_))
    apply LW.nil
    apply QW.then_n
    refine CW.seq_cut (ι := Unit) (fun _ w' => w' = w4) (fun _ => [(3, .slice sp st.length sc), (4, .int .i64 i), (5, .pointer (some ⟨C, 0, none⟩)), (6, .int .i64 (kidN nd)), (8, .slice (some a) l.length c), (9, .int .i64 l.length), (10, .int .i64 i)]) ?_ ?_
    · (repeat (first | refine La ?_ | refine Lb ?_ | refine Lc ?_ | refine Ld ?_ | refine Le ?_ | refine Lf ?_ | refine Lg ?_ | apply LW.nil | apply QW.then_n | apply QW.round | apply RW.succ | apply CW.seq | apply CW.region | apply CW.skip | apply CW.block | apply CW.ret | apply CW.exit | apply QW.then_ret | apply QW.then_exit | apply QW.blk_n | apply QW.blk_ret | apply QW.blk_exit | refine Ca ?_ | refine Cb ?_ | refine Cc ?_ | refine Lh ?_ | refine Li ?_ | refine Lj ?_ | refine Lk ?_ | refine Ll ?_))
      refine CW.cond rfl (fun h2 => ?_) (fun h2 => ?_)
      · have h2 : countI nd.kind = -1 := by simpa using h2
        (repeat (first | refine La ?_ | refine Lb ?_ | refine Lc ?_ | refine Ld ?_ | refine Le ?_ | refine Lf ?_ | refine Lg ?_ | apply LW.nil | apply QW.then_n | apply QW.round | apply RW.succ | apply CW.seq | apply CW.region | apply CW.skip | apply CW.block | apply CW.ret | apply CW.exit | apply QW.then_ret | apply QW.then_exit | apply QW.blk_n | apply QW.blk_ret | apply QW.blk_exit | refine Ca ?_ | refine Cb ?_ | refine Cc ?_ | refine Lh ?_ | refine Li ?_ | refine Lj ?_ | refine Lk ?_ | refine Ll ?_))
        exact QW.head () rfl (by have : kidN nd = nd.kids.length := if_pos h2
                                 rw [this]; exact (Sub.cons rfl (Sub.cons rfl (Sub.cons rfl (Sub.cons rfl (Sub.cons rfl (Sub.cons rfl (Sub.cons rfl (Sub.nil)))))))))
      · have h2 : ¬ countI nd.kind = -1 := by simpa using h2
        (repeat (first | refine La ?_ | refine Lb ?_ | refine Lc ?_ | refine Ld ?_ | refine Le ?_ | refine Lf ?_ | refine Lg ?_ | apply LW.nil | apply QW.then_n | apply QW.round | apply RW.succ | apply CW.seq | apply CW.region | apply CW.skip | apply CW.block | apply CW.ret | apply CW.exit | apply QW.then_ret | apply QW.then_exit | apply QW.blk_n | apply QW.blk_ret | apply QW.blk_exit | refine Ca ?_ | refine Cb ?_ | refine Cc ?_ | refine Lh ?_ | refine Li ?_ | refine Lj ?_ | refine Lk ?_ | refine Ll ?_))
        exact QW.head () rfl (by have : kidN nd = countI nd.kind := if_neg h2
                                 rw [this]; exact (Sub.cons rfl (Sub.cons rfl (Sub.cons rfl (Sub.cons rfl (Sub.cons rfl (Sub.cons rfl (Sub.cons rfl (Sub.nil)))))))))
    rintro _ w5 rfl
    have hk0 := hk.1
    (repeat (first | refine La ?_ | refine Lb ?_ | refine Lc ?_ | refine Ld ?_ | refine Le ?_ | refine Lf ?_ | refine Lg ?_ | apply LW.nil | apply QW.then_n | apply QW.round | apply RW.succ | apply CW.seq | apply CW.region | apply CW.skip | apply CW.block | apply CW.ret | apply CW.exit | apply QW.then_ret | apply QW.then_exit | apply QW.blk_n | apply QW.blk_ret | apply QW.blk_exit | refine Ca ?_ | refine Cb ?_ | refine Cc ?_ | refine Lh ?_ | refine Li ?_ | refine Lj ?_ | refine Lk ?_ | refine Ll ?_))
    refine CW.drawHeld (fun w' => Blk w' C (nvL ⟨nd, .slice kp nd.kids.length kc⟩) 59) (fun w' h => hC.ext h) (by kernel_rfl) fun w6 hx6 => ?_
    replace hC := hC.ext hx6
    replace hk := hk.ext hx6
    replace ho := ho.ext hx6
    replace hx := hx.trans hx6
    refine HW.take 0 rfl rfl rfl rfl (fun w _ => Y.pure rfl) rfl (by kernel_rfl) (by kernel_rfl) (by kernel_rfl) (fun _ _ _ h => h) ?_
    refine HW.take 1 rfl rfl rfl rfl (fun w _ => Y.pure rfl) rfl (by kernel_rfl) (by kernel_rfl) (by kernel_rfl) (fun _ _ _ h => h) ?_
    refine HW.take 2 rfl rfl rfl rfl (fun w hw => Y.load rfl hw rfl rfl rfl) rfl (by kernel_rfl) (by kernel_rfl) (by kernel_rfl) (fun _ _ _ h => h) ?_
    refine HW.take 3 rfl rfl rfl rfl (fun w _ => Y.pure rfl) rfl (by kernel_rfl) (by kernel_rfl) (by kernel_rfl) (fun _ _ _ h => h) ?_
    refine HW.take 4 rfl rfl rfl rfl (fun w _ => Y.pure rfl) rfl (by kernel_rfl) (by kernel_rfl) (by kernel_rfl) (fun _ _ _ h => h) ?_
    refine HW.take 5 rfl rfl rfl rfl (fun w _ => Y.pure rfl) rfl (by kernel_rfl) (by kernel_rfl) (by kernel_rfl) (fun _ _ _ h => h) ?_
    have hdrop : l.drop i = nd :: l.drop (i + 1) := by rw [List.drop_eq_getElem_cons h1]; congr 1; rw [List.getElem?_eq_getElem h1] at hnd; exact Option.some.inj hnd
    have hstep : ¬ (kidN nd = nd.kids.length ∧ nd.kids.length ≤ st.length ∧ st.drop (st.length - nd.kids.length) = nd.kids ∧ plainB nd = true) → treeGo i st (l.drop i) = none := fun h => by rw [hdrop, treeGo, treeStep, if_neg h]
    by_cases n1 : kidN nd = nd.kids.length
    case neg =>
      refine HW.know (t := 34) (c := true) rfl (by simpa using n1) ?_
      refine HW.skip 6 rfl rfl rfl rfl rfl rfl rfl rfl (by kernel_rfl) (by kernel_rfl) (by kernel_rfl) (fun _ _ _ h => h) ?_
      refine HW.skip 7 rfl rfl rfl rfl rfl rfl rfl rfl (by kernel_rfl) (by kernel_rfl) (by kernel_rfl) (fun _ _ _ h => h) ?_
      refine HW.take 8 rfl rfl rfl rfl (fun w _ => Y.pure rfl) rfl (by kernel_rfl) (by kernel_rfl) (by kernel_rfl) (fun _ _ _ h => h) ?_
      refine HW.take 9 rfl rfl rfl rfl (fun w _ => Y.pure rfl) rfl (by kernel_rfl) (by kernel_rfl) (by kernel_rfl) (fun _ _ _ h => h) ?_
      refine HW.skip 10 rfl rfl rfl rfl rfl rfl rfl rfl (by kernel_rfl) (by kernel_rfl) (by kernel_rfl) (fun _ _ _ h => h) ?_
      refine HW.skip 11 rfl rfl rfl rfl rfl rfl rfl rfl (by kernel_rfl) (by kernel_rfl) (by kernel_rfl) (fun _ _ _ h => h) ?_
      refine HW.skip 12 rfl rfl rfl rfl rfl rfl rfl rfl (by kernel_rfl) (by kernel_rfl) (by kernel_rfl) (fun _ _ _ h => h) ?_
      refine HW.skip 13 rfl rfl rfl rfl rfl rfl rfl rfl (by kernel_rfl) (by kernel_rfl) (by kernel_rfl) (fun _ _ _ h => h) ?_
      refine HW.skip 14 rfl rfl rfl rfl rfl rfl rfl rfl (by kernel_rfl) (by kernel_rfl) (by kernel_rfl) (fun _ _ _ h => h) ?_
      refine HW.one 15 (by kernel_rfl) rfl rfl (fun hS => ?_)
      (repeat (first | refine La ?_ | refine Lb ?_ | refine Lc ?_ | refine Ld ?_ | refine Le ?_ | refine Lf ?_ | refine Lg ?_ | refine Lh ?_ | refine Li ?_ | refine Lj ?_ | refine Lk ?_ | refine Ll ?_))
      apply LW.nil
      refine QW.held hS ?_
      refine HW.skip 16 rfl rfl rfl rfl rfl rfl rfl rfl (by kernel_rfl) (by kernel_rfl) (by kernel_rfl) (fun _ _ _ h => h) ?_
      refine HW.take 17 rfl rfl rfl rfl (fun w _ => Y.pure rfl) rfl (by kernel_rfl) (by kernel_rfl) (by kernel_rfl) (fun _ _ _ h => h) ?_
      refine HW.take 18 rfl rfl rfl rfl (fun w _ => Y.pure rfl) rfl (by kernel_rfl) (by kernel_rfl) (by kernel_rfl) (fun _ _ _ h => h) ?_
      refine HW.skip 19 rfl rfl rfl rfl rfl rfl rfl rfl (by kernel_rfl) (by kernel_rfl) (by kernel_rfl) (fun _ _ _ h => h) ?_
      refine HW.one 20 (by kernel_rfl) rfl rfl (fun hS => ?_)
      (repeat (first | refine La ?_ | refine Lb ?_ | refine Lc ?_ | refine Ld ?_ | refine Le ?_ | refine Lf ?_ | refine Lg ?_ | refine Lh ?_ | refine Li ?_ | refine Lj ?_ | refine Lk ?_ | refine Ll ?_))
      apply LW.nil
      refine QW.held hS ?_
      refine HW.skip 21 rfl rfl rfl rfl rfl rfl rfl rfl (by kernel_rfl) (by kernel_rfl) (by kernel_rfl) (fun _ _ _ h => h) ?_
      refine HW.take 22 rfl rfl rfl rfl (fun w _ => Y.pure rfl) rfl (by kernel_rfl) (by kernel_rfl) (by kernel_rfl) (fun _ _ _ h => h) ?_
      refine HW.done (by kernel_rfl) ?_
      (repeat (first | refine La ?_ | refine Lb ?_ | refine Lc ?_ | refine Ld ?_ | refine Le ?_ | refine Lf ?_ | refine Lg ?_ | apply LW.nil | apply QW.then_n | apply QW.round | apply RW.succ | apply CW.seq | apply CW.region | apply CW.skip | apply CW.block | apply CW.ret | apply CW.exit | apply QW.then_ret | apply QW.then_exit | apply QW.blk_n | apply QW.blk_ret | apply QW.blk_exit | refine Ca ?_ | refine Cb ?_ | refine Cc ?_ | refine Lh ?_ | refine Li ?_ | refine Lj ?_ | refine Lk ?_ | refine Ll ?_))
      refine QW.body1 Tryd.results33 rfl ⟨?_, hx⟩
      rw [treeB, heq, hstep (fun h => n1 h.1)]
    by_cases n2 : nd.kids.length ≤ st.length
    case neg =>
      refine HW.know (t := 34) (c := false) rfl (by simpa using n1) ?_
      refine HW.takeW 6 rfl rfl rfl rfl (fun w _ => Y.pure rfl) rfl (by kernel_rfl) (by kernel_rfl) (by kernel_rfl) (fun _ _ _ h => h) ?_
      refine HW.takeW 7 rfl rfl rfl rfl (fun w _ => Y.pure rfl) rfl (by kernel_rfl) (by kernel_rfl) (by kernel_rfl) (fun _ _ _ h => h) ?_
      refine HW.know (t := 36) (c := true) rfl (by simp; omega) ?_
      refine HW.take 8 rfl rfl rfl rfl (fun w _ => Y.pure rfl) rfl (by kernel_rfl) (by kernel_rfl) (by kernel_rfl) (fun _ _ _ h => h) ?_
      refine HW.take 9 rfl rfl rfl rfl (fun w _ => Y.pure rfl) rfl (by kernel_rfl) (by kernel_rfl) (by kernel_rfl) (fun _ _ _ h => h) ?_
      refine HW.skip 10 rfl rfl rfl rfl rfl rfl rfl rfl (by kernel_rfl) (by kernel_rfl) (by kernel_rfl) (fun _ _ _ h => h) ?_
      refine HW.skip 11 rfl rfl rfl rfl rfl rfl rfl rfl (by kernel_rfl) (by kernel_rfl) (by kernel_rfl) (fun _ _ _ h => h) ?_
      refine HW.skip 12 rfl rfl rfl rfl rfl rfl rfl rfl (by kernel_rfl) (by kernel_rfl) (by kernel_rfl) (fun _ _ _ h => h) ?_
      refine HW.skip 13 rfl rfl rfl rfl rfl rfl rfl rfl (by kernel_rfl) (by kernel_rfl) (by kernel_rfl) (fun _ _ _ h => h) ?_
      refine HW.skip 14 rfl rfl rfl rfl rfl rfl rfl rfl (by kernel_rfl) (by kernel_rfl) (by kernel_rfl) (fun _ _ _ h => h) ?_
      refine HW.one 15 (by kernel_rfl) rfl rfl (fun hS => ?_)
      (repeat (first | refine La ?_ | refine Lb ?_ | refine Lc ?_ | refine Ld ?_ | refine Le ?_ | refine Lf ?_ | refine Lg ?_ | refine Lh ?_ | refine Li ?_ | refine Lj ?_ | refine Lk ?_ | refine Ll ?_))
      apply LW.nil
      refine QW.held hS ?_
      refine HW.skip 16 rfl rfl rfl rfl rfl rfl rfl rfl (by kernel_rfl) (by kernel_rfl) (by kernel_rfl) (fun _ _ _ h => h) ?_
      refine HW.take 17 rfl rfl rfl rfl (fun w _ => Y.pure rfl) rfl (by kernel_rfl) (by kernel_rfl) (by kernel_rfl) (fun _ _ _ h => h) ?_
      refine HW.take 18 rfl rfl rfl rfl (fun w _ => Y.pure rfl) rfl (by kernel_rfl) (by kernel_rfl) (by kernel_rfl) (fun _ _ _ h => h) ?_
      refine HW.skip 19 rfl rfl rfl rfl rfl rfl rfl rfl (by kernel_rfl) (by kernel_rfl) (by kernel_rfl) (fun _ _ _ h => h) ?_
      refine HW.one 20 (by kernel_rfl) rfl rfl (fun hS => ?_)
      (repeat (first | refine La ?_ | refine Lb ?_ | refine Lc ?_ | refine Ld ?_ | refine Le ?_ | refine Lf ?_ | refine Lg ?_ | refine Lh ?_ | refine Li ?_ | refine Lj ?_ | refine Lk ?_ | refine Ll ?_))
      apply LW.nil
      refine QW.held hS ?_
      refine HW.skip 21 rfl rfl rfl rfl rfl rfl rfl rfl (by kernel_rfl) (by kernel_rfl) (by kernel_rfl) (fun _ _ _ h => h) ?_
      refine HW.take 22 rfl rfl rfl rfl (fun w _ => Y.pure rfl) rfl (by kernel_rfl) (by kernel_rfl) (by kernel_rfl) (fun _ _ _ h => h) ?_
      refine HW.done (by kernel_rfl) ?_
      (repeat (first | refine La ?_ | refine Lb ?_ | refine Lc ?_ | refine Ld ?_ | refine Le ?_ | refine Lf ?_ | refine Lg ?_ | apply LW.nil | apply QW.then_n | apply QW.round | apply RW.succ | apply CW.seq | apply CW.region | apply CW.skip | apply CW.block | apply CW.ret | apply CW.exit | apply QW.then_ret | apply QW.then_exit | apply QW.blk_n | apply QW.blk_ret | apply QW.blk_exit | refine Ca ?_ | refine Cb ?_ | refine Cc ?_ | refine Lh ?_ | refine Li ?_ | refine Lj ?_ | refine Lk ?_ | refine Ll ?_))
      refine QW.body1 Tryd.results33 rfl ⟨?_, hx⟩
      rw [treeB, heq, hstep (fun h => n2 h.2.1)]
    refine HW.know (t := 34) (c := false) rfl (by simpa using n1) ?_
    refine HW.takeW 6 rfl rfl rfl rfl (fun w _ => Y.pure rfl) rfl (by kernel_rfl) (by kernel_rfl) (by kernel_rfl) (fun _ _ _ h => h) ?_
    refine HW.takeW 7 rfl rfl rfl rfl (fun w _ => Y.pure rfl) rfl (by kernel_rfl) (by kernel_rfl) (by kernel_rfl) (fun _ _ _ h => h) ?_
    refine HW.know (t := 36) (c := false) rfl (by simp; omega) ?_
    refine HW.take 8 rfl rfl rfl rfl (fun w _ => Y.pure rfl) rfl (by kernel_rfl) (by kernel_rfl) (by kernel_rfl) (fun _ _ _ h => h) ?_
    refine HW.take 9 rfl rfl rfl rfl (fun w _ => Y.pure rfl) rfl (by kernel_rfl) (by kernel_rfl) (by kernel_rfl) (fun _ _ _ h => h) ?_
    refine HW.takeW 10 rfl rfl rfl rfl (fun w _ => Y.pure rfl) rfl (by kernel_rfl) (by kernel_rfl) (by kernel_rfl) (fun _ _ _ h => h) ?_
    refine HW.takeW 11 rfl rfl rfl rfl (fun w _ => Y.pure rfl) rfl (by kernel_rfl) (by kernel_rfl) (by kernel_rfl) (fun _ _ _ h => h) ?_
    refine HW.takeW 12 rfl rfl rfl rfl (fun w _ => Y.slice_from (i := st.length - nd.kids.length) rfl (by show some (Value.int .i64 _) = some (Value.int .i64 _); congr 2; omega) rfl rfl rfl (by omega)) rfl (by kernel_rfl) (by kernel_rfl) (by kernel_rfl) (fun _ _ _ h => h) ?_
    refine HW.takeW 13 rfl rfl rfl rfl (fun w _ => Y.pure rfl) rfl (by kernel_rfl) (by kernel_rfl) (by kernel_rfl) (fun _ _ _ h => h) ?_
    refine HW.takeW 14 rfl rfl rfl rfl (fun w hw => Y.load rfl hw rfl rfl rfl) rfl (by kernel_rfl) (by kernel_rfl) (by kernel_rfl) (fun _ _ _ h => h) ?_
    refine HW.one 15 (by kernel_rfl) rfl rfl (fun hS => ?_)
    (repeat (first | refine La ?_ | refine Lb ?_ | refine Lc ?_ | refine Ld ?_ | refine Le ?_ | refine Lf ?_ | refine Lg ?_ | refine Lh ?_ | refine Li ?_ | refine Lj ?_ | refine Lk ?_ | refine Ll ?_))
    refine LW.call0 rfl rfl (equal_ret (st.drop (st.length - nd.kids.length)) nd.kids _ _ w6 (Own.from_ ho (by omega) (by omega)) hk) ?_
    rintro v w7 ⟨rfl, hx7⟩
    (repeat (first | refine La ?_ | refine Lb ?_ | refine Lc ?_ | refine Ld ?_ | refine Le ?_ | refine Lf ?_ | refine Lg ?_ | refine Lh ?_ | refine Li ?_ | refine Lj ?_ | refine Lk ?_ | refine Ll ?_))
    apply LW.nil
    replace hC := hC.ext hx7
    replace hk := hk.ext hx7
    replace ho := ho.ext hx7
    replace hx := hx.trans hx7
    refine QW.held hC ?_
    by_cases n3 : st.drop (st.length - nd.kids.length) = nd.kids
    case neg =>
      refine HW.know (t := 44) (c := false) rfl (by simpa using n3) ?_
      refine HW.takeW 16 rfl rfl rfl rfl (fun w _ => Y.pure rfl) rfl (by kernel_rfl) (by kernel_rfl) (by kernel_rfl) (fun _ _ _ h => h) ?_
      refine HW.take 17 rfl rfl rfl rfl (fun w _ => Y.pure rfl) rfl (by kernel_rfl) (by kernel_rfl) (by kernel_rfl) (fun _ _ _ h => h) ?_
      refine HW.take 18 rfl rfl rfl rfl (fun w _ => Y.pure rfl) rfl (by kernel_rfl) (by kernel_rfl) (by kernel_rfl) (fun _ _ _ h => h) ?_
      refine HW.skip 19 rfl rfl rfl rfl rfl rfl rfl rfl (by kernel_rfl) (by kernel_rfl) (by kernel_rfl) (fun _ _ _ h => h) ?_
      refine HW.one 20 (by kernel_rfl) rfl rfl (fun hS => ?_)
      (repeat (first | refine La ?_ | refine Lb ?_ | refine Lc ?_ | refine Ld ?_ | refine Le ?_ | refine Lf ?_ | refine Lg ?_ | refine Lh ?_ | refine Li ?_ | refine Lj ?_ | refine Lk ?_ | refine Ll ?_))
      apply LW.nil
      refine QW.held hS ?_
      refine HW.skip 21 rfl rfl rfl rfl rfl rfl rfl rfl (by kernel_rfl) (by kernel_rfl) (by kernel_rfl) (fun _ _ _ h => h) ?_
      refine HW.take 22 rfl rfl rfl rfl (fun w _ => Y.pure rfl) rfl (by kernel_rfl) (by kernel_rfl) (by kernel_rfl) (fun _ _ _ h => h) ?_
      refine HW.done (by kernel_rfl) ?_
      (repeat (first | refine La ?_ | refine Lb ?_ | refine Lc ?_ | refine Ld ?_ | refine Le ?_ | refine Lf ?_ | refine Lg ?_ | apply LW.nil | apply QW.then_n | apply QW.round | apply RW.succ | apply CW.seq | apply CW.region | apply CW.skip | apply CW.block | apply CW.ret | apply CW.exit | apply QW.then_ret | apply QW.then_exit | apply QW.blk_n | apply QW.blk_ret | apply QW.blk_exit | refine Ca ?_ | refine Cb ?_ | refine Cc ?_ | refine Lh ?_ | refine Li ?_ | refine Lj ?_ | refine Lk ?_ | refine Ll ?_))
      refine QW.body1 Tryd.results33 rfl ⟨?_, hx⟩
      rw [treeB, heq, hstep (fun h => n3 h.2.2.1)]
    refine HW.know (t := 44) (c := true) rfl (by simpa using n3) ?_
    refine HW.takeW 16 rfl rfl rfl rfl (fun w _ => Y.pure rfl) rfl (by kernel_rfl) (by kernel_rfl) (by kernel_rfl) (fun _ _ _ h => h) ?_
    refine HW.take 17 rfl rfl rfl rfl (fun w _ => Y.pure rfl) rfl (by kernel_rfl) (by kernel_rfl) (by kernel_rfl) (fun _ _ _ h => h) ?_
    refine HW.take 18 rfl rfl rfl rfl (fun w _ => Y.pure rfl) rfl (by kernel_rfl) (by kernel_rfl) (by kernel_rfl) (fun _ _ _ h => h) ?_
    refine HW.takeW 19 rfl rfl rfl rfl (fun w hw => Y.load_all rfl hw rfl rfl rfl) rfl (by kernel_rfl) (by kernel_rfl) (by kernel_rfl) (fun _ _ _ h => h) ?_
    refine HW.one 20 (by kernel_rfl) rfl rfl (fun hS => ?_)
    (repeat (first | refine La ?_ | refine Lb ?_ | refine Lc ?_ | refine Ld ?_ | refine Le ?_ | refine Lf ?_ | refine Lg ?_ | refine Lh ?_ | refine Li ?_ | refine Lj ?_ | refine Lk ?_ | refine Ll ?_))
    refine LW.call0 rfl rfl (plain_ret nd kp nd.kids.length kc w7 (g.ext hx) hs1 hs2 hs3) ?_
    rintro v w8 ⟨rfl, hx8⟩
    (repeat (first | refine La ?_ | refine Lb ?_ | refine Lc ?_ | refine Ld ?_ | refine Le ?_ | refine Lf ?_ | refine Lg ?_ | refine Lh ?_ | refine Li ?_ | refine Lj ?_ | refine Lk ?_ | refine Ll ?_))
    apply LW.nil
    replace hC := hC.ext hx8
    replace ho := ho.ext hx8
    replace hx := hx.trans hx8
    refine QW.held hC ?_
    by_cases n4 : plainB nd = true
    case neg =>
      refine HW.know (t := 49) (c := false) rfl (by simpa using n4) ?_
      refine HW.takeW 21 rfl rfl rfl rfl (fun w _ => Y.pure rfl) rfl (by kernel_rfl) (by kernel_rfl) (by kernel_rfl) (fun _ _ _ h => h) ?_
      refine HW.take 22 rfl rfl rfl rfl (fun w _ => Y.pure rfl) rfl (by kernel_rfl) (by kernel_rfl) (by kernel_rfl) (fun _ _ _ h => h) ?_
      refine HW.done (by kernel_rfl) ?_
      (repeat (first | refine La ?_ | refine Lb ?_ | refine Lc ?_ | refine Ld ?_ | refine Le ?_ | refine Lf ?_ | refine Lg ?_ | apply LW.nil | apply QW.then_n | apply QW.round | apply RW.succ | apply CW.seq | apply CW.region | apply CW.skip | apply CW.block | apply CW.ret | apply CW.exit | apply QW.then_ret | apply QW.then_exit | apply QW.blk_n | apply QW.blk_ret | apply QW.blk_exit | refine Ca ?_ | refine Cb ?_ | refine Cc ?_ | refine Lh ?_ | refine Li ?_ | refine Lj ?_ | refine Lk ?_ | refine Ll ?_))
      refine QW.body1 Tryd.results33 rfl ⟨?_, hx⟩
      rw [treeB, heq, hstep (fun h => n4 h.2.2.2)]
    refine HW.know (t := 49) (c := true) rfl n4 ?_
    refine HW.takeW 21 rfl rfl rfl rfl (fun w _ => Y.pure rfl) rfl (by kernel_rfl) (by kernel_rfl) (by kernel_rfl) (fun _ _ _ h => h) ?_
    refine HW.take 22 rfl rfl rfl rfl (fun w _ => Y.pure rfl) rfl (by kernel_rfl) (by kernel_rfl) (by kernel_rfl) (fun _ _ _ h => h) ?_
    refine HW.done (by kernel_rfl) ?_
    (repeat (first | refine La ?_ | refine Lb ?_ | refine Lc ?_ | refine Ld ?_ | refine Le ?_ | refine Lf ?_ | refine Lg ?_ | apply LW.nil | apply QW.then_n | apply QW.round | apply RW.succ | apply CW.seq | apply CW.region | apply CW.skip | apply CW.block | apply CW.ret | apply CW.exit | apply QW.then_ret | apply QW.then_exit | apply QW.blk_n | apply QW.blk_ret | apply QW.blk_exit | refine Ca ?_ | refine Cb ?_ | refine Cc ?_ | refine Lh ?_ | refine Li ?_ | refine Lj ?_ | refine Lk ?_ | refine Ll ?_))
    refine LW.slice_to (i := st.length - nd.kids.length) rfl (by show some (Value.int .i64 _) = some (Value.int .i64 _); congr 2; omega) (by show some (Value.int .i64 _) = some (Value.int .i64 _); congr 2; omega) rfl rfl rfl ?_ rfl ?_
    · have := Own.cap_ ho; omega
    (repeat (first | refine La ?_ | refine Lb ?_ | refine Lc ?_ | refine Ld ?_ | refine Le ?_ | refine Lf ?_ | refine Lg ?_ | apply LW.nil | apply QW.then_n | apply QW.round | apply RW.succ | apply CW.seq | apply CW.region | apply CW.skip | apply CW.block | apply CW.ret | apply CW.exit | apply QW.then_ret | apply QW.then_exit | apply QW.blk_n | apply QW.blk_ret | apply QW.blk_exit | refine Ca ?_ | refine Cb ?_ | refine Cc ?_ | refine Lh ?_ | refine Li ?_ | refine Lj ?_ | refine Lk ?_ | refine Ll ?_))
    (apply LW.buildSlice; exact rfl; exact rfl; exact rfl; exact rfl; exact rfl; exact rfl; exact rfl; exact rfl; exact rfl; intro B w9 hbB hx9 hB)
    replace ho := ho.ext hx9
    replace hx := hx.trans hx9
    refine LW.append_full (xs := icells (st.take (st.length - nd.kids.length))) (lo := w.heap.size) rfl rfl rfl rfl rfl (by exact rfl) ?_ (Own.cells ho (by omega)) hx.size hB (by exact rfl) (by exact rfl) (by exact rfl) ?_ rfl fun v' w10 hx10 ho10 => ?_
    · rw [icells_len, List.length_take]
      show _ = (st.length - nd.kids.length) * 1
      omega
    · show (st.length - nd.kids.length + 1) * (8 + 1) ≤ _
      omega
    (repeat (first | refine La ?_ | refine Lb ?_ | refine Lc ?_ | refine Ld ?_ | refine Le ?_ | refine Lf ?_ | refine Lg ?_ | apply LW.nil | apply QW.then_n | apply QW.round | apply RW.succ | apply CW.seq | apply CW.region | apply CW.skip | apply CW.block | apply CW.ret | apply CW.exit | apply QW.then_ret | apply QW.then_exit | apply QW.blk_n | apply QW.blk_ret | apply QW.blk_exit | refine Ca ?_ | refine Cb ?_ | refine Cc ?_ | refine Lh ?_ | refine Li ?_ | refine Lj ?_ | refine Lk ?_ | refine Ll ?_))
    obtain ⟨p', c', rfl⟩ := ho10.slice
    have e1 : icells (st.take (st.length - nd.kids.length)) ++ [.int .i64 (i : Int)] = icells (st.take (st.length - nd.kids.length) ++ [(i : Int)]) := by simp [icells]
    have e2 : (st.take (st.length - nd.kids.length) ++ [(i : Int)]).length = st.length - nd.kids.length + 1 := by simp [List.length_take]
    refine QW.again (i + 1, st.take (st.length - nd.kids.length) ++ [(i : Int)], p', c') ⟨by omega, by rw [e2]; omega, hx.trans hx10, ?_, ?_⟩ ?_ (by omega)
    · rw [heq, hdrop, treeGo, treeStep, if_pos ⟨n1, n2, n3, n4⟩]
    · dsimp only
      rw [e2, ← e1]
      exact ho10
    · dsimp only
      rw [e2]
      exact (Sub.cons rfl (Sub.cons rfl (Sub.cons rfl (Sub.cons rfl (Sub.nil)))))
  · have h1 : i = l.length := by simp at h1; omega
    subst h1
    (repeat (first | refine La ?_ | refine Lb ?_ | refine Lc ?_ | refine Ld ?_ | refine Le ?_ | refine Lf ?_ | refine Lg ?_ | apply LW.nil | apply QW.then_n | apply QW.round | apply RW.succ | apply CW.seq | apply CW.region | apply CW.skip | apply CW.block | apply CW.ret | apply CW.exit | apply QW.then_ret | apply QW.then_exit | apply QW.blk_n | apply QW.blk_ret | apply QW.blk_exit | refine Ca ?_ | refine Cb ?_ | refine Cc ?_ | refine Lh ?_ | refine Li ?_ | refine Lj ?_ | refine Lk ?_ | refine Ll ?_))
    refine QW.body1 Tryd.results33 rfl ⟨?_, hx⟩
    rw [List.drop_length] at heq
    rw [treeB, heq]
    have : decide ((st.length : Int) = 1) = decide (st.length = 1) := decide_eq_decide.mpr (by omega)
    exact congrArg Value.bool this
end Go.Proofs.YtfpklhgkndnjjaaDoor
