/-
  The engine, more: pieces of slices, slices that lie anywhere.
-/
import Derived.Test.YtiloogjageledaaGreatDoorEngD
import Derived.OrdersHeld
namespace Go.E
open Go

variable {P : Program}

section
variable {Q : Exit → Act → World → Prop} {D : List Deferred} {n : Nat} {E : Env} {w : World} {l rest : List Oper} [Tab P] {x y : Operand} {t T e : TypeId} {r r' : TRow} {d : Nat} {pos : String} {af : Array Edge} {v : Value}

omit [Tab P] in
theorem elem_of (h : P.underlying t = some (.slice e)) : P.elem t = e := by simp [Program.elem, h]
/-- 's[i:]'. -/
theorem Y.slice_from {lo : Operand} {k : IntKind} {p : Option Addr} {m c i : Nat} (hx : ev E x = some (.slice p m c)) (hl : ev E lo = some (.int k (i : Int))) (ht : Tab.row P t = some r) (hr : r.desc = .slice e) (he : Tab.row P e = some r') (hi : i ≤ m) :
    Y P D n E w { dst := some d, op := .slice t x (some lo) none none, type := T, pos, after := af, guard := none } (.slice (if c = i then p else p.map (·.add (i * r'.size))) (m - i) (c - i)) := fun a ha => by
  have hu := under_slice ht hr
  have hu' : P.underlying t = some (.slice (P.elem t)) := by rw [elem_of hu]; exact hu
  have e1 : (Instr.sliceAt t (.slice p m c) (some (.int k (i : Int))) none none).run P w = .ok (.slice (if c = i then p else p.map (·.add (i * r'.size))) (m - i) (c - i)) w := by
    rw [run_sliceAt_slice w t _ _ _ _ hu']
    rw [run_slice_any w t p m c hu']
    have hb : (Instr.sliceBounds true m c (some (.int k (i : Int))) none none).run P w = .ok (i, m, c) w := by
      simp [Instr.sliceBounds, Instr.sliceBound, asIntOf, hi]
    rw [hb, elem_of hu]
    simp only [Result.andThen_ok, run_size he, sliced]
  simp only [execOp, ha.eval hx, ha.eval hl, Option.map_some, Option.map_none, Sem.run_bind, e1, Result.andThen_ok, Sem.run_pure]
/-- 's[:i:i]'. -/
theorem Y.slice_to {hi mx : Operand} {k k' : IntKind} {p : Option Addr} {m c i : Nat} (hx : ev E x = some (.slice p m c)) (hl : ev E hi = some (.int k (i : Int))) (hl' : ev E mx = some (.int k' (i : Int))) (ht : Tab.row P t = some r) (hr : r.desc = .slice e) (he : Tab.row P e = some r') (hi' : i ≤ c) :
    Y P D n E w { dst := some d, op := .slice t x none (some hi) (some mx), type := T, pos, after := af, guard := none } (.slice p i i) := fun a ha => by
  have hu := under_slice ht hr
  have hu' : P.underlying t = some (.slice (P.elem t)) := by rw [elem_of hu]; exact hu
  have e0 : p.map (·.add 0) = p := by cases p <;> simp [Addr.add]
  have e1 : (Instr.sliceAt t (.slice p m c) none (some (.int k (i : Int))) (some (.int k' (i : Int)))).run P w = .ok (.slice p i i) w := by
    rw [run_sliceAt_slice w t _ _ _ _ hu', run_slice_any w t p m c hu']
    have hb : (Instr.sliceBounds true m c none (some (.int k (i : Int))) (some (.int k' (i : Int)))).run P w = .ok (0, i, i) w := by
      simp [Instr.sliceBounds, Instr.sliceBound, asIntOf, hi']
    rw [hb, elem_of hu]
    simp only [Result.andThen_ok, run_size he, sliced, Nat.zero_mul, e0, ite_self, Nat.sub_zero]
  simp only [execOp, ha.eval hx, ha.eval hl, ha.eval hl', Option.map_some, Option.map_none, Sem.run_bind, e1, Result.andThen_ok, Sem.run_pure]
theorem LW.slice_to {hi mx : Operand} {k k' : IntKind} {p : Option Addr} {m c i : Nat} (hx : ev E x = some (.slice p m c)) (hl : ev E hi = some (.int k (i : Int))) (hl' : ev E mx = some (.int k' (i : Int))) (ht : Tab.row P t = some r) (hr : r.desc = .slice e) (he : Tab.row P e = some r') (hi' : i ≤ c) (hn : Nat.blt d n = true)
    (h : LW P l Q rest D n ((d, .slice p i i) :: E) w) : LW P l Q ({ dst := some d, op := .slice t x none (some hi) (some mx), type := T, pos, after := af, guard := none } :: rest) D n E w := LW.val rfl rfl hn (Y.slice_to hx hl hl' ht hr he hi') h

/-- A load of a struct that lies anywhere. -/
theorem Y.load_cells {a0 : Addr} {cs : List Value} (hx : ev E x = some (.pointer (some a0))) (hc : ∀ j u, cs[j]? = some u → w.cell? (a0.add j) = some u) (ht : Tab.row P t = some r) (hr : isAggD r.desc = true) (hs : r.size = cs.length) : Y P D n E w { dst := some d, op := .load t x, type := T, pos, after := af, guard := none } (.agg ⟨cs⟩) :=
  (fun _ ha => by
    have hl : (loadVar t a0).run P w = .ok (.agg ⟨cs⟩) w := by
      unfold loadVar
      rw [Sem.run_bind, run_isAgg ht]
      simp only [hr, Result.andThen_ok, if_true, Sem.run_bind, run_size ht, hs]
      rw [run_loadCells_list w a0 cs hc]
      rfl
    simp only [execOp, ha.eval hx, Instr.loadAt, Instr.sureAddr, Sem.run_bind, Sem.run_pure, Result.andThen_ok, hl])
theorem LW.load_cells {a0 : Addr} {cs : List Value} (hx : ev E x = some (.pointer (some a0))) (hc : ∀ j u, cs[j]? = some u → w.cell? (a0.add j) = some u) (ht : Tab.row P t = some r) (hr : isAggD r.desc = true) (hs : r.size = cs.length) (hn : Nat.blt d n = true)
    (h : LW P l Q rest D n ((d, .agg ⟨cs⟩) :: E) w) : LW P l Q ({ dst := some d, op := .load t x, type := T, pos, after := af, guard := none } :: rest) D n E w := LW.val rfl rfl hn (Y.load_cells hx hc ht hr hs) h

/-- An append to a piece that has no room left: new memory. -/
theorem LW.append_full {p : Option Addr} {k m b c lo : Nat} {xs news : List Value} {T' : TypeId} (hx : ev E x = some (.slice p k k)) (hy : ev E y = some (.slice (some ⟨b, 0, none⟩) m c)) (ht : Tab.row P t = some r) (hr : r.desc = .slice e) (he : Tab.row P e = some r') (hz : Nat.beq r'.zero.cells.size r'.size = true)
    (hxl : xs.length = k * r'.size) (hp : p = none ∧ k = 0 ∨ ∃ a, p = some a ∧ ∀ j u, xs[j]? = some u → w.cell? (a.add j) = some u) (hlo : lo ≤ w.heap.size) (hB : Blk w b news T') (hl : Nat.beq news.length (m * r'.size) = true) (h1 : news.all (·.oneCell') = true) (hm : Nat.blt 0 m = true) (hby : (k + m) * (r'.bytes + 1) ≤ 140737488355328) (hn : Nat.blt d n = true)
    (h : ∀ v' w', Ext w w' → Own w' lo e r'.size v' (k + m) (xs ++ news) → LW P l Q rest D n ((d, v') :: E) w') :
    LW P l Q ({ dst := some d, op := .call { callee := .builtin .append, args := #[x, y], argTypes := #[t, t] }, type := T, pos, after := af, guard := none } :: rest) D n E w := by
  have h2 : (k + m) * (r'.bytes + 1) = (k + m) * r'.bytes + (k + m) := by rw [Nat.mul_add, Nat.mul_one]
  obtain ⟨d0, hd, hb, i, hi, hiz, his, hib⟩ := Tab.ok e r' he
  have hu := under_slice ht hr
  have hzs : r'.zero.cells.size = r'.size := Nat.eq_of_beq_eq_true hz
  have hml : news.length = m * r'.size := Nat.eq_of_beq_eq_true hl
  have hm0 : 0 < m := Nat.le_of_ble_eq_true hm
  have key : ∃ v' w', (Builtin.append_ #[t, t] T #[.slice p k k, .slice (some ⟨b, 0, none⟩) m c]).run P w = .ok v' w' ∧ Ext w w' ∧ Own w' lo e r'.size v' (k + m) (xs ++ news) := by
    rcases hp with ⟨rfl, rfl⟩ | ⟨a, rfl, hc⟩
    · have hx0 : xs = [] := by cases xs with
        | nil => rfl
        | cons a b => simp at hxl
      subst hx0
      obtain ⟨v', w', e1, e2, e3, _⟩ := run_app (c := c) ht hr he hz (Own.nil w lo e r'.size) hlo hB hml (by simpa using h1) hm0 (by omega) (by omega) T
      exact ⟨v', w', e1, e2.mono (by simp [vblk]), e3⟩
    · have hrun := run_append_grow (P := P) w t T e i r'.zero hu hi hiz a k k xs (by rw [his]; exact hxl) hc ⟨b, 0, none⟩ m c news (by rw [his]; exact hml) hB.getElem (by omega) (by omega) (by rw [hib]; exact growslice_fits (by omega) (by omega))
      refine ⟨_, _, hrun, ((Ext.drew w).trans (Ext.alloc _ _)).mono (by simp), ⟨by simp [hxl, hml, Nat.add_mul], .inr ⟨w.heap.size, _, (Builtin.zeroCells r'.zero.cells (grownCap w (k + m) k e - (k + m))).toList, rfl, ?_, grownCap_ge w (k + m) k e, ?_, hlo⟩⟩⟩
      · have := Blk.alloc w.drew (xs ++ news ++ (Builtin.zeroCells r'.zero.cells (grownCap w (k + m) k e - (k + m))).toList) e
        have ea : xs.toArray ++ news.toArray ++ Builtin.zeroCells r'.zero.cells (grownCap w (k + m) k e - (k + m)) = (⟨xs ++ news ++ (Builtin.zeroCells r'.zero.cells (grownCap w (k + m) k e - (k + m))).toList⟩ : Array Value) := by
          apply Array.ext'
          simp
        rw [ea]
        exact this
      · rw [zeroCells_length, hzs]
  obtain ⟨v', w', hrun, hc, ho⟩ := key
  refine LW.val (w' := w') (v := v') rfl rfl hn (fun a ha => ?_) (h v' w' hc ho)
  unfold execOp
  simp only [resolve, invoke, builtin, Sem.run_bind, Sem.run_pure, Result.andThen_ok, List.map_toArray, List.map_cons, List.map_nil, ha.eval hx, ha.eval hy, hrun]
end

/-! ### A region whose order is open, where what is read stands fast -/

def HW (P : Program) (S : World → Prop) (l : List Oper) (Q : Exit → Act → World → Prop) (f : Nat) (listed : List Bool) (D : List Deferred) (n : Nat) (E : Env) (w : World) : Prop :=
  ∀ a, Holds a D n E → S w → wpAnyH P .any l.toArray Q S f ⟨listed⟩ a w

section
variable {S : World → Prop} {Q : Exit → Act → World → Prop} {D : List Deferred} {n f : Nat} {E : Env} {w : World} {l : List Oper} {ls : List Bool}
theorem CW.drawHeld {t : Nat} (S : World → Prop) (hS : ∀ w', Ext w w' → S w') (hm : P.follows .mixedOrders = true) (h : ∀ w', Ext w w' → HW P S l Q l.length (List.replicate l.length false) D n E w') : CW P (.region t l.toArray true) Q D n E w := by
  unfold CW
  exact fun a ha => wp_region_held (S := S) hm (by
    have := h _ (Ext.drew w) a ha (hS _ (Ext.drew w))
    have e : (⟨List.replicate l.length false⟩ : Array Bool) = Array.replicate l.toArray.size false := by simp
    rw [e] at this
    simpa using this)
theorem set_list (ls : List Bool) (i : Nat) : (⟨ls⟩ : Array Bool).setIfInBounds i true = ⟨ls.set i true⟩ := by apply Array.ext'; simp
theorem HW.know {t : Nat} {b c : Bool} (ht : look E t = some (.bool b)) (hb : b = c) (h : HW P S l Q f ls D n ((t, .bool c) :: E) w) : HW P S l Q f ls D n E w := fun a ha => h a (ha.sub (Sub.know ht hb))
theorem HW.take (i : Nat) {o : Oper} {v : Value} {d : Nat} {ls' : List Bool} (hi : l[i]? = some o) (hg : o.guard = none) (hd : o.dst = some d) (hn : Nat.blt d n = true) (hy : ∀ w, S w → Y P D n E w o v) (hl : ls.set i true = ls') (hs : Region.noSelect l.toArray = true)
    (hf : Region.free .any l.toArray ⟨ls⟩ i = true) (hr : (Region.ready .any l.toArray ⟨ls⟩).contains i = true) (ht : ∀ c a w, Q (.panic c) (a.put o.dst v) w → Q (.panic c) a w)
    (h : HW P S l Q f ls' D n ((d, v) :: E) w) : HW P S l Q (f + 1) ls D n E w := fun a ha hS => by
  subst hl
  refine wpAnyH_take (oi := o) (v := v) (by simpa using hi) hs hf hr ht (.inl ⟨by simp [Region.wanted, hg], fun w hw => hy w hw a ha⟩) hS ?_
  rw [set_list, hd]
  exact h _ (ha.put d v hn) hS
theorem HW.takeW (i : Nat) {op : Op} {T : TypeId} {pos : String} {af : Array Edge} {v : Value} {d j t : Nat} {b : Bool} {ls' : List Bool} (hi : l[i]? = some { dst := some d, op, type := T, pos, after := af, guard := some (j, b) }) (hn : Nat.blt d n = true) (hj : dstAt l j = some t) (hb : look E t = some (.bool b))
    (hy : ∀ w, S w → Y P D n E w { dst := some d, op, type := T, pos, after := af, guard := none } v) (hl : ls.set i true = ls') (hs : Region.noSelect l.toArray = true)
    (hf : Region.free .any l.toArray ⟨ls⟩ i = true) (hr : (Region.ready .any l.toArray ⟨ls⟩).contains i = true) (ht : ∀ c a w, Q (.panic c) (a.put (some d) v) w → Q (.panic c) a w)
    (h : HW P S l Q f ls' D n ((d, v) :: E) w) : HW P S l Q (f + 1) ls D n E w := fun a ha hS => by
  subst hl
  have hyy := yielded_of (l := l) ha hj hb
  refine wpAnyH_take (oi := { dst := some d, op, type := T, pos, after := af, guard := some (j, b) }) (v := v) (by simpa using hi) hs hf hr ht (.inl ⟨by simp [Region.wanted, hyy], fun w hw => hy w hw a ha⟩) hS ?_
  rw [set_list]
  exact h _ (ha.put d v hn) hS
theorem HW.skip (i : Nat) {o : Oper} {d j t : Nat} {b c : Bool} {ls' : List Bool} (hi : l[i]? = some o) (hg : o.guard = some (j, b)) (hd : o.dst = some d) (hn : Nat.blt d n = true) (hj : dstAt l j = some t) (hb : look E t = some (.bool c)) (hne : (c == b) = false) (hl : ls.set i true = ls') (hs : Region.noSelect l.toArray = true)
    (hf : Region.free .any l.toArray ⟨ls⟩ i = true) (hr : (Region.ready .any l.toArray ⟨ls⟩).contains i = true) (ht : ∀ c a w, Q (.panic c) (a.put o.dst undef) w → Q (.panic c) a w)
    (h : HW P S l Q f ls' D n ((d, undef) :: E) w) : HW P S l Q (f + 1) ls D n E w := fun a ha hS => by
  subst hl
  have hyy := yielded_of (l := l) ha hj hb
  have hw : Region.wanted o (yielded l.toArray a.tmps) = false := by
    simp only [Region.wanted, hg, hyy]
    cases c <;> cases b <;> first | rfl | cases hne
  refine wpAnyH_take (oi := o) (v := undef) (by simpa using hi) hs hf hr ht (.inr ⟨hw, rfl⟩) hS ?_
  rw [set_list, hd]
  exact h _ (ha.put d _ hn) hS
theorem HW.one (i : Nat) {o : Oper} {ls' : List Bool} (hr : Region.ready .any l.toArray ⟨ls⟩ = [i]) (hi : l[i]? = some o) (hl : ls.set i true = ls') (h : S w → LW P l (Exit.then (fun a w' => S w' ∧ wpAnyH P .any l.toArray Q S f ⟨ls'⟩ a w') Q) [o] D n E w) : HW P S l Q (f + 1) ls D n E w := fun a ha hS => by
  subst hl
  refine wpAnyH_all hr (by simp) fun j hj => ?_
  simp only [List.mem_singleton] at hj
  subst hj
  have h0 := h hS
  unfold LW at h0
  have h1 := h0 a ha
  rw [set_list]
  have hi' : l.toArray[j]? = some o := by simpa using hi
  unfold wpOp
  simp only [hi']
  unfold wpList at h1
  split
  · rename_i hw
    rw [if_pos hw] at h1
    exact h1.imp wp_then (fun hh => hh)
  · rename_i hw
    rw [if_neg hw] at h1
    unfold wpList at h1
    exact h1
theorem QW.held {Q' : Exit → Act → World → Prop} (hS : S w) (h : HW P S l Q f ls D n E w) : QW (Exit.then (fun a w' => S w' ∧ wpAnyH P .any l.toArray Q S f ⟨ls⟩ a w') Q') .normal D n E w := by
  unfold QW; exact fun a ha => ⟨hS, h a ha hS⟩
theorem HW.done (hr : Region.ready .any l.toArray ⟨ls⟩ = []) (h : QW Q .normal D n E w) : HW P S l Q f ls D n E w := by
  unfold QW at h; exact fun a ha _ => wpAnyH_done hr (h a ha) f
end
def nextI : List Bool → Nat
  | [] => 0
  | false :: _ => 0
  | true :: r => nextI r + 1
section
variable {S : World → Prop} {Q : Exit → Act → World → Prop} {D : List Deferred} {n f d j t : Nat} {E : Env} {w : World} {l : List Oper} {ls ls' : List Bool} {o : Oper} {v : Value} {op : Op} {T : TypeId} {pos : String} {af : Array Edge}
theorem Ha [Tab P] (h : HW P S l Q f ls' D n ((d, v) :: E) w) (hi : l[nextI ls]? = some { dst := some d, op, type := T, pos, after := af, guard := none } := by exact rfl) (hn : Nat.blt d n = true := by exact rfl) (hv : pureOp P E op = some v := by exact rfl) (hl : ls.set (nextI ls) true = ls' := by exact rfl) (hs : Region.noSelect l.toArray = true := by kernel_rfl)
    (hf : Region.free .any l.toArray ⟨ls⟩ (nextI ls) = true := by kernel_rfl) (hr : (Region.ready .any l.toArray ⟨ls⟩).contains (nextI ls) = true := by kernel_rfl) (ht : ∀ c a w, Q (.panic c) (a.put (some d) v) w → Q (.panic c) a w := by exact fun _ _ _ h => h) : HW P S l Q (f + 1) ls D n E w := HW.take _ hi rfl rfl hn (fun _ _ => Y.pure hv) hl hs hf hr ht h
theorem Hl [Tab P] {u T' : TypeId} {x : Operand} {k i : Nat} {L : List Value} {r : TRow} (h : HW P S l Q f ls' D n ((d, v) :: E) w) (hi : l[nextI ls]? = some { dst := some d, op := .load u x, type := T, pos, after := af, guard := none } := by exact rfl) (hn : Nat.blt d n = true := by exact rfl) (hx : ev E x = some (.pointer (some ⟨k, i, none⟩)) := by exact rfl) (hB : ∀ w, S w → Blk w k L T' := by first | exact fun w hw => hw | exact fun w hw => Blk.ext (by assumption) hw) (hi' : L[i]? = some v := by exact rfl) (hu : Tab.row P u = some r := by exact rfl) (hr' : isAggD r.desc = false := by exact rfl) (hl : ls.set (nextI ls) true = ls' := by exact rfl) (hs : Region.noSelect l.toArray = true := by kernel_rfl)
    (hf : Region.free .any l.toArray ⟨ls⟩ (nextI ls) = true := by kernel_rfl) (hr : (Region.ready .any l.toArray ⟨ls⟩).contains (nextI ls) = true := by kernel_rfl) (ht : ∀ c a w, Q (.panic c) (a.put (some d) v) w → Q (.panic c) a w := by exact fun _ _ _ h => h) : HW P S l Q (f + 1) ls D n E w := HW.take _ hi rfl rfl hn (fun w hw => Y.load hx (hB w hw) hi' hu hr') hl hs hf hr ht h
theorem Hg [Tab P] {u T' : TypeId} {x : Operand} {k : Nat} {L : List Value} {r : TRow} (h : HW P S l Q f ls' D n ((d, .agg ⟨L⟩) :: E) w) (hi : l[nextI ls]? = some { dst := some d, op := .load u x, type := T, pos, after := af, guard := none } := by exact rfl) (hn : Nat.blt d n = true := by exact rfl) (hx : ev E x = some (.pointer (some ⟨k, 0, none⟩)) := by exact rfl) (hB : ∀ w, S w → Blk w k L T' := by first | exact fun w hw => hw | exact fun w hw => Blk.ext (by assumption) hw) (hu : Tab.row P u = some r := by exact rfl) (hr' : isAggD r.desc = true := by exact rfl) (hz : Nat.beq r.size L.length = true := by exact rfl) (hl : ls.set (nextI ls) true = ls' := by exact rfl) (hs : Region.noSelect l.toArray = true := by kernel_rfl)
    (hf : Region.free .any l.toArray ⟨ls⟩ (nextI ls) = true := by kernel_rfl) (hr : (Region.ready .any l.toArray ⟨ls⟩).contains (nextI ls) = true := by kernel_rfl) (ht : ∀ c a w, Q (.panic c) (a.put (some d) (.agg ⟨L⟩)) w → Q (.panic c) a w := by exact fun _ _ _ h => h) : HW P S l Q (f + 1) ls D n E w := HW.take _ hi rfl rfl hn (fun w hw => Y.load_all hx (hB w hw) hu hr' hz) hl hs hf hr ht h
theorem Hc [Tab P] {C : Prop} (h : HW P S l Q f ls' D n ((d, v) :: E) w) (hi : l[nextI ls]? = some { dst := some d, op, type := T, pos, after := af, guard := none } := by exact rfl) (hn : Nat.blt d n = true := by exact rfl) (hv : opC P E op = some (v, C) := by exact rfl) (hC : C := by first | omega | exact ⟨by omega, by omega⟩ | exact ⟨by omega, by omega, by omega⟩ | (simp <;> omega)) (hl : ls.set (nextI ls) true = ls' := by exact rfl) (hs : Region.noSelect l.toArray = true := by kernel_rfl)
    (hf : Region.free .any l.toArray ⟨ls⟩ (nextI ls) = true := by kernel_rfl) (hr : (Region.ready .any l.toArray ⟨ls⟩).contains (nextI ls) = true := by kernel_rfl) (ht : ∀ c a w, Q (.panic c) (a.put (some d) v) w → Q (.panic c) a w := by exact fun _ _ _ h => h) : HW P S l Q (f + 1) ls D n E w := HW.take _ hi rfl rfl hn (fun _ _ => Y.go hv hC) hl hs hf hr ht h
theorem Hwa [Tab P] (h : HW P S l Q f ls' D n ((d, v) :: E) w) {b : Bool} (hi : l[nextI ls]? = some { dst := some d, op, type := T, pos, after := af, guard := some (j, b) } := by exact rfl) (hn : Nat.blt d n = true := by exact rfl) (hj : dstAt l j = some t := by exact rfl) (hb : look E t = some (.bool b) := by exact rfl) (hv : pureOp P E op = some v := by exact rfl) (hl : ls.set (nextI ls) true = ls' := by exact rfl) (hs : Region.noSelect l.toArray = true := by kernel_rfl)
    (hf : Region.free .any l.toArray ⟨ls⟩ (nextI ls) = true := by kernel_rfl) (hr : (Region.ready .any l.toArray ⟨ls⟩).contains (nextI ls) = true := by kernel_rfl) (ht : ∀ c a w, Q (.panic c) (a.put (some d) v) w → Q (.panic c) a w := by exact fun _ _ _ h => h) : HW P S l Q (f + 1) ls D n E w := HW.takeW _ hi hn hj hb (fun _ _ => Y.pure hv) hl hs hf hr ht h
theorem Hwl [Tab P] {u T' : TypeId} {x : Operand} {k i : Nat} {L : List Value} {r : TRow} (h : HW P S l Q f ls' D n ((d, v) :: E) w) {b : Bool} (hi : l[nextI ls]? = some { dst := some d, op := .load u x, type := T, pos, after := af, guard := some (j, b) } := by exact rfl) (hn : Nat.blt d n = true := by exact rfl) (hj : dstAt l j = some t := by exact rfl) (hb : look E t = some (.bool b) := by exact rfl) (hx : ev E x = some (.pointer (some ⟨k, i, none⟩)) := by exact rfl) (hB : ∀ w, S w → Blk w k L T' := by first | exact fun w hw => hw | exact fun w hw => Blk.ext (by assumption) hw) (hi' : L[i]? = some v := by exact rfl) (hu : Tab.row P u = some r := by exact rfl) (hr' : isAggD r.desc = false := by exact rfl) (hl : ls.set (nextI ls) true = ls' := by exact rfl) (hs : Region.noSelect l.toArray = true := by kernel_rfl)
    (hf : Region.free .any l.toArray ⟨ls⟩ (nextI ls) = true := by kernel_rfl) (hr : (Region.ready .any l.toArray ⟨ls⟩).contains (nextI ls) = true := by kernel_rfl) (ht : ∀ c a w, Q (.panic c) (a.put (some d) v) w → Q (.panic c) a w := by exact fun _ _ _ h => h) : HW P S l Q (f + 1) ls D n E w := HW.takeW _ hi hn hj hb (fun w hw => Y.load hx (hB w hw) hi' hu hr') hl hs hf hr ht h
theorem Hwg [Tab P] {u T' : TypeId} {x : Operand} {k : Nat} {L : List Value} {r : TRow} (h : HW P S l Q f ls' D n ((d, .agg ⟨L⟩) :: E) w) {b : Bool} (hi : l[nextI ls]? = some { dst := some d, op := .load u x, type := T, pos, after := af, guard := some (j, b) } := by exact rfl) (hn : Nat.blt d n = true := by exact rfl) (hj : dstAt l j = some t := by exact rfl) (hb : look E t = some (.bool b) := by exact rfl) (hx : ev E x = some (.pointer (some ⟨k, 0, none⟩)) := by exact rfl) (hB : ∀ w, S w → Blk w k L T' := by first | exact fun w hw => hw | exact fun w hw => Blk.ext (by assumption) hw) (hu : Tab.row P u = some r := by exact rfl) (hr' : isAggD r.desc = true := by exact rfl) (hz : Nat.beq r.size L.length = true := by exact rfl) (hl : ls.set (nextI ls) true = ls' := by exact rfl) (hs : Region.noSelect l.toArray = true := by kernel_rfl)
    (hf : Region.free .any l.toArray ⟨ls⟩ (nextI ls) = true := by kernel_rfl) (hr : (Region.ready .any l.toArray ⟨ls⟩).contains (nextI ls) = true := by kernel_rfl) (ht : ∀ c a w, Q (.panic c) (a.put (some d) (.agg ⟨L⟩)) w → Q (.panic c) a w := by exact fun _ _ _ h => h) : HW P S l Q (f + 1) ls D n E w := HW.takeW _ hi hn hj hb (fun w hw => Y.load_all hx (hB w hw) hu hr' hz) hl hs hf hr ht h
theorem Hwc [Tab P] {C : Prop} (h : HW P S l Q f ls' D n ((d, v) :: E) w) {b : Bool} (hi : l[nextI ls]? = some { dst := some d, op, type := T, pos, after := af, guard := some (j, b) } := by exact rfl) (hn : Nat.blt d n = true := by exact rfl) (hj : dstAt l j = some t := by exact rfl) (hb : look E t = some (.bool b) := by exact rfl) (hv : opC P E op = some (v, C) := by exact rfl) (hC : C := by first | omega | exact ⟨by omega, by omega⟩ | exact ⟨by omega, by omega, by omega⟩ | (simp <;> omega)) (hl : ls.set (nextI ls) true = ls' := by exact rfl) (hs : Region.noSelect l.toArray = true := by kernel_rfl)
    (hf : Region.free .any l.toArray ⟨ls⟩ (nextI ls) = true := by kernel_rfl) (hr : (Region.ready .any l.toArray ⟨ls⟩).contains (nextI ls) = true := by kernel_rfl) (ht : ∀ c a w, Q (.panic c) (a.put (some d) v) w → Q (.panic c) a w := by exact fun _ _ _ h => h) : HW P S l Q (f + 1) ls D n E w := HW.takeW _ hi hn hj hb (fun _ _ => Y.go hv hC) hl hs hf hr ht h
theorem Hs {b c : Bool} (h : HW P S l Q f ls' D n ((d, undef) :: E) w) (hi : l[nextI ls]? = some o := by exact rfl) (hg : o.guard = some (j, b) := by exact rfl) (hd : o.dst = some d := by exact rfl) (hn : Nat.blt d n = true := by exact rfl) (hj : dstAt l j = some t := by exact rfl) (hb : look E t = some (.bool c) := by exact rfl) (hne : (c == b) = false := by exact rfl) (hl : ls.set (nextI ls) true = ls' := by exact rfl) (hs : Region.noSelect l.toArray = true := by kernel_rfl)
    (hf : Region.free .any l.toArray ⟨ls⟩ (nextI ls) = true := by kernel_rfl) (hr : (Region.ready .any l.toArray ⟨ls⟩).contains (nextI ls) = true := by kernel_rfl) (ht : ∀ c a w, Q (.panic c) (a.put o.dst undef) w → Q (.panic c) a w := by exact fun _ _ _ h => h) : HW P S l Q (f + 1) ls D n E w := HW.skip _ hi hg hd hn hj hb hne hl hs hf hr ht h
end
attribute [irreducible] HW
/-- Operations in their order, as many as go by themselves. -/
theorem Sh {G G' : Prop} (h : G') (hi : Hd G' → G := by intro h; (repeat (first | refine Ha ?_ | refine Hs ?_ | refine Hwa ?_ | refine Hl ?_ | refine Hwl ?_ | refine Hg ?_ | refine Hwg ?_ | refine Hc ?_ | refine Hwc ?_)); exact h.h) : G := hi ⟨h⟩
end Go.E
