/-
  The engine, more: min; an empty slice made; appends of what lies anywhere, and to pieces without room.
-/
import Derived.Test.YtiloogjageledaaGreatDoorEngG
namespace Go.E
open Go

section
variable {P : Program} [Tab P] {w : World} {lo : Nat} {t e : TypeId} {r r' : TRow} {Q : Exit → Act → World → Prop} {D : List Deferred} {n : Nat} {E : Env} {l rest : List Oper} {x y : Operand} {d T : Nat} {pos : String} {af : Array Edge}
omit [Tab P] in
theorem LW.min2 {k k' : IntKind} {p q : Int} {ts : Array TypeId} (hx : ev E x = some (.int k p)) (hy : ev E y = some (.int k' q)) (hn : Nat.blt d n = true) (h : LW P l Q rest D n ((d, .int k (if q < p then q else p)) :: E) w) :
    LW P l Q ({ dst := some d, op := .call { callee := .builtin .min, args := #[x, y], argTypes := ts }, type := T, pos, after := af, guard := none } :: rest) D n E w := by
  refine LW.val rfl rfl hn (fun a ha => ?_) h
  unfold execOp
  simp [resolve, invoke, builtin, ha.eval hx, ha.eval hy, Builtin.min_, Builtin.min2]
theorem LW.buildSlice0 (ht : Tab.row P t = some r) (hr : r.desc = .slice e) (he : Tab.row P e = some r') (hn : Nat.blt d n = true)
    (h : ∀ b w', b = w.heap.size → Ext w w' → Blk w' b [] e → LW P l Q rest D n ((d, .slice (some ⟨b, 0, none⟩) 0 0) :: E) w') :
    LW P l Q ({ dst := some d, op := .buildSlice t 0 #[], type := T, pos, after := af, guard := none } :: rest) D n E w := by
  have e3 : (Instr.buildSlice t 0 #[]).run P w = .ok (.slice (some ⟨w.heap.size, 0, none⟩) 0 0) (w.alloc (.cells ⟨[]⟩ e)) := by
    unfold Instr.buildSlice
    simp only [Sem.run_bind, run_underlying (under_slice ht hr), Result.andThen_ok, run_size he, Nat.zero_mul, if_true]
    have e5 : (Array.map (fun x => (#[] : Array Value)[x % (#[] : Array Value).size]!) (Array.range 0)) = ⟨[]⟩ := by simp
    rw [if_neg (by decide)]
    simp only [Sem.run_bind, Sem.run_pure, Result.andThen_ok]
    rw [e5]
    rfl
  refine LW.val (w' := w.alloc (.cells ⟨[]⟩ e)) rfl rfl hn (fun a ha => ?_) (h _ _ rfl (Ext.alloc ..) (Blk.alloc ..))
  have e4 : (execOp a.eval { dst := some d, op := .buildSlice t 0 #[], type := T, pos, after := af, guard := none }) = (do Pure.pure (Next.value (← Instr.buildSlice t 0 ((#[] : Array (Nat × Operand)).map (fun x => (x.1, a.eval x.2)))))) := rfl
  rw [e4, show ((#[] : Array (Nat × Operand)).map (fun x => (x.1, a.eval x.2))) = #[] from by simp, Sem.run_bind, e3]
  rfl
/-- An append of cells that lie anywhere, to a slice that a call has made. -/
theorem LW.append_any {v : Value} {k m c : Nat} {p : Option Addr} {xs news : List Value} (hx : ev E x = some v) (hy : ev E y = some (.slice p m c)) (ht : Tab.row P t = some r) (hr : r.desc = .slice e) (he : Tab.row P e = some r') (hz : Nat.beq r'.zero.cells.size r'.size = true)
    (hown : Own w lo e r'.size v k xs) (hlo : lo ≤ w.heap.size) (hl : news.length = m * r'.size) (hp : p = none ∧ m = 0 ∨ ∃ a, p = some a ∧ ∀ j u, news[j]? = some u → w.cell? (a.add j) = some u) (h1 : ∀ u ∈ news, u.oneCell' = true) (hby : (k + m) * (r'.bytes + 1) ≤ 140737488355328) (hn : Nat.blt d n = true)
    (h : ∀ v' w', Chg (vblk v) w w' → Own w' lo e r'.size v' (k + m) (xs ++ news) → (∀ j, j ∈ vblk v' → j ∈ vblk v ∨ w.heap.size ≤ j) → LW P l Q rest D n ((d, v') :: E) w') :
    LW P l Q ({ dst := some d, op := .call { callee := .builtin .append, args := #[x, y], argTypes := #[t, t] }, type := T, pos, after := af, guard := none } :: rest) D n E w := by
  have h2 : (k + m) * (r'.bytes + 1) = (k + m) * r'.bytes + (k + m) := by rw [Nat.mul_add, Nat.mul_one]
  have hu := under_slice ht hr
  have hsrc : Src P r'.size t (.slice p m c) m news w := by
    rcases hp with ⟨rfl, rfl⟩ | ⟨a, rfl, hc⟩
    · have : news = [] := List.eq_nil_of_length_eq_zero (by rw [hl, Nat.zero_mul])
      subst this
      exact Src.ofNil w hu c
    · exact Src.ofSlice w hu a m c news hl hc h1
  obtain ⟨v', w', hrun, hc, ho, hv⟩ := run_app_src ht hr he hz hown hlo hsrc (by omega) (by omega) T
  refine LW.val (w' := w') (v := v') rfl rfl hn (fun a ha => ?_) (h v' w' hc ho hv)
  unfold execOp
  simp only [resolve, invoke, builtin, Sem.run_bind, Sem.run_pure, Result.andThen_ok, List.map_toArray, List.map_cons, List.map_nil, ha.eval hx, ha.eval hy, hrun]
/-- An append to a piece that has no room left: new memory. -/
theorem LW.append_piece {p : Option Addr} {k m b c : Nat} {xs news : List Value} {T' : TypeId} (hx : ev E x = some (.slice p k k)) (hy : ev E y = some (.slice (some ⟨b, 0, none⟩) m c)) (ht : Tab.row P t = some r) (hr : r.desc = .slice e) (he : Tab.row P e = some r') (hz : Nat.beq r'.zero.cells.size r'.size = true)
    (hxl : xs.length = k * r'.size) (hp : p = none ∧ k = 0 ∨ ∃ a, p = some a ∧ ∀ j u, xs[j]? = some u → w.cell? (a.add j) = some u) (hlo : lo ≤ w.heap.size) (hB : Blk w b news T') (hl : Nat.beq news.length (m * r'.size) = true) (h1 : news.all (·.oneCell') = true) (hm : Nat.blt 0 m = true) (hby : (k + m) * (r'.bytes + 1) ≤ 140737488355328) (hn : Nat.blt d n = true)
    (h : ∀ v' w', Ext w w' → Own w' lo e r'.size v' (k + m) (xs ++ news) → (∀ j, j ∈ vblk v' → w.heap.size ≤ j) → LW P l Q rest D n ((d, v') :: E) w') :
    LW P l Q ({ dst := some d, op := .call { callee := .builtin .append, args := #[x, y], argTypes := #[t, t] }, type := T, pos, after := af, guard := none } :: rest) D n E w := by
  have h2 : (k + m) * (r'.bytes + 1) = (k + m) * r'.bytes + (k + m) := by rw [Nat.mul_add, Nat.mul_one]
  obtain ⟨d0, hd, hb, i, hi, hiz, his, hib⟩ := Tab.ok e r' he
  have hu := under_slice ht hr
  have hzs : r'.zero.cells.size = r'.size := Nat.eq_of_beq_eq_true hz
  have hml : news.length = m * r'.size := Nat.eq_of_beq_eq_true hl
  have hm0 : 0 < m := Nat.le_of_ble_eq_true hm
  have key : ∃ v' w', (Builtin.append_ #[t, t] T #[.slice p k k, .slice (some ⟨b, 0, none⟩) m c]).run P w = .ok v' w' ∧ Ext w w' ∧ Own w' lo e r'.size v' (k + m) (xs ++ news) ∧ (∀ j, j ∈ vblk v' → w.heap.size ≤ j) := by
    rcases hp with ⟨rfl, rfl⟩ | ⟨a, rfl, hc⟩
    · have hx0 : xs = [] := by cases xs with
        | nil => rfl
        | cons a b => simp at hxl
      subst hx0
      obtain ⟨v', w', e1, e2, e3, e4⟩ := run_app (c := c) ht hr he hz (Own.nil w lo e r'.size) hlo hB hml (by simpa using h1) hm0 (by omega) (by omega) T
      exact ⟨v', w', e1, e2.mono (by simp [vblk]), e3, fun j hj => (e4 j hj).resolve_left (by simp [vblk])⟩
    · have hrun := run_append_grow (P := P) w t T e i r'.zero hu hi hiz a k k xs (by rw [his]; exact hxl) hc ⟨b, 0, none⟩ m c news (by rw [his]; exact hml) hB.getElem (by omega) (by omega) (by rw [hib]; exact growslice_fits (by omega) (by omega))
      refine ⟨_, _, hrun, ((Ext.drew w).trans (Ext.alloc _ _)).mono (by simp), ⟨by simp [hxl, hml, Nat.add_mul], .inr ⟨w.heap.size, _, (Builtin.zeroCells r'.zero.cells (grownCap w (k + m) k e - (k + m))).toList, rfl, ?_, grownCap_ge w (k + m) k e, ?_, hlo⟩⟩, ?_⟩
      · have := Blk.alloc w.drew (xs ++ news ++ (Builtin.zeroCells r'.zero.cells (grownCap w (k + m) k e - (k + m))).toList) e
        have ea : xs.toArray ++ news.toArray ++ Builtin.zeroCells r'.zero.cells (grownCap w (k + m) k e - (k + m)) = (⟨xs ++ news ++ (Builtin.zeroCells r'.zero.cells (grownCap w (k + m) k e - (k + m))).toList⟩ : Array Value) := by
          apply Array.ext'
          simp
        rw [ea]
        exact this
      · rw [zeroCells_length, hzs]
      · intro j hj
        simp [vblk] at hj
        omega
  obtain ⟨v', w', hrun, hc, ho, hv⟩ := key
  refine LW.val (w' := w') (v := v') rfl rfl hn (fun a ha => ?_) (h v' w' hc ho hv)
  unfold execOp
  simp only [resolve, invoke, builtin, Sem.run_bind, Sem.run_pure, Result.andThen_ok, List.map_toArray, List.map_cons, List.map_nil, ha.eval hx, ha.eval hy, hrun]
end
end Go.E
