/-
  The engine, more: slices that a call has made itself, and appends to.
-/
import Derived.Test.YtiloogjageledaaGreatDoorEng
namespace Go.E
open Go

/-- Forks whose way is known. -/
theorem CW.yes {P : Program} {Q : Exit → Act → World → Prop} {D : List Deferred} {n : Nat} {E : Env} {w : World} {x y : Code} {c : Operand} {b : Bool} (hc : ev E c = some (.bool b)) (hb : b = true) (h : CW P x Q D n E w) : CW P (.cond c x y) Q D n E w := CW.cond hc (fun _ => h) (fun h => by rw [hb] at h; cases h)
theorem CW.no {P : Program} {Q : Exit → Act → World → Prop} {D : List Deferred} {n : Nat} {E : Env} {w : World} {x y : Code} {c : Operand} {b : Bool} (hc : ev E c = some (.bool b)) (hb : b = false) (h : CW P y Q D n E w) : CW P (.cond c x y) Q D n E w := CW.cond hc (fun h => by rw [hb] at h; cases h) (fun _ => h)

/-- The block of a slice. -/
def vblk : Value → List Nat
  | .slice (some a) _ _ => [a.block]
  | _ => []

/-- A slice of n elements that the call has made: its cells are xs, and more room behind them. -/
def Own (w : World) (lo : Nat) (e : TypeId) (size : Nat) (v : Value) (n : Nat) (xs : List Value) : Prop :=
  xs.length = n * size ∧ (v = .slice none 0 0 ∧ n = 0 ∨ ∃ g cap sp, v = .slice (some ⟨g, 0, none⟩) n cap ∧ Blk w g (xs ++ sp) e ∧ n ≤ cap ∧ sp.length = (cap - n) * size ∧ lo ≤ g)

theorem Own.nil (w : World) (lo : Nat) (e size : Nat) : Own w lo e size (.slice none 0 0) 0 [] := ⟨by simp, .inl ⟨rfl, rfl⟩⟩
theorem Own.chg {S : List Nat} {w w' : World} {lo e size n : Nat} {v : Value} {xs : List Value} (h : Own w lo e size v n xs) (k : Chg S w w') (hn : ∀ b, b ∈ vblk v → b ∉ S) : Own w' lo e size v n xs := by
  obtain ⟨hl, h | ⟨g, cap, sp, rfl, hB, h1, h2, h3⟩⟩ := h
  · exact ⟨hl, .inl h⟩
  · exact ⟨hl, .inr ⟨g, cap, sp, rfl, hB.chg k (hn g (by simp [vblk])), h1, h2, h3⟩⟩
theorem Own.ext {w w' : World} {lo e size n : Nat} {v : Value} {xs : List Value} (h : Own w lo e size v n xs) (k : Ext w w') : Own w' lo e size v n xs := h.chg k (by simp)
theorem Own.lt {w : World} {lo e size n : Nat} {v : Value} {xs : List Value} (h : Own w lo e size v n xs) {b : Nat} (hb : b ∈ vblk v) : lo ≤ b ∧ b < w.heap.size := by
  obtain ⟨hl, ⟨rfl, _⟩ | ⟨g, cap, sp, rfl, hB, h1, h2, h3⟩⟩ := h
  · simp [vblk] at hb
  · simp [vblk] at hb
    subst hb
    exact ⟨h3, hB.lt⟩
theorem Own.old {w : World} {lo e size n : Nat} {v : Value} {xs : List Value} (h : Own w lo e size v n xs) {k : Nat} (hk : k < lo) : k ∉ vblk v := fun hb => by have := (h.lt hb).1; omega
theorem Own.slice {w : World} {lo e size n : Nat} {v : Value} {xs : List Value} (h : Own w lo e size v n xs) : ∃ a c, v = .slice a n c := by
  obtain ⟨hl, ⟨rfl, rfl⟩ | ⟨g, cap, sp, rfl, _⟩⟩ := h
  · exact ⟨_, _, rfl⟩
  · exact ⟨_, _, rfl⟩

theorem Own.get {w : World} {lo e size n : Nat} {v : Value} {xs : List Value} (h : Own w lo e size v n xs) (hn : 0 < n) : ∃ g cap sp, v = .slice (some ⟨g, 0, none⟩) n cap ∧ Blk w g (xs ++ sp) e ∧ lo ≤ g := by
  obtain ⟨hl, ⟨rfl, rfl⟩ | ⟨g, cap, sp, rfl, hB, h1, h2, h3⟩⟩ := h
  · omega
  · exact ⟨g, cap, sp, rfl, hB, h3⟩
theorem Own.low {w : World} {lo lo' e size n : Nat} {v : Value} {xs : List Value} (h : Own w lo e size v n xs) (hl : lo' ≤ lo) : Own w lo' e size v n xs := by
  obtain ⟨h0, h | ⟨g, cap, sp, rfl, hB, h1, h2, h3⟩⟩ := h
  · exact ⟨h0, .inl h⟩
  · exact ⟨h0, .inr ⟨g, cap, sp, rfl, hB, h1, h2, by omega⟩⟩

/-- A row of equal parts. -/
theorem flat_get {α : Type} {f : α → List Value} {m : Nat} (hf : ∀ x, (f x).length = m) : ∀ (l : List α) (sp : List Value) (i : Nat) (x : α) (j : Nat), l[i]? = some x → j < m → (l.flatMap f ++ sp)[i * m + j]? = (f x)[j]?
  | [], _, _, _, _, h, _ => by simp at h
  | y :: l, sp, 0, x, j, h, hj => by
    simp at h
    subst h
    rw [List.flatMap_cons, List.append_assoc, Nat.zero_mul, Nat.zero_add, List.getElem?_append_left (by rw [hf]; exact hj)]
  | y :: l, sp, i + 1, x, j, h, hj => by
    have ih := flat_get hf l sp i x j (by simpa using h) hj
    rw [List.flatMap_cons, List.append_assoc, List.getElem?_append_right (by rw [hf, Nat.add_mul]; omega), ← ih, hf]
    congr 1
    rw [Nat.add_mul]
    omega
theorem AggAt.of {l : List Value} : ∀ {cs : List Value} {i : Nat}, (∀ j, j < cs.length → l[i + j]? = cs[j]?) → AggAt l i cs
  | [], _, _ => trivial
  | c :: cs, i, h => ⟨by have := h 0 (by simp); simpa using this, AggAt.of (fun j hj => by
      have := h (j + 1) (by simp; omega)
      rw [show i + 1 + j = i + (j + 1) by omega, this]
      simp)⟩
theorem flat_agg {α : Type} {f : α → List Value} {m : Nat} (hf : ∀ x, (f x).length = m) {l : List α} {sp : List Value} {i : Nat} {x : α} (h : l[i]? = some x) : AggAt (l.flatMap f ++ sp) (i * m) (f x) :=
  AggAt.of fun j hj => flat_get hf l sp i x j h (by rw [← hf x]; exact hj)

theorem flat_sub {α : Type} {f : α → List Value} {m : Nat} (hf : ∀ x, (f x).length = m) {l : List α} {sp : List Value} {i : Nat} {x : α} (h : l[i]? = some x) (o : Nat) {cs : List Value} (hb : o + cs.length ≤ m) (hc : ∀ j, j < cs.length → (f x)[o + j]? = cs[j]?) : AggAt (l.flatMap f ++ sp) (i * m + o) cs :=
  AggAt.of fun j hj => by
    rw [Nat.add_assoc, flat_get hf l sp i x (o + j) h (by omega)]
    exact hc j hj

theorem zeroCells_length (z : Array Value) (k : Nat) : (Builtin.zeroCells z k).toList.length = k * z.size := by simp [Builtin.zeroCells]

theorem Blk.getElem {w : World} {b : Nat} {l : List Value} {T : TypeId} (h : Blk w b l T) : ∀ j u, l[j]? = some u → w.cell? ((⟨b, 0, none⟩ : Addr).add j) = some u := fun j u hu => by
  have e : (⟨b, 0, none⟩ : Addr).add j = ⟨b, j, none⟩ := by
    unfold Addr.add
    split
    · simp_all
    · simp
  rw [e]; exact h.cell hu

section
variable {P : Program} [Tab P] {w : World} {lo : Nat} {t e : TypeId} {r r' : TRow}
theorem run_app (ht : Tab.row P t = some r) (hr : r.desc = .slice e) (he : Tab.row P e = some r') (hz : Nat.beq r'.zero.cells.size r'.size = true)
    {v : Value} {n m b c : Nat} {xs news : List Value} {T' : TypeId} (hown : Own w lo e r'.size v n xs) (hlo : lo ≤ w.heap.size) (hB : Blk w b news T') (hl : news.length = m * r'.size) (h1 : ∀ u ∈ news, u.oneCell' = true) (hm : 0 < m)
    (h63 : n + m ≤ 9223372036854775807) (hby : (n + m) * r'.bytes ≤ 140737488355328) (ty : TypeId) :
    ∃ v' w', (Builtin.append_ #[t, t] ty #[v, .slice (some ⟨b, 0, none⟩) m c]).run P w = .ok v' w' ∧ Chg (vblk v) w w' ∧ Own w' lo e r'.size v' (n + m) (xs ++ news) ∧ (∀ k, k ∈ vblk v' → k ∈ vblk v ∨ w.heap.size ≤ k) := by
  obtain ⟨d, hd, hb, i, hi, hiz, his, hib⟩ := Tab.ok e r' he
  have hu := under_slice ht hr
  have hzs : r'.zero.cells.size = r'.size := Nat.eq_of_beq_eq_true hz
  obtain ⟨hxl, ⟨rfl, rfl⟩ | ⟨g, cap, sp, rfl, hG, h2, h3, h4⟩⟩ := hown
  · have hx : xs = [] := by cases xs with
      | nil => rfl
      | cons a b => simp at hxl
    subst hx
    have hrun := run_append_nil (P := P) w t ty e i r'.zero hu hi hiz ⟨b, 0, none⟩ m c news (by rw [his]; exact hl) hB.getElem hm (by omega) (by rw [hib]; simp at hby; omega)
    refine ⟨_, _, hrun, ?_, ?_, ?_⟩
    · exact (Ext.drew w).trans (Ext.alloc _ _)
    · refine ⟨by simp [hl], .inr ⟨w.heap.size, _, (Builtin.zeroCells r'.zero.cells (grownCap w m 0 e - m)).toList, by rw [Nat.zero_add], ?_, ?_, ?_, hlo⟩⟩
      · have := Blk.alloc w.drew (news ++ (Builtin.zeroCells r'.zero.cells (grownCap w m 0 e - m)).toList) e
        have ea : news.toArray ++ Builtin.zeroCells r'.zero.cells (grownCap w m 0 e - m) = (⟨news ++ (Builtin.zeroCells r'.zero.cells (grownCap w m 0 e - m)).toList⟩ : Array Value) := by
          apply Array.ext'
          simp
        rw [ea]
        exact this
      · have := grownCap_ge w m 0 e
        omega
      · rw [zeroCells_length, hzs, Nat.zero_add]
    · intro k hk
      simp [vblk] at hk
      exact .inr (by omega)
  · by_cases hroom : n + m ≤ cap
    · have hrun := run_append_room (P := P) w t ty e i hu hi g n cap ⟨xs ++ sp⟩ hG ⟨b, 0, none⟩ m c news (by rw [his]; exact hl) hB.getElem h1 hroom (by
        rw [his, hl, ← hxl]
        simp only [List.size_toArray, List.length_append, h3, hxl]
        have : m * r'.size ≤ (cap - n) * r'.size := Nat.mul_le_mul_right _ (by omega)
        omega)
      have e1 : ((⟨xs ++ sp⟩ : Array Value).toList.take (n * i.size) ++ news ++ (⟨xs ++ sp⟩ : Array Value).toList.drop (n * i.size + news.length)) = xs ++ news ++ sp.drop news.length := by
        rw [his, ← hxl]
        simp
      rw [e1] at hrun
      refine ⟨_, _, hrun, Chg.setRow _ _ _, ⟨by simp [hxl, hl, Nat.add_mul], .inr ⟨g, cap, sp.drop news.length, rfl, hG.setRow _, hroom, ?_, h4⟩⟩, ?_⟩
      · rw [List.length_drop, h3, hl, ← Nat.sub_mul]
        congr 1
        omega
      · intro k hk
        exact .inl hk
    · have hg : cap < n + m := by omega
      have hrun := run_append_grow (P := P) w t ty e i r'.zero hu hi hiz ⟨g, 0, none⟩ n cap xs (by rw [his]; exact hxl) (fun j u hj => hG.getElem j u (by
          rw [List.getElem?_append_left (List.getElem?_eq_some_iff.1 hj).1]; exact hj)) ⟨b, 0, none⟩ m c news (by rw [his]; exact hl) hB.getElem hg (by omega) (by rw [hib]; exact growslice_fits hg hby)
      refine ⟨_, _, hrun, ?_, ?_, ?_⟩
      · exact ((Ext.drew w).trans (Ext.alloc _ _)).mono (by simp)
      · refine ⟨by simp [hxl, hl, Nat.add_mul], .inr ⟨w.heap.size, _, (Builtin.zeroCells r'.zero.cells (grownCap w (n + m) cap e - (n + m))).toList, rfl, ?_, grownCap_ge w (n + m) cap e, ?_, hlo⟩⟩
        · have := Blk.alloc w.drew (xs ++ news ++ (Builtin.zeroCells r'.zero.cells (grownCap w (n + m) cap e - (n + m))).toList) e
          have ea : xs.toArray ++ news.toArray ++ Builtin.zeroCells r'.zero.cells (grownCap w (n + m) cap e - (n + m)) = (⟨xs ++ news ++ (Builtin.zeroCells r'.zero.cells (grownCap w (n + m) cap e - (n + m))).toList⟩ : Array Value) := by
            apply Array.ext'
            simp
          rw [ea]
          exact this
        · rw [zeroCells_length, hzs]
      · intro k hk
        simp [vblk] at hk
        exact .inr (by omega)

variable {Q : Exit → Act → World → Prop} {D : List Deferred} {n : Nat} {E : Env} {l rest : List Oper} {x y : Operand} {d T : Nat} {pos : String} {af : Array Edge}
theorem Y.eql_nil {ms : Array (String × TypeId)} {u : TypeId} {v : Value} {ty : TypeId} (hx : ev E x = some (.iface u v)) (ht : Tab.row P t = some r) (hr : r.desc = .interface ms) (dst : Option Tmp) :
    Y P D n E w { dst, op := .binOp .eql t x (.const .nilIface) ty, type := T, pos, after := af, guard := none } (.bool false) := fun a ha => by
  have hg : (eqGuard .eql t x (.const .nilIface) (.iface u v) .nilIface).run P w = .ok () w := rfl
  have e2 : a.eval (.const .nilIface) = .nilIface := rfl
  simp only [execOp, ha.eval hx, e2, Sem.run_bind, hg, Result.andThen_ok, binOp, run_eq_nil ht hr (.iface u v) (Or.inr ⟨u, v, rfl⟩), Sem.run_pure]
theorem Y.eql_nil_nil {ms : Array (String × TypeId)} {ty : TypeId} (hx : ev E x = some .nilIface) (ht : Tab.row P t = some r) (hr : r.desc = .interface ms) (dst : Option Tmp) :
    Y P D n E w { dst, op := .binOp .eql t x (.const .nilIface) ty, type := T, pos, after := af, guard := none } (.bool true) := fun a ha => by
  have hg : (eqGuard .eql t x (.const .nilIface) .nilIface .nilIface).run P w = .ok () w := by
    simp [eqGuard]
  have e2 : a.eval (.const .nilIface) = .nilIface := rfl
  simp only [execOp, ha.eval hx, e2, Sem.run_bind, hg, Result.andThen_ok, binOp, run_eq_nil ht hr .nilIface (Or.inl rfl), Sem.run_pure]
theorem LW.eql_nil {ms : Array (String × TypeId)} {u : TypeId} {v : Value} {ty : TypeId} (hx : ev E x = some (.iface u v)) (ht : Tab.row P t = some r) (hr : r.desc = .interface ms) (hn : Nat.blt d n = true) (h : LW P l Q rest D n ((d, .bool false) :: E) w) :
    LW P l Q ({ dst := some d, op := .binOp .eql t x (.const .nilIface) ty, type := T, pos, after := af, guard := none } :: rest) D n E w := LW.val rfl rfl hn (Y.eql_nil hx ht hr _) h
theorem LW.eql_nil_nil {ms : Array (String × TypeId)} {ty : TypeId} (hx : ev E x = some .nilIface) (ht : Tab.row P t = some r) (hr : r.desc = .interface ms) (hn : Nat.blt d n = true) (h : LW P l Q rest D n ((d, .bool true) :: E) w) :
    LW P l Q ({ dst := some d, op := .binOp .eql t x (.const .nilIface) ty, type := T, pos, after := af, guard := none } :: rest) D n E w := LW.val rfl rfl hn (Y.eql_nil_nil hx ht hr _) h
theorem Y.idx_addr {k : IntKind} {i : Int} {a0 : Addr} {len cap : Nat} {e : TypeId} (hx : ev E x = some (.slice (some a0) len cap)) (hi : ev E y = some (.int k i)) (ht : Tab.row P t = some r) (hr : r.desc = .slice e) (he : Tab.row P e = some r')
    (h0 : 0 ≤ i) (h1 : i < len) : Y P D n E w { dst := some d, op := .indexAddr t x y, type := T, pos, after := af, guard := none } (.pointer (some (a0.add (i.toNat * r'.size)))) :=
  (fun _ ha => by
    have hw : ∀ w : World, (underlying t).run P w = .ok (.slice e) w := fun w => run_underlying (under_slice ht hr) w
    simp only [execOp, ha.eval hx, ha.eval hi, Instr.indexAt, asIntOf, Sem.run_bind, Sem.run_pure, Result.andThen_ok, hw, h0, h1, and_self, if_true, run_size he])
theorem LW.idx_addr {k : IntKind} {i : Int} {a0 : Addr} {len cap : Nat} {e : TypeId} (hx : ev E x = some (.slice (some a0) len cap)) (hi : ev E y = some (.int k i)) (ht : Tab.row P t = some r) (hr : r.desc = .slice e) (he : Tab.row P e = some r')
    (h0 : 0 ≤ i) (h1 : i < len) (hn : Nat.blt d n = true) (h : LW P l Q rest D n ((d, .pointer (some (a0.add (i.toNat * r'.size)))) :: E) w) : LW P l Q ({ dst := some d, op := .indexAddr t x y, type := T, pos, after := af, guard := none } :: rest) D n E w := LW.val rfl rfl hn (Y.idx_addr hx hi ht hr he h0 h1) h
theorem Y.load_cell {a0 : Addr} {v : Value} (hx : ev E x = some (.pointer (some a0))) (hc : w.cell? a0 = some v) (ht : Tab.row P t = some r) (hr : isAggD r.desc = false) : Y P D n E w { dst := some d, op := .load t x, type := T, pos, after := af, guard := none } v :=
  (fun _ ha => by
    have hl : (loadVar t a0).run P w = .ok v w := by
      unfold loadVar
      rw [Sem.run_bind, run_isAgg ht]
      simp [hr, hc]
    simp only [execOp, ha.eval hx, Instr.loadAt, Instr.sureAddr, Sem.run_bind, Sem.run_pure, Result.andThen_ok, hl])
theorem LW.load_cell {a0 : Addr} {v : Value} (hx : ev E x = some (.pointer (some a0))) (hc : w.cell? a0 = some v) (ht : Tab.row P t = some r) (hr : isAggD r.desc = false) (hn : Nat.blt d n = true) (h : LW P l Q rest D n ((d, v) :: E) w) : LW P l Q ({ dst := some d, op := .load t x, type := T, pos, after := af, guard := none } :: rest) D n E w :=
  LW.val rfl rfl hn (Y.load_cell hx hc ht hr) h
omit [Tab P] in
/-- A shift to the right. -/
theorem LW.shr {k j : IntKind} {p z : Int} {m : Nat} {ty u : TypeId} (hx : ev E x = some (.int k p)) (hy : ev E y = some (.int j (m : Int))) (hm : m ≤ k.bits) (hz : p / 2 ^ m = z) (hn : Nat.blt d n = true) (h : LW P l Q rest D n ((d, .int k z) :: E) w) :
    LW P l Q ({ dst := some d, op := .binOp .shr u x y ty, type := T, pos, after := af, guard := none } :: rest) D n E w := by
  refine LW.val (w' := w) rfl rfl hn (fun a ha => ?_) h
  have hg : (eqGuard .shr u x y (.int k p) (.int j (m : Int))).run P w = .ok () w := rfl
  have hmin : min m k.bits = m := by omega
  have hf : p.fdiv (2 ^ m) = p / 2 ^ m := Int.fdiv_eq_ediv_of_nonneg p (Int.le_of_lt (Int.pow_pos (by decide)))
  have hneg : ¬ ((m : Int) < 0) := by omega
  simp only [execOp, ha.eval hx, ha.eval hy, Sem.run_bind, hg, Result.andThen_ok, binOp, Op.shift, hneg, if_false, Int.toNat_natCast, hmin, hf, hz, Sem.run_pure]
/-- An append of what a call has just laid, to a slice that it has made. -/
theorem LW.append {v : Value} {k m b c : Nat} {xs news : List Value} {T' : TypeId} (hx : ev E x = some v) (hy : ev E y = some (.slice (some ⟨b, 0, none⟩) m c)) (ht : Tab.row P t = some r) (hr : r.desc = .slice e) (he : Tab.row P e = some r') (hz : Nat.beq r'.zero.cells.size r'.size = true)
    (hown : Own w lo e r'.size v k xs) (hlo : lo ≤ w.heap.size) (hB : Blk w b news T') (hl : Nat.beq news.length (m * r'.size) = true) (h1 : news.all (·.oneCell') = true) (hm : Nat.blt 0 m = true) (hby : (k + m) * (r'.bytes + 1) ≤ 140737488355328) (hn : Nat.blt d n = true)
    (h : ∀ v' w', Chg (vblk v) w w' → Own w' lo e r'.size v' (k + m) (xs ++ news) → (∀ j, j ∈ vblk v' → j ∈ vblk v ∨ w.heap.size ≤ j) → LW P l Q rest D n ((d, v') :: E) w') :
    LW P l Q ({ dst := some d, op := .call { callee := .builtin .append, args := #[x, y], argTypes := #[t, t] }, type := T, pos, after := af, guard := none } :: rest) D n E w := by
  have h2 : (k + m) * (r'.bytes + 1) = (k + m) * r'.bytes + (k + m) := by rw [Nat.mul_add, Nat.mul_one]
  obtain ⟨v', w', hrun, hc, ho, hv⟩ := run_app (c := c) ht hr he hz hown hlo hB (Nat.eq_of_beq_eq_true hl) (by simpa using h1) (Nat.le_of_ble_eq_true hm) (by omega) (by omega) T
  refine LW.val (w' := w') (v := v') rfl rfl hn (fun a ha => ?_) (h v' w' hc ho hv)
  unfold execOp
  simp only [resolve, invoke, builtin, Sem.run_bind, Sem.run_pure, Result.andThen_ok, List.map_toArray, List.map_cons, List.map_nil, ha.eval hx, ha.eval hy, hrun]
/-- The bytes of a slice that a call has made, as a string. -/
theorem LW.string_own {bs : List UInt8} {v : Value} {s u k : Nat} {r'' : TRow} {T' : TypeId} (hx : ev E x = some v) (hown : Own w lo e 1 v k (bcells bs)) (hs : Tab.row P s = some r) (hsd : r.desc = .slice u) (hu : Tab.row P u = some r') (hud : r'.desc = .int .u8) (ht : Tab.row P t = some r'') (htd : r''.desc = .string) (hn : Nat.blt d n = true)
    (h : LW P l Q rest D n ((d, str bs) :: E) w) : LW P l Q ({ dst := some d, op := .convert s t x, type := T', pos, after := af, guard := none } :: rest) D n E w := by
  obtain ⟨hl, ⟨rfl, rfl⟩ | ⟨g, cap, sp, rfl, hB, h1, h2, h3⟩⟩ := hown
  · have hb : bs = [] := by
      cases bs with
      | nil => rfl
      | cons a b => simp [bcells] at hl
    subst hb
    refine LW.val rfl rfl hn (fun a ha => ?_) h
    have hco := run_convert_bytes_string (P := P) w s t u none 0 0 (under_slice hs hsd) (under_int hu hud) (by
      obtain ⟨dd, hh, hb, _⟩ := run_under ht
      cases dd <;> simp [bare, htd] at hb
      exact hh)
    simp only [execOp, ha.eval hx, Sem.run_bind, hco, Sem.run_pure]
    rfl
  · refine LW.string_of hx hB (bs := bs) ?_ (by simpa [bcells] using hl) hs hsd hu hud ht htd hn h
    rw [List.drop_left' (by simpa using hl)]
end
end Go.E
