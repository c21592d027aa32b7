/-
  The engine, more: a string's bytes appended to a slice that a call has made.
-/
import Derived.Test.YtiloogjageledaaGreatDoorEngF
import Derived.Deep.Upon
namespace Go.E
open Go

section
variable {P : Program} [Tab P] {w : World} {lo : Nat} {t e : TypeId} {r r' : TRow}
theorem run_app_src (ht : Tab.row P t = some r) (hr : r.desc = .slice e) (he : Tab.row P e = some r') (hz : Nat.beq r'.zero.cells.size r'.size = true) {tx : TypeId} {x : Value}
    {v : Value} {n m : Nat} {xs news : List Value} (hown : Own w lo e r'.size v n xs) (hlo : lo ≤ w.heap.size) (hs : Src P r'.size tx x m news w) (h63 : n + m ≤ 9223372036854775807) (hby : (n + m) * r'.bytes ≤ 140737488355328) (ty : TypeId) :
    ∃ v' w', (Builtin.append_ #[t, tx] ty #[v, x]).run P w = .ok v' w' ∧ Chg (vblk v) w w' ∧ Own w' lo e r'.size v' (n + m) (xs ++ news) ∧ (∀ k, k ∈ vblk v' → k ∈ vblk v ∨ w.heap.size ≤ k) := by
  obtain ⟨d, hd, hb, i, hi, hiz, his, hib⟩ := Tab.ok e r' he
  have hu := under_slice ht hr
  have hzs : r'.zero.cells.size = r'.size := Nat.eq_of_beq_eq_true hz
  have hl := hs.newsLen
  have h1 := hs.one
  have hs' : Src P i.size tx x m news w := by rw [his]; exact hs
  obtain ⟨hxl, ⟨rfl, rfl⟩ | ⟨g, cap, sp, rfl, hG, h2, h3, h4⟩⟩ := hown
  · have hx : xs = [] := by cases xs with
      | nil => rfl
      | cons a b => simp at hxl
    subst hx
    rcases Nat.eq_zero_or_pos m with rfl | hm
    · have hn : news = [] := by cases news with
        | nil => rfl
        | cons a b => simp at hl
      subst hn
      exact ⟨_, _, run_append_nothing w t tx ty e i hu hi none 0 0 (by omega) x hs', Chg.refl _ _, Own.nil _ _ _ _, fun k hk => .inl hk⟩
    · have hrun := run_append_grow_src (P := P) w t tx ty e i r'.zero hu hi hiz none 0 0 [] (run_firstCells_none w.drew i.size 0 0 0) x m news hs' (by omega) (by omega) (by rw [hib]; exact growslice_fits (by omega) hby)
      simp only [Nat.zero_add] at hrun
      refine ⟨_, _, hrun, ?_, ?_, ?_⟩
      · exact (Ext.drew w).trans (Ext.alloc _ _)
      · refine ⟨by simp [hl], .inr ⟨w.heap.size, _, (Builtin.zeroCells r'.zero.cells (grownCap w m 0 e - m)).toList, by rw [Nat.zero_add], ?_, ?_, ?_, hlo⟩⟩
        · have := Blk.alloc w.drew (news ++ (Builtin.zeroCells r'.zero.cells (grownCap w m 0 e - m)).toList) e
          have ea : ([] ++ news).toArray ++ Builtin.zeroCells r'.zero.cells (grownCap w m 0 e - m) = (⟨news ++ (Builtin.zeroCells r'.zero.cells (grownCap w m 0 e - m)).toList⟩ : Array Value) := by
            apply Array.ext'
            simp
          rw [ea]
          exact this
        · have := grownCap_ge w m 0 e
          omega
        · rw [zeroCells_length, hzs, Nat.zero_add]
      · intro k hk
        simp [vblk] at hk
        exact .inr (by omega)
  · by_cases hroom : n + m ≤ cap
    · have hfit : n * i.size + news.length ≤ (⟨xs ++ sp⟩ : Array Value).size := by
        rw [his, hl, ← hxl]
        simp only [List.size_toArray, List.length_append, h3]
        have : m * r'.size ≤ (cap - n) * r'.size := Nat.mul_le_mul_right _ (by omega)
        omega
      have hst := run_storeCells_at P g (n * i.size) e news 0 ⟨xs ++ sp⟩ w hG (by simpa using hfit) h1
      simp only [Nat.add_zero] at hst
      have e1 : ((⟨xs ++ sp⟩ : Array Value).toList.take (n * i.size) ++ news ++ (⟨xs ++ sp⟩ : Array Value).toList.drop (n * i.size + news.length)) = xs ++ news ++ sp.drop news.length := by
        rw [his, ← hxl]
        simp
      rw [e1] at hst
      have hrun : (Builtin.append_ #[t, tx] ty #[.slice (some ⟨g, 0, none⟩) n cap, x]).run P w = .ok (.slice (some ⟨g, 0, none⟩) (n + m) cap) (w.setRow g (xs ++ news ++ sp.drop news.length).toArray) := by
        rcases hs'.kind with ⟨e', hk⟩ | hk <;> simp [Builtin.append_, run_underlying hu, run_underlying hk, sizeOf, typeInfo, hi, hs'.len, hroom, hs'.cells, Addr.add_lit, hst]
      refine ⟨_, _, hrun, Chg.setRow _ _ _, ⟨by simp [hxl, hl, Nat.add_mul], .inr ⟨g, cap, sp.drop news.length, rfl, hG.setRow _, hroom, ?_, h4⟩⟩, ?_⟩
      · rw [List.length_drop, h3, hl, ← Nat.sub_mul]
        congr 1
        omega
      · intro k hk
        exact .inl hk
    · have hg : cap < n + m := by omega
      have hrun := run_append_grow_src (P := P) w t tx ty e i r'.zero hu hi hiz (some ⟨g, 0, none⟩) n cap xs (run_firstCells_some w.drew i.size n ⟨g, 0, none⟩ n cap xs (by rw [his]; exact hxl) (fun j u hj => by
          have := hG.getElem j u (by rw [List.getElem?_append_left (List.getElem?_eq_some_iff.1 hj).1]; exact hj)
          simpa using this)) x m news hs' hg (by omega) (by rw [hib]; exact growslice_fits hg hby)
      refine ⟨_, _, hrun, ?_, ?_, ?_⟩
      · exact ((Ext.drew w).trans (Ext.alloc _ _)).mono (by simp)
      · refine ⟨by simp [hxl, hl, Nat.add_mul], .inr ⟨w.heap.size, _, (Builtin.zeroCells r'.zero.cells (grownCap w (n + m) cap e - (n + m))).toList, rfl, ?_, grownCap_ge w (n + m) cap e, ?_, hlo⟩⟩
        · have := Blk.alloc w.drew (xs ++ news ++ (Builtin.zeroCells r'.zero.cells (grownCap w (n + m) cap e - (n + m))).toList) e
          have ea : (xs ++ news).toArray ++ Builtin.zeroCells r'.zero.cells (grownCap w (n + m) cap e - (n + m)) = (⟨xs ++ news ++ (Builtin.zeroCells r'.zero.cells (grownCap w (n + m) cap e - (n + m))).toList⟩ : Array Value) := by
            apply Array.ext'
            simp
          rw [ea]
          exact this
        · rw [zeroCells_length, hzs]
      · intro k hk
        simp [vblk] at hk
        exact .inr (by omega)

variable {Q : Exit → Act → World → Prop} {D : List Deferred} {n : Nat} {E : Env} {l rest : List Oper} {x y : Operand} {d T : Nat} {pos : String} {af : Array Edge}
/-- A string's bytes appended to a slice of bytes that a call has made. -/
theorem LW.append_str {v : Value} {k : Nat} {xs : List Value} {s : List UInt8} {tx : TypeId} {rx : TRow} (hx : ev E x = some v) (hy : ev E y = some (str s)) (ht : Tab.row P t = some r) (hr : r.desc = .slice e) (he : Tab.row P e = some r') (hz : Nat.beq r'.zero.cells.size r'.size = true) (hsz : Nat.beq r'.size 1 = true) (htx : Tab.row P tx = some rx) (hrx : rx.desc = .string)
    (hown : Own w lo e 1 v k xs) (hlo : lo ≤ w.heap.size) (hby : (k + s.length) * (r'.bytes + 1) ≤ 140737488355328) (hn : Nat.blt d n = true)
    (h : ∀ v' w', Chg (vblk v) w w' → Own w' lo e 1 v' (k + s.length) (xs ++ bcells s) → (∀ j, j ∈ vblk v' → j ∈ vblk v ∨ w.heap.size ≤ j) → LW P l Q rest D n ((d, v') :: E) w') :
    LW P l Q ({ dst := some d, op := .call { callee := .builtin .append, args := #[x, y], argTypes := #[t, tx] }, type := T, pos, after := af, guard := none } :: rest) D n E w := by
  have h2 : (k + s.length) * (r'.bytes + 1) = (k + s.length) * r'.bytes + (k + s.length) := by rw [Nat.mul_add, Nat.mul_one]
  have h1 : r'.size = 1 := Nat.eq_of_beq_eq_true hsz
  have hu : P.underlying tx = some .string := by
    obtain ⟨dd, hh, hb, _⟩ := run_under htx
    cases dd <;> simp [bare, hrx] at hb
    exact hh
  have hsrc : Src P r'.size tx (str s) s.length (bcells s) w := by
    rw [h1]
    exact Src.ofString w hu ⟨⟨s⟩⟩
  obtain ⟨v', w', hrun, hc, ho, hv⟩ := run_app_src ht hr he hz (by rw [h1]; exact hown) hlo hsrc (by omega) (by omega) T
  rw [h1] at ho
  refine LW.val (w' := w') (v := v') rfl rfl hn (fun a ha => ?_) (h v' w' hc ho hv)
  unfold execOp
  simp only [resolve, invoke, builtin, Sem.run_bind, Sem.run_pure, Result.andThen_ok, List.map_toArray, List.map_cons, List.map_nil, ha.eval hx, ha.eval hy, hrun]
end

section
variable {P : Program} {Q : Exit → Act → World → Prop} {D : List Deferred} {n : Nat} {E : Env} {w : World} {l rest : List Oper} [Tab P] {x y : Operand} {s f d T k t e : Nat} {pos : String} {af : Array Edge} {a0 : Addr} {r r' : TRow} {v : Value}
theorem cell_keep {w w' : World} (h : Ext w w') {a : Addr} {v : Value} (hc : w.cell? a = some v) : w'.cell? a = some v := by
  have hlt := World.block_lt_of_cell? w a hc
  rw [(Ext.toBelow h).cell hlt]; exact hc
theorem Qn (h : QL P l Q rest D n ((d, .pointer (some (a0.add k))) :: E) w) (hx : ev E x = some (.pointer (some a0)) := by exact rfl) (hk : fOff P s f = some k := by exact rfl) (hn : Nat.blt d n = true := by exact rfl) : QL P l Q ({ dst := some d, op := .fieldAddr s x f, type := T, pos, after := af, guard := none } :: rest) D n E w := QL.yields rfl rfl hn (fun _ _ => Y.field_addr hx hk) h
theorem Qo {kk : IntKind} {i : Int} {len cap : Nat} (h : QL P l Q rest D n ((d, .pointer (some (a0.add (i.toNat * r'.size)))) :: E) w) (hx : ev E x = some (.slice (some a0) len cap) := by exact rfl) (hi : ev E y = some (.int kk i) := by exact rfl) (ht : Tab.row P t = some r := by exact rfl) (hr : r.desc = .slice e := by exact rfl) (he : Tab.row P e = some r' := by exact rfl) (h0 : 0 ≤ i := by omega) (h1 : i < len := by omega) (hn : Nat.blt d n = true := by exact rfl) : QL P l Q ({ dst := some d, op := .indexAddr t x y, type := T, pos, after := af, guard := none } :: rest) D n E w := QL.yields rfl rfl hn (fun _ _ => Y.idx_addr hx hi ht hr he h0 h1) h
theorem Qp (hc : w.cell? a0 = some v) (h : QL P l Q rest D n ((d, v) :: E) w) (hx : ev E x = some (.pointer (some a0)) := by exact rfl) (ht : Tab.row P t = some r := by exact rfl) (hr : isAggD r.desc = false := by exact rfl) (hn : Nat.blt d n = true := by exact rfl) : QL P l Q ({ dst := some d, op := .load t x, type := T, pos, after := af, guard := none } :: rest) D n E w := QL.yields rfl rfl hn (fun _ hw => Y.load_cell hx (cell_keep hw hc) ht hr) h
end
end Go.E
