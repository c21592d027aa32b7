/-
  The engine, more: two operations of a held region that may come in either order.
-/
import Derived.Test.YtiloogjageledaaGreatDoorEngE
namespace Go.E
open Go

section
variable {P : Program} {S : World → Prop} {Q : Exit → Act → World → Prop} {D : List Deferred} {n f : Nat} {E : Env} {w : World} {l : List Oper} {ls : List Bool}
theorem HW.two (i j : Nat) {o o' : Oper} {ls' ls'' : List Bool} (hr : Region.ready .any l.toArray ⟨ls⟩ = [i, j]) (hi : l[i]? = some o) (hj : l[j]? = some o') (hl : ls.set i true = ls') (hl' : ls.set j true = ls'')
    (h1 : S w → LW P l (Exit.then (fun a w' => S w' ∧ wpAnyH P .any l.toArray Q S f ⟨ls'⟩ a w') Q) [o] D n E w) (h2 : S w → LW P l (Exit.then (fun a w' => S w' ∧ wpAnyH P .any l.toArray Q S f ⟨ls''⟩ a w') Q) [o'] D n E w) : HW P S l Q (f + 1) ls D n E w := by
  unfold HW
  intro a ha hS
  subst hl
  subst hl'
  refine wpAnyH_all hr (by simp) fun k hk => ?_
  simp only [List.mem_cons, List.not_mem_nil, or_false] at hk
  rw [set_list]
  rcases hk with rfl | rfl
  · have h0 := h1 hS
    unfold LW at h0
    have h3 := h0 a ha
    have hi' : l.toArray[k]? = some o := by simpa using hi
    unfold wpOp
    simp only [hi']
    unfold wpList at h3
    split
    · rename_i hw
      rw [if_pos hw] at h3
      exact h3.imp wp_then (fun hh => hh)
    · rename_i hw
      rw [if_neg hw] at h3
      unfold wpList at h3
      exact h3
  · have h0 := h2 hS
    unfold LW at h0
    have h3 := h0 a ha
    have hi' : l.toArray[k]? = some o' := by simpa using hj
    unfold wpOp
    simp only [hi']
    unfold wpList at h3
    split
    · rename_i hw
      rw [if_pos hw] at h3
      exact h3.imp wp_then (fun hh => hh)
    · rename_i hw
      rw [if_neg hw] at h3
      unfold wpList at h3
      exact h3
end

/-! ### Fields of what lies anywhere -/

section
variable {P : Program} {Q : Exit → Act → World → Prop} {D : List Deferred} {n : Nat} {E : Env} {w : World} {l rest : List Oper} [Tab P] {x y : Operand} {s f d T k t e : Nat} {pos : String} {af : Array Edge} {a0 : Addr} {r r' : TRow} {v : Value}
theorem Y.field_addr (hx : ev E x = some (.pointer (some a0))) (hk : fOff P s f = some k) : Y P D n E w { dst := some d, op := .fieldAddr s x f, type := T, pos, after := af, guard := none } (.pointer (some (a0.add k))) := fun a ha => by
  unfold fOff at hk
  split at hk <;> try cases hk
  rename_i r hr
  split at hk <;> try cases hk
  rename_i fs hfs
  split at hk <;> try cases hk
  rename_i fld hfld
  split at hk <;> try cases hk
  rename_i r' hr'
  cases hz : Nat.beq r'.size 0 <;> rw [hz] at hk <;> simp only [cond_true, cond_false, reduceCtorEq, Option.some.injEq] at hk
  have hne : ¬ r'.size = 0 := fun h0 => by rw [h0] at hz; cases hz
  obtain ⟨gs, hgs, hgf⟩ := under_struct hr hfs
  have hfld' : ∃ g, gs[f]? = some g ∧ bareF g = fld := by
    rw [← hgf] at hfld
    simpa using hfld
  obtain ⟨g, hg1, hg2⟩ := hfld'
  subst hg2
  have hr2 : Tab.row P g.type = some r' := hr'
  have hk2 : g.offset = k := hk
  simp only [execOp, Instr.fieldAt, ha.eval hx, Sem.run_bind, run_underlying hgs, Result.andThen_ok, hg1, Instr.sureAddr, Sem.run_pure, fieldPlace, run_size hr2, hne, if_false]
  rw [hk2]
theorem Ln (h : LW P l Q rest D n ((d, .pointer (some (a0.add k))) :: E) w) (hx : ev E x = some (.pointer (some a0)) := by exact rfl) (hk : fOff P s f = some k := by exact rfl) (hn : Nat.blt d n = true := by exact rfl) : LW P l Q ({ dst := some d, op := .fieldAddr s x f, type := T, pos, after := af, guard := none } :: rest) D n E w := LW.val rfl rfl hn (Y.field_addr hx hk) h
theorem Lo {kk : IntKind} {i : Int} {len cap : Nat} (h : LW P l Q rest D n ((d, .pointer (some (a0.add (i.toNat * r'.size)))) :: E) w) (hx : ev E x = some (.slice (some a0) len cap) := by exact rfl) (hi : ev E y = some (.int kk i) := by exact rfl) (ht : Tab.row P t = some r := by exact rfl) (hr : r.desc = .slice e := by exact rfl) (he : Tab.row P e = some r' := by exact rfl) (h0 : 0 ≤ i := by omega) (h1 : i < len := by omega) (hn : Nat.blt d n = true := by exact rfl) : LW P l Q ({ dst := some d, op := .indexAddr t x y, type := T, pos, after := af, guard := none } :: rest) D n E w := LW.idx_addr hx hi ht hr he h0 h1 hn h
theorem Lp (hc : w.cell? a0 = some v) (h : LW P l Q rest D n ((d, v) :: E) w) (hx : ev E x = some (.pointer (some a0)) := by exact rfl) (ht : Tab.row P t = some r := by exact rfl) (hr : isAggD r.desc = false := by exact rfl) (hn : Nat.blt d n = true := by exact rfl) : LW P l Q ({ dst := some d, op := .load t x, type := T, pos, after := af, guard := none } :: rest) D n E w := LW.load_cell hx hc ht hr hn h
end
end Go.E
