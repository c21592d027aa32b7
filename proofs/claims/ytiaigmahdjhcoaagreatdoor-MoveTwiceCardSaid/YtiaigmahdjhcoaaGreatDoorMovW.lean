/-
 The engine, more: three operations of a held region; a slice with both bounds.
-/
import Derived.Test.YtiaigmahdjhcoaaGreatDoorPkE
namespace Go.E
open Go

section
variable {P : Program} {S : World → Prop} {Q : Exit → Act → World → Prop} {D : List Deferred} {n f : Nat} {E : Env} {w : World} {l : List Oper} {ls : List Bool}
theorem HW.three (i j k : Nat) {o o' o'' : Oper} {ls1 ls2 ls3 : List Bool} (hr : Region.ready .any l.toArray ⟨ls⟩ = [i, j, k]) (hi : l[i]? = some o) (hj : l[j]? = some o') (hk : l[k]? = some o'') (hl : ls.set i true = ls1) (hl' : ls.set j true = ls2) (hl'' : ls.set k true = ls3)
  (h1 : S w → LW P l (Exit.then (fun a w' => S w' ∧ wpAnyH P .any l.toArray Q S f ⟨ls1⟩ a w') Q) [o] D n E w) (h2 : S w → LW P l (Exit.then (fun a w' => S w' ∧ wpAnyH P .any l.toArray Q S f ⟨ls2⟩ a w') Q) [o'] D n E w) (h3' : S w → LW P l (Exit.then (fun a w' => S w' ∧ wpAnyH P .any l.toArray Q S f ⟨ls3⟩ a w') Q) [o''] D n E w) : HW P S l Q (f + 1) ls D n E w := by
 unfold HW
 intro a ha hS
 subst hl
 subst hl'
 subst hl''
 refine wpAnyH_all hr (by simp) fun m hm => ?_
 simp only [List.mem_cons, List.not_mem_nil, or_false] at hm
 rw [set_list]
 rcases hm with rfl | rfl | rfl
 ·have h0 := h1 hS
  unfold LW at h0
  have h3 := h0 a ha
  have hi' : l.toArray[m]? = some o := by simpa using hi
  unfold wpOp
  simp only [hi']
  unfold wpList at h3
  split
  ·rename_i hw
   rw [if_pos hw] at h3
   exact h3.imp wp_then (fun hh => hh)
  ·rename_i hw
   rw [if_neg hw] at h3
   unfold wpList at h3
   exact h3
 ·have h0 := h2 hS
  unfold LW at h0
  have h3 := h0 a ha
  have hi' : l.toArray[m]? = some o' := by simpa using hj
  unfold wpOp
  simp only [hi']
  unfold wpList at h3
  split
  ·rename_i hw
   rw [if_pos hw] at h3
   exact h3.imp wp_then (fun hh => hh)
  ·rename_i hw
   rw [if_neg hw] at h3
   unfold wpList at h3
   exact h3
 ·have h0 := h3' hS
  unfold LW at h0
  have h3 := h0 a ha
  have hi' : l.toArray[m]? = some o'' := by simpa using hk
  unfold wpOp
  simp only [hi']
  unfold wpList at h3
  split
  ·rename_i hw
   rw [if_pos hw] at h3
   exact h3.imp wp_then (fun hh => hh)
  ·rename_i hw
   rw [if_neg hw] at h3
   unfold wpList at h3
   exact h3
end
section
variable {P : Program} {Q : Exit → Act → World → Prop} {D : List Deferred} {n : Nat} {E : Env} {w : World} {l rest : List Oper} {x y : Operand} {t T : TypeId} {d : Nat} {pos : String} {af : Array Edge}
theorem Y.shr {k j : IntKind} {p z : Int} {m : Nat} {ty u : TypeId} (hx : ev E x = some (.int k p)) (hy : ev E y = some (.int j (m : Int))) (hm : m ≤ k.bits) (hz : p / 2 ^ m = z) :
  Y P D n E w { dst := some d, op := .binOp .shr u x y ty, type := T, pos, after := af, guard := none } (.int k z) := fun a ha => by
 have hg : (eqGuard .shr u x y (.int k p) (.int j (m : Int))).run P w = .ok () w := rfl
 have hmin : min m k.bits = m := by omega
 have hf : p.fdiv (2 ^ m) = p / 2 ^ m := Int.fdiv_eq_ediv_of_nonneg p (Int.le_of_lt (Int.pow_pos (by decide)))
 have hneg : ¬ ((m : Int) < 0) := by omega
 simp only [execOp, ha.eval hx, ha.eval hy, Sem.run_bind, hg, Result.andThen_ok, binOp, Op.shift, hneg, if_false, Int.toNat_natCast, hmin, hf, hz, Sem.run_pure]
theorem LW.shr {k j : IntKind} {p z : Int} {m : Nat} {ty u : TypeId} (hx : ev E x = some (.int k p)) (hy : ev E y = some (.int j (m : Int))) (hm : m ≤ k.bits) (hz : p / 2 ^ m = z) (hn : Nat.blt d n = true) (h : LW P l Q rest D n ((d, .int k z) :: E) w) :
  LW P l Q ({ dst := some d, op := .binOp .shr u x y ty, type := T, pos, after := af, guard := none } :: rest) D n E w := LW.val rfl rfl hn (Y.shr hx hy hm hz) h
theorem Y.and_ {k : IntKind} {p q : Int} {ty u : TypeId} (hx : ev E x = some (.int k p)) (hy : ev E y = some (.int k q)) :
  Y P D n E w { dst := some d, op := .binOp .and u x y ty, type := T, pos, after := af, guard := none } (.int k (k.wrap (BitVec.ofInt k.bits p &&& BitVec.ofInt k.bits q).toNat)) := fun a ha => by
 rw [run_bin ha hx hy rfl]
 simp [binOp, Op.intBits]
theorem LW.and_ {k : IntKind} {p q : Int} {ty u : TypeId} (hx : ev E x = some (.int k p)) (hy : ev E y = some (.int k q)) (hn : Nat.blt d n = true) (h : ∀ z, LW P l Q rest D n ((d, .int k z) :: E) w) :
  LW P l Q ({ dst := some d, op := .binOp .and u x y ty, type := T, pos, after := af, guard := none } :: rest) D n E w := LW.val rfl rfl hn (Y.and_ hx hy) (h _)
end
section
variable {P : Program} {Q : Exit → Act → World → Prop} {D : List Deferred} {n : Nat} {E : Env} {w : World} {l rest : List Oper} [Tab P] {x : Operand} {t T e : TypeId} {r r' : TRow} {d : Nat} {pos : String} {af : Array Edge}
/-- 's[i:j]'. -/
theorem Y.slice_lh {lo hi : Operand} {k k' : IntKind} {p : Option Addr} {m c i j : Nat} (hx : ev E x = some (.slice p m c)) (hl : ev E lo = some (.int k (i : Int))) (hh : ev E hi = some (.int k' (j : Int))) (ht : Tab.row P t = some r) (hr : r.desc = .slice e) (he : Tab.row P e = some r') (hi' : i ≤ j) (hj : j ≤ c) :
  Y P D n E w { dst := some d, op := .slice t x (some lo) (some hi) none, type := T, pos, after := af, guard := none } (.slice (if c = i then p else p.map (·.add (i * r'.size))) (j - i) (c - i)) := fun a ha => by
 have hu := under_slice ht hr
 have hu' : P.underlying t = some (.slice (P.elem t)) := by rw [elem_of hu]; exact hu
 have e1 : (Instr.sliceAt t (.slice p m c) (some (.int k (i : Int))) (some (.int k' (j : Int))) none).run P w = .ok (.slice (if c = i then p else p.map (·.add (i * r'.size))) (j - i) (c - i)) w := by
  rw [run_sliceAt_slice w t _ _ _ _ hu']
  rw [run_slice_any w t p m c hu']
  have hb : (Instr.sliceBounds true m c (some (.int k (i : Int))) (some (.int k' (j : Int))) none).run P w = .ok (i, j, c) w := by
   simp [Instr.sliceBounds, Instr.sliceBound, asIntOf, hi', hj]
  rw [hb, elem_of hu]
  simp only [Result.andThen_ok, run_size he, sliced]
 simp only [execOp, ha.eval hx, ha.eval hl, ha.eval hh, Option.map_some, Option.map_none, Sem.run_bind, e1, Result.andThen_ok, Sem.run_pure]
theorem LW.slice_lh {lo hi : Operand} {k k' : IntKind} {p : Option Addr} {m c i j : Nat} (hx : ev E x = some (.slice p m c)) (hl : ev E lo = some (.int k (i : Int))) (hh : ev E hi = some (.int k' (j : Int))) (ht : Tab.row P t = some r) (hr : r.desc = .slice e) (he : Tab.row P e = some r') (hi' : i ≤ j) (hj : j ≤ c) (hn : Nat.blt d n = true)
  (h : LW P l Q rest D n ((d, .slice (if c = i then p else p.map (·.add (i * r'.size))) (j - i) (c - i)) :: E) w) : LW P l Q ({ dst := some d, op := .slice t x (some lo) (some hi) none, type := T, pos, after := af, guard := none } :: rest) D n E w := LW.val rfl rfl hn (Y.slice_lh hx hl hh ht hr he hi' hj) h
end
end Go.E
