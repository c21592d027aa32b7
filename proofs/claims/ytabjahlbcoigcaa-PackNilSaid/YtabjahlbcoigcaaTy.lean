/-
  The form of the table of types that a seat's own text fills. No program in sight.
-/
import Derived.WalkKit
import Derived.KernelRfl
namespace Go.E
open Go

/-! ### The table of types -/

structure TRow where
  desc : TypeDesc
  zero : Value
  size : Nat
  bytes : Nat

/-- A type's description without the paths that stand in it. -/
def bareF (f : Field) : Field := { f with tag := "", pkgPath := "" }
def bare : TypeDesc → TypeDesc
  | .struct fs => .struct (fs.map bareF)
  | .interface ms => .interface (ms.map fun m => ("", m.2))
  | d => d

def TyOk (P : Program) (t : TypeId) (r : TRow) : Prop := ∃ d, P.underlying t = some d ∧ bare d = r.desc ∧ ∃ i, P.info? t = some i ∧ i.zero = some r.zero ∧ i.size = r.size ∧ i.bytes = r.bytes

class Tab (P : Program) where
  row : Nat → Option TRow
  ok : ∀ t r, row t = some r → TyOk P t r

def lookT : List (Nat × TRow) → Nat → Option TRow
  | [], _ => none
  | p :: r, t => bif Nat.beq p.1 t then some p.2 else lookT r t

theorem lookT_ok {P : Program} : ∀ {l : List (Nat × TRow)}, (∀ p ∈ l, TyOk P p.1 p.2) → ∀ t r, lookT l t = some r → TyOk P t r
  | [], _, t, r, h => by simp [lookT] at h
  | p :: l, hl, t, r, h => by
    simp only [lookT] at h
    cases hb : Nat.beq p.1 t
    · rw [hb] at h; exact lookT_ok (fun q hq => hl q (List.mem_cons_of_mem _ hq)) t r h
    · rw [hb] at h
      simp only [cond_true, Option.some.injEq] at h
      have := Nat.eq_of_beq_eq_true hb
      subst h; subst this
      exact hl p (List.mem_cons_self ..)

theorem TyOk.mk' {P : Program} {t : TypeId} {r : TRow} {d : TypeDesc} (hu : P.underlying t = some d) (hd : bare d = r.desc) (hi : (P.info? t).map (fun i => (i.zero, i.size, i.bytes)) = some (some r.zero, r.size, r.bytes)) : TyOk P t r := by
  refine ⟨d, hu, hd, ?_⟩
  cases h : P.info? t with
  | none => simp [h] at hi
  | some i => simp [h] at hi; exact ⟨i, rfl, hi.1, hi.2.1, hi.2.2⟩


/-- Rows in parts of 16 numbers. -/
def lookB : List (List (Nat × TRow)) → Nat → Nat → Option TRow
  | [], _, _ => none
  | b :: _, 0, t => lookT b t
  | _ :: r, k + 1, t => lookB r k t
theorem lookB_ok {P : Program} : ∀ {l : List (List (Nat × TRow))}, (∀ b ∈ l, ∀ p ∈ b, TyOk P p.1 p.2) → ∀ k t r, lookB l k t = some r → TyOk P t r
  | [], _, k, t, r, h => by simp [lookB] at h
  | b :: l, hl, 0, t, r, h => lookT_ok (hl b (List.mem_cons_self ..)) t r h
  | b :: l, hl, k + 1, t, r, h => lookB_ok (fun q hq => hl q (List.mem_cons_of_mem _ hq)) k t r h
theorem RowsB.nil {P : Program} : ∀ b ∈ ([] : List (List (Nat × TRow))), ∀ p ∈ b, TyOk P p.1 p.2 := fun _ h => by cases h
theorem RowsB.cons {P : Program} {b : List (Nat × TRow)} {l : List (List (Nat × TRow))} (h : ∀ p ∈ b, TyOk P p.1 p.2) (hl : ∀ b ∈ l, ∀ p ∈ b, TyOk P p.1 p.2) : ∀ c ∈ b :: l, ∀ p ∈ c, TyOk P p.1 p.2 := fun c hc => by
  rcases List.mem_cons.1 hc with rfl | hc
  · exact h
  · exact hl c hc
/-- A field, in few words. -/
abbrev Fl (n : String) (t o b : Nat) : Field := { name := n, type := t, offset := o, embedded := false, tag := "", pkgPath := "", byteOffset := b }
theorem TyOk.m {P : Program} {t : TypeId} {r : TRow} {d : TypeDesc} (hu : P.underlying t = some d) (hd : bare d = r.desc := by kernel_rfl) (hi : (P.info? t).map (fun i => (i.zero, i.size, i.bytes)) = some (some r.zero, r.size, r.bytes) := by kernel_rfl) : TyOk P t r := TyOk.mk' hu hd hi
abbrev RowsOk (P : Program) (l : List (Nat × TRow)) : Prop := ∀ p ∈ l, TyOk P p.1 p.2
theorem TyN {P : Program} : RowsOk P [] := fun _ h => by cases h
theorem TyC {P : Program} {p : Nat × TRow} {l : List (Nat × TRow)} (k : RowsOk P l) {d : TypeDesc} (hu : P.underlying p.1 = some d) (hd : bare d = p.2.desc := by kernel_rfl) (hi : (P.info? p.1).map (fun i => (i.zero, i.size, i.bytes)) = some (some p.2.zero, p.2.size, p.2.bytes) := by kernel_rfl) : RowsOk P (p :: l) := fun q hq => by
  rcases List.mem_cons.1 hq with rfl | hq
  · exact TyOk.mk' hu hd hi
  · exact k q hq
end Go.E
