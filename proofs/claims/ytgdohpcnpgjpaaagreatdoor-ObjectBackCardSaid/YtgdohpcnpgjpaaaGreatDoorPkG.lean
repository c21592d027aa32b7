/-
  Joined by program out of the texts Cell CellM CellF CellP DigA NumP RCell RForm.
-/
import Derived.Test.YtgdohpcnpgjpaaaGreatDoorPkF
import Derived.Test.YtgdohpcnpgjpaaaGreatDoorPkE
import Derived.Test.YtgdohpcnpgjpaaaGreatDoorPkD
namespace Go.Proofs.YtgdohpcnpgjpaaaGreatDoor
open Go Go.E
def atN (s : List UInt8) : Nat := if s ≠ [] ∧ byte s 0 = 45 then 1 else 0
def allD (s : List UInt8) : Bool := decide (∀ j, j < s.length → atN s ≤ j → digB (byte s j) = true)
def numC (s : List UInt8) : Option Int := if allD s then (match Lib.atoiAll s with
 | .ok n => some n
 | _ => none) else none
theorem cnumber_ret (s : List UInt8) (hs : s.length ≤ 1000000) (w : World) (g : Glob w) : Ret Tryz.prog 70 [str s] w (fun v w' => (∃ z, v = .tuple #[.int .i64 z, .bool (numC s).isSome] ∧ ∀ n, numC s = some n → z = n) ∧ Ext w w') := by
 refine Rte Tryz.func70 Tryz.ntmps70 ?_; refine Sa ?_; by_cases h0 : s = []
 ·refine LW.know (t := 10) (c := false) rfl (by simp [h0]) ?_; refine Sa ?_; have hat : atN s = 0 := by simp [atN, h0]
  refine CW.loop (ι := Nat) (fun k w' => atN s ≤ k ∧ (k ≤ s.length ∨ s.length ≤ k) ∧ k ≤ s.length + 1 ∧ Ext w w' ∧ ∀ j, j < k → j < s.length → atN s ≤ j → digB (byte s j) = true) (fun k => [(0, str s), (5, .int .i64 (k : Int))]) (fun k => s.length + 1 - k) (atN s) ⟨Nat.le_refl _, by omega, by rw [hat]; omega, Chg.refl _ _, fun j h1 h2 h3 => by omega⟩ (by rw [hat]; exact (Sub.cons rfl (Sub.cons rfl (Sub.nil)))) ?_; rintro k w1 ⟨k0, _, k1, hx, hall⟩; refine Sa ?_; refine Cwc (fun b1 => ?_) fun b1 => ?_
  ·have b1 : k < s.length := by simp at b1; omega
   refine Sa ?_; refine Lwp (fun b2 => ?_) fun b2 => ?_
   ·have b2 : byte s k < 48 := by simpa using b2
    refine Sa ?_; refine QW.body2 Tryz.results70 rfl rfl ⟨⟨0, ?_, fun n hn => ?_⟩, hx⟩ <;>
    ·have : allD s = false := by
      simp only [allD, decide_eq_false_iff_not]; intro hh; have := hh k b1 k0; simp [digB] at this; omega
     first | rw [numC, this]; rfl | (rw [numC, this] at hn; cases hn)
   have b2 : ¬ byte s k < 48 := by simpa using b2
   refine Sa ?_; refine Cwc (fun b3 => ?_) fun b3 => ?_
   ·have b3 : 57 < byte s k := by simpa using b3
    refine Sa ?_; refine QW.body2 Tryz.results70 rfl rfl ⟨⟨0, ?_, fun n hn => ?_⟩, hx⟩ <;>
    ·have : allD s = false := by
      simp only [allD, decide_eq_false_iff_not]; intro hh; have := hh k b1 k0; simp [digB] at this; omega
     first | rw [numC, this]; rfl | (rw [numC, this] at hn; cases hn)
   have b3 : ¬ 57 < byte s k := by simpa using b3
   refine Sa ?_; refine QW.again (k + 1) ⟨by omega, by omega, by omega, hx, fun j h1 h2 h3 => ?_⟩ Sub2 (by omega); by_cases e : j = k
   ·subst e; simp [digB]; omega
   ·exact hall j (by omega) h2 h3
  have b1 : s.length ≤ k := by simp at b1; omega
  have hD : allD s = true := by
   simp only [allD, decide_eq_true_eq]; exact fun j h1 h2 => hall j (by omega) h1 h2
  refine Sa ?_; refine Lc0 rfl rfl (Atoi_ret s hs w1 (g.ext hx)) ?_; rintro v w2 ⟨hv, hx2⟩; unfold AtoiV at hv
  cases ha : Lib.atoiAll s with
  | ok n =>
   have hn : numC s = some n := by rw [numC, hD, ha]; rfl
   rw [ha] at hv; subst hv; refine Sa ?_; refine Cwd ?_; refine Sq ?_; refine QL.yields rfl rfl rfl (fun w' _ => Y.eql_nil_nil rfl rfl rfl _) ?_; refine Sq ?_; refine QL.nil fun w3 hx3 => ?_; refine Sa ?_
   refine QW.body2 Tryz.results70 rfl rfl ⟨⟨n, by rw [hn]; rfl, fun m hm => by rw [hn] at hm; exact Option.some.inj hm⟩, (hx.trans hx2).trans hx3⟩
  | range =>
   have hn : numC s = none := by rw [numC, hD, ha]; rfl
   rw [ha] at hv; obtain ⟨z, t, x, rfl⟩ := hv; refine Sa ?_; refine Cwd ?_; refine Sq ?_; refine QL.yields rfl rfl rfl (fun w' _ => Y.eql_nil rfl rfl rfl _) ?_; refine Sq ?_; refine QL.nil fun w3 hx3 => ?_; refine Sa ?_
   refine QW.body2 Tryz.results70 rfl rfl ⟨⟨z, by rw [hn]; rfl, fun m hm => by rw [hn] at hm; cases hm⟩, (hx.trans hx2).trans hx3⟩
  | _ =>
   have hn : numC s = none := by rw [numC, hD, ha]; rfl
   rw [ha] at hv; obtain ⟨z, t, x, rfl⟩ := hv; refine Sa ?_; refine Cwd ?_; refine Sq ?_; refine QL.yields rfl rfl rfl (fun w' _ => Y.eql_nil rfl rfl rfl _) ?_; refine Sq ?_; refine QL.nil fun w3 hx3 => ?_; refine Sa ?_; refine QW.body2 Tryz.results70 rfl rfl ⟨⟨z, by rw [hn]; rfl, fun m hm => by rw [hn] at hm; cases hm⟩, (hx.trans hx2).trans hx3⟩
 ·have hl : 0 < s.length := List.length_pos_iff.2 h0; refine LW.know (t := 10) (c := true) rfl (by simp [h0]) ?_; refine Sa ?_; refine Cwc (fun h1 => ?_) fun h1 => ?_
  ·have h1 : byte s 0 = 45 := by simpa using h1
   have hat : atN s = 1 := by simp [atN, h0, h1]
   refine Sa ?_; refine CW.loop (ι := Nat) (fun k w' => atN s ≤ k ∧ (k ≤ s.length ∨ s.length ≤ k) ∧ k ≤ s.length + 1 ∧ Ext w w' ∧ ∀ j, j < k → j < s.length → atN s ≤ j → digB (byte s j) = true) (fun k => [(0, str s), (5, .int .i64 (k : Int))]) (fun k => s.length + 1 - k) (atN s) ⟨Nat.le_refl _, by omega, by rw [hat]; omega, Chg.refl _ _, fun j h1 h2 h3 => by omega⟩ (by rw [hat]; exact (Sub.cons rfl (Sub.cons rfl (Sub.nil)))) ?_; rintro k w1 ⟨k0, _, k1, hx, hall⟩; refine Sa ?_; refine Cwc (fun b1 => ?_) fun b1 => ?_
   ·have b1 : k < s.length := by simp at b1; omega
    refine Sa ?_; refine Lwp (fun b2 => ?_) fun b2 => ?_
    ·have b2 : byte s k < 48 := by simpa using b2
     refine Sa ?_; refine QW.body2 Tryz.results70 rfl rfl ⟨⟨0, ?_, fun n hn => ?_⟩, hx⟩ <;>
     ·have : allD s = false := by
       simp only [allD, decide_eq_false_iff_not]; intro hh; have := hh k b1 k0; simp [digB] at this; omega
      first | rw [numC, this]; rfl | (rw [numC, this] at hn; cases hn)
    have b2 : ¬ byte s k < 48 := by simpa using b2
    refine Sa ?_; refine Cwc (fun b3 => ?_) fun b3 => ?_
    ·have b3 : 57 < byte s k := by simpa using b3
     refine Sa ?_; refine QW.body2 Tryz.results70 rfl rfl ⟨⟨0, ?_, fun n hn => ?_⟩, hx⟩ <;>
     ·have : allD s = false := by
       simp only [allD, decide_eq_false_iff_not]; intro hh; have := hh k b1 k0; simp [digB] at this; omega
      first | rw [numC, this]; rfl | (rw [numC, this] at hn; cases hn)
    have b3 : ¬ 57 < byte s k := by simpa using b3
    refine Sa ?_; refine QW.again (k + 1) ⟨by omega, by omega, by omega, hx, fun j h1 h2 h3 => ?_⟩ Sub2 (by omega); by_cases e : j = k
    ·subst e; simp [digB]; omega
    ·exact hall j (by omega) h2 h3
   have b1 : s.length ≤ k := by simp at b1; omega
   have hD : allD s = true := by
    simp only [allD, decide_eq_true_eq]; exact fun j h1 h2 => hall j (by omega) h1 h2
   refine Sa ?_; refine Lc0 rfl rfl (Atoi_ret s hs w1 (g.ext hx)) ?_; rintro v w2 ⟨hv, hx2⟩; unfold AtoiV at hv
   cases ha : Lib.atoiAll s with
   | ok n =>
    have hn : numC s = some n := by rw [numC, hD, ha]; rfl
    rw [ha] at hv; subst hv; refine Sa ?_; refine Cwd ?_; refine Sq ?_; refine QL.yields rfl rfl rfl (fun w' _ => Y.eql_nil_nil rfl rfl rfl _) ?_; refine Sq ?_; refine QL.nil fun w3 hx3 => ?_; refine Sa ?_
    refine QW.body2 Tryz.results70 rfl rfl ⟨⟨n, by rw [hn]; rfl, fun m hm => by rw [hn] at hm; exact Option.some.inj hm⟩, (hx.trans hx2).trans hx3⟩
   | range =>
    have hn : numC s = none := by rw [numC, hD, ha]; rfl
    rw [ha] at hv; obtain ⟨z, t, x, rfl⟩ := hv; refine Sa ?_; refine Cwd ?_; refine Sq ?_; refine QL.yields rfl rfl rfl (fun w' _ => Y.eql_nil rfl rfl rfl _) ?_; refine Sq ?_; refine QL.nil fun w3 hx3 => ?_; refine Sa ?_
    refine QW.body2 Tryz.results70 rfl rfl ⟨⟨z, by rw [hn]; rfl, fun m hm => by rw [hn] at hm; cases hm⟩, (hx.trans hx2).trans hx3⟩
   | _ =>
    have hn : numC s = none := by rw [numC, hD, ha]; rfl
    rw [ha] at hv; obtain ⟨z, t, x, rfl⟩ := hv; refine Sa ?_; refine Cwd ?_; refine Sq ?_; refine QL.yields rfl rfl rfl (fun w' _ => Y.eql_nil rfl rfl rfl _) ?_; refine Sq ?_; refine QL.nil fun w3 hx3 => ?_; refine Sa ?_; refine QW.body2 Tryz.results70 rfl rfl ⟨⟨z, by rw [hn]; rfl, fun m hm => by rw [hn] at hm; cases hm⟩, (hx.trans hx2).trans hx3⟩
  ·have h1 : byte s 0 ≠ 45 := by simpa using h1
   have hat : atN s = 0 := by simp [atN, h1]
   refine Sa ?_; refine CW.loop (ι := Nat) (fun k w' => atN s ≤ k ∧ (k ≤ s.length ∨ s.length ≤ k) ∧ k ≤ s.length + 1 ∧ Ext w w' ∧ ∀ j, j < k → j < s.length → atN s ≤ j → digB (byte s j) = true) (fun k => [(0, str s), (5, .int .i64 (k : Int))]) (fun k => s.length + 1 - k) (atN s) ⟨Nat.le_refl _, by omega, by rw [hat]; omega, Chg.refl _ _, fun j h1 h2 h3 => by omega⟩ (by rw [hat]; exact (Sub.cons rfl (Sub.cons rfl (Sub.nil)))) ?_; rintro k w1 ⟨k0, _, k1, hx, hall⟩; refine Sa ?_; refine Cwc (fun b1 => ?_) fun b1 => ?_
   ·have b1 : k < s.length := by simp at b1; omega
    refine Sa ?_; refine Lwp (fun b2 => ?_) fun b2 => ?_
    ·have b2 : byte s k < 48 := by simpa using b2
     refine Sa ?_; refine QW.body2 Tryz.results70 rfl rfl ⟨⟨0, ?_, fun n hn => ?_⟩, hx⟩ <;>
     ·have : allD s = false := by
       simp only [allD, decide_eq_false_iff_not]; intro hh; have := hh k b1 k0; simp [digB] at this; omega
      first | rw [numC, this]; rfl | (rw [numC, this] at hn; cases hn)
    have b2 : ¬ byte s k < 48 := by simpa using b2
    refine Sa ?_; refine Cwc (fun b3 => ?_) fun b3 => ?_
    ·have b3 : 57 < byte s k := by simpa using b3
     refine Sa ?_; refine QW.body2 Tryz.results70 rfl rfl ⟨⟨0, ?_, fun n hn => ?_⟩, hx⟩ <;>
     ·have : allD s = false := by
       simp only [allD, decide_eq_false_iff_not]; intro hh; have := hh k b1 k0; simp [digB] at this; omega
      first | rw [numC, this]; rfl | (rw [numC, this] at hn; cases hn)
    have b3 : ¬ 57 < byte s k := by simpa using b3
    refine Sa ?_; refine QW.again (k + 1) ⟨by omega, by omega, by omega, hx, fun j h1 h2 h3 => ?_⟩ Sub2 (by omega); by_cases e : j = k
    ·subst e; simp [digB]; omega
    ·exact hall j (by omega) h2 h3
   have b1 : s.length ≤ k := by simp at b1; omega
   have hD : allD s = true := by
    simp only [allD, decide_eq_true_eq]; exact fun j h1 h2 => hall j (by omega) h1 h2
   refine Sa ?_; refine Lc0 rfl rfl (Atoi_ret s hs w1 (g.ext hx)) ?_; rintro v w2 ⟨hv, hx2⟩; unfold AtoiV at hv
   cases ha : Lib.atoiAll s with
   | ok n =>
    have hn : numC s = some n := by rw [numC, hD, ha]; rfl
    rw [ha] at hv; subst hv; refine Sa ?_; refine Cwd ?_; refine Sq ?_; refine QL.yields rfl rfl rfl (fun w' _ => Y.eql_nil_nil rfl rfl rfl _) ?_; refine Sq ?_; refine QL.nil fun w3 hx3 => ?_; refine Sa ?_
    refine QW.body2 Tryz.results70 rfl rfl ⟨⟨n, by rw [hn]; rfl, fun m hm => by rw [hn] at hm; exact Option.some.inj hm⟩, (hx.trans hx2).trans hx3⟩
   | range =>
    have hn : numC s = none := by rw [numC, hD, ha]; rfl
    rw [ha] at hv; obtain ⟨z, t, x, rfl⟩ := hv; refine Sa ?_; refine Cwd ?_; refine Sq ?_; refine QL.yields rfl rfl rfl (fun w' _ => Y.eql_nil rfl rfl rfl _) ?_; refine Sq ?_; refine QL.nil fun w3 hx3 => ?_; refine Sa ?_
    refine QW.body2 Tryz.results70 rfl rfl ⟨⟨z, by rw [hn]; rfl, fun m hm => by rw [hn] at hm; cases hm⟩, (hx.trans hx2).trans hx3⟩
   | _ =>
    have hn : numC s = none := by rw [numC, hD, ha]; rfl
    rw [ha] at hv; obtain ⟨z, t, x, rfl⟩ := hv; refine Sa ?_; refine Cwd ?_; refine Sq ?_; refine QL.yields rfl rfl rfl (fun w' _ => Y.eql_nil rfl rfl rfl _) ?_; refine Sq ?_; refine QL.nil fun w3 hx3 => ?_; refine Sa ?_; refine QW.body2 Tryz.results70 rfl rfl ⟨⟨z, by rw [hn]; rfl, fun m hm => by rw [hn] at hm; cases hm⟩, (hx.trans hx2).trans hx3⟩
theorem atoi_bound {s : List UInt8} {n : Int} (h : Lib.atoiAll s = .ok n) : -9223372036854775808 ≤ n ∧ n ≤ 9223372036854775807 := by
 unfold Lib.atoiAll at h
 split at h
 ·cases h
 ·simp only at h
  split at h
  ·cases h
  ·cases h
  ·split at h
   ·cases h
   ·split at h
    ·cases h
    ·simp only [Lib.NumEnd.ok.injEq] at h; subst h
     split <;> omega
theorem numC_bound {s : List UInt8} {n : Int} (h : numC s = some n) : -9223372036854775808 ≤ n ∧ n ≤ 9223372036854775807 := by
 unfold numC at h
 split at h
 ·split at h
  ·rename_i m e; obtain rfl := Option.some.inj h; exact atoi_bound e
  ·cases h
 ·cases h
noncomputable def mayC (s : List UInt8) : Bool :=
 if 300 < s.length then false else if s = [] ∨ byte s 0 = 39 then true else if byte s 0 = 61 then (match parseT (s.drop 1) with
  | .error _ => false
  | .ok l => decide (printT l = s.drop 1))
 else match numC s with
  | some n => decide (Lib.itoa n = s)
  | none => false
theorem cMay_ret (s : List UInt8) (hs : s.length ≤ 9223372036854775807) (w : World) (g : Glob w) : Ret Tryz.prog 51 [str s] w (fun v w' => v = .bool (mayC s) ∧ Ext w w') := by
 refine Rte Tryz.func51 Tryz.ntmps51 ?_; refine Sa ?_; refine Cwc (fun h1 => ?_) fun h1 => ?_
 ·have h1 : 300 < s.length := by simp at h1; omega
  refine Sa ?_; exact QW.body1 Tryz.results51 rfl ⟨by rw [mayC, if_pos h1], Chg.refl _ _⟩
 have h1 : s.length ≤ 300 := by simp at h1; omega
 have n1 : ¬ 300 < s.length := by omega
 refine Sa ?_; by_cases h2 : s = []
 ·refine LW.know (t := 14) (c := true) rfl (by simp [h2]) ?_; refine Sa ?_; exact QW.body1 Tryz.results51 rfl ⟨by rw [mayC, if_neg n1, if_pos (.inl h2)], Chg.refl _ _⟩
 have hl : 0 < s.length := List.length_pos_iff.2 h2; refine LW.know (t := 14) (c := false) rfl (by simp [h2]) ?_; refine Sa ?_; refine Cwc (fun h3 => ?_) fun h3 => ?_
 ·have h3 : byte s 0 = 39 := by simpa using h3
  refine Sa ?_; exact QW.body1 Tryz.results51 rfl ⟨by rw [mayC, if_neg n1, if_pos (.inr h3)], Chg.refl _ _⟩
 have h3 : byte s 0 ≠ 39 := by simpa using h3
 have n3 : ¬ (s = [] ∨ byte s 0 = 39) := by simp [h2, h3]
 refine Sa ?_; refine Cwc (fun h4 => ?_) fun h4 => ?_
 ·have h4 : byte s 0 = 61 := by simpa using h4
  have ec : cut s (1 : Int).toNat ((s.length : Nat) : Int).toNat = s.drop 1 := cut_tail s 1; have hdl : (s.drop 1).length ≤ 300 := by simp; omega
  refine Sz ?_; refine Lc0 rfl rfl (Parse_ret (cut s (1 : Int).toNat ((s.length : Nat) : Int).toNat) (by rw [ec]; omega) w g) ?_; rintro v w1 ⟨hv, hx⟩; obtain ⟨l, e, sv, rfl, hN, hp⟩ := hv.both; rw [ec] at hp; obtain ⟨hsh, _⟩ := hp.facts; refine Sa ?_; refine Cwd ?_; refine Sq ?_; by_cases h5 : e = 0
  ·have hpo : parseT (s.drop 1) = .ok l := by
    rcases hp with ⟨h, _⟩ | ⟨_, _, h⟩
    ·exact h
    ·omega
   refine QL.know (t := 31) (c := true) rfl (by simp [h5]) ?_; refine Sq ?_; refine QL.call0 (v := str (printT l)) rfl rfl (fun w' hw => Print_ret l sv w' (g.ext (hx.trans hw)) (hN.ext hw) hsh hp.num) ?_; refine Sqz ?_; refine QL.nil fun w2 hx2 => ?_; refine Sa ?_; exact QW.body1 Tryz.results51 rfl ⟨by rw [mayC, if_neg n1, if_neg n3, if_pos h4, hpo, ec], hx.trans hx2⟩
  ·have hpe : parseT (s.drop 1) = .error e := by
    rcases hp with ⟨_, h⟩ | ⟨h, _, _⟩
    ·exact absurd h h5
    ·exact h
   refine QL.know (t := 31) (c := false) rfl (by simp [h5]) ?_; refine Sqz ?_; refine QL.nil fun w2 hx2 => ?_; refine Sa ?_; exact QW.body1 Tryz.results51 rfl ⟨by rw [mayC, if_neg n1, if_neg n3, if_pos h4, hpe], hx.trans hx2⟩
 have h4 : byte s 0 ≠ 61 := by simpa using h4
 refine Sa ?_; refine Lc0 rfl rfl (cnumber_ret s (by omega) w g) ?_; rintro v w1 ⟨⟨z, rfl, hz⟩, hx⟩
 cases hn : numC s with
 | some n =>
  obtain rfl := hz n hn; obtain ⟨b0, b1⟩ := numC_bound hn; refine Sa ?_; refine Lc0 rfl rfl (Itoa_ret z b0 b1 w1 (g.ext hx)) ?_; rintro v w2 ⟨rfl, hx2⟩; refine Sa ?_
  exact QW.body1 Tryz.results51 rfl ⟨by rw [mayC, if_neg n1, if_neg n3, if_neg h4, hn], hx.trans hx2⟩
 | none =>
  refine Sa ?_; exact QW.body1 Tryz.results51 rfl ⟨by rw [mayC, if_neg n1, if_neg n3, if_neg h4, hn], hx⟩
theorem numT_ge : ∀ (r : List UInt8) (x : Int), 0 ≤ x → (∀ c ∈ r, digB (c.toNat : Int) = true) → x ≤ numT x r
 | [], x, _, _ => by simp [numT]
 | c :: r, x, hx, hd => by
  have hc := hd c (by simp); simp only [digB, Bool.and_eq_true, decide_eq_true_eq] at hc; have ih := numT_ge r (10 * x + ((c.toNat : Int) - 48)) (by omega) (fun d h => hd d (by simp [h])); have e : numT x (c :: r) = numT (10 * x + ((c.toNat : Int) - 48)) r := rfl; rw [e]; omega
theorem uint_ok : ∀ (l : List UInt8) (acc : Nat), (∀ c ∈ l, digB (c.toNat : Int) = true) → numT (acc : Int) l ≤ 9223372036854775808 → Lib.parseUint10 acc l = .ok (numT (acc : Int) l).toNat
 | [], acc, _, _ => by simp [Lib.parseUint10, numT]
 | c :: r, acc, hd, hb => by
  have hc := hd c (by simp); simp only [digB, Bool.and_eq_true, decide_eq_true_eq] at hc; have hdr : ∀ d ∈ r, digB (d.toNat : Int) = true := fun d h => hd d (by simp [h]); have e : numT (acc : Int) (c :: r) = numT (((acc * 10 + (c.toNat - 48) : Nat)) : Int) r := by
   have e1 : numT (acc : Int) (c :: r) = numT (10 * (acc : Int) + ((c.toNat : Int) - 48)) r := rfl; rw [e1]
   congr 1
   omega
  rw [e] at hb ⊢; have hge := numT_ge r (((acc * 10 + (c.toNat - 48) : Nat)) : Int) (by omega) hdr; rw [Lib.parseUint10, if_pos (by omega), if_neg (by omega), if_neg (by omega)]; exact uint_ok r _ hdr hb
theorem mag_ok {u : Nat} (h : u ≤ 9223372036854775808) : Lib.parseMag (Lib.decDigits u) = .ok u := by
 obtain ⟨d1, d2, d3, _⟩ := dec_facts u u (Nat.le_refl _); rw [Lib.parseMag, if_neg d2, uint_ok _ 0 d1 (by rw [show ((0 : Nat) : Int) = 0 from rfl, d3]; omega), show ((0 : Nat) : Int) = 0 from rfl, d3]; simp
theorem dig_bytes {l : List UInt8} (h : ∀ c ∈ l, digB (c.toNat : Int) = true) {j : Nat} (hj : j < l.length) : digB (byte l j) = true := by
 rw [byte_eq hj]; exact h _ (List.getElem_mem hj)
theorem numC_itoa {n : Int} (h0 : -9223372036854775808 ≤ n) (h1 : n ≤ 9223372036854775807) : numC (Lib.itoa n) = some n ∧ Lib.itoa n ≠ [] ∧ (byte (Lib.itoa n) 0 = 45 ∨ 48 ≤ byte (Lib.itoa n) 0 ∧ byte (Lib.itoa n) 0 ≤ 57) := by
 by_cases hn : 0 ≤ n
 ·obtain ⟨d1, d2, d3, _⟩ := dec_facts n.toNat n.toNat (Nat.le_refl _); rw [itoa_nat hn]; have hl := List.length_pos_iff.2 d2; have hb := dig_bytes d1 hl; have hb' := hb; simp only [digB, Bool.and_eq_true, decide_eq_true_eq] at hb'; have hD : allD (Lib.decDigits n.toNat) = true := by
   simp only [allD, decide_eq_true_eq]; exact fun j hj _ => dig_bytes d1 hj
  refine ⟨?_, d2, .inr hb'⟩; have hm := mag_ok (u := n.toNat) (by omega); have ha : Lib.atoiAll (Lib.decDigits n.toNat) = .ok n := by
   cases hd : Lib.decDigits n.toNat with
   | nil => exact absurd hd d2
   | cons c r =>
    rw [hd] at hm hb'; have hc : byte (c :: r) 0 = (c.toNat : Int) := rfl; rw [hc] at hb'; simp only [Lib.atoiAll]; rw [if_neg (by omega), hm]; have h45 : ¬ c.toNat = 45 := by omega
    simp only [h45, not_false_eq_true, true_and, false_and, if_false]; rw [if_neg (by omega)]
    congr 1
    omega
  rw [numC, hD, ha]; rfl
 ·have e : Lib.itoa n = 45 :: Lib.decDigits (-n).toNat := by
   unfold Lib.itoa; rw [if_pos (by omega), show n.natAbs = (-n).toNat by omega]
  obtain ⟨d1, d2, d3, _⟩ := dec_facts (-n).toNat (-n).toNat (Nat.le_refl _); have hb : byte (45 :: Lib.decDigits (-n).toNat) 0 = 45 := rfl; have hat : atN (45 :: Lib.decDigits (-n).toNat) = 1 := by unfold atN; rw [hb]; simp
  have hD : allD (45 :: Lib.decDigits (-n).toNat) = true := by
   simp only [allD, decide_eq_true_eq]; intro j hj h1; rw [hat] at h1
   match j, h1 with
   | j + 1, _ => exact dig_bytes d1 (j := j) (by simpa using hj)
  have hm := mag_ok (u := (-n).toNat) (by omega); have ha : Lib.atoiAll (45 :: Lib.decDigits (-n).toNat) = .ok n := by
   simp only [Lib.atoiAll]; rw [if_pos (by decide), hm]; simp only; rw [if_neg (by simp), if_neg (by intro h; omega), if_pos (by decide)]
   congr 1
   omega
  rw [e]; refine ⟨?_, by simp, .inl hb⟩; rw [numC, hD, ha]; rfl
theorem Digits_neg (m : Nat) (h0 : 1 ≤ m) (h1 : m ≤ 9223372036854775808) (w : World) : Ret Tryz.prog 39 [.int .i64 (-(m : Int))] w (fun v w' => v = str (45 :: Lib.decDigits m) ∧ Ext w w') := by
 have hlen : (Lib.decDigits m).length ≤ 21 := by
  have := Lib.itoa_length_le (-(m : Int)) (by omega) (by omega); unfold Lib.itoa at this; rw [if_pos (by omega), show (-(m : Int)).natAbs = m by omega] at this; simp at this; omega
 refine Rte Tryz.func39 Tryz.ntmps39 ?_; refine Sa ?_; refine LW.conv (z := 18446744073709551616 - (m : Int)) rfl rfl rfl rfl rfl (by simp [IntKind.wrap, IntKind.bits, IntKind.signed]; omega) rfl ?_; refine Sa ?_; refine CW.yes rfl (decide_eq_true (show -(m : Int) < 0 by omega)) ?_; refine Sa ?_; refine LW.neg (z := (m : Int)) rfl (by simp [IntKind.wrap, IntKind.bits, IntKind.signed]; omega) rfl ?_; refine Sa ?_; refine CW.loop (ι := Nat × List UInt8) (fun i w' => i.1 ≤ m ∧ Ext w w' ∧ Lib.decDigits m = Lib.decDigits i.1 ++ i.2) (fun i => [(0, .int .i64 (-(m : Int))), (3, .int .u64 (i.1 : Int)), (4, str i.2)]) (fun i => i.1) (m, []) ⟨by simp, Chg.refl _ _, by simp⟩ Sub3 ?_; rintro ⟨u, acc⟩ w1 ⟨hu, hx, hd⟩; simp only at hu hd; have hal : acc.length ≤ 21 := by
  have := congrArg List.length hd; rw [List.length_append] at this; omega
 refine Sa ?_; refine Cwc (fun h2 => ?_) fun h2 => ?_
 ·have h2 : 10 ≤ u := by simp at h2; omega
  refine Sa ?_; refine Lwl fun b w2 hb hx2 hB => ?_; replace hB : Blk w2 b [.int .u8 (48 + (u : Int) % 10)] 5 := hB; replace hx := hx.trans hx2; refine Sa ?_; refine QW.again (u / 10, [ch (48 + (u : Int) % 10)] ++ acc) ⟨?_, hx, ?_⟩ Sub3 ?_
  ·simp only; omega
  ·simp only; rw [hd, decDigits_big h2]; simp
  ·simp only; omega
 ·have h2 : u < 10 := by simp at h2; omega
  refine Sa ?_; refine Lwl fun b w2 hb hx2 hB => ?_; replace hB : Blk w2 b [.int .u8 (48 + (u : Int))] 5 := hB; replace hx := hx.trans hx2; refine Sa ?_; refine CW.yes rfl (decide_eq_true (show -(m : Int) < 0 by omega)) ?_; refine Sa ?_; refine QW.body1 Tryz.results39 rfl ⟨?_, hx⟩; rw [hd, decDigits_small h2]; rfl
theorem itoa_neg (m : Nat) (h0 : 1 ≤ m) : Lib.itoa (-(m : Int)) = 45 :: Lib.decDigits m := by
 unfold Lib.itoa; rw [if_pos (by omega), show (-(m : Int)).natAbs = m by omega]
theorem Digits_all (n : Int) (h0 : -9223372036854775808 ≤ n) (h1 : n ≤ 9223372036854775807) (w : World) : Ret Tryz.prog 39 [.int .i64 n] w (fun v w' => v = str (Lib.itoa n) ∧ Ext w w') := by
 by_cases hn : 0 ≤ n
 ·exact Digits_ret n hn h1 w
 ·obtain ⟨m, rfl⟩ : ∃ m : Nat, n = -(m : Int) := ⟨n.natAbs, by omega⟩; rw [itoa_neg m (by omega)]; exact Digits_neg m (by omega) (by omega) w
theorem numT_push (acc : Nat) (c : UInt8) (r : List UInt8) (hc : digB (c.toNat : Int) = true) : numT (acc : Int) (c :: r) = numT (((acc * 10 + (c.toNat - 48) : Nat)) : Int) r := by
 simp only [digB, Bool.and_eq_true, decide_eq_true_eq] at hc; have e1 : numT (acc : Int) (c :: r) = numT (10 * (acc : Int) + ((c.toNat : Int) - 48)) r := rfl; rw [e1]
 congr 1
 omega
theorem uint_val : ∀ (l : List UInt8) (acc u : Nat), (∀ c ∈ l, digB (c.toNat : Int) = true) → Lib.parseUint10 acc l = .ok u → numT (acc : Int) l = u
 | [], acc, u, _, h => by
  simp only [Lib.parseUint10, Lib.NumEnd.ok.injEq] at h
  simp [numT, h]
 | c :: r, acc, u, hd, h => by
  have hc := hd c (by simp); have hc' := hc; simp only [digB, Bool.and_eq_true, decide_eq_true_eq] at hc; rw [Lib.parseUint10, if_pos (by omega)] at h
  split at h
  ·cases h
  split at h
  ·cases h
  rw [numT_push acc c r hc']; exact uint_val r _ u (fun d h => hd d (by simp [h])) h
def negB (s : List UInt8) : Bool := decide (s ≠ [] ∧ byte s 0 = 45)
def bodyD (s : List UInt8) : List UInt8 := if negB s then s.drop 1 else s
def digsB (l : List UInt8) : Bool := l.all fun c => digB (c.toNat : Int)
theorem digs_iff {l : List UInt8} : digsB l = true ↔ ∀ c ∈ l, digB (c.toNat : Int) = true := List.all_eq_true
theorem allD_iff (s : List UInt8) : allD s = digsB (bodyD s) := by
 have key : (∀ j, j < s.length → atN s ≤ j → digB (byte s j) = true) ↔ ∀ c ∈ bodyD s, digB (c.toNat : Int) = true := by
  by_cases hn : s ≠ [] ∧ byte s 0 = 45
  ·have e1 : atN s = 1 := by rw [atN, if_pos hn]
   have e2 : bodyD s = s.drop 1 := by rw [bodyD, negB, decide_eq_true hn]; rfl
   rw [e1, e2]; constructor
   ·intro h c hc; obtain ⟨j, hj, rfl⟩ := List.getElem_of_mem hc; have hj' : j + 1 < s.length := by simp at hj; omega
    have := h (j + 1) hj' (by omega); rw [byte_eq hj'] at this
    simpa [Nat.add_comm] using this
   ·intro h j hj h1; rw [byte_eq hj]; refine h _ ?_; rw [List.mem_iff_getElem?]; refine ⟨j - 1, ?_⟩; rw [List.getElem?_drop, show 1 + (j - 1) = j by omega, List.getElem?_eq_getElem hj]
  ·have e1 : atN s = 0 := by rw [atN, if_neg hn]
   have e2 : bodyD s = s := by rw [bodyD, negB, decide_eq_false hn]; rfl
   rw [e1, e2]; constructor
   ·intro h c hc; obtain ⟨j, hj, rfl⟩ := List.getElem_of_mem hc; have := h j hj (by omega)
    rwa [byte_eq hj] at this
   ·intro h j hj _; rw [byte_eq hj]; exact h _ (List.getElem_mem hj)
 rw [Bool.eq_iff_iff, digs_iff, allD, decide_eq_true_eq]; exact key
theorem numC_by (s : List UInt8) : numC s = if digsB (bodyD s) = true ∧ bodyD s ≠ [] ∧ numT 0 (bodyD s) ≤ 9223372036854775808 ∧ (negB s = false → numT 0 (bodyD s) ≠ 9223372036854775808) then some (if negB s = true then -numT 0 (bodyD s) else numT 0 (bodyD s)) else none := by
 rw [numC, allD_iff]; by_cases hd : digsB (bodyD s) = true; rotate_left
 ·rw [if_neg hd, if_neg (fun h => hd h.1)]
 rw [if_pos hd]; have hdd := digs_iff.1 hd; by_cases he : bodyD s = []
 ·rw [if_neg (fun h => h.2.1 he)]; unfold bodyD at he
  cases s with
  | nil => rfl
  | cons c r =>
   split at he
   ·rename_i hn; simp at he; subst he; simp only [negB, decide_eq_true_eq] at hn; have h45 : (c.toNat : Int) = 45 := hn.2; simp only [Lib.atoiAll]; rw [if_pos (by omega)]; rfl
   ·cases he
 ·have hl : Lib.parseMag (bodyD s) = Lib.parseUint10 0 (bodyD s) := by rw [Lib.parseMag, if_neg he]
  have hv : (∃ u : Nat, Lib.parseUint10 0 (bodyD s) = .ok u ∧ numT 0 (bodyD s) = u) ∨ (∀ u, Lib.parseUint10 0 (bodyD s) ≠ .ok u) ∧ 9223372036854775808 < numT 0 (bodyD s) := by
   cases hp : Lib.parseUint10 0 (bodyD s) with
   | ok u => exact .inl ⟨u, rfl, by have := uint_val _ _ _ hdd hp; simpa using this⟩
   | range =>
    refine .inr ⟨fun u h => (by cases h), ?_⟩; rcases Int.lt_or_le 9223372036854775808 (numT 0 (bodyD s)) with h | h
    ·exact h
    ·have := uint_ok (bodyD s) 0 hdd (by simpa using h)
     rw [this] at hp; cases hp
   | _ =>
    refine .inr ⟨fun u h => (by cases h), ?_⟩; rcases Int.lt_or_le 9223372036854775808 (numT 0 (bodyD s)) with h | h
    ·exact h
    ·have := uint_ok (bodyD s) 0 hdd (by simpa using h); rw [this] at hp; cases hp
  cases s with
  | nil => exact absurd rfl he
  | cons c r =>
   by_cases hn : c.toNat = 45
   ·have en : negB (c :: r) = true := by
     have : byte (c :: r) 0 = (c.toNat : Int) := rfl; simp only [negB, this, decide_eq_true_eq]; exact ⟨by simp, by omega⟩
    have eb : bodyD (c :: r) = r := by rw [bodyD, en]; rfl
    rw [eb] at hl hv he ⊢; rw [en]; simp only [Lib.atoiAll]; rw [if_pos (.inr hn), hl]; rcases hv with ⟨u, hp, hu⟩ | ⟨hp, hu⟩
    ·rw [hp, hu]; by_cases hb : 9223372036854775808 < u
     ·simp only; rw [if_neg (by simp [hn]), if_pos ⟨hn, hb⟩, if_neg (by intro h; omega)]
     ·have hR : digsB r = true ∧ r ≠ [] ∧ (u : Int) ≤ 9223372036854775808 ∧ (true = false → (u : Int) ≠ 9223372036854775808) := ⟨by rw [eb] at hd; exact hd, he, by omega, by simp⟩; rw [if_pos hR]; simp only [hn]; rw [if_neg (by simp), if_neg (by omega)]
      first | done | simp
    ·rw [if_neg (by intro h; omega)]
     cases hq : Lib.parseUint10 0 r with
     | ok u => exact absurd hq (hp u)
     | range => rfl
     | _ => rfl
   ·have en : negB (c :: r) = false := by
     have : byte (c :: r) 0 = (c.toNat : Int) := rfl; simp only [negB, this, decide_eq_false_iff_not]; intro h; omega
    have eb : bodyD (c :: r) = c :: r := by rw [bodyD, en]; rfl
    rw [eb] at hl hv he hdd ⊢; rw [en]; have hc := hdd c (by simp); simp only [digB, Bool.and_eq_true, decide_eq_true_eq] at hc; simp only [Lib.atoiAll]; rw [if_neg (by omega), hl]; rcases hv with ⟨u, hp, hu⟩ | ⟨hp, hu⟩
    ·rw [hp, hu]; by_cases hb : 9223372036854775808 ≤ u
     ·simp only; rw [if_pos ⟨hn, hb⟩, if_neg (by intro h; have := h.2.2.2 (by trivial); omega)]
     ·have hR : digsB (c :: r) = true ∧ c :: r ≠ [] ∧ (u : Int) ≤ 9223372036854775808 ∧ (True → (u : Int) ≠ 9223372036854775808) := ⟨by rw [eb] at hd; exact hd, he, by omega, fun _ => by omega⟩; rw [if_pos hR]; simp only [hn]; rw [if_neg (by omega), if_neg (by simp)]
      first | done | simp
    ·rw [if_neg (by intro h; omega)]
     cases hq : Lib.parseUint10 0 (c :: r) with
     | ok u => exact absurd hq (hp u)
     | range => rfl
     | _ => rfl
theorem numT_take {d : List UInt8} {i : Nat} (h : ∀ c ∈ d, digB (c.toNat : Int) = true) : 0 ≤ numT 0 (d.take i) ∧ numT 0 (d.take i) ≤ numT 0 d := by
 have h1 : ∀ c ∈ d.take i, digB (c.toNat : Int) = true := fun c hc => h c (List.mem_of_mem_take hc); have h2 : ∀ c ∈ d.drop i, digB (c.toNat : Int) = true := fun c hc => h c (List.mem_of_mem_drop hc); have h0 := numT_ge (d.take i) 0 (by omega) h1; refine ⟨h0, ?_⟩; have := numT_ge (d.drop i) (numT 0 (d.take i)) h0 h2; have e : numT 0 (d.take i ++ d.drop i) = numT (numT 0 (d.take i)) (d.drop i) := by simp only [numT, List.foldl_append]
 rw [List.take_append_drop] at e; rw [e]; exact this
theorem wrap_far {z : Int} : ∃ q : Int, IntKind.i64.wrap z = z + 18446744073709551616 * q ∧ -9223372036854775808 ≤ IntKind.i64.wrap z ∧ IntKind.i64.wrap z ≤ 9223372036854775807 := by
 have e : IntKind.i64.wrap z = if 9223372036854775808 ≤ z % 18446744073709551616 then z % 18446744073709551616 - 18446744073709551616 else z % 18446744073709551616 := by
  simp [IntKind.wrap, IntKind.bits, IntKind.signed]
 rw [e]
 split
 ·exact ⟨-(z / 18446744073709551616) - 1, by omega, by omega, by omega⟩
 ·exact ⟨-(z / 18446744073709551616), by omega, by omega, by omega⟩
theorem tdiv10 {z : Int} : (0 ≤ z → z.tdiv 10 = z / 10) ∧ (z ≤ 0 → z.tdiv 10 = -((-z) / 10)) := by
 refine ⟨fun h => Int.tdiv_eq_ediv_of_nonneg h, fun h => ?_⟩; have : z.tdiv 10 = -((-z).tdiv 10) := by rw [Int.neg_tdiv, Int.neg_neg]
 rw [this, Int.tdiv_eq_ediv_of_nonneg (by omega)]
theorem times_ret (m : Int) (h0 : -9223372036854775808 ≤ m) (h1 : m ≤ 0) (w : World) : Ret Tryz.prog 78 [.int .i64 m, .int .i64 10] w (fun v w' => (∃ z, v = .tuple #[.int .i64 z, .bool (decide (-9223372036854775808 ≤ m * 10))] ∧ (-9223372036854775808 ≤ m * 10 → z = m * 10) ∧ -9223372036854775808 ≤ z ∧ z ≤ 9223372036854775807) ∧ Ext w w') := by
 refine Rte Tryz.func78 Tryz.ntmps78 ?_; refine Sa ?_; by_cases a1 : m = 0
 ·refine LW.know (t := 9) (c := true) rfl (decide_eq_true a1) ?_; refine Sa ?_; exact QW.body2 Tryz.results78 rfl rfl ⟨⟨0, by rw [decide_eq_true (by omega)], fun _ => by omega, by omega, by omega⟩, Chg.refl _ _⟩
 refine LW.know (t := 9) (c := false) rfl (decide_eq_false a1) ?_; refine Sa ?_; obtain ⟨q, hq, hq1, hq2⟩ := wrap_far (z := m * 10); generalize hz : IntKind.i64.wrap (m * 10) = z at hq hq1 hq2; refine LW.arith (op := .mul) (r := z) rfl rfl hz rfl rfl ?_; refine Sa ?_; have hd := tdiv10 (z := z); obtain ⟨y, hy, hy1⟩ : ∃ y, z.tdiv 10 = y ∧ ((0 ≤ z → y = z / 10) ∧ (z ≤ 0 → y = -((-z) / 10))) := ⟨_, rfl, hd⟩; refine LW.tquo (q := 10) (z := y) rfl rfl (by decide) (by rw [hy, wrap_i64 (by omega) (by omega)]) rfl ?_; refine Sa ?_; by_cases a2 : -9223372036854775808 ≤ m * 10
 ·have hzm : z = m * 10 := by omega
  refine LW.know (t := 22) (c := true) rfl (decide_eq_true (by omega)) ?_; refine Sa ?_; exact QW.body2 Tryz.results78 rfl rfl ⟨⟨z, by rw [decide_eq_true a2]; rfl, fun _ => hzm, hq1, hq2⟩, Chg.refl _ _⟩
 ·refine LW.know (t := 22) (c := false) rfl (decide_eq_false (by omega)) ?_; refine Sa ?_; exact QW.body2 Tryz.results78 rfl rfl ⟨⟨z, by rw [decide_eq_false a2], fun h => absurd h a2, hq1, hq2⟩, Chg.refl _ _⟩
theorem plus_ret (m k : Int) (h0 : -9223372036854775808 ≤ m) (h1 : m ≤ 9223372036854775807) (k0 : -9 ≤ k) (k1 : k ≤ 0) (w : World) : Ret Tryz.prog 79 [.int .i64 m, .int .i64 k] w (fun v w' => (∃ z b, v = .tuple #[.int .i64 z, .bool b] ∧ (m ≤ 0 → b = decide (-9223372036854775808 ≤ m + k) ∧ (-9223372036854775808 ≤ m + k → z = m + k))) ∧ Ext w w') := by
 refine Rte Tryz.func79 Tryz.ntmps79 ?_; refine Sa ?_; obtain ⟨q, hq, hq1, hq2⟩ := wrap_far (z := m + k); generalize hz : IntKind.i64.wrap (m + k) = z at hq hq1 hq2; refine LW.arith (op := .add) (r := z) rfl rfl hz rfl rfl ?_; refine Sa ?_; refine QW.body2 Tryz.results79 rfl rfl ⟨⟨z, _, rfl, fun hm => ⟨?_, fun h => by omega⟩⟩, Chg.refl _ _⟩; by_cases a2 : -9223372036854775808 ≤ m + k
 ·rw [decide_eq_true a2, decide_eq_true_eq]; by_cases a3 : k = 0
  ·rw [decide_eq_true (show m ≤ z by omega), decide_eq_true (show 0 ≤ k by omega)]
  ·rw [decide_eq_false (show ¬ m ≤ z by omega), decide_eq_false (show ¬ 0 ≤ k by omega)]
 ·rw [decide_eq_false a2, decide_eq_false_iff_not, decide_eq_true (show m ≤ z by omega), decide_eq_false (show ¬ 0 ≤ k by omega)]; simp
theorem numC_bad {s : List UInt8} (h : digsB (bodyD s) = false) : numC s = none := by
 rw [numC_by, if_neg]; rintro ⟨h1, _⟩; rw [h] at h1; cases h1
theorem numC_nil {s : List UInt8} (h : bodyD s = []) : numC s = none := by
 rw [numC_by, if_neg]; rintro ⟨_, h1, _⟩; exact h1 h
theorem numC_big {s : List UInt8} {i : Nat} (h : 9223372036854775808 < numT 0 ((bodyD s).take i)) : numC s = none := by
 rw [numC_by, if_neg]; rintro ⟨h1, _, h2, _⟩; have := (numT_take (i := i) (digs_iff.1 h1)).2; omega
theorem numT_step {d : List UInt8} {k : Nat} (h : k < d.length) : numT 0 (d.take (k + 1)) = 10 * numT 0 (d.take k) + (byte d k - 48) := by
 rw [List.take_add_one, List.getElem?_eq_getElem h, Option.toList_some, numT_snoc, byte_eq h]
theorem digs_step {d : List UInt8} {k : Nat} (h : k < d.length) : digsB (d.take (k + 1)) = (digsB (d.take k) && digB (byte d k)) := by
 have e : d.take (k + 1) = d.take k ++ [d[k]] := by rw [List.take_add_one, List.getElem?_eq_getElem h]; rfl
 rw [e, byte_eq h]; simp only [digsB, List.all_append, List.all_cons, List.all_nil, Bool.and_true]
def valC (s : List UInt8) : Int := match numC s with
 | some n => n
 | none => 0
def WholeV (s : List UInt8) (v : Value) : Prop := v = .tuple #[.int .i64 (valC s), .bool (numC s).isSome]
theorem wholeV_none {s : List UInt8} (h : numC s = none) : WholeV s (.tuple #[.int .i64 0, .bool false]) := by
 unfold WholeV valC; rw [h]; rfl
theorem wholeV_some {s : List UInt8} {n : Int} (h : numC s = some n) : WholeV s (.tuple #[.int .i64 n, .bool true]) := by
 unfold WholeV valC; rw [h]; rfl
set_option maxHeartbeats 2000000 in
theorem whole_ret (s : List UInt8) (hs : s.length ≤ 1000000) (w : World) : Ret Tryz.prog 56 [str s] w (fun v w' => WholeV s v ∧ Ext w w') := by
 obtain ⟨d, hd⟩ : ∃ d, d = bodyD s := ⟨_, rfl⟩; have hdl : d.length ≤ s.length := by
  rw [hd, bodyD]
  split <;> simp
 refine Rte Tryz.func56 Tryz.ntmps56 ?_; refine Sa ?_; obtain ⟨ng, hng⟩ : ∃ ng, ng = negB s := ⟨_, rfl⟩; by_cases h0 : s = []
 ·refine LW.know (t := 15) (c := false) rfl (by simp [h0]) ?_; have hn : negB s = false := by simp [negB, h0]
  have ed : s = d := by rw [hd, bodyD, hn]; rfl
  refine Sa ?_; refine CW.loop (ι := Nat) (fun k w' => k ≤ d.length ∧ numT 0 (d.take k) ≤ 9223372036854775808 ∧ 0 ≤ numT 0 (d.take k) ∧ digsB (d.take k) = true ∧ Ext w w') (fun k => [(4, .bool ng), (5, str d), (6, .int .i64 (-numT 0 (d.take k))), (7, .int .i64 (k : Int))]) (fun k => d.length - k) 0 ⟨by omega, by simp [numT], by simp [numT], rfl, Chg.refl _ _⟩ (Sub.cons (by rw [hng, hn]; first | rfl | (show some (Value.bool (decide (byte s 0 = 45))) = _; first | rw [decide_eq_true h1] | rw [decide_eq_false h1])) (Sub.cons (by rw [← ed]; first | rfl | (rw [← ec]; rfl)) (Sub.cons rfl (Sub.cons rfl Sub.nil)))) ?_; clear hn ed; rintro k w1 ⟨k0, k1, k2, k3, hx⟩; refine Sa ?_; refine Cwc (fun b1 => ?_) fun b1 => ?_; rotate_left
  ·have b1 : k = d.length := by simp at b1; omega
   rw [b1, List.take_length] at k1 k2 k3; rw [b1, List.take_length]; refine Sa ?_; have hnc := numC_by s; rw [← hd, ← hng] at hnc; by_cases e0 : d = []
   ·refine LW.know (t := 67) (c := true) rfl (by simp [e0]) ?_; refine Sa ?_; exact QW.body2 Tryz.results56 rfl rfl ⟨wholeV_none (numC_nil (by rw [← hd]; exact e0)), hx⟩
   have e1 : 0 < d.length := List.length_pos_iff.2 e0; refine LW.know (t := 67) (c := false) rfl (decide_eq_false (by omega)) ?_
   cases ng with
   | true =>
    rw [if_pos ⟨k3, e0, k1, by simp⟩, if_pos rfl] at hnc; refine Sa ?_
    exact QW.body2 Tryz.results56 rfl rfl ⟨wholeV_some hnc, hx⟩
   | false =>
    refine Sa ?_; refine Cwc (fun b7 => ?_) fun b7 => ?_
    ·have b7 : -numT 0 d = -9223372036854775808 := by simpa using b7
     rw [if_neg (fun h => h.2.2.2 rfl (by omega))] at hnc; refine Sa ?_; exact QW.body2 Tryz.results56 rfl rfl ⟨wholeV_none hnc, hx⟩
    have b7 : ¬ -numT 0 d = -9223372036854775808 := by simpa using b7
    rw [if_pos ⟨k3, e0, k1, fun _ => by omega⟩, if_neg (by simp)] at hnc; refine Sa ?_; refine LW.neg (z := numT 0 d) rfl (by rw [wrap_i64 (by omega) (by omega)]; omega) rfl ?_; refine Sa ?_; exact QW.body2 Tryz.results56 rfl rfl ⟨wholeV_some hnc, hx⟩
  have b1 : k < d.length := by simp at b1; omega
  have hst := numT_step b1; have hby := byte_lt d k; have hdg := digs_step b1; have hbad : digB (byte d k) = false → numC s = none := fun h => by
   refine numC_bad ?_; rw [← hd]
   cases hh : digsB d with
   | false => rfl
   | true =>
    have := digs_iff.1 hh d[k] (List.getElem_mem b1); rw [← byte_eq b1, h] at this; cases this
  refine Sa ?_; by_cases b2 : byte d k < 48
  ·refine LW.know (t := 34) (c := true) rfl (decide_eq_true b2) ?_; refine Sa ?_; exact QW.body2 Tryz.results56 rfl rfl ⟨wholeV_none (hbad (by simp [digB]; omega)), hx⟩
  refine LW.know (t := 34) (c := false) rfl (decide_eq_false b2) ?_; refine Sa ?_; refine Cwc (fun b3 => ?_) fun b3 => ?_
  ·have b3 : 57 < byte d k := by simpa using b3
   refine Sa ?_; exact QW.body2 Tryz.results56 rfl rfl ⟨wholeV_none (hbad (by simp [digB]; omega)), hx⟩
  have b3 : ¬ 57 < byte d k := by simpa using b3
  have hdig : digB (byte d k) = true := by simp [digB]; omega
  rw [k3, hdig] at hdg; refine Sa ?_; refine Lc0 rfl rfl (times_ret (-numT 0 (d.take k)) (by omega) (by omega) w1) ?_; rintro v w2 ⟨⟨z, rfl, hz, hz1, hz2⟩, hx2⟩; refine Sa ?_; refine LW.neg (z := -(byte d k - 48)) rfl (by show IntKind.i64.wrap (0 - (byte d k - 48)) = _; rw [wrap_i64 (by omega) (by omega)]; omega) rfl ?_; refine Sa ?_; refine Lc0 rfl rfl (plus_ret z (-(byte d k - 48)) hz1 hz2 (by omega) (by omega) w2) ?_; rintro v w3 ⟨⟨y, b, rfl, hy⟩, hx3⟩; have hx3' := (hx.trans hx2).trans hx3; refine Sa ?_; by_cases o1 : -9223372036854775808 ≤ -numT 0 (d.take k) * 10; rotate_left
  ·refine LW.know (t := 58) (c := true) rfl (by rw [decide_eq_false o1]; rfl) ?_; refine Sa ?_; exact QW.body2 Tryz.results56 rfl rfl ⟨wholeV_none (numC_big (i := k + 1) (by rw [← hd]; omega)), hx3'⟩
  obtain rfl := hz o1; obtain ⟨rfl, hy1⟩ := hy (by omega); refine LW.know (t := 58) (c := false) rfl (by rw [decide_eq_true o1]; rfl) ?_; refine Sa ?_; refine Cwc (fun b5 => ?_) fun b5 => ?_
  ·have b5 : ¬ -9223372036854775808 ≤ -numT 0 (d.take k) * 10 + -(byte d k - 48) := by simpa using b5
   refine Sa ?_; exact QW.body2 Tryz.results56 rfl rfl ⟨wholeV_none (numC_big (i := k + 1) (by rw [← hd]; omega)), hx3'⟩
  have b5 : -9223372036854775808 ≤ -numT 0 (d.take k) * 10 + -(byte d k - 48) := by simpa using b5
  have hy2 : y = -numT 0 (d.take (k + 1)) := by rw [hy1 b5, hst]; omega
  refine Sa ?_; exact QW.again (k + 1) ⟨by omega, by omega, by omega, hdg, hx3'⟩ (by rw [← hy2]; exact (Sub.cons rfl (Sub.cons rfl (Sub.cons rfl (Sub.cons rfl (Sub.nil)))))) (by omega)
 have hl : 0 < s.length := List.length_pos_iff.2 h0; refine LW.know (t := 15) (c := true) rfl (decide_eq_true (by omega)) ?_; refine Sa ?_; by_cases h1 : byte s 0 = 45
 ·have hn : negB s = true := by simp [negB, h0, h1]
  have ec : cut s (1 : Int).toNat ((s.length : Nat) : Int).toNat = s.drop 1 := cut_tail s 1; have ed : s.drop 1 = d := by rw [hd, bodyD, hn]; rfl
  refine CW.yes rfl (decide_eq_true h1) ?_; refine Sz ?_; refine CW.loop (ι := Nat) (fun k w' => k ≤ d.length ∧ numT 0 (d.take k) ≤ 9223372036854775808 ∧ 0 ≤ numT 0 (d.take k) ∧ digsB (d.take k) = true ∧ Ext w w') (fun k => [(4, .bool ng), (5, str d), (6, .int .i64 (-numT 0 (d.take k))), (7, .int .i64 (k : Int))]) (fun k => d.length - k) 0 ⟨by omega, by simp [numT], by simp [numT], rfl, Chg.refl _ _⟩ (Sub.cons (by rw [hng, hn]; first | rfl | (show some (Value.bool (decide (byte s 0 = 45))) = _; first | rw [decide_eq_true h1] | rw [decide_eq_false h1])) (Sub.cons (by rw [← ed]; first | rfl | (rw [← ec]; rfl)) (Sub.cons rfl (Sub.cons rfl Sub.nil)))) ?_; clear hn ed; rintro k w1 ⟨k0, k1, k2, k3, hx⟩; refine Sa ?_; refine Cwc (fun b1 => ?_) fun b1 => ?_; rotate_left
  ·have b1 : k = d.length := by simp at b1; omega
   rw [b1, List.take_length] at k1 k2 k3; rw [b1, List.take_length]; refine Sa ?_; have hnc := numC_by s; rw [← hd, ← hng] at hnc; by_cases e0 : d = []
   ·refine LW.know (t := 67) (c := true) rfl (by simp [e0]) ?_; refine Sa ?_; exact QW.body2 Tryz.results56 rfl rfl ⟨wholeV_none (numC_nil (by rw [← hd]; exact e0)), hx⟩
   have e1 : 0 < d.length := List.length_pos_iff.2 e0; refine LW.know (t := 67) (c := false) rfl (decide_eq_false (by omega)) ?_
   cases ng with
   | true =>
    rw [if_pos ⟨k3, e0, k1, by simp⟩, if_pos rfl] at hnc; refine Sa ?_
    exact QW.body2 Tryz.results56 rfl rfl ⟨wholeV_some hnc, hx⟩
   | false =>
    refine Sa ?_; refine Cwc (fun b7 => ?_) fun b7 => ?_
    ·have b7 : -numT 0 d = -9223372036854775808 := by simpa using b7
     rw [if_neg (fun h => h.2.2.2 rfl (by omega))] at hnc; refine Sa ?_; exact QW.body2 Tryz.results56 rfl rfl ⟨wholeV_none hnc, hx⟩
    have b7 : ¬ -numT 0 d = -9223372036854775808 := by simpa using b7
    rw [if_pos ⟨k3, e0, k1, fun _ => by omega⟩, if_neg (by simp)] at hnc; refine Sa ?_; refine LW.neg (z := numT 0 d) rfl (by rw [wrap_i64 (by omega) (by omega)]; omega) rfl ?_; refine Sa ?_; exact QW.body2 Tryz.results56 rfl rfl ⟨wholeV_some hnc, hx⟩
  have b1 : k < d.length := by simp at b1; omega
  have hst := numT_step b1; have hby := byte_lt d k; have hdg := digs_step b1; have hbad : digB (byte d k) = false → numC s = none := fun h => by
   refine numC_bad ?_; rw [← hd]
   cases hh : digsB d with
   | false => rfl
   | true =>
    have := digs_iff.1 hh d[k] (List.getElem_mem b1); rw [← byte_eq b1, h] at this; cases this
  refine Sa ?_; by_cases b2 : byte d k < 48
  ·refine LW.know (t := 34) (c := true) rfl (decide_eq_true b2) ?_; refine Sa ?_; exact QW.body2 Tryz.results56 rfl rfl ⟨wholeV_none (hbad (by simp [digB]; omega)), hx⟩
  refine LW.know (t := 34) (c := false) rfl (decide_eq_false b2) ?_; refine Sa ?_; refine Cwc (fun b3 => ?_) fun b3 => ?_
  ·have b3 : 57 < byte d k := by simpa using b3
   refine Sa ?_; exact QW.body2 Tryz.results56 rfl rfl ⟨wholeV_none (hbad (by simp [digB]; omega)), hx⟩
  have b3 : ¬ 57 < byte d k := by simpa using b3
  have hdig : digB (byte d k) = true := by simp [digB]; omega
  rw [k3, hdig] at hdg; refine Sa ?_; refine Lc0 rfl rfl (times_ret (-numT 0 (d.take k)) (by omega) (by omega) w1) ?_; rintro v w2 ⟨⟨z, rfl, hz, hz1, hz2⟩, hx2⟩; refine Sa ?_; refine LW.neg (z := -(byte d k - 48)) rfl (by show IntKind.i64.wrap (0 - (byte d k - 48)) = _; rw [wrap_i64 (by omega) (by omega)]; omega) rfl ?_; refine Sa ?_; refine Lc0 rfl rfl (plus_ret z (-(byte d k - 48)) hz1 hz2 (by omega) (by omega) w2) ?_; rintro v w3 ⟨⟨y, b, rfl, hy⟩, hx3⟩; have hx3' := (hx.trans hx2).trans hx3; refine Sa ?_; by_cases o1 : -9223372036854775808 ≤ -numT 0 (d.take k) * 10; rotate_left
  ·refine LW.know (t := 58) (c := true) rfl (by rw [decide_eq_false o1]; rfl) ?_; refine Sa ?_; exact QW.body2 Tryz.results56 rfl rfl ⟨wholeV_none (numC_big (i := k + 1) (by rw [← hd]; omega)), hx3'⟩
  obtain rfl := hz o1; obtain ⟨rfl, hy1⟩ := hy (by omega); refine LW.know (t := 58) (c := false) rfl (by rw [decide_eq_true o1]; rfl) ?_; refine Sa ?_; refine Cwc (fun b5 => ?_) fun b5 => ?_
  ·have b5 : ¬ -9223372036854775808 ≤ -numT 0 (d.take k) * 10 + -(byte d k - 48) := by simpa using b5
   refine Sa ?_; exact QW.body2 Tryz.results56 rfl rfl ⟨wholeV_none (numC_big (i := k + 1) (by rw [← hd]; omega)), hx3'⟩
  have b5 : -9223372036854775808 ≤ -numT 0 (d.take k) * 10 + -(byte d k - 48) := by simpa using b5
  have hy2 : y = -numT 0 (d.take (k + 1)) := by rw [hy1 b5, hst]; omega
  refine Sa ?_; exact QW.again (k + 1) ⟨by omega, by omega, by omega, hdg, hx3'⟩ (by rw [← hy2]; exact (Sub.cons rfl (Sub.cons rfl (Sub.cons rfl (Sub.cons rfl (Sub.nil)))))) (by omega)
 ·have hn : negB s = false := by simp [negB, h1]
  have ed : s = d := by rw [hd, bodyD, hn]; rfl
  refine CW.no rfl (decide_eq_false h1) ?_; refine Sa ?_; refine CW.loop (ι := Nat) (fun k w' => k ≤ d.length ∧ numT 0 (d.take k) ≤ 9223372036854775808 ∧ 0 ≤ numT 0 (d.take k) ∧ digsB (d.take k) = true ∧ Ext w w') (fun k => [(4, .bool ng), (5, str d), (6, .int .i64 (-numT 0 (d.take k))), (7, .int .i64 (k : Int))]) (fun k => d.length - k) 0 ⟨by omega, by simp [numT], by simp [numT], rfl, Chg.refl _ _⟩ (Sub.cons (by rw [hng, hn]; first | rfl | (show some (Value.bool (decide (byte s 0 = 45))) = _; first | rw [decide_eq_true h1] | rw [decide_eq_false h1])) (Sub.cons (by rw [← ed]; first | rfl | (rw [← ec]; rfl)) (Sub.cons rfl (Sub.cons rfl Sub.nil)))) ?_; clear hn ed; rintro k w1 ⟨k0, k1, k2, k3, hx⟩; refine Sa ?_; refine Cwc (fun b1 => ?_) fun b1 => ?_; rotate_left
  ·have b1 : k = d.length := by simp at b1; omega
   rw [b1, List.take_length] at k1 k2 k3; rw [b1, List.take_length]; refine Sa ?_; have hnc := numC_by s; rw [← hd, ← hng] at hnc; by_cases e0 : d = []
   ·refine LW.know (t := 67) (c := true) rfl (by simp [e0]) ?_; refine Sa ?_; exact QW.body2 Tryz.results56 rfl rfl ⟨wholeV_none (numC_nil (by rw [← hd]; exact e0)), hx⟩
   have e1 : 0 < d.length := List.length_pos_iff.2 e0; refine LW.know (t := 67) (c := false) rfl (decide_eq_false (by omega)) ?_
   cases ng with
   | true =>
    rw [if_pos ⟨k3, e0, k1, by simp⟩, if_pos rfl] at hnc; refine Sa ?_
    exact QW.body2 Tryz.results56 rfl rfl ⟨wholeV_some hnc, hx⟩
   | false =>
    refine Sa ?_; refine Cwc (fun b7 => ?_) fun b7 => ?_
    ·have b7 : -numT 0 d = -9223372036854775808 := by simpa using b7
     rw [if_neg (fun h => h.2.2.2 rfl (by omega))] at hnc; refine Sa ?_; exact QW.body2 Tryz.results56 rfl rfl ⟨wholeV_none hnc, hx⟩
    have b7 : ¬ -numT 0 d = -9223372036854775808 := by simpa using b7
    rw [if_pos ⟨k3, e0, k1, fun _ => by omega⟩, if_neg (by simp)] at hnc; refine Sa ?_; refine LW.neg (z := numT 0 d) rfl (by rw [wrap_i64 (by omega) (by omega)]; omega) rfl ?_; refine Sa ?_; exact QW.body2 Tryz.results56 rfl rfl ⟨wholeV_some hnc, hx⟩
  have b1 : k < d.length := by simp at b1; omega
  have hst := numT_step b1; have hby := byte_lt d k; have hdg := digs_step b1; have hbad : digB (byte d k) = false → numC s = none := fun h => by
   refine numC_bad ?_; rw [← hd]
   cases hh : digsB d with
   | false => rfl
   | true =>
    have := digs_iff.1 hh d[k] (List.getElem_mem b1); rw [← byte_eq b1, h] at this; cases this
  refine Sa ?_; by_cases b2 : byte d k < 48
  ·refine LW.know (t := 34) (c := true) rfl (decide_eq_true b2) ?_; refine Sa ?_; exact QW.body2 Tryz.results56 rfl rfl ⟨wholeV_none (hbad (by simp [digB]; omega)), hx⟩
  refine LW.know (t := 34) (c := false) rfl (decide_eq_false b2) ?_; refine Sa ?_; refine Cwc (fun b3 => ?_) fun b3 => ?_
  ·have b3 : 57 < byte d k := by simpa using b3
   refine Sa ?_; exact QW.body2 Tryz.results56 rfl rfl ⟨wholeV_none (hbad (by simp [digB]; omega)), hx⟩
  have b3 : ¬ 57 < byte d k := by simpa using b3
  have hdig : digB (byte d k) = true := by simp [digB]; omega
  rw [k3, hdig] at hdg; refine Sa ?_; refine Lc0 rfl rfl (times_ret (-numT 0 (d.take k)) (by omega) (by omega) w1) ?_; rintro v w2 ⟨⟨z, rfl, hz, hz1, hz2⟩, hx2⟩; refine Sa ?_; refine LW.neg (z := -(byte d k - 48)) rfl (by show IntKind.i64.wrap (0 - (byte d k - 48)) = _; rw [wrap_i64 (by omega) (by omega)]; omega) rfl ?_; refine Sa ?_; refine Lc0 rfl rfl (plus_ret z (-(byte d k - 48)) hz1 hz2 (by omega) (by omega) w2) ?_; rintro v w3 ⟨⟨y, b, rfl, hy⟩, hx3⟩; have hx3' := (hx.trans hx2).trans hx3; refine Sa ?_; by_cases o1 : -9223372036854775808 ≤ -numT 0 (d.take k) * 10; rotate_left
  ·refine LW.know (t := 58) (c := true) rfl (by rw [decide_eq_false o1]; rfl) ?_; refine Sa ?_; exact QW.body2 Tryz.results56 rfl rfl ⟨wholeV_none (numC_big (i := k + 1) (by rw [← hd]; omega)), hx3'⟩
  obtain rfl := hz o1; obtain ⟨rfl, hy1⟩ := hy (by omega); refine LW.know (t := 58) (c := false) rfl (by rw [decide_eq_true o1]; rfl) ?_; refine Sa ?_; refine Cwc (fun b5 => ?_) fun b5 => ?_
  ·have b5 : ¬ -9223372036854775808 ≤ -numT 0 (d.take k) * 10 + -(byte d k - 48) := by simpa using b5
   refine Sa ?_; exact QW.body2 Tryz.results56 rfl rfl ⟨wholeV_none (numC_big (i := k + 1) (by rw [← hd]; omega)), hx3'⟩
  have b5 : -9223372036854775808 ≤ -numT 0 (d.take k) * 10 + -(byte d k - 48) := by simpa using b5
  have hy2 : y = -numT 0 (d.take (k + 1)) := by rw [hy1 b5, hst]; omega
  refine Sa ?_; exact QW.again (k + 1) ⟨by omega, by omega, by omega, hdg, hx3'⟩ (by rw [← hy2]; exact (Sub.cons rfl (Sub.cons rfl (Sub.cons rfl (Sub.cons rfl (Sub.nil)))))) (by omega)
theorem valC_some {s : List UInt8} {n : Int} (h : numC s = some n) : valC s = n := by
 unfold valC; rw [h]
set_option maxHeartbeats 1000000 in
theorem rMayCell_ret (s : List UInt8) (hs : s.length ≤ 9223372036854775807) (w : World) : Ret Tryz.prog 28 [str s] w (fun v w' => v = .bool (mayC s) ∧ Ext w w') := by
 refine Rte Tryz.func28 Tryz.ntmps28 ?_; refine Sa ?_; refine Cwc (fun h1 => ?_) fun h1 => ?_
 ·have h1 : 300 < s.length := by simp at h1; omega
  refine Sa ?_; exact QW.body1 Tryz.results28 rfl ⟨by rw [mayC, if_pos h1], Chg.refl _ _⟩
 have h1 : s.length ≤ 300 := by simp at h1; omega
 have n1 : ¬ 300 < s.length := by omega
 refine Sa ?_; by_cases h2 : s = []
 ·refine LW.know (t := 11) (c := true) rfl (by simp [h2]) ?_; refine Sa ?_; exact QW.body1 Tryz.results28 rfl ⟨by rw [mayC, if_neg n1, if_pos (.inl h2)], Chg.refl _ _⟩
 have hl : 0 < s.length := List.length_pos_iff.2 h2; refine LW.know (t := 11) (c := false) rfl (by simp [h2]) ?_; refine Sa ?_; refine Cwc (fun h3 => ?_) fun h3 => ?_
 ·have h3 : byte s 0 = 39 := by simpa using h3
  refine Sa ?_; exact QW.body1 Tryz.results28 rfl ⟨by rw [mayC, if_neg n1, if_pos (.inr h3)], Chg.refl _ _⟩
 have h3 : byte s 0 ≠ 39 := by simpa using h3
 have n3 : ¬ (s = [] ∨ byte s 0 = 39) := by simp [h2, h3]
 refine Sa ?_; refine Cwc (fun h4 => ?_) fun h4 => ?_
 ·have h4 : byte s 0 = 61 := by simpa using h4
  have ec : cut s (1 : Int).toNat ((s.length : Nat) : Int).toNat = s.drop 1 := cut_tail s 1; have hdl : (s.drop 1).length ≤ 300 := by simp; omega
  refine Sz ?_; refine Lc0 rfl rfl (RParse_ok (cut s (1 : Int).toNat ((s.length : Nat) : Int).toNat) (by rw [ec]; omega) w) ?_; rw [ec]; rintro v w1 ⟨⟨hv, he⟩, hx1⟩
  cases hpo : parseT (s.drop 1) with
  | error e =>
   rw [hpo] at hv; obtain rfl := hv; have he0 := he e hpo; refine Sa ?_; refine Lwa fun A w2 hbA hx2 hA => ?_; refine Sa ?_; refine Lws fun w3 hc3 hA => ?_; have hx3 := (hx1.trans hx2).step hc3 (by have := hx1.size; simp; omega); refine Sa ?_; refine LW.know (t := 25) (c := false) rfl (decide_eq_false he0) ?_; refine Sa ?_
   exact QW.body1 Tryz.results28 rfl ⟨by rw [mayC, if_neg n1, if_neg n3, if_pos h4, hpo], hx3⟩
  | ok l =>
   rw [hpo] at hv; obtain ⟨sv, rfl, hN⟩ := hv; obtain ⟨_, f1, f2, f3, f4⟩ := parse_facts hpo; have hNR : NodesR w1 sv l := hN.row (by omega) (fun n hm => by have := f4 n hm; omega); obtain ⟨p, c, rfl⟩ := hNR.slice; have hpi : PIs (s.drop 1) l 0 := .inl ⟨hpo, rfl⟩; refine Sa ?_; refine Lwa fun A w2 hbA hx2 hA => ?_; have hz1 := hx1.size; refine Sa ?_; refine Lws fun w3 hc3 hA => ?_; have hx13 : Ext w1 w3 := hx2.step hc3 (by simp; omega); have hx3 := hx1.trans hx13; refine Sa ?_; refine Lc0 rfl rfl (rPrint_ret l _ w3 (hNR.ext hx13) f2 (fun n hn => by have := f4 n hn; omega) hpi.num) ?_; rintro v w4 ⟨rfl, hx4⟩; have hpl := (print_parse hpo).2.1; refine Sa ?_; refine QW.body1 Tryz.results28 rfl ⟨?_, hx3.trans hx4⟩; rw [mayC, if_neg n1, if_neg n3, if_pos h4, hpo]; simp only; have es : s = 61 :: s.drop 1 := by
    cases s with
    | nil => exact absurd rfl h2
    | cons c r =>
     have : byte (c :: r) 0 = (c.toNat : Int) := rfl; rw [this] at h4; have hc : c = 61 := by
      apply UInt8.toNat_inj.1; simp; omega
     rw [hc]; rfl
   congr 1
   by_cases hq : printT l = s.drop 1
   ·rw [decide_eq_true hq, decide_eq_true]; rw [hq]; exact es.symm
   ·rw [decide_eq_false hq, decide_eq_false]; intro hh; rw [es] at hh; simp at hh; exact hq (by simpa using hh)
 have h4 : byte s 0 ≠ 61 := by simpa using h4
 refine Sa ?_; refine Lc0 rfl rfl (whole_ret s (by omega) w) ?_; rintro v w1 ⟨hv, hx⟩; unfold WholeV at hv; subst hv
 cases hn : numC s with
 | some n =>
  obtain ⟨b0, b1⟩ := numC_bound hn; rw [valC_some hn]; refine Sa ?_; refine Lc0 rfl rfl (Digits_all n b0 b1 w1) ?_; rintro v w2 ⟨rfl, hx2⟩; refine Sa ?_
  exact QW.body1 Tryz.results28 rfl ⟨by rw [mayC, if_neg n1, if_neg n3, if_neg h4, hn], hx.trans hx2⟩
 | none =>
  refine Sa ?_; exact QW.body1 Tryz.results28 rfl ⟨by rw [mayC, if_neg n1, if_neg n3, if_neg h4, hn], hx⟩
end Go.Proofs.YtgdohpcnpgjpaaaGreatDoor
