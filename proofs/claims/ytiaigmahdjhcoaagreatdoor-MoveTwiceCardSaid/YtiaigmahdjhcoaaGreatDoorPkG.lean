/-
 Joined by program out of the texts Cell CellM CellF CellP DigA NumP MapI MapS MovP MovT MovM RCell RForm.
-/
import Derived.Test.YtiaigmahdjhcoaaGreatDoorPkF
import Derived.Test.YtiaigmahdjhcoaaGreatDoorPkE
import Derived.Test.YtiaigmahdjhcoaaGreatDoorPkD
import Derived.Test.YtiaigmahdjhcoaaGreatDoorPkC
namespace Go.Proofs.YtiaigmahdjhcoaaGreatDoor
open Go Go.E
def atN (s : List UInt8) : Nat := if s ≠ [] ∧ byte s 0 = 45 then 1 else 0
def allD (s : List UInt8) : Bool := decide (∀ j, j < s.length → atN s ≤ j → digB (byte s j) = true)
def numC (s : List UInt8) : Option Int := if allD s then (match Lib.atoiAll s with
 | .ok n => some n
 | _ => none) else none
theorem cnumber_ret (s : List UInt8) (hs : s.length ≤ 1000000) (w : World) (g : Glob w) : Ret Tryz.prog 73 [str s] w (fun v w' => (∃ z, v = .tuple #[.int .i64 z, .bool (numC s).isSome] ∧ ∀ n, numC s = some n → z = n) ∧ Ext w w') := by
 refine Ret.enter Tryz.func73 rfl Tryz.ntmps73 (by kernel_rfl) rfl ?_
 refine Sa ?_
 by_cases h0 : s = []
 ·refine LW.know (t := 10) (c := false) rfl (by simp [h0]) ?_
  refine Sa ?_
  have hat : atN s = 0 := by simp [atN, h0]
  refine CW.loop (ι := Nat) (fun k w' => atN s ≤ k ∧ (k ≤ s.length ∨ s.length ≤ k) ∧ k ≤ s.length + 1 ∧ Ext w w' ∧ ∀ j, j < k → j < s.length → atN s ≤ j → digB (byte s j) = true) (fun k => [(0, str s), (5, .int .i64 (k : Int))]) (fun k => s.length + 1 - k) (atN s) ⟨Nat.le_refl _, by omega, by rw [hat]; omega, Chg.refl _ _, fun j h1 h2 h3 => by omega⟩ (by rw [hat]; exact (Sub.cons rfl (Sub.cons rfl (Sub.nil)))) ?_
  rintro k w1 ⟨k0, _, k1, hx, hall⟩
  refine Sa ?_
  refine Cwc (fun b1 => ?_) fun b1 => ?_
  ·have b1 : k < s.length := by simp at b1; omega
   refine Sa ?_
   refine LW.part rfl rfl rfl (fun b2 => ?_) (fun b2 => ?_)
   ·have b2 : byte s k < 48 := by simpa using b2
    refine Sa ?_
    refine QW.body2 Tryz.results73 rfl rfl ⟨⟨0, ?_, fun n hn => ?_⟩, hx⟩ <;>
    ·have : allD s = false := by
      simp only [allD, decide_eq_false_iff_not]
      intro hh
      have := hh k b1 k0
      simp [digB] at this
      omega
     first | rw [numC, this]; rfl | (rw [numC, this] at hn; cases hn)
   have b2 : ¬ byte s k < 48 := by simpa using b2
   refine Sa ?_
   refine Cwc (fun b3 => ?_) fun b3 => ?_
   ·have b3 : 57 < byte s k := by simpa using b3
    refine Sa ?_
    refine QW.body2 Tryz.results73 rfl rfl ⟨⟨0, ?_, fun n hn => ?_⟩, hx⟩ <;>
    ·have : allD s = false := by
      simp only [allD, decide_eq_false_iff_not]
      intro hh
      have := hh k b1 k0
      simp [digB] at this
      omega
     first | rw [numC, this]; rfl | (rw [numC, this] at hn; cases hn)
   have b3 : ¬ 57 < byte s k := by simpa using b3
   refine Sa ?_
   refine QW.again (k + 1) ⟨by omega, by omega, by omega, hx, fun j h1 h2 h3 => ?_⟩ (Sub.cons rfl (Sub.cons rfl (Sub.nil))) (by omega)
   by_cases e : j = k
   ·subst e
    simp [digB]
    omega
   ·exact hall j (by omega) h2 h3
  have b1 : s.length ≤ k := by simp at b1; omega
  have hD : allD s = true := by
   simp only [allD, decide_eq_true_eq]
   exact fun j h1 h2 => hall j (by omega) h1 h2
  refine Sa ?_
  refine LW.call0 rfl rfl (Atoi_ret s hs w1 (g.ext hx)) ?_
  rintro v w2 ⟨hv, hx2⟩
  unfold AtoiV at hv
  cases ha : Lib.atoiAll s with
  | ok n =>
   have hn : numC s = some n := by rw [numC, hD, ha]; rfl
   rw [ha] at hv
   subst hv
   refine Sa ?_
   refine CW.draw (by kernel_rfl) (by kernel_rfl) ?_
   refine Sq ?_
   refine QL.yields rfl rfl rfl (fun w' _ => Y.eql_nil_nil rfl rfl rfl _) ?_
   refine Sq ?_
   refine QL.nil fun w3 hx3 => ?_
   refine Sa ?_
   refine QW.body2 Tryz.results73 rfl rfl ⟨⟨n, by rw [hn]; rfl, fun m hm => by rw [hn] at hm; exact Option.some.inj hm⟩, (hx.trans hx2).trans hx3⟩
  | range =>
   have hn : numC s = none := by rw [numC, hD, ha]; rfl
   rw [ha] at hv
   obtain ⟨z, t, x, rfl⟩ := hv
   refine Sa ?_
   refine CW.draw (by kernel_rfl) (by kernel_rfl) ?_
   refine Sq ?_
   refine QL.yields rfl rfl rfl (fun w' _ => Y.eql_nil rfl rfl rfl _) ?_
   refine Sq ?_
   refine QL.nil fun w3 hx3 => ?_
   refine Sa ?_
   refine QW.body2 Tryz.results73 rfl rfl ⟨⟨z, by rw [hn]; rfl, fun m hm => by rw [hn] at hm; cases hm⟩, (hx.trans hx2).trans hx3⟩
  | _ =>
   have hn : numC s = none := by rw [numC, hD, ha]; rfl
   rw [ha] at hv
   obtain ⟨z, t, x, rfl⟩ := hv
   refine Sa ?_
   refine CW.draw (by kernel_rfl) (by kernel_rfl) ?_
   refine Sq ?_
   refine QL.yields rfl rfl rfl (fun w' _ => Y.eql_nil rfl rfl rfl _) ?_
   refine Sq ?_
   refine QL.nil fun w3 hx3 => ?_
   refine Sa ?_
   refine QW.body2 Tryz.results73 rfl rfl ⟨⟨z, by rw [hn]; rfl, fun m hm => by rw [hn] at hm; cases hm⟩, (hx.trans hx2).trans hx3⟩
 ·have hl : 0 < s.length := List.length_pos_iff.2 h0
  refine LW.know (t := 10) (c := true) rfl (by simp [h0]) ?_
  refine Sa ?_
  refine Cwc (fun h1 => ?_) fun h1 => ?_
  ·have h1 : byte s 0 = 45 := by simpa using h1
   have hat : atN s = 1 := by simp [atN, h0, h1]
   refine Sa ?_
   refine CW.loop (ι := Nat) (fun k w' => atN s ≤ k ∧ (k ≤ s.length ∨ s.length ≤ k) ∧ k ≤ s.length + 1 ∧ Ext w w' ∧ ∀ j, j < k → j < s.length → atN s ≤ j → digB (byte s j) = true) (fun k => [(0, str s), (5, .int .i64 (k : Int))]) (fun k => s.length + 1 - k) (atN s) ⟨Nat.le_refl _, by omega, by rw [hat]; omega, Chg.refl _ _, fun j h1 h2 h3 => by omega⟩ (by rw [hat]; exact (Sub.cons rfl (Sub.cons rfl (Sub.nil)))) ?_
   rintro k w1 ⟨k0, _, k1, hx, hall⟩
   refine Sa ?_
   refine Cwc (fun b1 => ?_) fun b1 => ?_
   ·have b1 : k < s.length := by simp at b1; omega
    refine Sa ?_
    refine LW.part rfl rfl rfl (fun b2 => ?_) (fun b2 => ?_)
    ·have b2 : byte s k < 48 := by simpa using b2
     refine Sa ?_
     refine QW.body2 Tryz.results73 rfl rfl ⟨⟨0, ?_, fun n hn => ?_⟩, hx⟩ <;>
     ·have : allD s = false := by
       simp only [allD, decide_eq_false_iff_not]
       intro hh
       have := hh k b1 k0
       simp [digB] at this
       omega
      first | rw [numC, this]; rfl | (rw [numC, this] at hn; cases hn)
    have b2 : ¬ byte s k < 48 := by simpa using b2
    refine Sa ?_
    refine Cwc (fun b3 => ?_) fun b3 => ?_
    ·have b3 : 57 < byte s k := by simpa using b3
     refine Sa ?_
     refine QW.body2 Tryz.results73 rfl rfl ⟨⟨0, ?_, fun n hn => ?_⟩, hx⟩ <;>
     ·have : allD s = false := by
       simp only [allD, decide_eq_false_iff_not]
       intro hh
       have := hh k b1 k0
       simp [digB] at this
       omega
      first | rw [numC, this]; rfl | (rw [numC, this] at hn; cases hn)
    have b3 : ¬ 57 < byte s k := by simpa using b3
    refine Sa ?_
    refine QW.again (k + 1) ⟨by omega, by omega, by omega, hx, fun j h1 h2 h3 => ?_⟩ (Sub.cons rfl (Sub.cons rfl (Sub.nil))) (by omega)
    by_cases e : j = k
    ·subst e
     simp [digB]
     omega
    ·exact hall j (by omega) h2 h3
   have b1 : s.length ≤ k := by simp at b1; omega
   have hD : allD s = true := by
    simp only [allD, decide_eq_true_eq]
    exact fun j h1 h2 => hall j (by omega) h1 h2
   refine Sa ?_
   refine LW.call0 rfl rfl (Atoi_ret s hs w1 (g.ext hx)) ?_
   rintro v w2 ⟨hv, hx2⟩
   unfold AtoiV at hv
   cases ha : Lib.atoiAll s with
   | ok n =>
    have hn : numC s = some n := by rw [numC, hD, ha]; rfl
    rw [ha] at hv
    subst hv
    refine Sa ?_
    refine CW.draw (by kernel_rfl) (by kernel_rfl) ?_
    refine Sq ?_
    refine QL.yields rfl rfl rfl (fun w' _ => Y.eql_nil_nil rfl rfl rfl _) ?_
    refine Sq ?_
    refine QL.nil fun w3 hx3 => ?_
    refine Sa ?_
    refine QW.body2 Tryz.results73 rfl rfl ⟨⟨n, by rw [hn]; rfl, fun m hm => by rw [hn] at hm; exact Option.some.inj hm⟩, (hx.trans hx2).trans hx3⟩
   | range =>
    have hn : numC s = none := by rw [numC, hD, ha]; rfl
    rw [ha] at hv
    obtain ⟨z, t, x, rfl⟩ := hv
    refine Sa ?_
    refine CW.draw (by kernel_rfl) (by kernel_rfl) ?_
    refine Sq ?_
    refine QL.yields rfl rfl rfl (fun w' _ => Y.eql_nil rfl rfl rfl _) ?_
    refine Sq ?_
    refine QL.nil fun w3 hx3 => ?_
    refine Sa ?_
    refine QW.body2 Tryz.results73 rfl rfl ⟨⟨z, by rw [hn]; rfl, fun m hm => by rw [hn] at hm; cases hm⟩, (hx.trans hx2).trans hx3⟩
   | _ =>
    have hn : numC s = none := by rw [numC, hD, ha]; rfl
    rw [ha] at hv
    obtain ⟨z, t, x, rfl⟩ := hv
    refine Sa ?_
    refine CW.draw (by kernel_rfl) (by kernel_rfl) ?_
    refine Sq ?_
    refine QL.yields rfl rfl rfl (fun w' _ => Y.eql_nil rfl rfl rfl _) ?_
    refine Sq ?_
    refine QL.nil fun w3 hx3 => ?_
    refine Sa ?_
    refine QW.body2 Tryz.results73 rfl rfl ⟨⟨z, by rw [hn]; rfl, fun m hm => by rw [hn] at hm; cases hm⟩, (hx.trans hx2).trans hx3⟩
  ·have h1 : byte s 0 ≠ 45 := by simpa using h1
   have hat : atN s = 0 := by simp [atN, h1]
   refine Sa ?_
   refine CW.loop (ι := Nat) (fun k w' => atN s ≤ k ∧ (k ≤ s.length ∨ s.length ≤ k) ∧ k ≤ s.length + 1 ∧ Ext w w' ∧ ∀ j, j < k → j < s.length → atN s ≤ j → digB (byte s j) = true) (fun k => [(0, str s), (5, .int .i64 (k : Int))]) (fun k => s.length + 1 - k) (atN s) ⟨Nat.le_refl _, by omega, by rw [hat]; omega, Chg.refl _ _, fun j h1 h2 h3 => by omega⟩ (by rw [hat]; exact (Sub.cons rfl (Sub.cons rfl (Sub.nil)))) ?_
   rintro k w1 ⟨k0, _, k1, hx, hall⟩
   refine Sa ?_
   refine Cwc (fun b1 => ?_) fun b1 => ?_
   ·have b1 : k < s.length := by simp at b1; omega
    refine Sa ?_
    refine LW.part rfl rfl rfl (fun b2 => ?_) (fun b2 => ?_)
    ·have b2 : byte s k < 48 := by simpa using b2
     refine Sa ?_
     refine QW.body2 Tryz.results73 rfl rfl ⟨⟨0, ?_, fun n hn => ?_⟩, hx⟩ <;>
     ·have : allD s = false := by
       simp only [allD, decide_eq_false_iff_not]
       intro hh
       have := hh k b1 k0
       simp [digB] at this
       omega
      first | rw [numC, this]; rfl | (rw [numC, this] at hn; cases hn)
    have b2 : ¬ byte s k < 48 := by simpa using b2
    refine Sa ?_
    refine Cwc (fun b3 => ?_) fun b3 => ?_
    ·have b3 : 57 < byte s k := by simpa using b3
     refine Sa ?_
     refine QW.body2 Tryz.results73 rfl rfl ⟨⟨0, ?_, fun n hn => ?_⟩, hx⟩ <;>
     ·have : allD s = false := by
       simp only [allD, decide_eq_false_iff_not]
       intro hh
       have := hh k b1 k0
       simp [digB] at this
       omega
      first | rw [numC, this]; rfl | (rw [numC, this] at hn; cases hn)
    have b3 : ¬ 57 < byte s k := by simpa using b3
    refine Sa ?_
    refine QW.again (k + 1) ⟨by omega, by omega, by omega, hx, fun j h1 h2 h3 => ?_⟩ (Sub.cons rfl (Sub.cons rfl (Sub.nil))) (by omega)
    by_cases e : j = k
    ·subst e
     simp [digB]
     omega
    ·exact hall j (by omega) h2 h3
   have b1 : s.length ≤ k := by simp at b1; omega
   have hD : allD s = true := by
    simp only [allD, decide_eq_true_eq]
    exact fun j h1 h2 => hall j (by omega) h1 h2
   refine Sa ?_
   refine LW.call0 rfl rfl (Atoi_ret s hs w1 (g.ext hx)) ?_
   rintro v w2 ⟨hv, hx2⟩
   unfold AtoiV at hv
   cases ha : Lib.atoiAll s with
   | ok n =>
    have hn : numC s = some n := by rw [numC, hD, ha]; rfl
    rw [ha] at hv
    subst hv
    refine Sa ?_
    refine CW.draw (by kernel_rfl) (by kernel_rfl) ?_
    refine Sq ?_
    refine QL.yields rfl rfl rfl (fun w' _ => Y.eql_nil_nil rfl rfl rfl _) ?_
    refine Sq ?_
    refine QL.nil fun w3 hx3 => ?_
    refine Sa ?_
    refine QW.body2 Tryz.results73 rfl rfl ⟨⟨n, by rw [hn]; rfl, fun m hm => by rw [hn] at hm; exact Option.some.inj hm⟩, (hx.trans hx2).trans hx3⟩
   | range =>
    have hn : numC s = none := by rw [numC, hD, ha]; rfl
    rw [ha] at hv
    obtain ⟨z, t, x, rfl⟩ := hv
    refine Sa ?_
    refine CW.draw (by kernel_rfl) (by kernel_rfl) ?_
    refine Sq ?_
    refine QL.yields rfl rfl rfl (fun w' _ => Y.eql_nil rfl rfl rfl _) ?_
    refine Sq ?_
    refine QL.nil fun w3 hx3 => ?_
    refine Sa ?_
    refine QW.body2 Tryz.results73 rfl rfl ⟨⟨z, by rw [hn]; rfl, fun m hm => by rw [hn] at hm; cases hm⟩, (hx.trans hx2).trans hx3⟩
   | _ =>
    have hn : numC s = none := by rw [numC, hD, ha]; rfl
    rw [ha] at hv
    obtain ⟨z, t, x, rfl⟩ := hv
    refine Sa ?_
    refine CW.draw (by kernel_rfl) (by kernel_rfl) ?_
    refine Sq ?_
    refine QL.yields rfl rfl rfl (fun w' _ => Y.eql_nil rfl rfl rfl _) ?_
    refine Sq ?_
    refine QL.nil fun w3 hx3 => ?_
    refine Sa ?_
    refine QW.body2 Tryz.results73 rfl rfl ⟨⟨z, by rw [hn]; rfl, fun m hm => by rw [hn] at hm; cases hm⟩, (hx.trans hx2).trans hx3⟩
noncomputable def normC (s : List UInt8) : List UInt8 × Int :=
 if 100 < s.length then ([], 4) else if s = [] ∨ byte s 0 = 39 then (s, 0) else if byte s 0 = 61 then (match parseT (s.drop 1) with
  | .error e => ([], e)
  | .ok l => if 100 < (printT l).length + 1 then ([], 4) else (61 :: printT l, 0))
 else match numC s with
  | some n => (Lib.itoa n, 0)
  | none => if 100 ≤ s.length then ([], 4) else (39 :: s, 0)
theorem atoi_bound {s : List UInt8} {n : Int} (h : Lib.atoiAll s = .ok n) : -9223372036854775808 ≤ n ∧ n ≤ 9223372036854775807 := by
 unfold Lib.atoiAll at h
 split at h
 ·cases h
 ·simp only at h
  split at h
  ·cases h
  ·cases h
  ·split at h
   ·cases h
   ·split at h
    ·cases h
    ·simp only [Lib.NumEnd.ok.injEq] at h
     subst h
     split <;> omega
theorem numC_bound {s : List UInt8} {n : Int} (h : numC s = some n) : -9223372036854775808 ≤ n ∧ n ≤ 9223372036854775807 := by
 unfold numC at h
 split at h
 ·split at h
  ·rename_i m e
   obtain rfl := Option.some.inj h
   exact atoi_bound e
  ·cases h
 ·cases h
end Go.Proofs.YtiaigmahdjhcoaaGreatDoor
namespace Go.Proofs.YtiaigmahdjhcoaaGreatDoor
open Go Go.E
noncomputable def mayC (s : List UInt8) : Bool :=
 if 300 < s.length then false else if s = [] ∨ byte s 0 = 39 then true else if byte s 0 = 61 then (match parseT (s.drop 1) with
  | .error _ => false
  | .ok l => decide (printT l = s.drop 1))
 else match numC s with
  | some n => decide (Lib.itoa n = s)
  | none => false
theorem cMay_ret (s : List UInt8) (hs : s.length ≤ 9223372036854775807) (w : World) (g : Glob w) : Ret Tryz.prog 43 [str s] w (fun v w' => v = .bool (mayC s) ∧ Ext w w') := by
 refine Ret.enter Tryz.func43 rfl Tryz.ntmps43 (by kernel_rfl) rfl ?_
 refine Sa ?_
 refine Cwc (fun h1 => ?_) fun h1 => ?_
 ·have h1 : 300 < s.length := by simp at h1; omega
  refine Sa ?_
  exact QW.body1 Tryz.results43 rfl ⟨by rw [mayC, if_pos h1], Chg.refl _ _⟩
 have h1 : s.length ≤ 300 := by simp at h1; omega
 have n1 : ¬ 300 < s.length := by omega
 refine Sa ?_
 by_cases h2 : s = []
 ·refine LW.know (t := 14) (c := true) rfl (by simp [h2]) ?_
  refine Sa ?_
  exact QW.body1 Tryz.results43 rfl ⟨by rw [mayC, if_neg n1, if_pos (.inl h2)], Chg.refl _ _⟩
 have hl : 0 < s.length := List.length_pos_iff.2 h2
 refine LW.know (t := 14) (c := false) rfl (by simp [h2]) ?_
 refine Sa ?_
 refine Cwc (fun h3 => ?_) fun h3 => ?_
 ·have h3 : byte s 0 = 39 := by simpa using h3
  refine Sa ?_
  exact QW.body1 Tryz.results43 rfl ⟨by rw [mayC, if_neg n1, if_pos (.inr h3)], Chg.refl _ _⟩
 have h3 : byte s 0 ≠ 39 := by simpa using h3
 have n3 : ¬ (s = [] ∨ byte s 0 = 39) := by simp [h2, h3]
 refine Sa ?_
 refine Cwc (fun h4 => ?_) fun h4 => ?_
 ·have h4 : byte s 0 = 61 := by simpa using h4
  have ec : cut s (1 : Int).toNat ((s.length : Nat) : Int).toNat = s.drop 1 := cut_tail s 1
  have hdl : (s.drop 1).length ≤ 300 := by simp; omega
  refine Sz ?_
  refine LW.call0 rfl rfl (Parse_ret (cut s (1 : Int).toNat ((s.length : Nat) : Int).toNat) (by rw [ec]; omega) w g) ?_
  rintro v w1 ⟨hv, hx⟩
  obtain ⟨l, e, sv, rfl, hN, hp⟩ := hv.both
  rw [ec] at hp
  obtain ⟨hsh, _⟩ := hp.facts
  refine Sa ?_
  refine CW.draw (by kernel_rfl) (by kernel_rfl) ?_
  refine Sq ?_
  by_cases h5 : e = 0
  ·have hpo : parseT (s.drop 1) = .ok l := by
    rcases hp with ⟨h, _⟩ | ⟨_, _, h⟩
    ·exact h
    ·omega
   refine QL.know (t := 31) (c := true) rfl (by simp [h5]) ?_
   refine Sq ?_
   refine QL.call0 (v := str (printT l)) rfl rfl (fun w' hw => Print_ret l sv w' (g.ext (hx.trans hw)) (hN.ext hw) hsh hp.num) ?_
   refine Sqz ?_
   refine QL.nil fun w2 hx2 => ?_
   refine Sa ?_
   exact QW.body1 Tryz.results43 rfl ⟨by rw [mayC, if_neg n1, if_neg n3, if_pos h4, hpo, ec], hx.trans hx2⟩
  ·have hpe : parseT (s.drop 1) = .error e := by
    rcases hp with ⟨_, h⟩ | ⟨h, _, _⟩
    ·exact absurd h h5
    ·exact h
   refine QL.know (t := 31) (c := false) rfl (by simp [h5]) ?_
   refine Sqz ?_
   refine QL.nil fun w2 hx2 => ?_
   refine Sa ?_
   exact QW.body1 Tryz.results43 rfl ⟨by rw [mayC, if_neg n1, if_neg n3, if_pos h4, hpe], hx.trans hx2⟩
 have h4 : byte s 0 ≠ 61 := by simpa using h4
 refine Sa ?_
 refine LW.call0 rfl rfl (cnumber_ret s (by omega) w g) ?_
 rintro v w1 ⟨⟨z, rfl, hz⟩, hx⟩
 cases hn : numC s with
 | some n =>
  obtain rfl := hz n hn
  obtain ⟨b0, b1⟩ := numC_bound hn
  refine Sa ?_
  refine LW.call0 rfl rfl (Itoa_ret z b0 b1 w1 (g.ext hx)) ?_
  rintro v w2 ⟨rfl, hx2⟩
  refine Sa ?_
  exact QW.body1 Tryz.results43 rfl ⟨by rw [mayC, if_neg n1, if_neg n3, if_neg h4, hn], hx.trans hx2⟩
 | none =>
  refine Sa ?_
  exact QW.body1 Tryz.results43 rfl ⟨by rw [mayC, if_neg n1, if_neg n3, if_neg h4, hn], hx⟩
end Go.Proofs.YtiaigmahdjhcoaaGreatDoor
namespace Go.Proofs.YtiaigmahdjhcoaaGreatDoor
open Go Go.E
def FormV (s : List UInt8) (v : Value) (w : World) : Prop :=
 (∃ l sv, v = .tuple #[sv, .bool true] ∧ byte s 0 = 61 ∧ s ≠ [] ∧ mayC s = true ∧ parseT (s.drop 1) = .ok l ∧ NodesR w sv l) ∨ (v = .tuple #[.slice none 0 0, .bool false] ∧ (s = [] ∨ byte s 0 ≠ 61 ∨ mayC s = false))
theorem Formula_ret (s : List UInt8) (hs : s.length ≤ 9223372036854775807) (w : World) (g : Glob w) : Ret Tryz.prog 66 [str s] w (fun v w' => FormV s v w' ∧ Ext w w') := by
 refine Ret.enter Tryz.func66 rfl Tryz.ntmps66 (by kernel_rfl) rfl ?_
 refine Sa ?_
 by_cases h2 : s = []
 ·refine LW.know (t := 8) (c := true) rfl (by simp [h2]) ?_
  refine Sa ?_
  exact QW.body2 Tryz.results66 rfl rfl ⟨.inr ⟨rfl, .inl h2⟩, Chg.refl _ _⟩
 have hl : 0 < s.length := List.length_pos_iff.2 h2
 refine LW.know (t := 8) (c := false) rfl (by simp [h2]) ?_
 refine Sa ?_
 by_cases h3 : byte s 0 = 61
 rotate_left
 ·refine LW.know (t := 13) (c := true) rfl (by simp [h3]) ?_
  refine Sa ?_
  exact QW.body2 Tryz.results66 rfl rfl ⟨.inr ⟨rfl, .inr (.inl h3)⟩, Chg.refl _ _⟩
 refine LW.know (t := 13) (c := false) rfl (by simp [h3]) ?_
 refine Sa ?_
 refine LW.call0 rfl rfl (cMay_ret s hs w g) ?_
 rintro v w1 ⟨rfl, hx⟩
 refine Sa ?_
 refine Cwc (fun h4 => ?_) fun h4 => ?_
 ·have h4 : mayC s = false := by simpa using h4
  refine Sa ?_
  exact QW.body2 Tryz.results66 rfl rfl ⟨.inr ⟨rfl, .inr (.inr h4)⟩, hx⟩
 have h4 : mayC s = true := by simpa using h4
 have ec : cut s (1 : Int).toNat ((s.length : Nat) : Int).toNat = s.drop 1 := cut_tail s 1
 have hdl : (s.drop 1).length ≤ s.length := by simp
 refine Sz ?_
 refine LW.call0 rfl rfl (Parse_ret (cut s (1 : Int).toNat ((s.length : Nat) : Int).toNat) (by rw [ec]; omega) w1 (g.ext hx)) ?_
 rintro v w2 ⟨hv, hx2⟩
 obtain ⟨l, e, sv, rfl, hN, hp⟩ := hv.both
 rw [ec] at hp
 have hpo : parseT (s.drop 1) = .ok l := by
  rcases hp with ⟨h, _⟩ | ⟨h, _, _⟩
  ·exact h
  ·exfalso
   have : mayC s = false := by
    unfold mayC
    split
    ·rfl
    ·rw [if_neg (by rintro (hh | hh); exact h2 hh; omega)]
     rw [h]
   rw [this] at h4
   cases h4
 refine Sa ?_
 exact QW.body2 Tryz.results66 rfl rfl ⟨.inl ⟨l, sv, rfl, h3, h2, h4, hpo, hN⟩, hx.trans hx2⟩
end Go.Proofs.YtiaigmahdjhcoaaGreatDoor
namespace Go.Proofs.YtiaigmahdjhcoaaGreatDoor
open Go Go.E
theorem numT_ge : ∀ (r : List UInt8) (x : Int), 0 ≤ x → (∀ c ∈ r, digB (c.toNat : Int) = true) → x ≤ numT x r
 | [], x, _, _ => by simp [numT]
 | c :: r, x, hx, hd => by
  have hc := hd c (by simp)
  simp only [digB, Bool.and_eq_true, decide_eq_true_eq] at hc
  have ih := numT_ge r (10 * x + ((c.toNat : Int) - 48)) (by omega) (fun d h => hd d (by simp [h]))
  have e : numT x (c :: r) = numT (10 * x + ((c.toNat : Int) - 48)) r := rfl
  rw [e]
  omega
theorem uint_ok : ∀ (l : List UInt8) (acc : Nat), (∀ c ∈ l, digB (c.toNat : Int) = true) → numT (acc : Int) l ≤ 9223372036854775808 → Lib.parseUint10 acc l = .ok (numT (acc : Int) l).toNat
 | [], acc, _, _ => by simp [Lib.parseUint10, numT]
 | c :: r, acc, hd, hb => by
  have hc := hd c (by simp)
  simp only [digB, Bool.and_eq_true, decide_eq_true_eq] at hc
  have hdr : ∀ d ∈ r, digB (d.toNat : Int) = true := fun d h => hd d (by simp [h])
  have e : numT (acc : Int) (c :: r) = numT (((acc * 10 + (c.toNat - 48) : Nat)) : Int) r := by
   have e1 : numT (acc : Int) (c :: r) = numT (10 * (acc : Int) + ((c.toNat : Int) - 48)) r := rfl
   rw [e1]
   congr 1
   omega
  rw [e] at hb ⊢
  have hge := numT_ge r (((acc * 10 + (c.toNat - 48) : Nat)) : Int) (by omega) hdr
  rw [Lib.parseUint10, if_pos (by omega), if_neg (by omega), if_neg (by omega)]
  exact uint_ok r _ hdr hb
end Go.Proofs.YtiaigmahdjhcoaaGreatDoor
namespace Go.Proofs.YtiaigmahdjhcoaaGreatDoor
open Go Go.E
theorem Digits_neg (m : Nat) (h0 : 1 ≤ m) (h1 : m ≤ 9223372036854775808) (w : World) : Ret Tryz.prog 45 [.int .i64 (-(m : Int))] w (fun v w' => v = str (45 :: Lib.decDigits m) ∧ Ext w w') := by
 have hlen : (Lib.decDigits m).length ≤ 21 := by
  have := Lib.itoa_length_le (-(m : Int)) (by omega) (by omega)
  unfold Lib.itoa at this
  rw [if_pos (by omega), show (-(m : Int)).natAbs = m by omega] at this
  simp at this
  omega
 refine Ret.enter Tryz.func45 rfl Tryz.ntmps45 (by kernel_rfl) rfl ?_
 refine Sa ?_
 refine LW.conv (z := 18446744073709551616 - (m : Int)) rfl rfl rfl rfl rfl (by simp [IntKind.wrap, IntKind.bits, IntKind.signed]; omega) rfl ?_
 refine Sa ?_
 refine CW.yes rfl (decide_eq_true (show -(m : Int) < 0 by omega)) ?_
 refine Sa ?_
 refine LW.neg (z := (m : Int)) rfl (by simp [IntKind.wrap, IntKind.bits, IntKind.signed]; omega) rfl ?_
 refine Sa ?_
 refine CW.loop (ι := Nat × List UInt8) (fun i w' => i.1 ≤ m ∧ Ext w w' ∧ Lib.decDigits m = Lib.decDigits i.1 ++ i.2) (fun i => [(0, .int .i64 (-(m : Int))), (3, .int .u64 (i.1 : Int)), (4, str i.2)]) (fun i => i.1) (m, []) ⟨by simp, Chg.refl _ _, by simp⟩ (Sub.cons rfl (Sub.cons rfl (Sub.cons rfl (Sub.nil)))) ?_
 rintro ⟨u, acc⟩ w1 ⟨hu, hx, hd⟩
 simp only at hu hd
 have hal : acc.length ≤ 21 := by
  have := congrArg List.length hd
  rw [List.length_append] at this
  omega
 refine Sa ?_
 refine Cwc (fun h2 => ?_) fun h2 => ?_
 ·have h2 : 10 ≤ u := by simp at h2; omega
  refine Sa ?_
  refine Lwl fun b w2 hb hx2 hB => ?_
  replace hB : Blk w2 b [.int .u8 (48 + (u : Int) % 10)] 5 := hB
  replace hx := hx.trans hx2
  refine Sa ?_
  refine QW.again (u / 10, [ch (48 + (u : Int) % 10)] ++ acc) ⟨?_, hx, ?_⟩ (Sub.cons rfl (Sub.cons rfl (Sub.cons rfl (Sub.nil)))) ?_
  ·simp only; omega
  ·simp only; rw [hd, decDigits_big h2]; simp
  ·simp only; omega
 ·have h2 : u < 10 := by simp at h2; omega
  refine Sa ?_
  refine Lwl fun b w2 hb hx2 hB => ?_
  replace hB : Blk w2 b [.int .u8 (48 + (u : Int))] 5 := hB
  replace hx := hx.trans hx2
  refine Sa ?_
  refine CW.yes rfl (decide_eq_true (show -(m : Int) < 0 by omega)) ?_
  refine Sa ?_
  refine QW.body1 Tryz.results45 rfl ⟨?_, hx⟩
  rw [hd, decDigits_small h2]
  rfl
theorem itoa_neg (m : Nat) (h0 : 1 ≤ m) : Lib.itoa (-(m : Int)) = 45 :: Lib.decDigits m := by
 unfold Lib.itoa
 rw [if_pos (by omega), show (-(m : Int)).natAbs = m by omega]
theorem Digits_all (n : Int) (h0 : -9223372036854775808 ≤ n) (h1 : n ≤ 9223372036854775807) (w : World) : Ret Tryz.prog 45 [.int .i64 n] w (fun v w' => v = str (Lib.itoa n) ∧ Ext w w') := by
 by_cases hn : 0 ≤ n
 ·exact Digits_ret n hn h1 w
 ·obtain ⟨m, rfl⟩ : ∃ m : Nat, n = -(m : Int) := ⟨n.natAbs, by omega⟩
  rw [itoa_neg m (by omega)]
  exact Digits_neg m (by omega) (by omega) w
end Go.Proofs.YtiaigmahdjhcoaaGreatDoor
namespace Go.Proofs.YtiaigmahdjhcoaaGreatDoor
open Go Go.E
theorem numT_push (acc : Nat) (c : UInt8) (r : List UInt8) (hc : digB (c.toNat : Int) = true) : numT (acc : Int) (c :: r) = numT (((acc * 10 + (c.toNat - 48) : Nat)) : Int) r := by
 simp only [digB, Bool.and_eq_true, decide_eq_true_eq] at hc
 have e1 : numT (acc : Int) (c :: r) = numT (10 * (acc : Int) + ((c.toNat : Int) - 48)) r := rfl
 rw [e1]
 congr 1
 omega
theorem uint_val : ∀ (l : List UInt8) (acc u : Nat), (∀ c ∈ l, digB (c.toNat : Int) = true) → Lib.parseUint10 acc l = .ok u → numT (acc : Int) l = u
 | [], acc, u, _, h => by
  simp only [Lib.parseUint10, Lib.NumEnd.ok.injEq] at h
  simp [numT, h]
 | c :: r, acc, u, hd, h => by
  have hc := hd c (by simp)
  have hc' := hc
  simp only [digB, Bool.and_eq_true, decide_eq_true_eq] at hc
  rw [Lib.parseUint10, if_pos (by omega)] at h
  split at h
  ·cases h
  split at h
  ·cases h
  rw [numT_push acc c r hc']
  exact uint_val r _ u (fun d h => hd d (by simp [h])) h
def negB (s : List UInt8) : Bool := decide (s ≠ [] ∧ byte s 0 = 45)
def bodyD (s : List UInt8) : List UInt8 := if negB s then s.drop 1 else s
def digsB (l : List UInt8) : Bool := l.all fun c => digB (c.toNat : Int)
theorem digs_iff {l : List UInt8} : digsB l = true ↔ ∀ c ∈ l, digB (c.toNat : Int) = true := List.all_eq_true
theorem allD_iff (s : List UInt8) : allD s = digsB (bodyD s) := by
 have key : (∀ j, j < s.length → atN s ≤ j → digB (byte s j) = true) ↔ ∀ c ∈ bodyD s, digB (c.toNat : Int) = true := by
  by_cases hn : s ≠ [] ∧ byte s 0 = 45
  ·have e1 : atN s = 1 := by rw [atN, if_pos hn]
   have e2 : bodyD s = s.drop 1 := by rw [bodyD, negB, decide_eq_true hn]; rfl
   rw [e1, e2]
   constructor
   ·intro h c hc
    obtain ⟨j, hj, rfl⟩ := List.getElem_of_mem hc
    have hj' : j + 1 < s.length := by simp at hj; omega
    have := h (j + 1) hj' (by omega)
    rw [byte_eq hj'] at this
    simpa [Nat.add_comm] using this
   ·intro h j hj h1
    rw [byte_eq hj]
    refine h _ ?_
    rw [List.mem_iff_getElem?]
    refine ⟨j - 1, ?_⟩
    rw [List.getElem?_drop, show 1 + (j - 1) = j by omega, List.getElem?_eq_getElem hj]
  ·have e1 : atN s = 0 := by rw [atN, if_neg hn]
   have e2 : bodyD s = s := by rw [bodyD, negB, decide_eq_false hn]; rfl
   rw [e1, e2]
   constructor
   ·intro h c hc
    obtain ⟨j, hj, rfl⟩ := List.getElem_of_mem hc
    have := h j hj (by omega)
    rwa [byte_eq hj] at this
   ·intro h j hj _
    rw [byte_eq hj]
    exact h _ (List.getElem_mem hj)
 rw [Bool.eq_iff_iff, digs_iff, allD, decide_eq_true_eq]
 exact key
theorem numC_by (s : List UInt8) : numC s = if digsB (bodyD s) = true ∧ bodyD s ≠ [] ∧ numT 0 (bodyD s) ≤ 9223372036854775808 ∧ (negB s = false → numT 0 (bodyD s) ≠ 9223372036854775808) then some (if negB s = true then -numT 0 (bodyD s) else numT 0 (bodyD s)) else none := by
 rw [numC, allD_iff]
 by_cases hd : digsB (bodyD s) = true
 rotate_left
 ·rw [if_neg hd, if_neg (fun h => hd h.1)]
 rw [if_pos hd]
 have hdd := digs_iff.1 hd
 by_cases he : bodyD s = []
 ·rw [if_neg (fun h => h.2.1 he)]
  unfold bodyD at he
  cases s with
  | nil => rfl
  | cons c r =>
   split at he
   ·rename_i hn
    simp at he
    subst he
    simp only [negB, decide_eq_true_eq] at hn
    have h45 : (c.toNat : Int) = 45 := hn.2
    simp only [Lib.atoiAll]
    rw [if_pos (by omega)]
    rfl
   ·cases he
 ·have hl : Lib.parseMag (bodyD s) = Lib.parseUint10 0 (bodyD s) := by rw [Lib.parseMag, if_neg he]
  have hv : (∃ u : Nat, Lib.parseUint10 0 (bodyD s) = .ok u ∧ numT 0 (bodyD s) = u) ∨ (∀ u, Lib.parseUint10 0 (bodyD s) ≠ .ok u) ∧ 9223372036854775808 < numT 0 (bodyD s) := by
   cases hp : Lib.parseUint10 0 (bodyD s) with
   | ok u => exact .inl ⟨u, rfl, by have := uint_val _ _ _ hdd hp; simpa using this⟩
   | range =>
    refine .inr ⟨fun u h => (by cases h), ?_⟩
    rcases Int.lt_or_le 9223372036854775808 (numT 0 (bodyD s)) with h | h
    ·exact h
    ·have := uint_ok (bodyD s) 0 hdd (by simpa using h)
     rw [this] at hp; cases hp
   | _ =>
    refine .inr ⟨fun u h => (by cases h), ?_⟩
    rcases Int.lt_or_le 9223372036854775808 (numT 0 (bodyD s)) with h | h
    ·exact h
    ·have := uint_ok (bodyD s) 0 hdd (by simpa using h)
     rw [this] at hp; cases hp
  cases s with
  | nil => exact absurd rfl he
  | cons c r =>
   by_cases hn : c.toNat = 45
   ·have en : negB (c :: r) = true := by
     have : byte (c :: r) 0 = (c.toNat : Int) := rfl
     simp only [negB, this, decide_eq_true_eq]
     exact ⟨by simp, by omega⟩
    have eb : bodyD (c :: r) = r := by rw [bodyD, en]; rfl
    rw [eb] at hl hv he ⊢
    rw [en]
    simp only [Lib.atoiAll]
    rw [if_pos (.inr hn), hl]
    rcases hv with ⟨u, hp, hu⟩ | ⟨hp, hu⟩
    ·rw [hp, hu]
     by_cases hb : 9223372036854775808 < u
     ·simp only
      rw [if_neg (by simp [hn]), if_pos ⟨hn, hb⟩, if_neg (by intro h; omega)]
     ·have hR : digsB r = true ∧ r ≠ [] ∧ (u : Int) ≤ 9223372036854775808 ∧ (true = false → (u : Int) ≠ 9223372036854775808) := ⟨by rw [eb] at hd; exact hd, he, by omega, by simp⟩
      rw [if_pos hR]
      simp only [hn]
      rw [if_neg (by simp), if_neg (by omega)]
      first | done | simp
    ·rw [if_neg (by intro h; omega)]
     cases hq : Lib.parseUint10 0 r with
     | ok u => exact absurd hq (hp u)
     | range => rfl
     | _ => rfl
   ·have en : negB (c :: r) = false := by
     have : byte (c :: r) 0 = (c.toNat : Int) := rfl
     simp only [negB, this, decide_eq_false_iff_not]
     intro h; omega
    have eb : bodyD (c :: r) = c :: r := by rw [bodyD, en]; rfl
    rw [eb] at hl hv he hdd ⊢
    rw [en]
    have hc := hdd c (by simp)
    simp only [digB, Bool.and_eq_true, decide_eq_true_eq] at hc
    simp only [Lib.atoiAll]
    rw [if_neg (by omega), hl]
    rcases hv with ⟨u, hp, hu⟩ | ⟨hp, hu⟩
    ·rw [hp, hu]
     by_cases hb : 9223372036854775808 ≤ u
     ·simp only
      rw [if_pos ⟨hn, hb⟩, if_neg (by intro h; have := h.2.2.2 (by trivial); omega)]
     ·have hR : digsB (c :: r) = true ∧ c :: r ≠ [] ∧ (u : Int) ≤ 9223372036854775808 ∧ (True → (u : Int) ≠ 9223372036854775808) := ⟨by rw [eb] at hd; exact hd, he, by omega, fun _ => by omega⟩
      rw [if_pos hR]
      simp only [hn]
      rw [if_neg (by omega), if_neg (by simp)]
      first | done | simp
    ·rw [if_neg (by intro h; omega)]
     cases hq : Lib.parseUint10 0 (c :: r) with
     | ok u => exact absurd hq (hp u)
     | range => rfl
     | _ => rfl
theorem numT_take {d : List UInt8} {i : Nat} (h : ∀ c ∈ d, digB (c.toNat : Int) = true) : 0 ≤ numT 0 (d.take i) ∧ numT 0 (d.take i) ≤ numT 0 d := by
 have h1 : ∀ c ∈ d.take i, digB (c.toNat : Int) = true := fun c hc => h c (List.mem_of_mem_take hc)
 have h2 : ∀ c ∈ d.drop i, digB (c.toNat : Int) = true := fun c hc => h c (List.mem_of_mem_drop hc)
 have h0 := numT_ge (d.take i) 0 (by omega) h1
 refine ⟨h0, ?_⟩
 have := numT_ge (d.drop i) (numT 0 (d.take i)) h0 h2
 have e : numT 0 (d.take i ++ d.drop i) = numT (numT 0 (d.take i)) (d.drop i) := by simp only [numT, List.foldl_append]
 rw [List.take_append_drop] at e
 rw [e]
 exact this
end Go.Proofs.YtiaigmahdjhcoaaGreatDoor
namespace Go.Proofs.YtiaigmahdjhcoaaGreatDoor
open Go Go.E
structure MapD where
 to : List Int
 new : Int
def MapR (w : World) (vs : List Value) (m : MapD) : Prop := ∃ tv, vs = [tv, .int .i64 m.new] ∧ IntsR w tv m.to
theorem MapR.ext {w w' : World} {vs : List Value} {m : MapD} (h : MapR w vs m) (x : Ext w w') : MapR w' vs m := by
 obtain ⟨tv, e, h⟩ := h
 exact ⟨tv, e, h.ext x⟩
def imgM (m : MapD) (i : Int) : Int := if i < 0 then -1 else if i < m.to.length then m.to.getD i.toNat 0 else i - m.to.length + m.new
def MapD.Fine (m : MapD) : Prop := m.to.length ≤ 1000000000 ∧ -1000000000 ≤ m.new ∧ m.new ≤ 1000000000
theorem Image_ret (m : MapD) (hm : m.Fine) (vs : List Value) (i : Int) (hi : i ≤ 1000000000000) (w : World) (h : MapR w vs m) : Ret Tryz.prog 117 [.agg ⟨vs⟩, .int .i64 i] w (fun v w' => v = .int .i64 (imgM m i) ∧ Ext w w') := by
 obtain ⟨tv, rfl, ht⟩ := h
 obtain ⟨p, c, rfl⟩ := ht.slice
 obtain ⟨m1, m2, m3⟩ := hm
 refine Ret.enter Tryz.func117 rfl Tryz.ntmps117 (by kernel_rfl) rfl ?_
 refine Sa ?_
 refine Lwb fun A w1 hbA hx hA => ?_
 replace hA : Blk w1 A [.slice p m.to.length c, .int .i64 m.new] 68 := hA
 replace ht := ht.ext hx
 refine Sa ?_
 refine Cwc (fun h1 => ?_) fun h1 => ?_
 ·have h1 : i < 0 := by simpa using h1
  refine Sa ?_
  exact QW.body1 Tryz.results117 rfl ⟨by rw [imgM, if_pos h1], hx⟩
 have h1 : ¬ i < 0 := by simpa using h1
 refine Sa ?_
 refine Cwc (fun h2 => ?_) fun h2 => ?_
 ·have h2 : i < m.to.length := by simpa using h2
  obtain ⟨a, rfl, hc⟩ := ht.at (i := i.toNat) (by omega)
  rw [show i.toNat = i.toNat * 1 by omega] at hc
  refine Sa ?_
  refine Lo ?_
  refine Lp hc ?_
  refine Sa ?_
  exact QW.body1 Tryz.results117 rfl ⟨by rw [imgM, if_neg h1, if_pos h2, Nat.mul_one], hx⟩
 have h2 : ¬ i < m.to.length := by simpa using h2
 refine Sa ?_
 exact QW.body1 Tryz.results117 rfl ⟨by rw [imgM, if_neg h1, if_neg h2], hx⟩
theorem rImage_ret (m : MapD) (hm : m.Fine) (vs : List Value) (i : Int) (hi : i ≤ 1000000000000) (w : World) (h : MapR w vs m) : Ret Tryz.prog 41 [.agg ⟨vs⟩, .int .i64 i] w (fun v w' => v = .int .i64 (imgM m i) ∧ Ext w w') := by
 obtain ⟨tv, rfl, ht⟩ := h
 obtain ⟨p, c, rfl⟩ := ht.slice
 obtain ⟨m1, m2, m3⟩ := hm
 refine Ret.enter Tryz.func41 rfl Tryz.ntmps41 (by kernel_rfl) rfl ?_
 refine Sa ?_
 refine Lwb fun A w1 hbA hx hA => ?_
 replace hA : Blk w1 A [.slice p m.to.length c, .int .i64 m.new] 68 := hA
 replace ht := ht.ext hx
 refine Sa ?_
 refine Cwc (fun h1 => ?_) fun h1 => ?_
 ·have h1 : i < 0 := by simpa using h1
  refine Sa ?_
  exact QW.body1 Tryz.results41 rfl ⟨by rw [imgM, if_pos h1], hx⟩
 have h1 : ¬ i < 0 := by simpa using h1
 refine Sa ?_
 refine Cwc (fun h2 => ?_) fun h2 => ?_
 ·have h2 : i < m.to.length := by simpa using h2
  obtain ⟨a, rfl, hc⟩ := ht.at (i := i.toNat) (by omega)
  rw [show i.toNat = i.toNat * 1 by omega] at hc
  refine Sa ?_
  refine Lo ?_
  refine Lp hc ?_
  refine Sa ?_
  exact QW.body1 Tryz.results41 rfl ⟨by rw [imgM, if_neg h1, if_pos h2, Nat.mul_one], hx⟩
 have h2 : ¬ i < m.to.length := by simpa using h2
 refine Sa ?_
 exact QW.body1 Tryz.results41 rfl ⟨by rw [imgM, if_neg h1, if_neg h2], hx⟩
end Go.Proofs.YtiaigmahdjhcoaaGreatDoor
namespace Go.Proofs.YtiaigmahdjhcoaaGreatDoor
open Go Go.E
def maxZ (a b : Int) : Int := if a < b then b else a
def fstN (a : Int) : List Int → Int
 | [] => a
 | z :: r => fstN (if 0 ≤ z ∧ a < 0 then z else a) r
def maxN (b : Int) : List Int → Int
 | [] => b
 | z :: r => maxN (maxZ b z) r
theorem fstN_snoc (a : Int) (l : List Int) (z : Int) : fstN a (l ++ [z]) = if 0 ≤ z ∧ fstN a l < 0 then z else fstN a l := by
 induction l generalizing a with
 | nil => rfl
 | cons y r ih => exact ih _
theorem maxN_snoc (b : Int) (l : List Int) (z : Int) : maxN b (l ++ [z]) = maxZ (maxN b l) z := by
 induction l generalizing b with
 | nil => rfl
 | cons y r ih => exact ih _
def segM (m : MapD) (lo k : Nat) : List Int := (m.to.take k).drop lo
def spanP (m : MapD) (lo hi : Int) : Int × Int × Bool :=
 if lo < 0 ∨ hi < lo then (0, 0, false) else
  let k := (min (hi + 1) (maxZ lo m.to.length)).toNat
  let a0 := fstN (-1) (segM m lo.toNat k)
  let b := if m.to.length ≤ hi then imgM m hi else maxN (-1) (segM m lo.toNat k)
  let a := if m.to.length ≤ hi ∧ a0 < 0 then imgM m (maxZ lo m.to.length) else a0
  if a < 0 then (0, 0, false) else (a, b, true)
theorem seg_snoc {m : MapD} {lo k : Nat} (h0 : lo ≤ k) (h : k < m.to.length) : segM m lo (k + 1) = segM m lo k ++ [m.to.getD k 0] := by
 unfold segM
 rw [List.take_add_one, List.getElem?_eq_getElem h, List.drop_append_of_le_length (by simp; omega)]
 simp [List.getD_eq_getElem?_getD, List.getElem?_eq_getElem h]
theorem seg_nil (m : MapD) (lo : Nat) : segM m lo lo = [] := by
 unfold segM
 simp
set_option maxHeartbeats 1000000 in
theorem Span_ret (m : MapD) (hm : m.Fine) (vs : List Value) (lo hi : Int) (hlo : lo ≤ 1000000000) (hhi : hi ≤ 1000000000) (w : World) (h : MapR w vs m) : Ret Tryz.prog 83 [.agg ⟨vs⟩, .int .i64 lo, .int .i64 hi] w (fun v w' => v = .tuple #[.int .i64 (spanP m lo hi).1, .int .i64 (spanP m lo hi).2.1, .bool (spanP m lo hi).2.2] ∧ Ext w w') := by
 have hR := h
 obtain ⟨tv, rfl, ht⟩ := h
 obtain ⟨p, c, rfl⟩ := ht.slice
 have hmf := hm
 obtain ⟨m1, m2, m3⟩ := hm
 refine Ret.enter Tryz.func83 rfl Tryz.ntmps83 (by kernel_rfl) rfl ?_
 refine Sa ?_
 refine Lwb fun A w1 hbA hx1 hA => ?_
 replace hA : Blk w1 A [.slice p m.to.length c, .int .i64 m.new] 68 := hA
 refine Sa ?_
 by_cases a1 : lo < 0
 ·refine LW.know (t := 12) (c := true) rfl (decide_eq_true a1) ?_
  refine Sa ?_
  exact QW.body3 Tryz.results83 rfl rfl rfl ⟨by rw [spanP, if_pos (.inl a1)], hx1⟩
 refine LW.know (t := 12) (c := false) rfl (decide_eq_false a1) ?_
 refine Sa ?_
 refine Cwc (fun a2 => ?_) fun a2 => ?_
 ·have a2 : hi < lo := by simpa using a2
  refine Sa ?_
  exact QW.body3 Tryz.results83 rfl rfl rfl ⟨by rw [spanP, if_pos (.inr a2)], hx1⟩
 have a2 : ¬ hi < lo := by simpa using a2
 obtain ⟨L, rfl⟩ := Int.eq_ofNat_of_zero_le (show 0 ≤ lo by omega)
 refine Sa ?_
 refine CW.loop (ι := Nat) (fun k w' => L ≤ k ∧ (k : Int) ≤ hi + 1 ∧ (k ≤ m.to.length ∨ k = L) ∧ Ext w w' ∧ Ext w1 w') (fun k => [(1, .int .i64 (L : Int)), (2, .int .i64 hi), (3, .pointer (some ⟨A, 0, none⟩)), (6, .int .i64 (fstN (-1) (segM m L k))), (7, .int .i64 (maxN (-1) (segM m L k))), (9, .int .i64 (k : Int))]) (fun k => (hi + 1 - k).toNat) L ⟨by omega, by omega, .inr rfl, hx1, Chg.refl _ _⟩ (by rw [seg_nil]; exact (Sub.cons rfl (Sub.cons rfl (Sub.cons rfl (Sub.cons rfl (Sub.cons rfl (Sub.cons rfl (Sub.nil)))))))) ?_
 rintro k w2 ⟨k0, k1, k2, hx2, hx12⟩
 replace hA := hA.ext hx12
 replace ht := ht.ext hx2
 replace hR := hR.ext hx2
 have hK : spanP m (L : Int) hi = (if (if (m.to.length : Int) ≤ hi ∧ fstN (-1) (segM m L (min (hi + 1) (maxZ L m.to.length)).toNat) < 0 then imgM m (maxZ L m.to.length) else fstN (-1) (segM m L (min (hi + 1) (maxZ L m.to.length)).toNat)) < 0 then (0, 0, false) else ((if (m.to.length : Int) ≤ hi ∧ fstN (-1) (segM m L (min (hi + 1) (maxZ L m.to.length)).toNat) < 0 then imgM m (maxZ L m.to.length) else fstN (-1) (segM m L (min (hi + 1) (maxZ L m.to.length)).toNat)), (if (m.to.length : Int) ≤ hi then imgM m hi else maxN (-1) (segM m L (min (hi + 1) (maxZ L m.to.length)).toNat)), true)) := by
  rw [spanP, if_neg (by omega)]
  rfl
 have hmz : maxZ (L : Int) m.to.length = if (L : Int) < m.to.length then (m.to.length : Int) else L := rfl
 refine Sa ?_
 by_cases b1 : (k : Int) ≤ hi
 rotate_left
 ·refine LW.know (t := 21) (c := false) rfl (decide_eq_false b1) ?_
  have hk : (min (hi + 1) (maxZ (L : Int) m.to.length)).toNat = k := by rw [hmz]; split <;> omega
  rw [hk] at hK
  rw [hK]
  clear hK hk
  generalize fstN (-1) (segM m L k) = a0
  generalize maxN (-1) (segM m L k) = b0
  refine Sa ?_
  refine Cwc (fun d1 => ?_) fun d1 => ?_
  ·have d1 : (m.to.length : Int) ≤ hi := by simpa using d1
   simp only [d1, true_and, if_true]
   refine Sa ?_
   refine LW.call0 rfl rfl (Image_ret m hmf _ hi (by omega) w2 hR) ?_
   rintro v w3 ⟨rfl, hx3⟩
   replace hA := hA.ext hx3
   replace hR := hR.ext hx3
   have hx3' := hx2.trans hx3
   refine Sa ?_
   refine Cwc (fun d2 => ?_) fun d2 => ?_
   ·have d2 : a0 < 0 := by simpa using d2
    simp only [d2, if_true]
    have hz : (if (L : Int) < m.to.length then (m.to.length : Int) else L) = maxZ L m.to.length := rfl
    refine Sa ?_
    refine LW.max2 rfl rfl rfl ?_
    rw [hz]
    refine LW.call0 rfl rfl (Image_ret m hmf _ (maxZ L m.to.length) (by rw [hmz]; split <;> omega) w3 hR) ?_
    rintro v w4 ⟨rfl, hx4⟩
    have hx4' := hx3'.trans hx4
    refine Sa ?_
    refine Cwc (fun d3 => ?_) fun d3 => ?_
    ·have d3 : imgM m (maxZ L m.to.length) < 0 := by simpa using d3
     refine Sa ?_
     exact QW.body3 Tryz.results83 rfl rfl rfl ⟨by rw [if_pos d3], hx4'⟩
    ·have d3 : ¬ imgM m (maxZ L m.to.length) < 0 := by simpa using d3
     refine Sa ?_
     exact QW.body3 Tryz.results83 rfl rfl rfl ⟨by rw [if_neg d3], hx4'⟩
   ·have d2 : ¬ a0 < 0 := by simpa using d2
    simp only [d2, if_false]
    refine Sa ?_
    refine CW.no rfl (decide_eq_false d2) ?_
    refine Sa ?_
    exact QW.body3 Tryz.results83 rfl rfl rfl ⟨rfl, hx3'⟩
  ·have d1 : ¬ (m.to.length : Int) ≤ hi := by simpa using d1
   simp only [d1, false_and, if_false]
   refine Sa ?_
   refine Cwc (fun d2 => ?_) fun d2 => ?_
   ·have d2 : a0 < 0 := by simpa using d2
    refine Sa ?_
    exact QW.body3 Tryz.results83 rfl rfl rfl ⟨by rw [if_pos d2], hx2⟩
   ·have d2 : ¬ a0 < 0 := by simpa using d2
    refine Sa ?_
    exact QW.body3 Tryz.results83 rfl rfl rfl ⟨by rw [if_neg d2], hx2⟩
 refine LW.know (t := 21) (c := true) rfl (decide_eq_true b1) ?_
 refine Sa ?_
 refine Cwc (fun b2 => ?_) fun b2 => ?_
 rotate_left
 ·have b2 : ¬ (k : Int) < m.to.length := by simpa using b2
  have hk : (min (hi + 1) (maxZ (L : Int) m.to.length)).toNat = k := by rw [hmz]; split <;> omega
  rw [hk] at hK
  rw [hK]
  clear hK hk
  generalize fstN (-1) (segM m L k) = a0
  generalize maxN (-1) (segM m L k) = b0
  refine Sa ?_
  refine Cwc (fun d1 => ?_) fun d1 => ?_
  ·have d1 : (m.to.length : Int) ≤ hi := by simpa using d1
   simp only [d1, true_and, if_true]
   refine Sa ?_
   refine LW.call0 rfl rfl (Image_ret m hmf _ hi (by omega) w2 hR) ?_
   rintro v w3 ⟨rfl, hx3⟩
   replace hA := hA.ext hx3
   replace hR := hR.ext hx3
   have hx3' := hx2.trans hx3
   refine Sa ?_
   refine Cwc (fun d2 => ?_) fun d2 => ?_
   ·have d2 : a0 < 0 := by simpa using d2
    simp only [d2, if_true]
    have hz : (if (L : Int) < m.to.length then (m.to.length : Int) else L) = maxZ L m.to.length := rfl
    refine Sa ?_
    refine LW.max2 rfl rfl rfl ?_
    rw [hz]
    refine LW.call0 rfl rfl (Image_ret m hmf _ (maxZ L m.to.length) (by rw [hmz]; split <;> omega) w3 hR) ?_
    rintro v w4 ⟨rfl, hx4⟩
    have hx4' := hx3'.trans hx4
    refine Sa ?_
    refine Cwc (fun d3 => ?_) fun d3 => ?_
    ·have d3 : imgM m (maxZ L m.to.length) < 0 := by simpa using d3
     refine Sa ?_
     exact QW.body3 Tryz.results83 rfl rfl rfl ⟨by rw [if_pos d3], hx4'⟩
    ·have d3 : ¬ imgM m (maxZ L m.to.length) < 0 := by simpa using d3
     refine Sa ?_
     exact QW.body3 Tryz.results83 rfl rfl rfl ⟨by rw [if_neg d3], hx4'⟩
   ·have d2 : ¬ a0 < 0 := by simpa using d2
    simp only [d2, if_false]
    refine Sa ?_
    refine CW.no rfl (decide_eq_false d2) ?_
    refine Sa ?_
    exact QW.body3 Tryz.results83 rfl rfl rfl ⟨rfl, hx3'⟩
  ·have d1 : ¬ (m.to.length : Int) ≤ hi := by simpa using d1
   simp only [d1, false_and, if_false]
   refine Sa ?_
   refine Cwc (fun d2 => ?_) fun d2 => ?_
   ·have d2 : a0 < 0 := by simpa using d2
    refine Sa ?_
    exact QW.body3 Tryz.results83 rfl rfl rfl ⟨by rw [if_pos d2], hx2⟩
   ·have d2 : ¬ a0 < 0 := by simpa using d2
    refine Sa ?_
    exact QW.body3 Tryz.results83 rfl rfl rfl ⟨by rw [if_neg d2], hx2⟩
 have b2 : k < m.to.length := by simp at b2; omega
 obtain ⟨a, rfl, hc⟩ := ht.at b2
 rw [show m.to.getD k 0 = m.to.getD k 0 from rfl] at hc
 have hs := seg_snoc k0 b2
 generalize m.to.getD k 0 = z at hc hs
 have hc' : w2.cell? (a.add (((k : Nat) : Int).toNat * 1)) = some (.int .i64 z) := by
  rw [show ((k : Nat) : Int).toNat * 1 = k by omega]
  exact hc
 refine Sa ?_
 refine Lo ?_
 refine Lp hc' ?_
 refine Sa ?_
 have e2 : maxN (-1) (segM m L (k + 1)) = if maxN (-1) (segM m L k) < z then z else maxN (-1) (segM m L k) := by rw [hs, maxN_snoc]; rfl
 by_cases b3 : 0 ≤ z
 ·refine LW.know (t := 36) (c := true) rfl (decide_eq_true b3) ?_
  refine Sa ?_
  refine Cwc (fun b4 => ?_) fun b4 => ?_
  ·have b4 : fstN (-1) (segM m L k) < 0 := by simpa using b4
   have e1 : fstN (-1) (segM m L (k + 1)) = z := by rw [hs, fstN_snoc, if_pos ⟨b3, b4⟩]
   refine Sa ?_
   refine Lo ?_
   refine Lp hc' ?_
   refine Sa ?_
   refine Lo ?_
   refine Lp hc' ?_
   refine LW.max2 rfl rfl rfl ?_
   rw [← e2]
   refine Sa ?_
   refine QW.again (k + 1) ⟨by omega, by omega, .inl b2, hx2, hx12⟩ (by rw [e1]; exact (Sub.cons rfl (Sub.cons rfl (Sub.cons rfl (Sub.cons rfl (Sub.cons rfl (Sub.cons rfl (Sub.nil)))))))) (by omega)
  ·have b4 : ¬ fstN (-1) (segM m L k) < 0 := by simpa using b4
   have e1 : fstN (-1) (segM m L (k + 1)) = fstN (-1) (segM m L k) := by rw [hs, fstN_snoc, if_neg (fun h => b4 h.2)]
   refine Sa ?_
   refine Lo ?_
   refine Lp hc' ?_
   refine LW.max2 rfl rfl rfl ?_
   rw [← e2]
   refine Sa ?_
   refine QW.again (k + 1) ⟨by omega, by omega, .inl b2, hx2, hx12⟩ (by rw [e1]; exact (Sub.cons rfl (Sub.cons rfl (Sub.cons rfl (Sub.cons rfl (Sub.cons rfl (Sub.cons rfl (Sub.nil)))))))) (by omega)
 ·refine LW.know (t := 36) (c := false) rfl (decide_eq_false b3) ?_
  have e1 : fstN (-1) (segM m L (k + 1)) = fstN (-1) (segM m L k) := by rw [hs, fstN_snoc, if_neg (fun h => b3 h.1)]
  refine Sa ?_
  refine Lo ?_
  refine Lp hc' ?_
  refine LW.max2 rfl rfl rfl ?_
  rw [← e2]
  refine Sa ?_
  refine QW.again (k + 1) ⟨by omega, by omega, .inl b2, hx2, hx12⟩ (by rw [e1]; exact (Sub.cons rfl (Sub.cons rfl (Sub.cons rfl (Sub.cons rfl (Sub.cons rfl (Sub.cons rfl (Sub.nil)))))))) (by omega)
end Go.Proofs.YtiaigmahdjhcoaaGreatDoor
namespace Go.Proofs.YtiaigmahdjhcoaaGreatDoor
open Go Go.E
def riseB (new : Int) : Int → List Int → Bool
 | _, [] => true
 | last, z :: r => if z = -1 then riseB new last r else if z ≤ last ∨ new ≤ z then false else riseB new z r
def mayM (m : MapD) : Bool := decide (0 ≤ m.new) && decide (m.new ≤ 1048576) && decide (m.to.length ≤ 1048576) && riseB m.new (-1) m.to
def Rise (m : MapD) : Prop := ∀ j, j < m.to.length → m.to.getD j 0 = -1 ∨ (0 ≤ m.to.getD j 0 ∧ m.to.getD j 0 < m.new ∧ ∀ i, i < j → m.to.getD i 0 < m.to.getD j 0)
theorem riseB_spec (new : Int) : ∀ (l : List Int) (last : Int), -1 ≤ last → riseB new last l = true → ∀ j, j < l.length → l.getD j 0 = -1 ∨ (last < l.getD j 0 ∧ l.getD j 0 < new ∧ ∀ i, i < j → l.getD i 0 < l.getD j 0)
 | [], _, _, _, j, hj => by simp at hj
 | z :: r, last, hl, h, j, hj => by
  rw [riseB] at h
  by_cases hz : z = -1
  ·rw [if_pos hz] at h
   match j, hj with
   | 0, _ => exact .inl hz
   | j + 1, hj =>
    have ih := riseB_spec new r last hl h j (by simpa using hj)
    simp only [List.getD_cons_succ]
    rcases ih with ih | ⟨h1, h2, h3⟩
    ·exact .inl ih
    ·refine .inr ⟨h1, h2, fun i hi => ?_⟩
     match i, hi with
     | 0, _ => simp only [List.getD_cons_zero]; omega
     | i + 1, hi => simp only [List.getD_cons_succ]; exact h3 i (by omega)
  ·rw [if_neg hz] at h
   by_cases hy : z ≤ last ∨ new ≤ z
   ·rw [if_pos hy] at h; cases h
   ·rw [if_neg hy] at h
    match j, hj with
    | 0, _ => exact .inr ⟨by simp only [List.getD_cons_zero]; omega, by simp only [List.getD_cons_zero]; omega, fun i hi => by omega⟩
    | j + 1, hj =>
     have ih := riseB_spec new r z (by omega) h j (by simpa using hj)
     simp only [List.getD_cons_succ]
     rcases ih with ih | ⟨h1, h2, h3⟩
     ·exact .inl ih
     ·refine .inr ⟨by omega, h2, fun i hi => ?_⟩
      match i, hi with
      | 0, _ => simp only [List.getD_cons_zero]; omega
      | i + 1, hi => simp only [List.getD_cons_succ]; exact h3 i (by omega)
theorem mayM_spec {m : MapD} (h : mayM m = true) : 0 ≤ m.new ∧ m.new ≤ 1048576 ∧ m.to.length ≤ 1048576 ∧ Rise m := by
 simp only [mayM, Bool.and_eq_true, decide_eq_true_eq] at h
 obtain ⟨⟨⟨h1, h2⟩, h3⟩, h4⟩ := h
 refine ⟨h1, h2, h3, fun j hj => ?_⟩
 rcases riseB_spec _ _ _ (by omega) h4 j hj with h | ⟨a, b, c⟩
 ·exact .inl h
 ·exact .inr ⟨by omega, b, c⟩
theorem mayM_fine {m : MapD} (h : mayM m = true) : m.Fine := by
 obtain ⟨h1, h2, h3, _⟩ := mayM_spec h
 exact ⟨by omega, by omega, by omega⟩
theorem fst_neg {m : MapD} {lo : Nat} : ∀ n, lo + n ≤ m.to.length → (∀ j, lo ≤ j → j < lo + n → m.to.getD j 0 < 0) → fstN (-1) (segM m lo (lo + n)) = -1
 | 0, _, _ => by rw [Nat.add_zero, seg_nil]; rfl
 | n + 1, h, hj => by
  rw [← Nat.add_assoc, seg_snoc (by omega) (by omega), fstN_snoc, fst_neg n (by omega) (fun j h1 h2 => hj j h1 (by omega))]
  have := hj (lo + n) (by omega) (by omega)
  rw [if_neg (by omega)]
theorem fst_at {m : MapD} {lo a : Nat} (ha : lo ≤ a) (hd : ∀ j, lo ≤ j → j < a → m.to.getD j 0 < 0) (hz : 0 ≤ m.to.getD a 0) : ∀ n, a + 1 + n ≤ m.to.length → fstN (-1) (segM m lo (a + 1 + n)) = m.to.getD a 0
 | 0, h => by
  have e := fst_neg (m := m) (lo := lo) (a - lo) (by omega) (fun j h1 h2 => hd j h1 (by omega))
  rw [show lo + (a - lo) = a by omega] at e
  rw [Nat.add_zero, seg_snoc ha (by omega), fstN_snoc, e, if_pos ⟨hz, by omega⟩]
 | n + 1, h => by
  rw [← Nat.add_assoc, seg_snoc (by omega) (by omega), fstN_snoc, fst_at ha hd hz n (by omega), if_neg (by omega)]
theorem max_lt {m : MapD} {lo : Nat} {x : Int} (hx : -1 < x) : ∀ n, lo + n ≤ m.to.length → (∀ j, lo ≤ j → j < lo + n → m.to.getD j 0 < x) → maxN (-1) (segM m lo (lo + n)) < x
 | 0, _, _ => by rw [Nat.add_zero, seg_nil]; exact hx
 | n + 1, h, hj => by
  have ih := max_lt hx n (by omega) (fun j h1 h2 => hj j h1 (by omega))
  have := hj (lo + n) (by omega) (by omega)
  rw [← Nat.add_assoc, seg_snoc (by omega) (by omega), maxN_snoc, maxZ]
  split <;> omega
theorem max_at {m : MapD} (hr : Rise m) {lo b : Nat} (hb : lo ≤ b) (hz : 0 ≤ m.to.getD b 0) : ∀ n, b + 1 + n ≤ m.to.length → (∀ j, b < j → j < b + 1 + n → m.to.getD j 0 < 0) → maxN (-1) (segM m lo (b + 1 + n)) = m.to.getD b 0
 | 0, h, _ => by
  have e := max_lt (m := m) (lo := lo) (x := m.to.getD b 0) (by omega) (b - lo) (by omega) (fun j h1 h2 => by
   rcases hr b (by omega) with h3 | ⟨_, _, h3⟩
   ·omega
   ·exact h3 j (by omega))
  rw [show lo + (b - lo) = b by omega] at e
  rw [Nat.add_zero, seg_snoc hb (by omega), maxN_snoc, maxZ, if_pos e]
 | n + 1, h, hj => by
  have := hj (b + 1 + n) (by omega) (by omega)
  rw [← Nat.add_assoc, seg_snoc (by omega) (by omega), maxN_snoc, max_at hr hb hz n (by omega) (fun j h1 h2 => hj j h1 (by omega)), maxZ, if_neg (by omega)]
theorem img_at {m : MapD} {a : Nat} (h : a < m.to.length) : imgM m (a : Int) = m.to.getD a 0 := by
 rw [imgM, if_neg (by omega), if_pos (by omega)]
 rfl
theorem img_out {m : MapD} {a : Nat} (h : m.to.length ≤ a) : imgM m (a : Int) = a - m.to.length + m.new := by
 rw [imgM, if_neg (by omega), if_neg (by omega)]
theorem span_alive {m : MapD} (hr : Rise m) (hn : 0 ≤ m.new) {lo hi a b : Nat} (hlo : lo ≤ a) (hab : a ≤ b) (hb : b ≤ hi) (ha0 : ∀ j, lo ≤ j → j < a → j < m.to.length ∧ m.to.getD j 0 < 0) (ha1 : a < m.to.length → 0 ≤ m.to.getD a 0)
  (hb0 : ∀ j, b < j → j ≤ hi → j < m.to.length ∧ m.to.getD j 0 < 0) (hb1 : b < m.to.length → 0 ≤ m.to.getD b 0) : spanP m lo hi = (imgM m a, imgM m b, true) := by
 rw [spanP, if_neg (by omega)]
 have hmz : maxZ (lo : Int) m.to.length = if (lo : Int) < m.to.length then (m.to.length : Int) else lo := rfl
 by_cases h1 : (m.to.length : Int) ≤ hi
 ·have hbh : b = hi := by
   rcases Nat.lt_or_ge b hi with h | h
   ·have := (hb0 hi h (Nat.le_refl _)).1
    omega
   ·omega
  subst hbh
  simp only [h1, true_and, if_true]
  by_cases h2 : a < m.to.length
  ·have hk : (min ((b : Int) + 1) (maxZ lo m.to.length)).toNat = a + 1 + (m.to.length - a - 1) := by rw [hmz]; split <;> omega
   have e := fst_at hlo (fun j h3 h4 => (ha0 j h3 h4).2) (ha1 h2) (m.to.length - a - 1) (by omega)
   have := ha1 h2
   rw [hk, show ((lo : Nat) : Int).toNat = lo by omega, e, if_neg (by omega), if_neg (by omega), img_at h2]
  ·have e : fstN (-1) (segM m lo (min ((b : Int) + 1) (maxZ lo m.to.length)).toNat) = -1 := by
    rw [hmz]
    split
    ·rename_i h3
     have e := fst_neg (m := m) (lo := lo) (m.to.length - lo) (by omega) (fun j h4 h5 => (ha0 j h4 (by omega)).2)
     rw [show (min ((b : Int) + 1) (m.to.length : Int)).toNat = lo + (m.to.length - lo) by omega]
     exact e
    ·rw [show (min ((b : Int) + 1) (lo : Int)).toNat = lo by omega, seg_nil]
     rfl
   have ea : maxZ (lo : Int) m.to.length = a := by
    rw [hmz]
    split
    ·rename_i h3
     have : ¬ m.to.length < a := fun h4 => by have := (ha0 (m.to.length) (by omega) h4).1; omega
     omega
    ·have : ¬ lo < a := fun h4 => by have := (ha0 lo (by omega) h4).1; omega
     omega
   rw [show ((lo : Nat) : Int).toNat = lo by omega, e, if_pos (show (-1 : Int) < 0 by omega), ea, img_out (by omega), if_neg (by omega)]
 ·simp only [h1, false_and, if_false]
  have hk : (min ((hi : Int) + 1) (maxZ lo m.to.length)).toNat = a + 1 + (hi - a) := by rw [hmz]; split <;> omega
  have hk2 : a + 1 + (hi - a) = b + 1 + (hi - b) := by omega
  have e := fst_at hlo (fun j h3 h4 => (ha0 j h3 h4).2) (ha1 (by omega)) (hi - a) (by omega)
  have e2 := max_at hr (show lo ≤ b by omega) (hb1 (by omega)) (hi - b) (by omega) (fun j h3 h4 => (hb0 j h3 (by omega)).2)
  have := ha1 (by omega)
  rw [hk, show ((lo : Nat) : Int).toNat = lo by omega, e, hk2, e2, if_neg (by omega), img_at (by omega), img_at (by omega)]
theorem span_none {m : MapD} {lo hi : Nat} (h : ∀ j, lo ≤ j → j ≤ hi → j < m.to.length ∧ m.to.getD j 0 < 0) (hl : lo ≤ hi) : spanP m lo hi = (0, 0, false) := by
 have hh := (h hi hl (Nat.le_refl _)).1
 have hmz : maxZ (lo : Int) m.to.length = if (lo : Int) < m.to.length then (m.to.length : Int) else lo := rfl
 rw [spanP, if_neg (by omega)]
 have h1 : ¬ (m.to.length : Int) ≤ hi := by omega
 simp only [h1, false_and, if_false]
 have hk : (min ((hi : Int) + 1) (maxZ lo m.to.length)).toNat = lo + (hi + 1 - lo) := by rw [hmz]; split <;> omega
 have e := fst_neg (m := m) (lo := lo) (hi + 1 - lo) (by omega) (fun j h4 h5 => (h j h4 (by omega)).2)
 rw [hk, show ((lo : Nat) : Int).toNat = lo by omega, e, if_pos (by omega)]
theorem first_in (P : Nat → Prop) [DecidablePred P] (lo : Nat) : ∀ n, (∀ j, lo ≤ j → j < lo + n → ¬ P j) ∨ ∃ a, lo ≤ a ∧ a < lo + n ∧ P a ∧ ∀ j, lo ≤ j → j < a → ¬ P j
 | 0 => .inl fun j h1 h2 => by omega
 | n + 1 => by
  rcases first_in P lo n with h | ⟨a, h1, h2, h3, h4⟩
  ·by_cases hp : P (lo + n)
   ·exact .inr ⟨lo + n, by omega, by omega, hp, fun j h1 h2 => h j h1 (by omega)⟩
   ·refine .inl fun j h1 h2 => ?_
    rcases Nat.lt_or_ge j (lo + n) with h3 | h3
    ·exact h j h1 h3
    ·obtain rfl : j = lo + n := by omega
     exact hp
  ·exact .inr ⟨a, h1, by omega, h3, h4⟩
theorem last_in (P : Nat → Prop) [DecidablePred P] (lo : Nat) : ∀ n, (∀ j, lo ≤ j → j < lo + n → ¬ P j) ∨ ∃ b, lo ≤ b ∧ b < lo + n ∧ P b ∧ ∀ j, b < j → j < lo + n → ¬ P j
 | 0 => .inl fun j h1 h2 => by omega
 | n + 1 => by
  by_cases hp : P (lo + n)
  ·exact .inr ⟨lo + n, by omega, by omega, hp, fun j h1 h2 => by omega⟩
  ·rcases last_in P lo n with h | ⟨b, h1, h2, h3, h4⟩
   ·refine .inl fun j h1 h2 => ?_
    rcases Nat.lt_or_ge j (lo + n) with h3 | h3
    ·exact h j h1 h3
    ·obtain rfl : j = lo + n := by omega
     exact hp
   ·refine .inr ⟨b, h1, by omega, h3, fun j h5 h6 => ?_⟩
    rcases Nat.lt_or_ge j (lo + n) with h7 | h7
    ·exact h4 j h5 h7
    ·obtain rfl : j = lo + n := by omega
     exact hp
theorem img_mono {m : MapD} (hr : Rise m) {a b : Nat} (h : a < b) (hb : b < m.to.length → 0 ≤ m.to.getD b 0) (ha : a < m.to.length → 0 ≤ m.to.getD a 0) : imgM m (a : Int) < imgM m (b : Int) := by
 by_cases h1 : b < m.to.length
 ·rw [img_at h1, img_at (by omega)]
  rcases hr b h1 with h2 | ⟨_, _, h2⟩
  ·have := hb h1; omega
  ·exact h2 a h
 ·rw [img_out (show m.to.length ≤ b by omega)]
  by_cases h2 : a < m.to.length
  ·rw [img_at h2]
   rcases hr a h2 with h3 | ⟨_, h3, _⟩
   ·have := ha h2; omega
   ·omega
  ·rw [img_out (show m.to.length ≤ a by omega)]
   omega
theorem img_le {m : MapD} (hr : Rise m) {a b : Nat} (h : a ≤ b) (hb : b < m.to.length → 0 ≤ m.to.getD b 0) (ha : a < m.to.length → 0 ≤ m.to.getD a 0) : imgM m (a : Int) ≤ imgM m (b : Int) := by
 rcases Nat.lt_or_ge a b with h1 | h1
 ·have := img_mono hr h1 hb ha; omega
 ·obtain rfl : a = b := by omega
  omega
theorem img_ge {m : MapD} (hn : 0 ≤ m.new) {a : Nat} (ha : a < m.to.length → 0 ≤ m.to.getD a 0) : 0 ≤ imgM m (a : Int) := by
 by_cases h1 : a < m.to.length
 ·rw [img_at h1]; exact ha h1
 ·rw [img_out (by omega)]; omega
theorem span_cases {m : MapD} (hr : Rise m) (hn : 0 ≤ m.new) {lo hi : Nat} (h : lo ≤ hi) : spanP m lo hi = (0, 0, false) ∨ ∃ a b : Nat, lo ≤ a ∧ a ≤ b ∧ b ≤ hi ∧ spanP m lo hi = (imgM m a, imgM m b, true) ∧ 0 ≤ imgM m a ∧ imgM m a ≤ imgM m b := by
 have hP : ∀ j, ¬ (m.to.length ≤ j ∨ 0 ≤ m.to.getD j 0) ↔ (j < m.to.length ∧ m.to.getD j 0 < 0) := fun j => by omega
 rcases first_in (fun j => m.to.length ≤ j ∨ 0 ≤ m.to.getD j 0) lo (hi + 1 - lo) with h1 | ⟨a, h1, h2, h3, h4⟩
 ·exact .inl (span_none (fun j h2 h3 => (hP j).1 (h1 j h2 (by omega))) h)
 ·rcases last_in (fun j => m.to.length ≤ j ∨ 0 ≤ m.to.getD j 0) lo (hi + 1 - lo) with k1 | ⟨b, k1, k2, k3, k4⟩
  ·exact absurd h3 (k1 a h1 h2)
  ·have hab : a ≤ b := by
    rcases Nat.lt_or_ge b a with h5 | h5
    ·exact absurd k3 (h4 b k1 h5)
    ·exact h5
   have ha1 : a < m.to.length → 0 ≤ m.to.getD a 0 := fun h5 => by omega
   have hb1 : b < m.to.length → 0 ≤ m.to.getD b 0 := fun h5 => by omega
   exact .inr ⟨a, b, h1, hab, by omega, span_alive hr hn h1 hab (by omega) (fun j h5 h6 => (hP j).1 (h4 j h5 h6)) ha1 (fun j h5 h6 => (hP j).1 (k4 j h5 (by omega))) hb1, img_ge hn ha1, img_le hr hab hb1 ha1⟩
theorem span_one {m : MapD} (hr : Rise m) (hn : 0 ≤ m.new) (i : Nat) : spanP m i i = if imgM m i < 0 then (0, 0, false) else (imgM m i, imgM m i, true) := by
 by_cases h : i < m.to.length ∧ m.to.getD i 0 < 0
 ·rw [span_none (fun j h1 h2 => (show j = i by omega) ▸ h) (Nat.le_refl _), img_at h.1, if_pos h.2]
 ·have h1 : i < m.to.length → 0 ≤ m.to.getD i 0 := fun h2 => by omega
  have := img_ge hn h1
  rw [span_alive hr hn (Nat.le_refl _) (Nat.le_refl _) (Nat.le_refl _) (fun j h2 h3 => by omega) h1 (fun j h2 h3 => by omega) h1, if_neg (by omega)]
theorem span_full {m : MapD} (hr : Rise m) (hn : 0 ≤ m.new) (ha : ∀ j, j < m.to.length → 0 ≤ m.to.getD j 0) {lo hi : Nat} (h : lo ≤ hi) : spanP m lo hi = (imgM m lo, imgM m hi, true) :=
 span_alive hr hn (Nat.le_refl _) h (Nat.le_refl _) (fun j h2 h3 => by omega) (ha lo) (fun j h2 h3 => by omega) (ha hi)
structure ShD where
 sheet : List UInt8
 rows : MapD
 cols : MapD
 gone : Bool
def ShD.May (s : ShD) : Prop := mayM s.rows = true ∧ mayM s.cols = true
def ShD.Fine (s : ShD) : Prop := s.rows.Fine ∧ s.cols.Fine
def deadN : NodeD := { kind := 4 }
def ownN (own : List UInt8) (n : NodeD) : List UInt8 := if n.ref.sheet = [] then own else n.ref.sheet
def findS (ss : List ShD) (x : List UInt8) : Option ShD := ss.find? (fun s => decide (s.sheet = x))
def lastN (n : NodeD) : RefD := if n.kind = 5 then n.ref else n.to
def goneN (s : ShD) (n : NodeD) : Prop := (spanP s.rows n.ref.row (lastN n).row).2.2 = false ∨ (spanP s.cols n.ref.col (lastN n).col).2.2 = false ∨ 998 < (spanP s.rows n.ref.row (lastN n).row).2.1 ∨ 701 < (spanP s.cols n.ref.col (lastN n).col).2.1
instance (s : ShD) (n : NodeD) : Decidable (goneN s n) := by unfold goneN; infer_instance
def wentN (s : ShD) (n : NodeD) : NodeD :=
 { n with ref := { n.ref with row := (spanP s.rows n.ref.row (lastN n).row).1, col := (spanP s.cols n.ref.col (lastN n).col).1 }, to := if n.kind = 6 then { n.to with row := (spanP s.rows n.ref.row (lastN n).row).2.1, col := (spanP s.cols n.ref.col (lastN n).col).2.1 } else n.to }
def goN (s : ShD) (n : NodeD) : NodeD := if s.gone = true then deadN else if goneN s n then deadN else wentN s n
def goD (s : ShD) (n : NodeD) : NodeD :=
 if s.gone = true then deadN
 else if n.kind = 5 then (if mayB { n.ref with row := imgM s.rows n.ref.row, col := imgM s.cols n.ref.col } = true then { n with ref := { n.ref with row := imgM s.rows n.ref.row, col := imgM s.cols n.ref.col } } else deadN)
 else if (spanP s.rows n.ref.row n.to.row).2.2 = true ∧ (spanP s.cols n.ref.col n.to.col).2.2 = true ∧ mayB { n.ref with row := (spanP s.rows n.ref.row n.to.row).1, col := (spanP s.cols n.ref.col n.to.col).1 } = true ∧ mayB { n.to with row := (spanP s.rows n.ref.row n.to.row).2.1, col := (spanP s.cols n.ref.col n.to.col).2.1 } = true then
  { n with ref := { n.ref with row := (spanP s.rows n.ref.row n.to.row).1, col := (spanP s.cols n.ref.col n.to.col).1 }, to := { n.to with row := (spanP s.rows n.ref.row n.to.row).2.1, col := (spanP s.cols n.ref.col n.to.col).2.1 } }
 else deadN
def moveBy (go : ShD → NodeD → NodeD) (own : List UInt8) (ss : List ShD) (n : NodeD) : NodeD :=
 if n.kind ≠ 5 ∧ n.kind ≠ 6 then n else match findS ss (ownN own n) with
  | none => n
  | some s => go s n
def moveL (go : ShD → NodeD → NodeD) (own : List UInt8) (ss : List ShD) (l : List NodeD) : List NodeD := if treeB l = true then l.map (moveBy go own ss) else []
theorem mayB_parts {x : RefD} (h : mayB x = true) : 0 ≤ x.col ∧ x.col ≤ 701 ∧ 0 ≤ x.row ∧ x.row ≤ 998 ∧ ∀ r c, 0 ≤ r → r ≤ 998 → 0 ≤ c → c ≤ 701 → mayB { x with row := r, col := c } = true := by
 simp only [mayB, Bool.and_eq_true, decide_eq_true_eq] at h ⊢
 obtain ⟨⟨⟨⟨h0, h1⟩, h2⟩, h3⟩, h4⟩ := h
 exact ⟨h1, h2, h3, h4, fun r c h5 h6 h7 h8 => ⟨⟨⟨⟨h0, h7⟩, h8⟩, h5⟩, h6⟩⟩
theorem mayB_iff {x : RefD} (h : mayB x = true) (r c : Int) : mayB { x with row := r, col := c } = true ↔ 0 ≤ r ∧ r ≤ 998 ∧ 0 ≤ c ∧ c ≤ 701 := by
 obtain ⟨_, _, _, _, h5⟩ := mayB_parts h
 refine ⟨fun hh => ?_, fun ⟨h1, h2, h3, h4⟩ => h5 r c h1 h2 h3 h4⟩
 obtain ⟨a, b, c, d, _⟩ := mayB_parts hh
 exact ⟨c, d, a, b⟩
theorem ref_plain {n : NodeD} (h : plainB n = true) (hk : n.kind = 5) : mayB n.ref = true ∧ n.num = 0 ∧ n.text = [] ∧ n.to = refN := by
 simp only [plainB, okK, bareN, hk] at h
 simp at h
 exact ⟨h.1, h.2.1, h.2.2.1, h.2.2.2⟩
theorem range_plain {n : NodeD} (h : plainB n = true) (hk : n.kind = 6) : mayB n.ref = true ∧ mayB n.to = true ∧ rangesB n.ref n.to = true ∧ n.num = 0 ∧ n.text = [] := by
 simp only [plainB, okK, bareN, hk] at h
 simp at h
 exact ⟨h.1.1, h.1.2.1, h.1.2.2, h.2.1, h.2.2⟩
theorem ranges_parts {a b : RefD} (h : rangesB a b = true) : b.sheet = [] ∧ a.col ≤ b.col ∧ a.row ≤ b.row := by
 simp only [rangesB, Bool.and_eq_true, decide_eq_true_eq] at h
 exact ⟨h.1.1, h.1.2, h.2⟩
theorem span_int {m : MapD} (hr : Rise m) (hn : 0 ≤ m.new) {lo hi : Int} (h0 : 0 ≤ lo) (h : lo ≤ hi) : spanP m lo hi = (0, 0, false) ∨ ∃ a b : Nat, lo ≤ a ∧ a ≤ b ∧ b ≤ hi ∧ spanP m lo hi = (imgM m a, imgM m b, true) ∧ 0 ≤ imgM m a ∧ imgM m a ≤ imgM m b := by
 obtain ⟨a, rfl⟩ := Int.eq_ofNat_of_zero_le h0
 obtain ⟨b, rfl⟩ := Int.eq_ofNat_of_zero_le (show 0 ≤ hi by omega)
 rcases span_cases hr hn (lo := a) (hi := b) (by omega) with h1 | ⟨x, y, h1, h2, h3, h4⟩
 ·exact .inl h1
 ·exact .inr ⟨x, y, by omega, h2, by omega, h4⟩
theorem span_one_int {m : MapD} (hr : Rise m) (hn : 0 ≤ m.new) {i : Int} (h : 0 ≤ i) : spanP m i i = if imgM m i < 0 then (0, 0, false) else (imgM m i, imgM m i, true) := by
 obtain ⟨a, rfl⟩ := Int.eq_ofNat_of_zero_le h
 exact span_one hr hn a
theorem goN_goD {s : ShD} (hm : s.May) {n : NodeD} (hp : plainB n = true) (hk : n.kind = 5 ∨ n.kind = 6) : goN s n = goD s n := by
 obtain ⟨r1, _, _, r4⟩ := mayM_spec hm.1
 obtain ⟨c1, _, _, c4⟩ := mayM_spec hm.2
 unfold goN goD
 by_cases hg : s.gone = true
 ·rw [if_pos hg, if_pos hg]
 rw [if_neg hg, if_neg hg]
 rcases hk with hk | hk
 ·obtain ⟨h1, h2, h3, h4⟩ := ref_plain hp hk
  obtain ⟨b1, b2, b3, b4, _⟩ := mayB_parts h1
  have hiff := mayB_iff h1 (imgM s.rows n.ref.row) (imgM s.cols n.ref.col)
  have hl : lastN n = n.ref := by rw [lastN, if_pos hk]
  have er := span_one_int r4 r1 b3
  have ec := span_one_int c4 c1 b1
  rw [if_pos hk]
  by_cases x1 : imgM s.rows n.ref.row < 0
  ·have hg : goneN s n := by unfold goneN; rw [hl, er, if_pos x1]; exact .inl rfl
   rw [if_pos hg, if_neg (by rw [hiff]; omega)]
  by_cases x2 : imgM s.cols n.ref.col < 0
  ·have hg : goneN s n := by unfold goneN; rw [hl, ec, if_pos x2]; exact .inr (.inl rfl)
   rw [if_pos hg, if_neg (by rw [hiff]; omega)]
  have hw : wentN s n = { n with ref := { n.ref with row := imgM s.rows n.ref.row, col := imgM s.cols n.ref.col } } := by
   unfold wentN
   rw [hl, er, ec, if_neg x1, if_neg x2, if_neg (show ¬ n.kind = 6 by omega)]
  by_cases x3 : 998 < imgM s.rows n.ref.row ∨ 701 < imgM s.cols n.ref.col
  ·have hg : goneN s n := by unfold goneN; rw [hl, er, ec, if_neg x1, if_neg x2]; exact .inr (.inr x3)
   rw [if_pos hg, if_neg (by rw [hiff]; omega)]
  ·have hg : ¬ goneN s n := by unfold goneN; rw [hl, er, ec, if_neg x1, if_neg x2]; simpa using x3
   rw [if_neg hg, hw, if_pos (by rw [hiff]; omega)]
 ·obtain ⟨h1, h2, h3, h4, h5⟩ := range_plain hp hk
  obtain ⟨b1, b2, b3, b4, _⟩ := mayB_parts h1
  obtain ⟨q1, q2, q3⟩ := ranges_parts h3
  have hl : lastN n = n.to := by rw [lastN, if_neg (by omega)]
  rw [if_neg (show ¬ n.kind = 5 by omega)]
  rcases span_int r4 r1 b3 q3 with er | ⟨x, y, _, _, _, er, er1, er2⟩
  ·have hg : goneN s n := by unfold goneN; rw [hl, er]; exact .inl rfl
   rw [if_pos hg, er, if_neg (fun h => by cases h.1)]
  rcases span_int c4 c1 b1 q2 with ec | ⟨u, v, _, _, _, ec, ec1, ec2⟩
  ·have hg : goneN s n := by unfold goneN; rw [hl, ec]; exact .inr (.inl rfl)
   rw [if_pos hg, ec, if_neg (fun h => by cases h.2.1)]
  have i1 := mayB_iff h1 (imgM s.rows x) (imgM s.cols u)
  have i2 := mayB_iff h2 (imgM s.rows y) (imgM s.cols v)
  have hw : wentN s n = { n with ref := { n.ref with row := imgM s.rows x, col := imgM s.cols u }, to := { n.to with row := imgM s.rows y, col := imgM s.cols v } } := by
   unfold wentN
   rw [hl, er, ec, if_pos hk]
  by_cases x3 : 998 < imgM s.rows y ∨ 701 < imgM s.cols v
  ·have hg : goneN s n := by unfold goneN; rw [hl, er, ec]; exact .inr (.inr x3)
   rw [if_pos hg, er, ec, if_neg (fun h => by have := i2.1 h.2.2.2; omega)]
  ·have hg : ¬ goneN s n := by unfold goneN; rw [hl, er, ec]; simpa using x3
   rw [if_neg hg, hw, er, ec, if_pos ⟨rfl, rfl, i1.2 (by omega), i2.2 (by omega)⟩]
theorem findS_mem {ss : List ShD} {x : List UInt8} {s : ShD} (h : findS ss x = some s) : s ∈ ss ∧ s.sheet = x := by
 unfold findS at h
 have h1 := List.find?_some h
 exact ⟨List.mem_of_find?_eq_some h, by simpa using h1⟩
theorem goN_ok {s : ShD} (hm : s.May) {n : NodeD} (hp : plainB n = true) (hk : n.kind = 5 ∨ n.kind = 6) : plainB (goN s n) = true ∧ 1 ≤ (goN s n).kind ∧ (goN s n).kind ≤ 6 ∧ (goN s n).num = 0 ∧ (goN s n).text = [] ∧ (goN s n).ref.sheet.length ≤ n.ref.sheet.length ∧ (goN s n).to.sheet.length ≤ n.to.sheet.length ∧ ((goN s n).kids = n.kids ∨ goN s n = deadN) := by
 have hd : plainB deadN = true ∧ 1 ≤ deadN.kind ∧ deadN.kind ≤ 6 ∧ deadN.num = 0 ∧ deadN.text = [] ∧ deadN.ref.sheet.length ≤ n.ref.sheet.length ∧ deadN.to.sheet.length ≤ n.to.sheet.length ∧ (deadN.kids = n.kids ∨ deadN = deadN) := ⟨rfl, by decide, by decide, rfl, rfl, by simp [deadN, refN], by simp [deadN, refN], .inr rfl⟩
 obtain ⟨r1, _, _, r4⟩ := mayM_spec hm.1
 obtain ⟨c1, _, _, c4⟩ := mayM_spec hm.2
 rw [goN_goD hm hp hk]
 unfold goD
 split
 ·exact hd
 split
 ·rename_i hk5
  obtain ⟨h1, h2, h3, h4⟩ := ref_plain hp hk5
  split
  ·rename_i hb
   refine ⟨?_, by show 1 ≤ n.kind; omega, by show n.kind ≤ 6; omega, h2, h3, Nat.le_refl _, Nat.le_refl _, .inl rfl⟩
   simp only [plainB, okK, bareN, hk5, hb, h2, h3, h4]
   simp
  ·exact hd
 ·rename_i hk5
  have hk6 : n.kind = 6 := by omega
  obtain ⟨h1, h2, h3, h4, h5⟩ := range_plain hp hk6
  obtain ⟨q1, q2, q3⟩ := ranges_parts h3
  obtain ⟨b1, b2, b3, b4, _⟩ := mayB_parts h1
  split
  ·rename_i hb
   obtain ⟨e1, e2, e3, e4⟩ := hb
   refine ⟨?_, by show 1 ≤ n.kind; omega, by show n.kind ≤ 6; omega, h4, h5, Nat.le_refl _, Nat.le_refl _, .inl rfl⟩
   rcases span_int r4 r1 b3 q3 with er | ⟨x, y, _, _, _, er, er1, er2⟩
   ·rw [er] at e1; cases e1
   rcases span_int c4 c1 b1 q2 with ec | ⟨u, v, _, _, _, ec, ec1, ec2⟩
   ·rw [ec] at e2; cases e2
   rw [er, ec] at e3 e4 ⊢
   have hrb : rangesB { n.ref with row := imgM s.rows x, col := imgM s.cols u } { n.to with row := imgM s.rows y, col := imgM s.cols v } = true := by
    simp only [rangesB, Bool.and_eq_true, decide_eq_true_eq]
    exact ⟨⟨q1, ec2⟩, er2⟩
   simp only [plainB, okK, bareN, hk6, e3, e4, hrb, h4, h5]
   simp
  ·exact hd
end Go.Proofs.YtiaigmahdjhcoaaGreatDoor
namespace Go.Proofs.YtiaigmahdjhcoaaGreatDoor
open Go Go.E
def Tr.mv (f : NodeD → NodeD) : {b : Bool} → Tr b → Tr b
 | _, .leaf n => .leaf (f n)
 | _, .neg a => .neg (a.mv f)
 | _, .two k a b => .two k (a.mv f) (b.mv f)
 | _, .call x ks => .call x (ks.mv f)
 | _, .nil => .nil
 | _, .snoc ks a => .snoc (ks.mv f) (a.mv f)
structure LeafF (f : NodeD → NodeD) : Prop where
 inner : ∀ n : NodeD, 7 ≤ n.kind → f n = n
 leaf : ∀ n : NodeD, 1 ≤ n.kind → n.kind ≤ 6 → n.kids = [] → plainB n = true → 1 ≤ (f n).kind ∧ (f n).kind ≤ 6 ∧ (f n).kids = [] ∧ plainB (f n) = true ∧ (f n = n ∨ (f n).num = 0)
theorem leaf_num {n : NodeD} {k : TokD} (h : k ∈ leafK n) : k.num = n.num ∨ k.num = 0 := by
 unfold leafK at h
 repeat' split at h
 all_goals simp only [List.mem_cons, List.not_mem_nil, or_false] at h
 all_goals first | (subst h; first | exact .inl rfl | exact .inr rfl) | (rcases h with rfl | rfl | rfl <;> exact .inr rfl)
theorem mv_cnt (f : NodeD → NodeD) : ∀ {b : Bool} (t : Tr b), (t.mv f).cnt = t.cnt
 | _, .leaf _ => rfl
 | _, .neg a => by simp only [Tr.mv, Tr.cnt, mv_cnt f a]
 | _, .two _ a b => by simp only [Tr.mv, Tr.cnt, mv_cnt f a, mv_cnt f b]
 | _, .call _ ks => by simp only [Tr.mv, Tr.cnt, mv_cnt f ks]
 | _, .nil => rfl
 | _, .snoc ks a => by simp only [Tr.mv, Tr.cnt, mv_cnt f ks, mv_cnt f a]
theorem mv_kids (f : NodeD → NodeD) (o : Nat) : ∀ {b : Bool} (t : Tr b), (t.mv f).kids o = t.kids o
 | _, .leaf _ => rfl
 | _, .neg _ => rfl
 | _, .two _ _ _ => rfl
 | _, .call _ _ => rfl
 | _, .nil => rfl
 | _, .snoc ks a => by simp only [Tr.mv, Tr.kids, mv_kids f o ks, mv_cnt]
theorem mv_flat {f : NodeD → NodeD} (h : LeafF f) : ∀ {b : Bool} (t : Tr b) (o : Nat), t.Fit → (t.mv f).flat o = (t.flat o).map f
 | _, .leaf _, _, _ => rfl
 | _, .neg a, o, hf => by simp only [Tr.mv, Tr.flat, mv_flat h a o hf, mv_cnt, List.map_append, List.map_cons, List.map_nil]; rw [h.inner _ (by show (7 : Int) ≤ 8; omega)]
 | _, .two k a b, o, hf => by
  simp only [Tr.mv, Tr.flat, mv_flat h a o hf.2.2.1, mv_flat h b (o + a.cnt) hf.2.2.2, mv_cnt, List.map_append, List.map_cons, List.map_nil]
  rw [h.inner _ (by have := hf.1; show 7 ≤ k; omega)]
 | _, .call x ks, o, hf => by simp only [Tr.mv, Tr.flat, mv_flat h ks o hf.2, mv_kids, List.map_append, List.map_cons, List.map_nil]; rw [h.inner _ (by show (7 : Int) ≤ 7; omega)]
 | _, .nil, _, _ => rfl
 | _, .snoc ks a, o, hf => by simp only [Tr.mv, Tr.flat, mv_flat h ks o hf.1, mv_flat h a (o + ks.cnt) hf.2, mv_cnt, List.map_append]
theorem mv_fit {f : NodeD → NodeD} (h : LeafF f) : ∀ {b : Bool} (t : Tr b), t.Fit → (t.mv f).Fit
 | _, .leaf n, hf => by
  obtain ⟨a, b, c, d, _⟩ := h.leaf n hf.1 hf.2.1 hf.2.2.1 hf.2.2.2
  exact ⟨a, b, c, d⟩
 | _, .neg a, hf => mv_fit h a hf
 | _, .two k a b, hf => ⟨hf.1, hf.2.1, mv_fit h a hf.2.2.1, mv_fit h b hf.2.2.2⟩
 | _, .call x ks, hf => ⟨hf.1, mv_fit h ks hf.2⟩
 | _, .nil, _ => trivial
 | _, .snoc ks a, hf => ⟨mv_fit h ks hf.1, mv_fit h a hf.2⟩
theorem mv_rank (f : NodeD → NodeD) : ∀ {b : Bool} (t : Tr b), (t.mv f).rank = t.rank
 | _, .leaf _ => rfl
 | _, .neg _ => rfl
 | _, .two _ _ _ => rfl
 | _, .call _ _ => rfl
 | _, .nil => rfl
 | _, .snoc _ _ => rfl
theorem mv_need (f : NodeD → NodeD) : ∀ {b : Bool} (t : Tr b), (t.mv f).need = t.need
 | _, .leaf _ => rfl
 | _, .neg a => by simp only [Tr.mv, Tr.need, mv_rank, mv_need f a]
 | _, .two _ a b => by simp only [Tr.mv, Tr.need, mv_rank, mv_need f a, mv_need f b]
 | _, .call _ ks => by simp only [Tr.mv, Tr.need, mv_need f ks]
 | _, .nil => rfl
 | _, .snoc ks a => by simp only [Tr.mv, Tr.need, mv_need f ks, mv_need f a]
theorem mv_num {f : NodeD → NodeD} (h : LeafF f) : ∀ {b : Bool} (t : Tr b), t.Fit → t.Num → (t.mv f).Num
 | _, .leaf n, hf, hn => fun k hk => by
  obtain ⟨_, _, _, _, e⟩ := h.leaf n hf.1 hf.2.1 hf.2.2.1 hf.2.2.2
  have hk' : k ∈ leafK (f n) := hk
  rcases e with e | e
  ·rw [e] at hk'
   exact hn k hk'
  ·rcases leaf_num hk' with h1 | h1 <;> omega
 | _, .neg a, hf, hn => num_neg (mv_num h a hf (fun u hu => hn u (by simp only [Tr.toks]; exact List.mem_cons_of_mem _ (sub_brk hu))))
 | _, .two o a b, hf, hn => num_two (mv_num h a hf.2.2.1 (fun u hu => hn u (by simp only [Tr.toks]; exact List.mem_append_left _ (sub_brk hu)))) (mv_num h b hf.2.2.2 (fun u hu => hn u (by simp only [Tr.toks]; exact List.mem_append_right _ (List.mem_cons_of_mem _ (sub_brk hu)))))
 | _, .call x .nil, hf, hn => hn
 | _, .call x (.snoc rs a), hf, hn => num_call (mv_num h rs hf.2.1 (fun u hu => hn u (by simp only [Tr.toks]; simp [hu]))) (mv_num h a hf.2.2 (fun u hu => hn u (by simp only [Tr.toks]; simp [hu])))
 | _, .nil, _, hn => hn
 | _, .snoc rs a, hf, hn => num_snoc (mv_num h rs hf.1 (fun u hu => hn u (by simp only [Tr.toks]; simp [hu]))) (mv_num h a hf.2 (fun u hu => hn u (by simp only [Tr.toks]; simp [hu])))
theorem mv_len {f : NodeD → NodeD} : ∀ {b : Bool} (t : Tr b), t.Fit → (∀ n ∈ t.flat 0, n.kind ≤ 6 → W (leafK (f n)) ≤ 2 * W (leafK n)) → W (t.mv f).toks ≤ 2 * W t.toks := by
 have key : ∀ {b : Bool} (t : Tr b) (o : Nat), t.Fit → (∀ n ∈ t.flat o, n.kind ≤ 6 → W (leafK (f n)) ≤ 2 * W (leafK n)) → W (t.mv f).toks ≤ 2 * W t.toks := by
  intro b t
  induction t with
  | leaf n => intro o hf h; exact h n (by simp [Tr.flat]) hf.2.1
  | neg a ih =>
   intro o hf h
   have := ih o hf (fun n hn => h n (by simp only [Tr.flat]; simp [hn]))
   simp only [Tr.mv, Tr.toks, W_cons, W_brk, W_sg, mv_rank, List.length_cons, List.length_nil]
   omega
  | two k a b iha ihb =>
   intro o hf h
   have h1 := iha o hf.2.2.1 (fun n hn => h n (by simp only [Tr.flat]; simp [hn]))
   have h2 := ihb (o + a.cnt) hf.2.2.2 (fun n hn => h n (by simp only [Tr.flat]; simp [hn]))
   simp only [Tr.mv, Tr.toks, W_app, W_cons, W_brk, W_sg, mv_rank]
   omega
  | call x ks ih =>
   intro o hf h
   have h1 := ih o hf.2 (fun n hn => h n (by simp only [Tr.flat]; simp [hn]))
   cases ks with
   | nil => simp only [Tr.mv, Tr.toks]; omega
   | snoc rs a =>
    simp only [Tr.mv, Tr.toks, W_app, W_cons, W_sg, List.length_cons, List.length_nil, W_nil] at h1 ⊢
    omega
  | nil => intro o hf h; exact Nat.zero_le _
  | snoc ks a ihk iha =>
   intro o hf h
   have h1 := ihk o hf.1 (fun n hn => h n (by simp only [Tr.flat]; simp [hn]))
   have h2 := iha (o + ks.cnt) hf.2 (fun n hn => h n (by simp only [Tr.flat]; simp [hn]))
   simp only [Tr.mv, Tr.toks, W_app, W_cons, W_sg, List.length_cons, List.length_nil, W_nil]
   omega
 exact fun {b} t hf h => key t 0 hf h
theorem moveBy_lf {own : List UInt8} {ss : List ShD} (hss : ∀ s ∈ ss, s.May) : LeafF (moveBy goN own ss) where
 inner n hk := by rw [moveBy, if_pos ⟨by omega, by omega⟩]
 leaf n h1 h2 h3 h4 := by
  unfold moveBy
  split
  ·exact ⟨h1, h2, h3, h4, .inl rfl⟩
  ·rename_i hk
   split
   ·exact ⟨h1, h2, h3, h4, .inl rfl⟩
   ·rename_i s e
    obtain ⟨a, b, c, d, _, _, _, x⟩ := goN_ok (hss s (findS_mem e).1) h4 (by omega)
    refine ⟨b, c, ?_, a, .inr d⟩
    rcases x with x | x
    ·rw [x, h3]
    ·rw [x]; rfl
theorem moveBy_short {own : List UInt8} {ss : List ShD} (hss : ∀ s ∈ ss, s.May) {n : NodeD} (hp : plainB n = true) : (moveBy goN own ss n).text.length ≤ n.text.length ∧ (moveBy goN own ss n).ref.sheet.length ≤ n.ref.sheet.length ∧ (moveBy goN own ss n).to.sheet.length ≤ n.to.sheet.length ∧ (moveBy goN own ss n).kids.length ≤ n.kids.length := by
 unfold moveBy
 split
 ·exact ⟨Nat.le_refl _, Nat.le_refl _, Nat.le_refl _, Nat.le_refl _⟩
 ·split
  ·exact ⟨Nat.le_refl _, Nat.le_refl _, Nat.le_refl _, Nat.le_refl _⟩
  ·rename_i s e
   obtain ⟨a, b, c, d, d2, h1, h2, x⟩ := goN_ok (hss s (findS_mem e).1) hp (by omega)
   refine ⟨by rw [d2]; simp, h1, h2, ?_⟩
   rcases x with x | x
   ·rw [x]; exact Nat.le_refl _
   ·rw [x]; simp [deadN]
theorem fit_plain : ∀ {b : Bool} (t : Tr b) (o : Nat), t.Fit → ∀ n ∈ t.flat o, plainB n = true
 | _, .leaf m, o, hf, n, hn => by
  simp only [Tr.flat, List.mem_singleton] at hn
  subst hn
  exact hf.2.2.2
 | _, .neg a, o, hf, n, hn => by
  simp only [Tr.flat, List.mem_append, List.mem_singleton] at hn
  rcases hn with hn | rfl
  ·exact fit_plain a o hf n hn
  ·exact rfl
 | _, .two k a b, o, hf, n, hn => by
  simp only [Tr.flat, List.mem_append, List.mem_singleton] at hn
  rcases hn with (hn | hn) | rfl
  ·exact fit_plain a o hf.2.2.1 n hn
  ·exact fit_plain b _ hf.2.2.2 n hn
  ·exact (two_node hf.1 hf.2.1 _ _).2
 | _, .call x ks, o, hf, n, hn => by
  simp only [Tr.flat, List.mem_append, List.mem_singleton] at hn
  rcases hn with hn | rfl
  ·exact fit_plain ks o hf.2 n hn
  ·exact (call_node hf.1 _).2
 | _, .nil, _, _, n, hn => by simp [Tr.flat] at hn
 | _, .snoc ks a, o, hf, n, hn => by
  simp only [Tr.flat, List.mem_append] at hn
  rcases hn with hn | hn
  ·exact fit_plain ks o hf.1 n hn
  ·exact fit_plain a _ hf.2 n hn
theorem tree_plain {l : List NodeD} (h : treeB l = true) : ∀ n ∈ l, plainB n = true := by
 obtain ⟨t, rfl, hf⟩ := tree_of h
 exact fit_plain t 0 hf
theorem moved_tree {own : List UInt8} {ss : List ShD} (hss : ∀ s ∈ ss, s.May) {t : Tr false} (hf : t.Fit) : moveL goN own ss (t.flat 0) = (t.mv (moveBy goN own ss)).flat 0 ∧ (t.mv (moveBy goN own ss)).Fit :=
 ⟨by rw [moveL, if_pos (t.tree hf), mv_flat (moveBy_lf hss) t 0 hf], mv_fit (moveBy_lf hss) t hf⟩
theorem numOk_nil : NumOk [] := numOk_of (by simp)
theorem moved_facts {own : List UInt8} {ss : List ShD} (hss : ∀ s ∈ ss, s.May) {l : List NodeD} (hsh : Short l) (hno : NumOk l) (N : Nat) (hk : ∀ n ∈ l, n.kids.length ≤ N) :
  Short (moveL goN own ss l) ∧ NumOk (moveL goN own ss l) ∧ (∀ n ∈ moveL goN own ss l, n.kids.length ≤ N) ∧ (moveL goN own ss l).length ≤ l.length := by
 by_cases ht : treeB l = true
 ·obtain ⟨t, rfl, hf⟩ := tree_of ht
  have hp := tree_plain ht
  obtain ⟨e, hf'⟩ := moved_tree (own := own) hss hf
  have hm : ∀ n ∈ moveL goN own ss (t.flat 0), ∃ m ∈ t.flat 0, n = moveBy goN own ss m := fun n hn => by
   rw [moveL, if_pos ht] at hn
   obtain ⟨m, h1, h2⟩ := List.mem_map.1 hn
   exact ⟨m, h1, h2.symm⟩
  refine ⟨fun n hn => ?_, fun u hu eu => ?_, fun n hn => ?_, ?_⟩
  ·obtain ⟨m, h1, rfl⟩ := hm n hn
   obtain ⟨a, b, c, _⟩ := moveBy_short (own := own) hss (hp m h1)
   obtain ⟨d1, d2, d3⟩ := hsh m h1
   exact ⟨by omega, by omega, by omega⟩
  ·have := Tr.inj u _ hu hf' [] [] (by simpa using eu.trans e) (.inl rfl)
   rw [this.1]
   exact mv_num (moveBy_lf hss) t hf (hno t hf rfl)
  ·obtain ⟨m, h1, rfl⟩ := hm n hn
   obtain ⟨_, _, _, d⟩ := moveBy_short (own := own) hss (hp m h1)
   have := hk m h1
   omega
  ·rw [moveL, if_pos ht, List.length_map]; exact Nat.le_refl _
 ·rw [moveL, if_neg ht]
  exact ⟨fun n hn => (List.not_mem_nil hn).elim, numOk_nil, fun n hn => (List.not_mem_nil hn).elim, by simp⟩
theorem moveL_eq {own : List UInt8} {ss : List ShD} (hss : ∀ s ∈ ss, s.May) (l : List NodeD) : moveL goN own ss l = moveL goD own ss l := by
 unfold moveL
 split
 ·rename_i ht
  refine List.map_congr_left fun n hn => ?_
  unfold moveBy
  split
  ·rfl
  ·split
   ·rfl
   ·rename_i s e
    exact goN_goD (hss s (findS_mem e).1) (tree_plain ht n hn) (by omega)
 ·rfl
def refT : List UInt8 := [61, 35, 82, 69, 70, 33]
noncomputable def moveTx (own : List UInt8) (ss : List ShD) (s : List UInt8) : List UInt8 :=
 if s ≠ [] ∧ byte s 0 = 61 ∧ mayC s = true then (match parseT (s.drop 1) with
  | .ok l => if 300 < (61 :: printT (moveL goN own ss l)).length then refT else 61 :: printT (moveL goN own ss l)
  | .error _ => s) else s
end Go.Proofs.YtiaigmahdjhcoaaGreatDoor
namespace Go.Proofs.YtiaigmahdjhcoaaGreatDoor
open Go Go.E
def shL (s : ShD) (rv cv : Value) : List Value := [str s.sheet, rv, .int .i64 s.rows.new, cv, .int .i64 s.cols.new, .bool s.gone]
theorem shL_len (s : ShD) (rv cv : Value) : (shL s rv cv).length = 6 := rfl
def ShiftsR (w : World) (v : Value) (l : List ShD) : Prop :=
 l.length ≤ 1000000 ∧ (v = .slice none 0 0 ∧ l = [] ∨ ∃ a cap, v = .slice (some a) l.length cap ∧ ∀ i s, l[i]? = some s → ∃ rv cv, IntsR w rv s.rows.to ∧ IntsR w cv s.cols.to ∧ ∀ j u, (shL s rv cv)[j]? = some u → w.cell? ((a.add (i * 6)).add j) = some u)
theorem ShiftsR.ext {w w' : World} {v : Value} {l : List ShD} (h : ShiftsR w v l) (x : Ext w w') : ShiftsR w' v l := by
 obtain ⟨h0, h | ⟨a, cap, e, h⟩⟩ := h
 ·exact ⟨h0, .inl h⟩
 ·exact ⟨h0, .inr ⟨a, cap, e, fun i s hi => let ⟨rv, cv, h1, h2, hc⟩ := h i s hi; ⟨rv, cv, h1.ext x, h2.ext x, fun j u hj => cell_ext x (hc j u hj)⟩⟩⟩
theorem ShiftsR.slice {w : World} {v : Value} {l : List ShD} (h : ShiftsR w v l) : ∃ p c, v = .slice p l.length c := by
 obtain ⟨h0, ⟨rfl, rfl⟩ | ⟨a, cap, e, h⟩⟩ := h
 ·exact ⟨_, _, rfl⟩
 ·exact ⟨_, _, e⟩
theorem ShiftsR.at {w : World} {p : Option Addr} {c : Nat} {l : List ShD} (h : ShiftsR w (.slice p l.length c) l) {i : Nat} {s : ShD} (hi : l[i]? = some s) :
  ∃ a rp rc cp cc, p = some a ∧ IntsR w (.slice rp s.rows.to.length rc) s.rows.to ∧ IntsR w (.slice cp s.cols.to.length cc) s.cols.to ∧ ∀ j u, (shL s (.slice rp s.rows.to.length rc) (.slice cp s.cols.to.length cc))[j]? = some u → w.cell? ((a.add (i * 6)).add j) = some u := by
 obtain ⟨h0, ⟨e, e2⟩ | ⟨a, cap, e, h⟩⟩ := h
 ·rw [e2] at hi; simp at hi
 ·simp only [Value.slice.injEq] at e
  obtain ⟨rv, cv, h1, h2, hc⟩ := h i s hi
  obtain ⟨rp, rc, rfl⟩ := h1.slice
  obtain ⟨cp, cc, rfl⟩ := h2.slice
  exact ⟨a, rp, rc, cp, cc, e.1, h1, h2, hc⟩
def idxS (ss : List ShD) (x : List UInt8) : Option Nat := ss.findIdx? (fun s => decide (s.sheet = x))
theorem idxS_find {ss : List ShD} {x : List UInt8} : findS ss x = (idxS ss x).bind (ss[·]?) := by
 unfold findS idxS
 induction ss with
 | nil => rfl
 | cons s r ih =>
  rw [List.find?_cons, List.findIdx?_cons]
  by_cases h : s.sheet = x
  ·simp [h]
  ·simp only [h, decide_false, Bool.false_eq_true, if_false]
   rw [ih]
   cases List.findIdx? (fun s => decide (s.sheet = x)) r <;> simp
theorem idxS_none {ss : List ShD} {x : List UInt8} (h : ∀ i s, i < ss.length → ss[i]? = some s → s.sheet ≠ x) : idxS ss x = none := by
 unfold idxS
 rw [List.findIdx?_eq_none_iff]
 intro s hs
 obtain ⟨i, hi, rfl⟩ := List.getElem_of_mem hs
 have := h i _ hi (List.getElem?_eq_getElem hi)
 simpa using this
theorem idxS_some {ss : List ShD} {x : List UInt8} {k : Nat} {s : ShD} (hk : ss[k]? = some s) (hs : s.sheet = x) (h : ∀ i u, i < k → ss[i]? = some u → u.sheet ≠ x) : idxS ss x = some k := by
 unfold idxS
 rw [List.findIdx?_eq_some_iff_getElem]
 obtain ⟨hlt, e⟩ := List.getElem?_eq_some_iff.1 hk
 refine ⟨hlt, by rw [e]; simpa using hs, fun j hj => ?_⟩
 have := h j _ hj (List.getElem?_eq_getElem (by omega))
 simpa using this
end Go.Proofs.YtiaigmahdjhcoaaGreatDoor
namespace Go.Proofs.YtiaigmahdjhcoaaGreatDoor
open Go Go.E
theorem wrap_far {z : Int} : ∃ q : Int, IntKind.i64.wrap z = z + 18446744073709551616 * q ∧ -9223372036854775808 ≤ IntKind.i64.wrap z ∧ IntKind.i64.wrap z ≤ 9223372036854775807 := by
 have e : IntKind.i64.wrap z = if 9223372036854775808 ≤ z % 18446744073709551616 then z % 18446744073709551616 - 18446744073709551616 else z % 18446744073709551616 := by
  simp [IntKind.wrap, IntKind.bits, IntKind.signed]
 rw [e]
 split
 ·exact ⟨-(z / 18446744073709551616) - 1, by omega, by omega, by omega⟩
 ·exact ⟨-(z / 18446744073709551616), by omega, by omega, by omega⟩
theorem tdiv10 {z : Int} : (0 ≤ z → z.tdiv 10 = z / 10) ∧ (z ≤ 0 → z.tdiv 10 = -((-z) / 10)) := by
 refine ⟨fun h => Int.tdiv_eq_ediv_of_nonneg h, fun h => ?_⟩
 have : z.tdiv 10 = -((-z).tdiv 10) := by rw [Int.neg_tdiv, Int.neg_neg]
 rw [this, Int.tdiv_eq_ediv_of_nonneg (by omega)]
theorem times_ret (m : Int) (h0 : -9223372036854775808 ≤ m) (h1 : m ≤ 0) (w : World) : Ret Tryz.prog 97 [.int .i64 m, .int .i64 10] w (fun v w' => (∃ z, v = .tuple #[.int .i64 z, .bool (decide (-9223372036854775808 ≤ m * 10))] ∧ (-9223372036854775808 ≤ m * 10 → z = m * 10) ∧ -9223372036854775808 ≤ z ∧ z ≤ 9223372036854775807) ∧ Ext w w') := by
 refine Ret.enter Tryz.func97 rfl Tryz.ntmps97 (by kernel_rfl) rfl ?_
 refine Sa ?_
 by_cases a1 : m = 0
 ·refine LW.know (t := 9) (c := true) rfl (decide_eq_true a1) ?_
  refine Sa ?_
  exact QW.body2 Tryz.results97 rfl rfl ⟨⟨0, by rw [decide_eq_true (by omega)], fun _ => by omega, by omega, by omega⟩, Chg.refl _ _⟩
 refine LW.know (t := 9) (c := false) rfl (decide_eq_false a1) ?_
 refine Sa ?_
 obtain ⟨q, hq, hq1, hq2⟩ := wrap_far (z := m * 10)
 generalize hz : IntKind.i64.wrap (m * 10) = z at hq hq1 hq2
 refine LW.arith (op := .mul) (r := z) rfl rfl hz rfl rfl ?_
 refine Sa ?_
 have hd := tdiv10 (z := z)
 obtain ⟨y, hy, hy1⟩ : ∃ y, z.tdiv 10 = y ∧ ((0 ≤ z → y = z / 10) ∧ (z ≤ 0 → y = -((-z) / 10))) := ⟨_, rfl, hd⟩
 refine LW.tquo (q := 10) (z := y) rfl rfl (by decide) (by rw [hy, wrap_i64 (by omega) (by omega)]) rfl ?_
 refine Sa ?_
 by_cases a2 : -9223372036854775808 ≤ m * 10
 ·have hzm : z = m * 10 := by omega
  refine LW.know (t := 22) (c := true) rfl (decide_eq_true (by omega)) ?_
  refine Sa ?_
  exact QW.body2 Tryz.results97 rfl rfl ⟨⟨z, by rw [decide_eq_true a2]; rfl, fun _ => hzm, hq1, hq2⟩, Chg.refl _ _⟩
 ·refine LW.know (t := 22) (c := false) rfl (decide_eq_false (by omega)) ?_
  refine Sa ?_
  exact QW.body2 Tryz.results97 rfl rfl ⟨⟨z, by rw [decide_eq_false a2], fun h => absurd h a2, hq1, hq2⟩, Chg.refl _ _⟩
theorem plus_ret (m k : Int) (h0 : -9223372036854775808 ≤ m) (h1 : m ≤ 9223372036854775807) (k0 : -9 ≤ k) (k1 : k ≤ 0) (w : World) : Ret Tryz.prog 98 [.int .i64 m, .int .i64 k] w (fun v w' => (∃ z b, v = .tuple #[.int .i64 z, .bool b] ∧ (m ≤ 0 → b = decide (-9223372036854775808 ≤ m + k) ∧ (-9223372036854775808 ≤ m + k → z = m + k))) ∧ Ext w w') := by
 refine Ret.enter Tryz.func98 rfl Tryz.ntmps98 (by kernel_rfl) rfl ?_
 refine Sa ?_
 obtain ⟨q, hq, hq1, hq2⟩ := wrap_far (z := m + k)
 generalize hz : IntKind.i64.wrap (m + k) = z at hq hq1 hq2
 refine LW.arith (op := .add) (r := z) rfl rfl hz rfl rfl ?_
 refine Sa ?_
 refine QW.body2 Tryz.results98 rfl rfl ⟨⟨z, _, rfl, fun hm => ⟨?_, fun h => by omega⟩⟩, Chg.refl _ _⟩
 by_cases a2 : -9223372036854775808 ≤ m + k
 ·rw [decide_eq_true a2, decide_eq_true_eq]
  by_cases a3 : k = 0
  ·rw [decide_eq_true (show m ≤ z by omega), decide_eq_true (show 0 ≤ k by omega)]
  ·rw [decide_eq_false (show ¬ m ≤ z by omega), decide_eq_false (show ¬ 0 ≤ k by omega)]
 ·rw [decide_eq_false a2, decide_eq_false_iff_not, decide_eq_true (show m ≤ z by omega), decide_eq_false (show ¬ 0 ≤ k by omega)]
  simp
theorem numC_bad {s : List UInt8} (h : digsB (bodyD s) = false) : numC s = none := by
 rw [numC_by, if_neg]
 rintro ⟨h1, _⟩
 rw [h] at h1; cases h1
theorem numC_nil {s : List UInt8} (h : bodyD s = []) : numC s = none := by
 rw [numC_by, if_neg]
 rintro ⟨_, h1, _⟩
 exact h1 h
theorem numC_big {s : List UInt8} {i : Nat} (h : 9223372036854775808 < numT 0 ((bodyD s).take i)) : numC s = none := by
 rw [numC_by, if_neg]
 rintro ⟨h1, _, h2, _⟩
 have := (numT_take (i := i) (digs_iff.1 h1)).2
 omega
theorem numT_step {d : List UInt8} {k : Nat} (h : k < d.length) : numT 0 (d.take (k + 1)) = 10 * numT 0 (d.take k) + (byte d k - 48) := by
 rw [List.take_add_one, List.getElem?_eq_getElem h, Option.toList_some, numT_snoc, byte_eq h]
theorem digs_step {d : List UInt8} {k : Nat} (h : k < d.length) : digsB (d.take (k + 1)) = (digsB (d.take k) && digB (byte d k)) := by
 have e : d.take (k + 1) = d.take k ++ [d[k]] := by rw [List.take_add_one, List.getElem?_eq_getElem h]; rfl
 rw [e, byte_eq h]
 simp only [digsB, List.all_append, List.all_cons, List.all_nil, Bool.and_true]
def valC (s : List UInt8) : Int := match numC s with
 | some n => n
 | none => 0
def WholeV (s : List UInt8) (v : Value) : Prop := v = .tuple #[.int .i64 (valC s), .bool (numC s).isSome]
theorem wholeV_none {s : List UInt8} (h : numC s = none) : WholeV s (.tuple #[.int .i64 0, .bool false]) := by
 unfold WholeV valC
 rw [h]
 rfl
theorem wholeV_some {s : List UInt8} {n : Int} (h : numC s = some n) : WholeV s (.tuple #[.int .i64 n, .bool true]) := by
 unfold WholeV valC
 rw [h]
 rfl
set_option maxHeartbeats 2000000 in
theorem whole_ret (s : List UInt8) (hs : s.length ≤ 1000000) (w : World) : Ret Tryz.prog 71 [str s] w (fun v w' => WholeV s v ∧ Ext w w') := by
 obtain ⟨d, hd⟩ : ∃ d, d = bodyD s := ⟨_, rfl⟩
 have hdl : d.length ≤ s.length := by
  rw [hd, bodyD]
  split <;> simp
 refine Ret.enter Tryz.func71 rfl Tryz.ntmps71 (by kernel_rfl) rfl ?_
 refine Sa ?_
 obtain ⟨ng, hng⟩ : ∃ ng, ng = negB s := ⟨_, rfl⟩
 by_cases h0 : s = []
 ·refine LW.know (t := 15) (c := false) rfl (by simp [h0]) ?_
  have hn : negB s = false := by simp [negB, h0]
  have ed : s = d := by rw [hd, bodyD, hn]; rfl
  refine Sa ?_
  refine CW.loop (ι := Nat) (fun k w' => k ≤ d.length ∧ numT 0 (d.take k) ≤ 9223372036854775808 ∧ 0 ≤ numT 0 (d.take k) ∧ digsB (d.take k) = true ∧ Ext w w') (fun k => [(4, .bool ng), (5, str d), (6, .int .i64 (-numT 0 (d.take k))), (7, .int .i64 (k : Int))]) (fun k => d.length - k) 0 ⟨by omega, by simp [numT], by simp [numT], rfl, Chg.refl _ _⟩ (Sub.cons (by rw [hng, hn]; first | rfl | (show some (Value.bool (decide (byte s 0 = 45))) = _; first | rw [decide_eq_true h1] | rw [decide_eq_false h1])) (Sub.cons (by rw [← ed]; first | rfl | (rw [← ec]; rfl)) (Sub.cons rfl (Sub.cons rfl Sub.nil)))) ?_
  clear hn ed
  rintro k w1 ⟨k0, k1, k2, k3, hx⟩
  refine Sa ?_
  refine Cwc (fun b1 => ?_) fun b1 => ?_
  rotate_left
  ·have b1 : k = d.length := by simp at b1; omega
   rw [b1, List.take_length] at k1 k2 k3
   rw [b1, List.take_length]
   refine Sa ?_
   have hnc := numC_by s
   rw [← hd, ← hng] at hnc
   by_cases e0 : d = []
   ·refine LW.know (t := 67) (c := true) rfl (by simp [e0]) ?_
    refine Sa ?_
    exact QW.body2 Tryz.results71 rfl rfl ⟨wholeV_none (numC_nil (by rw [← hd]; exact e0)), hx⟩
   have e1 : 0 < d.length := List.length_pos_iff.2 e0
   refine LW.know (t := 67) (c := false) rfl (decide_eq_false (by omega)) ?_
   cases ng with
   | true =>
    rw [if_pos ⟨k3, e0, k1, by simp⟩, if_pos rfl] at hnc
    refine Sa ?_
    exact QW.body2 Tryz.results71 rfl rfl ⟨wholeV_some hnc, hx⟩
   | false =>
    refine Sa ?_
    refine Cwc (fun b7 => ?_) fun b7 => ?_
    ·have b7 : -numT 0 d = -9223372036854775808 := by simpa using b7
     rw [if_neg (fun h => h.2.2.2 rfl (by omega))] at hnc
     refine Sa ?_
     exact QW.body2 Tryz.results71 rfl rfl ⟨wholeV_none hnc, hx⟩
    have b7 : ¬ -numT 0 d = -9223372036854775808 := by simpa using b7
    rw [if_pos ⟨k3, e0, k1, fun _ => by omega⟩, if_neg (by simp)] at hnc
    refine Sa ?_
    refine LW.neg (z := numT 0 d) rfl (by rw [wrap_i64 (by omega) (by omega)]; omega) rfl ?_
    refine Sa ?_
    exact QW.body2 Tryz.results71 rfl rfl ⟨wholeV_some hnc, hx⟩
  have b1 : k < d.length := by simp at b1; omega
  have hst := numT_step b1
  have hby := byte_lt d k
  have hdg := digs_step b1
  have hbad : digB (byte d k) = false → numC s = none := fun h => by
   refine numC_bad ?_
   rw [← hd]
   cases hh : digsB d with
   | false => rfl
   | true =>
    have := digs_iff.1 hh d[k] (List.getElem_mem b1)
    rw [← byte_eq b1, h] at this
    cases this
  refine Sa ?_
  by_cases b2 : byte d k < 48
  ·refine LW.know (t := 34) (c := true) rfl (decide_eq_true b2) ?_
   refine Sa ?_
   exact QW.body2 Tryz.results71 rfl rfl ⟨wholeV_none (hbad (by simp [digB]; omega)), hx⟩
  refine LW.know (t := 34) (c := false) rfl (decide_eq_false b2) ?_
  refine Sa ?_
  refine Cwc (fun b3 => ?_) fun b3 => ?_
  ·have b3 : 57 < byte d k := by simpa using b3
   refine Sa ?_
   exact QW.body2 Tryz.results71 rfl rfl ⟨wholeV_none (hbad (by simp [digB]; omega)), hx⟩
  have b3 : ¬ 57 < byte d k := by simpa using b3
  have hdig : digB (byte d k) = true := by simp [digB]; omega
  rw [k3, hdig] at hdg
  refine Sa ?_
  refine LW.call0 rfl rfl (times_ret (-numT 0 (d.take k)) (by omega) (by omega) w1) ?_
  rintro v w2 ⟨⟨z, rfl, hz, hz1, hz2⟩, hx2⟩
  refine Sa ?_
  refine LW.neg (z := -(byte d k - 48)) rfl (by show IntKind.i64.wrap (0 - (byte d k - 48)) = _; rw [wrap_i64 (by omega) (by omega)]; omega) rfl ?_
  refine Sa ?_
  refine LW.call0 rfl rfl (plus_ret z (-(byte d k - 48)) hz1 hz2 (by omega) (by omega) w2) ?_
  rintro v w3 ⟨⟨y, b, rfl, hy⟩, hx3⟩
  have hx3' := (hx.trans hx2).trans hx3
  refine Sa ?_
  by_cases o1 : -9223372036854775808 ≤ -numT 0 (d.take k) * 10
  rotate_left
  ·refine LW.know (t := 58) (c := true) rfl (by rw [decide_eq_false o1]; rfl) ?_
   refine Sa ?_
   exact QW.body2 Tryz.results71 rfl rfl ⟨wholeV_none (numC_big (i := k + 1) (by rw [← hd]; omega)), hx3'⟩
  obtain rfl := hz o1
  obtain ⟨rfl, hy1⟩ := hy (by omega)
  refine LW.know (t := 58) (c := false) rfl (by rw [decide_eq_true o1]; rfl) ?_
  refine Sa ?_
  refine Cwc (fun b5 => ?_) fun b5 => ?_
  ·have b5 : ¬ -9223372036854775808 ≤ -numT 0 (d.take k) * 10 + -(byte d k - 48) := by simpa using b5
   refine Sa ?_
   exact QW.body2 Tryz.results71 rfl rfl ⟨wholeV_none (numC_big (i := k + 1) (by rw [← hd]; omega)), hx3'⟩
  have b5 : -9223372036854775808 ≤ -numT 0 (d.take k) * 10 + -(byte d k - 48) := by simpa using b5
  have hy2 : y = -numT 0 (d.take (k + 1)) := by rw [hy1 b5, hst]; omega
  refine Sa ?_
  exact QW.again (k + 1) ⟨by omega, by omega, by omega, hdg, hx3'⟩ (by rw [← hy2]; exact (Sub.cons rfl (Sub.cons rfl (Sub.cons rfl (Sub.cons rfl (Sub.nil)))))) (by omega)
 have hl : 0 < s.length := List.length_pos_iff.2 h0
 refine LW.know (t := 15) (c := true) rfl (decide_eq_true (by omega)) ?_
 refine Sa ?_
 by_cases h1 : byte s 0 = 45
 ·have hn : negB s = true := by simp [negB, h0, h1]
  have ec : cut s (1 : Int).toNat ((s.length : Nat) : Int).toNat = s.drop 1 := cut_tail s 1
  have ed : s.drop 1 = d := by rw [hd, bodyD, hn]; rfl
  refine CW.yes rfl (decide_eq_true h1) ?_
  refine Sz ?_
  refine CW.loop (ι := Nat) (fun k w' => k ≤ d.length ∧ numT 0 (d.take k) ≤ 9223372036854775808 ∧ 0 ≤ numT 0 (d.take k) ∧ digsB (d.take k) = true ∧ Ext w w') (fun k => [(4, .bool ng), (5, str d), (6, .int .i64 (-numT 0 (d.take k))), (7, .int .i64 (k : Int))]) (fun k => d.length - k) 0 ⟨by omega, by simp [numT], by simp [numT], rfl, Chg.refl _ _⟩ (Sub.cons (by rw [hng, hn]; first | rfl | (show some (Value.bool (decide (byte s 0 = 45))) = _; first | rw [decide_eq_true h1] | rw [decide_eq_false h1])) (Sub.cons (by rw [← ed]; first | rfl | (rw [← ec]; rfl)) (Sub.cons rfl (Sub.cons rfl Sub.nil)))) ?_
  clear hn ed
  rintro k w1 ⟨k0, k1, k2, k3, hx⟩
  refine Sa ?_
  refine Cwc (fun b1 => ?_) fun b1 => ?_
  rotate_left
  ·have b1 : k = d.length := by simp at b1; omega
   rw [b1, List.take_length] at k1 k2 k3
   rw [b1, List.take_length]
   refine Sa ?_
   have hnc := numC_by s
   rw [← hd, ← hng] at hnc
   by_cases e0 : d = []
   ·refine LW.know (t := 67) (c := true) rfl (by simp [e0]) ?_
    refine Sa ?_
    exact QW.body2 Tryz.results71 rfl rfl ⟨wholeV_none (numC_nil (by rw [← hd]; exact e0)), hx⟩
   have e1 : 0 < d.length := List.length_pos_iff.2 e0
   refine LW.know (t := 67) (c := false) rfl (decide_eq_false (by omega)) ?_
   cases ng with
   | true =>
    rw [if_pos ⟨k3, e0, k1, by simp⟩, if_pos rfl] at hnc
    refine Sa ?_
    exact QW.body2 Tryz.results71 rfl rfl ⟨wholeV_some hnc, hx⟩
   | false =>
    refine Sa ?_
    refine Cwc (fun b7 => ?_) fun b7 => ?_
    ·have b7 : -numT 0 d = -9223372036854775808 := by simpa using b7
     rw [if_neg (fun h => h.2.2.2 rfl (by omega))] at hnc
     refine Sa ?_
     exact QW.body2 Tryz.results71 rfl rfl ⟨wholeV_none hnc, hx⟩
    have b7 : ¬ -numT 0 d = -9223372036854775808 := by simpa using b7
    rw [if_pos ⟨k3, e0, k1, fun _ => by omega⟩, if_neg (by simp)] at hnc
    refine Sa ?_
    refine LW.neg (z := numT 0 d) rfl (by rw [wrap_i64 (by omega) (by omega)]; omega) rfl ?_
    refine Sa ?_
    exact QW.body2 Tryz.results71 rfl rfl ⟨wholeV_some hnc, hx⟩
  have b1 : k < d.length := by simp at b1; omega
  have hst := numT_step b1
  have hby := byte_lt d k
  have hdg := digs_step b1
  have hbad : digB (byte d k) = false → numC s = none := fun h => by
   refine numC_bad ?_
   rw [← hd]
   cases hh : digsB d with
   | false => rfl
   | true =>
    have := digs_iff.1 hh d[k] (List.getElem_mem b1)
    rw [← byte_eq b1, h] at this
    cases this
  refine Sa ?_
  by_cases b2 : byte d k < 48
  ·refine LW.know (t := 34) (c := true) rfl (decide_eq_true b2) ?_
   refine Sa ?_
   exact QW.body2 Tryz.results71 rfl rfl ⟨wholeV_none (hbad (by simp [digB]; omega)), hx⟩
  refine LW.know (t := 34) (c := false) rfl (decide_eq_false b2) ?_
  refine Sa ?_
  refine Cwc (fun b3 => ?_) fun b3 => ?_
  ·have b3 : 57 < byte d k := by simpa using b3
   refine Sa ?_
   exact QW.body2 Tryz.results71 rfl rfl ⟨wholeV_none (hbad (by simp [digB]; omega)), hx⟩
  have b3 : ¬ 57 < byte d k := by simpa using b3
  have hdig : digB (byte d k) = true := by simp [digB]; omega
  rw [k3, hdig] at hdg
  refine Sa ?_
  refine LW.call0 rfl rfl (times_ret (-numT 0 (d.take k)) (by omega) (by omega) w1) ?_
  rintro v w2 ⟨⟨z, rfl, hz, hz1, hz2⟩, hx2⟩
  refine Sa ?_
  refine LW.neg (z := -(byte d k - 48)) rfl (by show IntKind.i64.wrap (0 - (byte d k - 48)) = _; rw [wrap_i64 (by omega) (by omega)]; omega) rfl ?_
  refine Sa ?_
  refine LW.call0 rfl rfl (plus_ret z (-(byte d k - 48)) hz1 hz2 (by omega) (by omega) w2) ?_
  rintro v w3 ⟨⟨y, b, rfl, hy⟩, hx3⟩
  have hx3' := (hx.trans hx2).trans hx3
  refine Sa ?_
  by_cases o1 : -9223372036854775808 ≤ -numT 0 (d.take k) * 10
  rotate_left
  ·refine LW.know (t := 58) (c := true) rfl (by rw [decide_eq_false o1]; rfl) ?_
   refine Sa ?_
   exact QW.body2 Tryz.results71 rfl rfl ⟨wholeV_none (numC_big (i := k + 1) (by rw [← hd]; omega)), hx3'⟩
  obtain rfl := hz o1
  obtain ⟨rfl, hy1⟩ := hy (by omega)
  refine LW.know (t := 58) (c := false) rfl (by rw [decide_eq_true o1]; rfl) ?_
  refine Sa ?_
  refine Cwc (fun b5 => ?_) fun b5 => ?_
  ·have b5 : ¬ -9223372036854775808 ≤ -numT 0 (d.take k) * 10 + -(byte d k - 48) := by simpa using b5
   refine Sa ?_
   exact QW.body2 Tryz.results71 rfl rfl ⟨wholeV_none (numC_big (i := k + 1) (by rw [← hd]; omega)), hx3'⟩
  have b5 : -9223372036854775808 ≤ -numT 0 (d.take k) * 10 + -(byte d k - 48) := by simpa using b5
  have hy2 : y = -numT 0 (d.take (k + 1)) := by rw [hy1 b5, hst]; omega
  refine Sa ?_
  exact QW.again (k + 1) ⟨by omega, by omega, by omega, hdg, hx3'⟩ (by rw [← hy2]; exact (Sub.cons rfl (Sub.cons rfl (Sub.cons rfl (Sub.cons rfl (Sub.nil)))))) (by omega)
 ·have hn : negB s = false := by simp [negB, h1]
  have ed : s = d := by rw [hd, bodyD, hn]; rfl
  refine CW.no rfl (decide_eq_false h1) ?_
  refine Sa ?_
  refine CW.loop (ι := Nat) (fun k w' => k ≤ d.length ∧ numT 0 (d.take k) ≤ 9223372036854775808 ∧ 0 ≤ numT 0 (d.take k) ∧ digsB (d.take k) = true ∧ Ext w w') (fun k => [(4, .bool ng), (5, str d), (6, .int .i64 (-numT 0 (d.take k))), (7, .int .i64 (k : Int))]) (fun k => d.length - k) 0 ⟨by omega, by simp [numT], by simp [numT], rfl, Chg.refl _ _⟩ (Sub.cons (by rw [hng, hn]; first | rfl | (show some (Value.bool (decide (byte s 0 = 45))) = _; first | rw [decide_eq_true h1] | rw [decide_eq_false h1])) (Sub.cons (by rw [← ed]; first | rfl | (rw [← ec]; rfl)) (Sub.cons rfl (Sub.cons rfl Sub.nil)))) ?_
  clear hn ed
  rintro k w1 ⟨k0, k1, k2, k3, hx⟩
  refine Sa ?_
  refine Cwc (fun b1 => ?_) fun b1 => ?_
  rotate_left
  ·have b1 : k = d.length := by simp at b1; omega
   rw [b1, List.take_length] at k1 k2 k3
   rw [b1, List.take_length]
   refine Sa ?_
   have hnc := numC_by s
   rw [← hd, ← hng] at hnc
   by_cases e0 : d = []
   ·refine LW.know (t := 67) (c := true) rfl (by simp [e0]) ?_
    refine Sa ?_
    exact QW.body2 Tryz.results71 rfl rfl ⟨wholeV_none (numC_nil (by rw [← hd]; exact e0)), hx⟩
   have e1 : 0 < d.length := List.length_pos_iff.2 e0
   refine LW.know (t := 67) (c := false) rfl (decide_eq_false (by omega)) ?_
   cases ng with
   | true =>
    rw [if_pos ⟨k3, e0, k1, by simp⟩, if_pos rfl] at hnc
    refine Sa ?_
    exact QW.body2 Tryz.results71 rfl rfl ⟨wholeV_some hnc, hx⟩
   | false =>
    refine Sa ?_
    refine Cwc (fun b7 => ?_) fun b7 => ?_
    ·have b7 : -numT 0 d = -9223372036854775808 := by simpa using b7
     rw [if_neg (fun h => h.2.2.2 rfl (by omega))] at hnc
     refine Sa ?_
     exact QW.body2 Tryz.results71 rfl rfl ⟨wholeV_none hnc, hx⟩
    have b7 : ¬ -numT 0 d = -9223372036854775808 := by simpa using b7
    rw [if_pos ⟨k3, e0, k1, fun _ => by omega⟩, if_neg (by simp)] at hnc
    refine Sa ?_
    refine LW.neg (z := numT 0 d) rfl (by rw [wrap_i64 (by omega) (by omega)]; omega) rfl ?_
    refine Sa ?_
    exact QW.body2 Tryz.results71 rfl rfl ⟨wholeV_some hnc, hx⟩
  have b1 : k < d.length := by simp at b1; omega
  have hst := numT_step b1
  have hby := byte_lt d k
  have hdg := digs_step b1
  have hbad : digB (byte d k) = false → numC s = none := fun h => by
   refine numC_bad ?_
   rw [← hd]
   cases hh : digsB d with
   | false => rfl
   | true =>
    have := digs_iff.1 hh d[k] (List.getElem_mem b1)
    rw [← byte_eq b1, h] at this
    cases this
  refine Sa ?_
  by_cases b2 : byte d k < 48
  ·refine LW.know (t := 34) (c := true) rfl (decide_eq_true b2) ?_
   refine Sa ?_
   exact QW.body2 Tryz.results71 rfl rfl ⟨wholeV_none (hbad (by simp [digB]; omega)), hx⟩
  refine LW.know (t := 34) (c := false) rfl (decide_eq_false b2) ?_
  refine Sa ?_
  refine Cwc (fun b3 => ?_) fun b3 => ?_
  ·have b3 : 57 < byte d k := by simpa using b3
   refine Sa ?_
   exact QW.body2 Tryz.results71 rfl rfl ⟨wholeV_none (hbad (by simp [digB]; omega)), hx⟩
  have b3 : ¬ 57 < byte d k := by simpa using b3
  have hdig : digB (byte d k) = true := by simp [digB]; omega
  rw [k3, hdig] at hdg
  refine Sa ?_
  refine LW.call0 rfl rfl (times_ret (-numT 0 (d.take k)) (by omega) (by omega) w1) ?_
  rintro v w2 ⟨⟨z, rfl, hz, hz1, hz2⟩, hx2⟩
  refine Sa ?_
  refine LW.neg (z := -(byte d k - 48)) rfl (by show IntKind.i64.wrap (0 - (byte d k - 48)) = _; rw [wrap_i64 (by omega) (by omega)]; omega) rfl ?_
  refine Sa ?_
  refine LW.call0 rfl rfl (plus_ret z (-(byte d k - 48)) hz1 hz2 (by omega) (by omega) w2) ?_
  rintro v w3 ⟨⟨y, b, rfl, hy⟩, hx3⟩
  have hx3' := (hx.trans hx2).trans hx3
  refine Sa ?_
  by_cases o1 : -9223372036854775808 ≤ -numT 0 (d.take k) * 10
  rotate_left
  ·refine LW.know (t := 58) (c := true) rfl (by rw [decide_eq_false o1]; rfl) ?_
   refine Sa ?_
   exact QW.body2 Tryz.results71 rfl rfl ⟨wholeV_none (numC_big (i := k + 1) (by rw [← hd]; omega)), hx3'⟩
  obtain rfl := hz o1
  obtain ⟨rfl, hy1⟩ := hy (by omega)
  refine LW.know (t := 58) (c := false) rfl (by rw [decide_eq_true o1]; rfl) ?_
  refine Sa ?_
  refine Cwc (fun b5 => ?_) fun b5 => ?_
  ·have b5 : ¬ -9223372036854775808 ≤ -numT 0 (d.take k) * 10 + -(byte d k - 48) := by simpa using b5
   refine Sa ?_
   exact QW.body2 Tryz.results71 rfl rfl ⟨wholeV_none (numC_big (i := k + 1) (by rw [← hd]; omega)), hx3'⟩
  have b5 : -9223372036854775808 ≤ -numT 0 (d.take k) * 10 + -(byte d k - 48) := by simpa using b5
  have hy2 : y = -numT 0 (d.take (k + 1)) := by rw [hy1 b5, hst]; omega
  refine Sa ?_
  exact QW.again (k + 1) ⟨by omega, by omega, by omega, hdg, hx3'⟩ (by rw [← hy2]; exact (Sub.cons rfl (Sub.cons rfl (Sub.cons rfl (Sub.cons rfl (Sub.nil)))))) (by omega)
end Go.Proofs.YtiaigmahdjhcoaaGreatDoor
namespace Go.Proofs.YtiaigmahdjhcoaaGreatDoor
open Go Go.E
theorem valC_some {s : List UInt8} {n : Int} (h : numC s = some n) : valC s = n := by
 unfold valC
 rw [h]
set_option maxHeartbeats 1000000 in
theorem rMayCell_ret (s : List UInt8) (hs : s.length ≤ 9223372036854775807) (w : World) : Ret Tryz.prog 36 [str s] w (fun v w' => v = .bool (mayC s) ∧ Ext w w') := by
 refine Ret.enter Tryz.func36 rfl Tryz.ntmps36 (by kernel_rfl) rfl ?_
 refine Sa ?_
 refine Cwc (fun h1 => ?_) fun h1 => ?_
 ·have h1 : 300 < s.length := by simp at h1; omega
  refine Sa ?_
  exact QW.body1 Tryz.results36 rfl ⟨by rw [mayC, if_pos h1], Chg.refl _ _⟩
 have h1 : s.length ≤ 300 := by simp at h1; omega
 have n1 : ¬ 300 < s.length := by omega
 refine Sa ?_
 by_cases h2 : s = []
 ·refine LW.know (t := 11) (c := true) rfl (by simp [h2]) ?_
  refine Sa ?_
  exact QW.body1 Tryz.results36 rfl ⟨by rw [mayC, if_neg n1, if_pos (.inl h2)], Chg.refl _ _⟩
 have hl : 0 < s.length := List.length_pos_iff.2 h2
 refine LW.know (t := 11) (c := false) rfl (by simp [h2]) ?_
 refine Sa ?_
 refine Cwc (fun h3 => ?_) fun h3 => ?_
 ·have h3 : byte s 0 = 39 := by simpa using h3
  refine Sa ?_
  exact QW.body1 Tryz.results36 rfl ⟨by rw [mayC, if_neg n1, if_pos (.inr h3)], Chg.refl _ _⟩
 have h3 : byte s 0 ≠ 39 := by simpa using h3
 have n3 : ¬ (s = [] ∨ byte s 0 = 39) := by simp [h2, h3]
 refine Sa ?_
 refine Cwc (fun h4 => ?_) fun h4 => ?_
 ·have h4 : byte s 0 = 61 := by simpa using h4
  have ec : cut s (1 : Int).toNat ((s.length : Nat) : Int).toNat = s.drop 1 := cut_tail s 1
  have hdl : (s.drop 1).length ≤ 300 := by simp; omega
  refine Sz ?_
  refine LW.call0 rfl rfl (RParse_ok (cut s (1 : Int).toNat ((s.length : Nat) : Int).toNat) (by rw [ec]; omega) w) ?_
  rw [ec]
  rintro v w1 ⟨⟨hv, he⟩, hx1⟩
  cases hpo : parseT (s.drop 1) with
  | error e =>
   rw [hpo] at hv
   obtain rfl := hv
   have he0 := he e hpo
   refine Sa ?_
   refine Lwa fun A w2 hbA hx2 hA => ?_
   refine Sa ?_
   refine Lws fun w3 hc3 hA => ?_
   have hx3 := (hx1.trans hx2).step hc3 (by have := hx1.size; simp; omega)
   refine Sa ?_
   refine LW.know (t := 25) (c := false) rfl (decide_eq_false he0) ?_
   refine Sa ?_
   exact QW.body1 Tryz.results36 rfl ⟨by rw [mayC, if_neg n1, if_neg n3, if_pos h4, hpo], hx3⟩
  | ok l =>
   rw [hpo] at hv
   obtain ⟨sv, rfl, hN⟩ := hv
   obtain ⟨_, f1, f2, f3, f4⟩ := parse_facts hpo
   have hNR : NodesR w1 sv l := hN.row (by omega) (fun n hm => by have := f4 n hm; omega)
   obtain ⟨p, c, rfl⟩ := hNR.slice
   have hpi : PIs (s.drop 1) l 0 := .inl ⟨hpo, rfl⟩
   refine Sa ?_
   refine Lwa fun A w2 hbA hx2 hA => ?_
   have hz1 := hx1.size
   refine Sa ?_
   refine Lws fun w3 hc3 hA => ?_
   have hx13 : Ext w1 w3 := hx2.step hc3 (by simp; omega)
   have hx3 := hx1.trans hx13
   refine Sa ?_
   refine LW.call0 rfl rfl (rPrint_ret l _ w3 (hNR.ext hx13) f2 (fun n hn => by have := f4 n hn; omega) hpi.num) ?_
   rintro v w4 ⟨rfl, hx4⟩
   have hpl := (print_parse hpo).2.1
   refine Sa ?_
   refine QW.body1 Tryz.results36 rfl ⟨?_, hx3.trans hx4⟩
   rw [mayC, if_neg n1, if_neg n3, if_pos h4, hpo]
   simp only
   have es : s = 61 :: s.drop 1 := by
    cases s with
    | nil => exact absurd rfl h2
    | cons c r =>
     have : byte (c :: r) 0 = (c.toNat : Int) := rfl
     rw [this] at h4
     have hc : c = 61 := by
      apply UInt8.toNat_inj.1
      simp
      omega
     rw [hc]; rfl
   congr 1
   by_cases hq : printT l = s.drop 1
   ·rw [decide_eq_true hq, decide_eq_true]
    rw [hq]
    exact es.symm
   ·rw [decide_eq_false hq, decide_eq_false]
    intro hh
    rw [es] at hh
    simp at hh
    exact hq (by simpa using hh)
 have h4 : byte s 0 ≠ 61 := by simpa using h4
 refine Sa ?_
 refine LW.call0 rfl rfl (whole_ret s (by omega) w) ?_
 rintro v w1 ⟨hv, hx⟩
 unfold WholeV at hv
 subst hv
 cases hn : numC s with
 | some n =>
  obtain ⟨b0, b1⟩ := numC_bound hn
  rw [valC_some hn]
  refine Sa ?_
  refine LW.call0 rfl rfl (Digits_all n b0 b1 w1) ?_
  rintro v w2 ⟨rfl, hx2⟩
  refine Sa ?_
  exact QW.body1 Tryz.results36 rfl ⟨by rw [mayC, if_neg n1, if_neg n3, if_neg h4, hn], hx.trans hx2⟩
 | none =>
  refine Sa ?_
  exact QW.body1 Tryz.results36 rfl ⟨by rw [mayC, if_neg n1, if_neg n3, if_neg h4, hn], hx⟩
theorem rFormula_ret (s : List UInt8) (hs : s.length ≤ 9223372036854775807) (w : World) : Ret Tryz.prog 68 [str s] w (fun v w' => FormV s v w' ∧ Ext w w') := by
 refine Ret.enter Tryz.func68 rfl Tryz.ntmps68 (by kernel_rfl) rfl ?_
 refine Sa ?_
 by_cases h2 : s = []
 ·refine LW.know (t := 6) (c := true) rfl (by simp [h2]) ?_
  refine Sa ?_
  exact QW.body2 Tryz.results68 rfl rfl ⟨.inr ⟨rfl, .inl h2⟩, Chg.refl _ _⟩
 have hl : 0 < s.length := List.length_pos_iff.2 h2
 refine LW.know (t := 6) (c := false) rfl (by simp [h2]) ?_
 refine Sa ?_
 by_cases h3 : byte s 0 = 61
 rotate_left
 ·refine LW.know (t := 11) (c := true) rfl (by simp [h3]) ?_
  refine Sa ?_
  exact QW.body2 Tryz.results68 rfl rfl ⟨.inr ⟨rfl, .inr (.inl h3)⟩, Chg.refl _ _⟩
 refine LW.know (t := 11) (c := false) rfl (by simp [h3]) ?_
 refine Sa ?_
 refine LW.call0 rfl rfl (rMayCell_ret s hs w) ?_
 rintro v w1 ⟨rfl, hx⟩
 refine Sa ?_
 refine Cwc (fun h4 => ?_) fun h4 => ?_
 ·have h4 : mayC s = false := by simpa using h4
  refine Sa ?_
  exact QW.body2 Tryz.results68 rfl rfl ⟨.inr ⟨rfl, .inr (.inr h4)⟩, hx⟩
 have h4 : mayC s = true := by simpa using h4
 have ec : cut s (1 : Int).toNat ((s.length : Nat) : Int).toNat = s.drop 1 := cut_tail s 1
 have hdl : (s.drop 1).length ≤ s.length := by simp
 refine Sz ?_
 refine LW.call0 rfl rfl (RParse_ok (cut s (1 : Int).toNat ((s.length : Nat) : Int).toNat) (by rw [ec]; omega) w1) ?_
 rw [ec]
 rintro v w2 ⟨⟨hv, he⟩, hx2⟩
 cases hpo : parseT (s.drop 1) with
 | error e =>
  exfalso
  have : mayC s = false := by
   unfold mayC
   split
   ·rfl
   ·rw [if_neg (by rintro (hh | hh); exact h2 hh; omega)]
    rw [hpo]
  rw [this] at h4
  cases h4
 | ok l =>
  rw [hpo] at hv
  obtain ⟨sv, rfl, hN⟩ := hv
  obtain ⟨_, f1, f2, f3, f4⟩ := parse_facts hpo
  have hNR : NodesR w2 sv l := hN.row (by omega) (fun n hm => by have := f4 n hm; omega)
  refine Sa ?_
  refine LW.field1 (v := sv) rfl rfl rfl rfl rfl rfl rfl rfl ?_
  refine Sa ?_
  exact QW.body2 Tryz.results68 rfl rfl ⟨.inl ⟨l, sv, rfl, h3, h2, h4, hpo, hNR⟩, hx.trans hx2⟩
end Go.Proofs.YtiaigmahdjhcoaaGreatDoor
