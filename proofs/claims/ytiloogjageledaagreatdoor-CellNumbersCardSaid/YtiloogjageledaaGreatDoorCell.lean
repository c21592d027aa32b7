/-
  Walks: cells: numbers; what is put in as it is kept.
-/
import Derived.Test.YtiloogjageledaaGreatDoorPShow
namespace Go.Proofs.YtiloogjageledaaGreatDoor
open Go Go.E

def atN (s : List UInt8) : Nat := if s ≠ [] ∧ byte s 0 = 45 then 1 else 0
def allD (s : List UInt8) : Bool := decide (∀ j, j < s.length → atN s ≤ j → digB (byte s j) = true)
/-- What digits say, a sign perhaps ahead. -/
def numC (s : List UInt8) : Option Int := if allD s then (match Lib.atoiAll s with
  | .ok n => some n
  | _ => none) else none

theorem cnumber_ret (s : List UInt8) (hs : s.length ≤ 1000000) (w : World) (g : Glob w) : Ret Tryz.prog 81 [str s] w (fun v w' => (∃ z, v = .tuple #[.int .i64 z, .bool (numC s).isSome] ∧ ∀ n, numC s = some n → z = n) ∧ Ext w w') := by
  refine Ret.enter Tryz.func81 rfl Tryz.ntmps81 (by kernel_rfl) rfl ?_
  refine Sa ?_
  by_cases h0 : s = []
  · refine LW.know (t := 10) (c := false) rfl (by simp [h0]) ?_
    refine Sa ?_
    have hat : atN s = 0 := by simp [atN, h0]
    refine CW.loop (ι := Nat) (fun k w' => atN s ≤ k ∧ (k ≤ s.length ∨ s.length ≤ k) ∧ k ≤ s.length + 1 ∧ Ext w w' ∧ ∀ j, j < k → j < s.length → atN s ≤ j → digB (byte s j) = true) (fun k => [(0, str s), (5, .int .i64 (k : Int))]) (fun k => s.length + 1 - k) (atN s) ⟨Nat.le_refl _, by omega, by rw [hat]; omega, Chg.refl _ _, fun j h1 h2 h3 => by omega⟩ (by rw [hat]; exact (Sub.cons rfl (Sub.cons rfl (Sub.nil)))) ?_
    rintro k w1 ⟨k0, _, k1, hx, hall⟩
    refine Sa ?_
    refine CW.cond rfl (fun b1 => ?_) (fun b1 => ?_)
    · have b1 : k < s.length := by simp at b1; omega
      refine Sa ?_
      refine LW.part rfl rfl rfl (fun b2 => ?_) (fun b2 => ?_)
      · have b2 : byte s k < 48 := by simpa using b2
        refine Sa ?_
        refine QW.body2 Tryz.results81 rfl rfl ⟨⟨0, ?_, fun n hn => ?_⟩, hx⟩ <;>
        · have : allD s = false := by
            simp only [allD, decide_eq_false_iff_not]
            intro hh
            have := hh k b1 k0
            simp [digB] at this
            omega
          first | rw [numC, this]; rfl | (rw [numC, this] at hn; cases hn)
      have b2 : ¬ byte s k < 48 := by simpa using b2
      refine Sa ?_
      refine CW.cond rfl (fun b3 => ?_) (fun b3 => ?_)
      · have b3 : 57 < byte s k := by simpa using b3
        refine Sa ?_
        refine QW.body2 Tryz.results81 rfl rfl ⟨⟨0, ?_, fun n hn => ?_⟩, hx⟩ <;>
        · have : allD s = false := by
            simp only [allD, decide_eq_false_iff_not]
            intro hh
            have := hh k b1 k0
            simp [digB] at this
            omega
          first | rw [numC, this]; rfl | (rw [numC, this] at hn; cases hn)
      have b3 : ¬ 57 < byte s k := by simpa using b3
      refine Sa ?_
      refine QW.again (k + 1) ⟨by omega, by omega, by omega, hx, fun j h1 h2 h3 => ?_⟩ (Sub.cons rfl (Sub.cons rfl (Sub.nil))) (by omega)
      by_cases e : j = k
      · subst e
        simp [digB]
        omega
      · exact hall j (by omega) h2 h3
    have b1 : s.length ≤ k := by simp at b1; omega
    have hD : allD s = true := by
      simp only [allD, decide_eq_true_eq]
      exact fun j h1 h2 => hall j (by omega) h1 h2
    refine Sa ?_
    refine LW.call0 rfl rfl (Atoi_ret s hs w1 (g.ext hx)) ?_
    rintro v w2 ⟨hv, hx2⟩
    unfold AtoiV at hv
    cases ha : Lib.atoiAll s with
    | ok n =>
      have hn : numC s = some n := by rw [numC, hD, ha]; rfl
      rw [ha] at hv
      subst hv
      refine Sa ?_
      refine CW.draw (by kernel_rfl) (by kernel_rfl) ?_
      refine Sq ?_
      refine QL.yields rfl rfl rfl (fun w' _ => Y.eql_nil_nil rfl rfl rfl _) ?_
      refine Sq ?_
      refine QL.nil fun w3 hx3 => ?_
      refine Sa ?_
      refine QW.body2 Tryz.results81 rfl rfl ⟨⟨n, by rw [hn]; rfl, fun m hm => by rw [hn] at hm; exact Option.some.inj hm⟩, (hx.trans hx2).trans hx3⟩
    | range =>
      have hn : numC s = none := by rw [numC, hD, ha]; rfl
      rw [ha] at hv
      obtain ⟨z, t, x, rfl⟩ := hv
      refine Sa ?_
      refine CW.draw (by kernel_rfl) (by kernel_rfl) ?_
      refine Sq ?_
      refine QL.yields rfl rfl rfl (fun w' _ => Y.eql_nil rfl rfl rfl _) ?_
      refine Sq ?_
      refine QL.nil fun w3 hx3 => ?_
      refine Sa ?_
      refine QW.body2 Tryz.results81 rfl rfl ⟨⟨z, by rw [hn]; rfl, fun m hm => by rw [hn] at hm; cases hm⟩, (hx.trans hx2).trans hx3⟩
    | «syntax» =>
      have hn : numC s = none := by rw [numC, hD, ha]; rfl
      rw [ha] at hv
      obtain ⟨z, t, x, rfl⟩ := hv
      refine Sa ?_
      refine CW.draw (by kernel_rfl) (by kernel_rfl) ?_
      refine Sq ?_
      refine QL.yields rfl rfl rfl (fun w' _ => Y.eql_nil rfl rfl rfl _) ?_
      refine Sq ?_
      refine QL.nil fun w3 hx3 => ?_
      refine Sa ?_
      refine QW.body2 Tryz.results81 rfl rfl ⟨⟨z, by rw [hn]; rfl, fun m hm => by rw [hn] at hm; cases hm⟩, (hx.trans hx2).trans hx3⟩
  · have hl : 0 < s.length := List.length_pos_iff.2 h0
    refine LW.know (t := 10) (c := true) rfl (by simp [h0]) ?_
    refine Sa ?_
    refine CW.cond rfl (fun h1 => ?_) (fun h1 => ?_)
    · have h1 : byte s 0 = 45 := by simpa using h1
      have hat : atN s = 1 := by simp [atN, h0, h1]
      refine Sa ?_
      refine CW.loop (ι := Nat) (fun k w' => atN s ≤ k ∧ (k ≤ s.length ∨ s.length ≤ k) ∧ k ≤ s.length + 1 ∧ Ext w w' ∧ ∀ j, j < k → j < s.length → atN s ≤ j → digB (byte s j) = true) (fun k => [(0, str s), (5, .int .i64 (k : Int))]) (fun k => s.length + 1 - k) (atN s) ⟨Nat.le_refl _, by omega, by rw [hat]; omega, Chg.refl _ _, fun j h1 h2 h3 => by omega⟩ (by rw [hat]; exact (Sub.cons rfl (Sub.cons rfl (Sub.nil)))) ?_
      rintro k w1 ⟨k0, _, k1, hx, hall⟩
      refine Sa ?_
      refine CW.cond rfl (fun b1 => ?_) (fun b1 => ?_)
      · have b1 : k < s.length := by simp at b1; omega
        refine Sa ?_
        refine LW.part rfl rfl rfl (fun b2 => ?_) (fun b2 => ?_)
        · have b2 : byte s k < 48 := by simpa using b2
          refine Sa ?_
          refine QW.body2 Tryz.results81 rfl rfl ⟨⟨0, ?_, fun n hn => ?_⟩, hx⟩ <;>
          · have : allD s = false := by
              simp only [allD, decide_eq_false_iff_not]
              intro hh
              have := hh k b1 k0
              simp [digB] at this
              omega
            first | rw [numC, this]; rfl | (rw [numC, this] at hn; cases hn)
        have b2 : ¬ byte s k < 48 := by simpa using b2
        refine Sa ?_
        refine CW.cond rfl (fun b3 => ?_) (fun b3 => ?_)
        · have b3 : 57 < byte s k := by simpa using b3
          refine Sa ?_
          refine QW.body2 Tryz.results81 rfl rfl ⟨⟨0, ?_, fun n hn => ?_⟩, hx⟩ <;>
          · have : allD s = false := by
              simp only [allD, decide_eq_false_iff_not]
              intro hh
              have := hh k b1 k0
              simp [digB] at this
              omega
            first | rw [numC, this]; rfl | (rw [numC, this] at hn; cases hn)
        have b3 : ¬ 57 < byte s k := by simpa using b3
        refine Sa ?_
        refine QW.again (k + 1) ⟨by omega, by omega, by omega, hx, fun j h1 h2 h3 => ?_⟩ (Sub.cons rfl (Sub.cons rfl (Sub.nil))) (by omega)
        by_cases e : j = k
        · subst e
          simp [digB]
          omega
        · exact hall j (by omega) h2 h3
      have b1 : s.length ≤ k := by simp at b1; omega
      have hD : allD s = true := by
        simp only [allD, decide_eq_true_eq]
        exact fun j h1 h2 => hall j (by omega) h1 h2
      refine Sa ?_
      refine LW.call0 rfl rfl (Atoi_ret s hs w1 (g.ext hx)) ?_
      rintro v w2 ⟨hv, hx2⟩
      unfold AtoiV at hv
      cases ha : Lib.atoiAll s with
      | ok n =>
        have hn : numC s = some n := by rw [numC, hD, ha]; rfl
        rw [ha] at hv
        subst hv
        refine Sa ?_
        refine CW.draw (by kernel_rfl) (by kernel_rfl) ?_
        refine Sq ?_
        refine QL.yields rfl rfl rfl (fun w' _ => Y.eql_nil_nil rfl rfl rfl _) ?_
        refine Sq ?_
        refine QL.nil fun w3 hx3 => ?_
        refine Sa ?_
        refine QW.body2 Tryz.results81 rfl rfl ⟨⟨n, by rw [hn]; rfl, fun m hm => by rw [hn] at hm; exact Option.some.inj hm⟩, (hx.trans hx2).trans hx3⟩
      | range =>
        have hn : numC s = none := by rw [numC, hD, ha]; rfl
        rw [ha] at hv
        obtain ⟨z, t, x, rfl⟩ := hv
        refine Sa ?_
        refine CW.draw (by kernel_rfl) (by kernel_rfl) ?_
        refine Sq ?_
        refine QL.yields rfl rfl rfl (fun w' _ => Y.eql_nil rfl rfl rfl _) ?_
        refine Sq ?_
        refine QL.nil fun w3 hx3 => ?_
        refine Sa ?_
        refine QW.body2 Tryz.results81 rfl rfl ⟨⟨z, by rw [hn]; rfl, fun m hm => by rw [hn] at hm; cases hm⟩, (hx.trans hx2).trans hx3⟩
      | «syntax» =>
        have hn : numC s = none := by rw [numC, hD, ha]; rfl
        rw [ha] at hv
        obtain ⟨z, t, x, rfl⟩ := hv
        refine Sa ?_
        refine CW.draw (by kernel_rfl) (by kernel_rfl) ?_
        refine Sq ?_
        refine QL.yields rfl rfl rfl (fun w' _ => Y.eql_nil rfl rfl rfl _) ?_
        refine Sq ?_
        refine QL.nil fun w3 hx3 => ?_
        refine Sa ?_
        refine QW.body2 Tryz.results81 rfl rfl ⟨⟨z, by rw [hn]; rfl, fun m hm => by rw [hn] at hm; cases hm⟩, (hx.trans hx2).trans hx3⟩
    · have h1 : byte s 0 ≠ 45 := by simpa using h1
      have hat : atN s = 0 := by simp [atN, h1]
      refine Sa ?_
      refine CW.loop (ι := Nat) (fun k w' => atN s ≤ k ∧ (k ≤ s.length ∨ s.length ≤ k) ∧ k ≤ s.length + 1 ∧ Ext w w' ∧ ∀ j, j < k → j < s.length → atN s ≤ j → digB (byte s j) = true) (fun k => [(0, str s), (5, .int .i64 (k : Int))]) (fun k => s.length + 1 - k) (atN s) ⟨Nat.le_refl _, by omega, by rw [hat]; omega, Chg.refl _ _, fun j h1 h2 h3 => by omega⟩ (by rw [hat]; exact (Sub.cons rfl (Sub.cons rfl (Sub.nil)))) ?_
      rintro k w1 ⟨k0, _, k1, hx, hall⟩
      refine Sa ?_
      refine CW.cond rfl (fun b1 => ?_) (fun b1 => ?_)
      · have b1 : k < s.length := by simp at b1; omega
        refine Sa ?_
        refine LW.part rfl rfl rfl (fun b2 => ?_) (fun b2 => ?_)
        · have b2 : byte s k < 48 := by simpa using b2
          refine Sa ?_
          refine QW.body2 Tryz.results81 rfl rfl ⟨⟨0, ?_, fun n hn => ?_⟩, hx⟩ <;>
          · have : allD s = false := by
              simp only [allD, decide_eq_false_iff_not]
              intro hh
              have := hh k b1 k0
              simp [digB] at this
              omega
            first | rw [numC, this]; rfl | (rw [numC, this] at hn; cases hn)
        have b2 : ¬ byte s k < 48 := by simpa using b2
        refine Sa ?_
        refine CW.cond rfl (fun b3 => ?_) (fun b3 => ?_)
        · have b3 : 57 < byte s k := by simpa using b3
          refine Sa ?_
          refine QW.body2 Tryz.results81 rfl rfl ⟨⟨0, ?_, fun n hn => ?_⟩, hx⟩ <;>
          · have : allD s = false := by
              simp only [allD, decide_eq_false_iff_not]
              intro hh
              have := hh k b1 k0
              simp [digB] at this
              omega
            first | rw [numC, this]; rfl | (rw [numC, this] at hn; cases hn)
        have b3 : ¬ 57 < byte s k := by simpa using b3
        refine Sa ?_
        refine QW.again (k + 1) ⟨by omega, by omega, by omega, hx, fun j h1 h2 h3 => ?_⟩ (Sub.cons rfl (Sub.cons rfl (Sub.nil))) (by omega)
        by_cases e : j = k
        · subst e
          simp [digB]
          omega
        · exact hall j (by omega) h2 h3
      have b1 : s.length ≤ k := by simp at b1; omega
      have hD : allD s = true := by
        simp only [allD, decide_eq_true_eq]
        exact fun j h1 h2 => hall j (by omega) h1 h2
      refine Sa ?_
      refine LW.call0 rfl rfl (Atoi_ret s hs w1 (g.ext hx)) ?_
      rintro v w2 ⟨hv, hx2⟩
      unfold AtoiV at hv
      cases ha : Lib.atoiAll s with
      | ok n =>
        have hn : numC s = some n := by rw [numC, hD, ha]; rfl
        rw [ha] at hv
        subst hv
        refine Sa ?_
        refine CW.draw (by kernel_rfl) (by kernel_rfl) ?_
        refine Sq ?_
        refine QL.yields rfl rfl rfl (fun w' _ => Y.eql_nil_nil rfl rfl rfl _) ?_
        refine Sq ?_
        refine QL.nil fun w3 hx3 => ?_
        refine Sa ?_
        refine QW.body2 Tryz.results81 rfl rfl ⟨⟨n, by rw [hn]; rfl, fun m hm => by rw [hn] at hm; exact Option.some.inj hm⟩, (hx.trans hx2).trans hx3⟩
      | range =>
        have hn : numC s = none := by rw [numC, hD, ha]; rfl
        rw [ha] at hv
        obtain ⟨z, t, x, rfl⟩ := hv
        refine Sa ?_
        refine CW.draw (by kernel_rfl) (by kernel_rfl) ?_
        refine Sq ?_
        refine QL.yields rfl rfl rfl (fun w' _ => Y.eql_nil rfl rfl rfl _) ?_
        refine Sq ?_
        refine QL.nil fun w3 hx3 => ?_
        refine Sa ?_
        refine QW.body2 Tryz.results81 rfl rfl ⟨⟨z, by rw [hn]; rfl, fun m hm => by rw [hn] at hm; cases hm⟩, (hx.trans hx2).trans hx3⟩
      | «syntax» =>
        have hn : numC s = none := by rw [numC, hD, ha]; rfl
        rw [ha] at hv
        obtain ⟨z, t, x, rfl⟩ := hv
        refine Sa ?_
        refine CW.draw (by kernel_rfl) (by kernel_rfl) ?_
        refine Sq ?_
        refine QL.yields rfl rfl rfl (fun w' _ => Y.eql_nil rfl rfl rfl _) ?_
        refine Sq ?_
        refine QL.nil fun w3 hx3 => ?_
        refine Sa ?_
        refine QW.body2 Tryz.results81 rfl rfl ⟨⟨z, by rw [hn]; rfl, fun m hm => by rw [hn] at hm; cases hm⟩, (hx.trans hx2).trans hx3⟩

/-- What is put in, as it is kept. -/
noncomputable def normC (s : List UInt8) : List UInt8 × Int :=
  if 100 < s.length then ([], 4) else if s = [] ∨ byte s 0 = 39 then (s, 0) else if byte s 0 = 61 then (match parseT (s.drop 1) with
    | .error e => ([], e)
    | .ok l => if 100 < (printT l).length + 1 then ([], 4) else (61 :: printT l, 0))
  else match numC s with
    | some n => (Lib.itoa n, 0)
    | none => if 100 ≤ s.length then ([], 4) else (39 :: s, 0)
theorem atoi_bound {s : List UInt8} {n : Int} (h : Lib.atoiAll s = .ok n) : -9223372036854775808 ≤ n ∧ n ≤ 9223372036854775807 := by
  unfold Lib.atoiAll at h
  split at h
  · cases h
  · simp only at h
    split at h
    · cases h
    · cases h
    · split at h
      · cases h
      · split at h
        · cases h
        · simp only [Lib.NumEnd.ok.injEq] at h
          subst h
          split <;> omega
theorem numC_bound {s : List UInt8} {n : Int} (h : numC s = some n) : -9223372036854775808 ≤ n ∧ n ≤ 9223372036854775807 := by
  unfold numC at h
  split at h
  · split at h
    · rename_i m e
      obtain rfl := Option.some.inj h
      exact atoi_bound e
    · cases h
  · cases h

theorem Norm_ret (s : List UInt8) (hs : s.length ≤ 9223372036854775807) (w : World) (g : Glob w) : Ret Tryz.prog 32 [str s] w (fun v w' => v = .tuple #[str (normC s).1, .int .i64 (normC s).2] ∧ Ext w w') := by
  refine Ret.enter Tryz.func32 rfl Tryz.ntmps32 (by kernel_rfl) rfl ?_
  refine Sa ?_
  refine CW.cond rfl (fun h1 => ?_) (fun h1 => ?_)
  · have h1 : 100 < s.length := by simp at h1; omega
    refine Sa ?_
    exact QW.body2 Tryz.results32 rfl rfl ⟨by rw [normC, if_pos h1], Chg.refl _ _⟩
  have h1 : s.length ≤ 100 := by simp at h1; omega
  have n1 : ¬ 100 < s.length := by omega
  refine Sa ?_
  by_cases h2 : s = []
  · refine LW.know (t := 16) (c := true) rfl (by simp [h2]) ?_
    refine Sa ?_
    exact QW.body2 Tryz.results32 rfl rfl ⟨by rw [normC, if_neg n1, if_pos (.inl h2)], Chg.refl _ _⟩
  have hl : 0 < s.length := List.length_pos_iff.2 h2
  refine LW.know (t := 16) (c := false) rfl (by simp [h2]) ?_
  refine Sa ?_
  refine CW.cond rfl (fun h3 => ?_) (fun h3 => ?_)
  · have h3 : byte s 0 = 39 := by simpa using h3
    refine Sa ?_
    exact QW.body2 Tryz.results32 rfl rfl ⟨by rw [normC, if_neg n1, if_pos (.inr h3)], Chg.refl _ _⟩
  have h3 : byte s 0 ≠ 39 := by simpa using h3
  have n3 : ¬ (s = [] ∨ byte s 0 = 39) := by simp [h2, h3]
  refine Sa ?_
  refine CW.cond rfl (fun h4 => ?_) (fun h4 => ?_)
  · have h4 : byte s 0 = 61 := by simpa using h4
    have ec : cut s (1 : Int).toNat ((s.length : Nat) : Int).toNat = s.drop 1 := cut_tail s 1
    have hdl : (s.drop 1).length ≤ 100 := by simp; omega
    refine Sz ?_
    refine LW.call0 rfl rfl (Parse_ret (cut s (1 : Int).toNat ((s.length : Nat) : Int).toNat) (by rw [ec]; omega) w g) ?_
    rintro v w1 ⟨hv, hx⟩
    obtain ⟨l, e, sv, rfl, hN, hp⟩ := hv.both
    rw [ec] at hp
    obtain ⟨hsh, _⟩ := hp.facts
    refine Sa ?_
    refine CW.cond rfl (fun h5 => ?_) (fun h5 => ?_)
    · have h5 : e ≠ 0 := by simpa using h5
      have hpe : parseT (s.drop 1) = .error e := by
        rcases hp with ⟨_, h⟩ | ⟨h, _, _⟩
        · exact absurd h h5
        · exact h
      refine Sa ?_
      exact QW.body2 Tryz.results32 rfl rfl ⟨by rw [normC, if_neg n1, if_neg n3, if_pos h4, hpe], hx⟩
    have h5 : e = 0 := by simpa using h5
    have hpo : parseT (s.drop 1) = .ok l := by
      rcases hp with ⟨h, _⟩ | ⟨_, _, h⟩
      · exact h
      · omega
    have hpl := (print_parse hpo).2.1
    refine Sa ?_
    refine LW.call0 rfl rfl (Print_ret l sv w1 (g.ext hx) hN hsh hp.num) ?_
    rintro v w2 ⟨rfl, hx2⟩
    refine Sa ?_
    refine CW.cond rfl (fun h6 => ?_) (fun h6 => ?_)
    · have h6 : 100 < (printT l).length + 1 := by simp at h6; omega
      refine Sa ?_
      exact QW.body2 Tryz.results32 rfl rfl ⟨by rw [normC, if_neg n1, if_neg n3, if_pos h4, hpo]; simp only [if_pos h6], hx.trans hx2⟩
    · have h6 : ¬ 100 < (printT l).length + 1 := by simp at h6; omega
      refine Sa ?_
      exact QW.body2 Tryz.results32 rfl rfl ⟨by rw [normC, if_neg n1, if_neg n3, if_pos h4, hpo]; simp only [if_neg h6]; rfl, hx.trans hx2⟩
  have h4 : byte s 0 ≠ 61 := by simpa using h4
  refine Sa ?_
  refine LW.call0 rfl rfl (cnumber_ret s (by omega) w g) ?_
  rintro v w1 ⟨⟨z, rfl, hz⟩, hx⟩
  cases hn : numC s with
  | some n =>
    obtain rfl := hz n hn
    obtain ⟨b0, b1⟩ := numC_bound hn
    refine Sa ?_
    refine LW.call0 rfl rfl (Itoa_ret z b0 b1 w1 (g.ext hx)) ?_
    rintro v w2 ⟨rfl, hx2⟩
    refine Sa ?_
    exact QW.body2 Tryz.results32 rfl rfl ⟨by rw [normC, if_neg n1, if_neg n3, if_neg h4, hn], hx.trans hx2⟩
  | none =>
    refine Sa ?_
    refine CW.cond rfl (fun h7 => ?_) (fun h7 => ?_)
    · have h7 : 100 ≤ s.length := by simp at h7; omega
      refine Sa ?_
      exact QW.body2 Tryz.results32 rfl rfl ⟨by rw [normC, if_neg n1, if_neg n3, if_neg h4, hn]; simp only [if_pos h7], hx⟩
    · have h7 : ¬ 100 ≤ s.length := by simp at h7; omega
      refine Sa ?_
      exact QW.body2 Tryz.results32 rfl rfl ⟨by rw [normC, if_neg n1, if_neg n3, if_neg h4, hn]; simp only [if_neg h7]; rfl, hx⟩
end Go.Proofs.YtiloogjageledaaGreatDoor
