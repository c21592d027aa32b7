/-
  Joined by program out of the texts Glob Addr Ref LexL.
-/
import Derived.Test.YtgdohpcnpgjpaaaGreatDoorTab
import Derived.Test.YtgdohpcnpgjpaaaGreatDoorPkE
import Derived.Test.YtgdohpcnpgjpaaaGreatDoorShelf
import Derived.ChangeAgain
import Derived.Lib.ItoaNum
import Derived.Lib.Strings
import Derived.Lib.IndexMore
import Derived.Lib.AtoiAll
import Derived.Lib.ItoaLen
import Derived.Lib.AtoiAllCases
namespace Go.Proofs.YtgdohpcnpgjpaaaGreatDoor
open Go Go.E Go.RowKit
structure Glob (w : World) : Prop where
 shaped : w.ShapedOpen Tryz.prog
 pow : Lib.TabIs Tryz.prog w "internal/strconv.uint64pow10" .u64 Lib.pow10Tab
 syn : ∃ t v, w.cell? ⟨0, 0, none⟩ = some (.iface t v)
 rng : ∃ t v, w.cell? ⟨1, 0, none⟩ = some (.iface t v)
theorem cell_ext {w w' : World} (h : Ext w w') {a : Addr} {v : Value} (hc : w.cell? a = some v) : w'.cell? a = some v := by
 have hlt := World.block_lt_of_cell? w a hc; rw [(Ext.toBelow h).cell hlt]; exact hc
theorem var_ext {w w' : World} (h : Ext w w') {n : String} {cs : Array Value} (hv : w.var? Tryz.prog n = some cs) : w'.var? Tryz.prog n = some cs := by
 unfold World.var? at hv ⊢
 cases hg : Tryz.prog.globalNamed n with
 | none => simp [hg] at hv
 | some g =>
  simp only [hg, Option.bind_some] at hv ⊢; have hlt : g < w.heap.size := by
   rcases Nat.lt_or_ge g w.heap.size with hl | hl
   ·exact hl
   ·rw [Array.getElem?_eq_none hl] at hv; cases hv
  rw [(Ext.toBelow h).block g hlt]; exact hv
theorem Glob.ext {w w' : World} (g : Glob w) (h : Ext w w') : Glob w' :=
 ⟨World.ShapedOpen.keptBut g.shaped ((Ext.toBelow h).frame (fun _ => False)) (fun _ hf => hf.elim), var_ext h g.pow,
  g.syn.elim fun t ht => ht.elim fun v hv => ⟨t, v, cell_ext h hv⟩, g.rng.elim fun t ht => ht.elim fun v hv => ⟨t, v, cell_ext h hv⟩⟩
theorem Ext.drewN (w : World) (k : Nat) : Ext w (w.drewN k) := ⟨rfl, rfl, rfl, Nat.le_refl _, fun _ _ _ => rfl⟩
theorem Ext.grow (w : World) (os : Array Obj) : Ext w (Go.Sort.grow w os) :=
 ⟨rfl, rfl, rfl, by simp [Go.Sort.grow], fun k hk _ => by simp [Go.Sort.grow, Array.getElem?_append_left hk]⟩
theorem Ext.bytesWorld (w : World) (e : TypeId) (s : ByteArray) : Ext w (Lib.bytesWorld w e s) := by
 refine ⟨?_, ?_, ?_, ?_, fun k hk _ => ?_⟩
 ·unfold Lib.bytesWorld World.freeze; split <;> rfl
 ·unfold Lib.bytesWorld World.freeze; split <;> rfl
 ·unfold Lib.bytesWorld World.freeze; split <;> rfl
 ·unfold Lib.bytesWorld World.freeze; simp
 ·unfold Lib.bytesWorld World.freeze; rw [if_neg (by omega)]; show (Array.modify _ _ _)[k]? = _; rw [Array.getElem?_modify, if_neg (by simp; omega)]; exact Below.heap_alloc _ _ _ hk
theorem ret_of {f : FuncId} {args : List Value} {w : World} {R : Ending → World → Prop} {Φ : Value → World → Prop} (hc : callable Tryz.prog f = true) (h : Calls Tryz.prog f ⟨args⟩ w R) (hm : ∀ e w', R e w' → RetR Φ e w') : Ret Tryz.prog f args w Φ := ⟨hc, h.mono hm⟩
theorem Itoa_ret (n : Int) (h0 : -9223372036854775808 ≤ n) (h1 : n ≤ 9223372036854775807) (w : World) (g : Glob w) : Ret Tryz.prog 71 [.int .i64 n] w (fun v w' => v = str (Lib.itoa n) ∧ Ext w w') :=
 ret_of (by kernel_rfl) (Tryz.strconv_Itoa n h0 h1 w g.pow) fun e w' ⟨he, k, os, hw⟩ => ⟨_, he, rfl, by subst hw; exact (Ext.drewN w k).trans (Ext.grow _ _)⟩
def AtoiV (l : List UInt8) (v : Value) : Prop := match Lib.atoiAll l with
 | .ok n => v = .tuple #[.int .i64 n, .nilIface]
 | _ => ∃ z t x, v = .tuple #[.int .i64 z, .iface t x]
theorem Atoi_ret (l : List UInt8) (hl : l.length ≤ 1000000) (w : World) (g : Glob w) : Ret Tryz.prog 92 [str l] w (fun v w' => AtoiV l v ∧ Ext w w') := by
 have hs : (⟨⟨l⟩⟩ : ByteArray).size = l.length := rfl
 cases h : Lib.atoiAll l with
 | ok n =>
  refine ret_of (by kernel_rfl) (Tryz.strconv_Atoi_ok ⟨⟨l⟩⟩ (by rw [hs]; omega) n h w) fun e w' ⟨he, hw⟩ => ⟨_, he, by unfold AtoiV; rw [h], ?_⟩; rcases hw with rfl | ⟨t, rfl⟩
  ·exact Chg.refl _ _
  ·exact Ext.bytesWorld ..
 | range =>
  obtain ⟨t, v, hv⟩ := g.rng
  exact ret_of (by kernel_rfl) (Tryz.strconv_Atoi_range ⟨⟨l⟩⟩ (by rw [hs]; omega) h _ w hv (Or.inr ⟨t, v, rfl⟩)) fun e w' ⟨N, he, _, _, hb⟩ => ⟨_, he, by unfold AtoiV; rw [h]; exact ⟨_, _, _, rfl⟩, Ext.of_below hb⟩
 | _ =>
  obtain ⟨t, v, hv⟩ := g.syn; exact ret_of (by kernel_rfl) (Any.strconv_Atoi_syntax Tryz.laysAtoi ⟨⟨l⟩⟩ (by rw [hs]; omega) h _ w hv (Or.inr ⟨t, v, rfl⟩)) fun e w' ⟨N, he, _, _, hb⟩ => ⟨_, he, by unfold AtoiV; rw [h]; exact ⟨_, _, _, rfl⟩, Ext.of_below hb⟩
theorem CutPrefix_ret (s p : List UInt8) (w : World) : Ret Tryz.prog 205 [str s, str p] w (fun v w' => v = .tuple #[str (Lib.trimPrefix s p), .bool (Lib.hasPrefix s p)] ∧ Ext w w') :=
 ret_of (by kernel_rfl) (Tryz.strings_CutPrefix ⟨⟨s⟩⟩ ⟨⟨p⟩⟩ w) fun e w' ⟨he, hw⟩ => ⟨_, he, rfl, by subst hw; exact Chg.refl _ _⟩
theorem HasPrefix_ret (s p : List UInt8) (w : World) : Ret Tryz.prog 175 [str s, str p] w (fun v w' => v = .bool (Lib.hasPrefix s p) ∧ Ext w w') :=
 ret_of (by kernel_rfl) (Tryz.strings_HasPrefix ⟨⟨s⟩⟩ ⟨⟨p⟩⟩ w) fun e w' ⟨he, hw⟩ => ⟨_, he, rfl, by subst hw; exact Chg.refl _ _⟩
theorem ReplaceAll_ret (s o n : List UInt8) (hs : s.length ≤ 1000000) (ho : 1 ≤ o.length) (hn : n.length ≤ 1000) (w : World) (g : Glob w) : Ret Tryz.prog 153 [str s, str o, str n] w (fun v w' => v = str (Lib.replaceAll s o n) ∧ Ext w w') := by
 obtain ⟨m, hm⟩ := (Tryz.laysM143 ).s1_3 w g.shaped; have hc : Lib.countB ⟨⟨s⟩⟩ ⟨⟨o⟩⟩ ≤ s.length + 1 := Lib.count_le s o; have hz : Lib.countB ⟨⟨s⟩⟩ ⟨⟨o⟩⟩ * n.length ≤ 1000001 * 1000 := Nat.mul_le_mul (by omega) hn; exact ret_of (by kernel_rfl) (Tryz.strings_ReplaceAll ⟨⟨s⟩⟩ ⟨⟨o⟩⟩ ⟨⟨n⟩⟩ m w (show s.length < _ by omega) hm ho (show s.length + _ * n.length ≤ _ by omega)) fun e w' ⟨he, hw⟩ => ⟨_, he, rfl, Ext.of_below hw⟩
theorem Cut_ret (s p : List UInt8) (hs : s.length ≤ 1000000) (w : World) (g : Glob w) : Ret Tryz.prog 188 [str s, str p] w (fun v w' => v = .tuple #[str (Lib.cut s p).1, str (Lib.cut s p).2.1, .bool (Lib.cut s p).2.2] ∧ Ext w w') :=
 ret_of (by kernel_rfl) (Tryz.strings_Cut_shaped ⟨⟨s⟩⟩ ⟨⟨p⟩⟩ w g.shaped (show s.length < _ by omega)) fun e w' ⟨he, k, hw⟩ => ⟨_, he, rfl, by subst hw; exact Ext.drewN w k⟩
open Go Go.E
def capB (c : Int) : Bool := decide (65 ≤ c) && decide (c ≤ 90)
def digB (c : Int) : Bool := decide (48 ≤ c) && decide (c ≤ 57)
def letB (c : Int) : Bool := capB c || (decide (97 ≤ c) && decide (c ≤ 122))
def ldB (c : Int) : Bool := letB c || digB c
def nameB (l : List UInt8) : Bool := decide (l ≠ []) && decide (l.length ≤ 12) && letB (byte l 0) && decide (∀ j, j < l.length → ldB (byte l j) = true)
theorem nameB_long {l : List UInt8} (h : 12 < l.length) : nameB l = false := by simp [nameB]; intros; omega
theorem nameB_first {l : List UInt8} (h : letB (byte l 0) = false) : nameB l = false := by simp [nameB, h]
theorem nameB_at {l : List UInt8} {k : Nat} (hk : k < l.length) (h : ldB (byte l k) = false) : nameB l = false := by
 simp only [nameB, Bool.and_eq_false_iff, decide_eq_false_iff_not]; exact Or.inr fun hh => by rw [hh k hk] at h; cases h
theorem nameB_true {l : List UInt8} (h0 : l ≠ []) (h1 : l.length ≤ 12) (h2 : letB (byte l 0) = true) (h3 : ∀ j, j < l.length → ldB (byte l j) = true) : nameB l = true := by
 simp [nameB, h0, h1, h2]; exact h3
def colT (n : Int) : List UInt8 :=
 if n < 0 ∨ 701 < n then [] else if n < 26 then [ch (65 + n)] else [ch (65 + n / 26 - 1), ch (65 + n % 26)]
def readCol (l : List UInt8) : Option Int :=
 match l with
 | [_] => if capB (byte l 0) then some (byte l 0 - 65) else none
 | [_, _] => if capB (byte l 0) && capB (byte l 1) then some ((byte l 0 - 65 + 1) * 26 + (byte l 1 - 65)) else none
 | _ => none
def readColV (l : List UInt8) : Value := match readCol l with
 | some n => .tuple #[.int .i64 n, .bool true]
 | none => .tuple #[.int .i64 0, .bool false]
structure RefD where
 sheet : List UInt8
 col : Int
 row : Int
 ac : Bool
 ar : Bool
deriving DecidableEq
def refL (x : RefD) : List Value := [str x.sheet, .int .i64 x.col, .int .i64 x.row, .bool x.ac, .bool x.ar]
def refV (x : RefD) : Value := .agg ⟨[str x.sheet, .int .i64 x.col, .int .i64 x.row, .bool x.ac, .bool x.ar]⟩
def mayB (x : RefD) : Bool := (decide (x.sheet = []) || nameB x.sheet) && decide (0 ≤ x.col) && decide (x.col ≤ 701) && decide (0 ≤ x.row) && decide (x.row ≤ 998)
def markT (b : Bool) : List UInt8 := if b then [36] else []
def textB (x : RefD) : List UInt8 := (if x.sheet = [] then [] else x.sheet ++ [33]) ++ (markT x.ac ++ colT x.col ++ markT x.ar ++ Lib.itoa (x.row + 1))
def textT (x : RefD) : List UInt8 := if mayB x then textB x else []
def spanL (p : Int → Bool) (s : List UInt8) : List UInt8 := s.takeWhile fun c => p c.toNat
def restL (p : Int → Bool) (s : List UInt8) : List UInt8 := s.dropWhile fun c => p c.toNat
theorem span_at (p : Int → Bool) : ∀ (s : List UInt8) (k : Nat), k ≤ s.length → (∀ j, j < k → p (byte s j) = true) → (k = s.length ∨ p (byte s k) = false) → s.take k = spanL p s ∧ s.drop k = restL p s
 | [], k, hk, _, _ => by simp [spanL, restL]
 | c :: s, 0, _, _, h => by
  rcases h with h | h
  ·simp at h
  ·have hc : p (c.toNat : Int) = false := h
   simp [spanL, restL, hc]
 | c :: s, k + 1, hk, hall, h => by
  have hc : p (c.toNat : Int) = true := hall 0 (by omega); have ih := span_at p s k (by simpa using hk) (fun j hj => hall (j + 1) (by omega)) (by
   rcases h with h | h
   ·exact Or.inl (by simpa using h)
   ·exact Or.inr h)
  simp [spanL, restL, hc] at ih ⊢; exact ih
theorem cut_head (s : List UInt8) (k : Nat) : cut s 0 k = s.take k := by simp [cut]
theorem cut_tail (s : List UInt8) (k : Nat) : cut s k s.length = s.drop k := by
 unfold cut; exact List.take_of_length_le (by simp)
def candS (s : List UInt8) : List UInt8 := if (Lib.cut s [33]).2.2 then (Lib.cut s [33]).1 else []
def candR (s : List UInt8) : List UInt8 := if (Lib.cut s [33]).2.2 then (Lib.cut s [33]).2.1 else s
def cand1 (s : List UInt8) : List UInt8 := Lib.trimPrefix (candR s) [36]
def cand2 (s : List UInt8) : List UInt8 := restL capB (cand1 s)
def cand3 (s : List UInt8) : List UInt8 := Lib.trimPrefix (cand2 s) [36]
theorem spanL_length (p : Int → Bool) (s : List UInt8) : (spanL p s).length ≤ s.length := by
 unfold spanL; exact (List.takeWhile_sublist _).length_le
theorem restL_length (p : Int → Bool) (s : List UInt8) : (restL p s).length ≤ s.length := by
 unfold restL; exact (List.dropWhile_sublist _).length_le
theorem trimPrefix_length (s p : List UInt8) : (Lib.trimPrefix s p).length ≤ s.length := by
 unfold Lib.trimPrefix; split <;> simp
theorem cut_len1 (s p : List UInt8) : (Lib.cut s p).1.length ≤ s.length := by
 unfold Lib.cut; split <;> simp; omega
theorem cut_len2 (s p : List UInt8) : (Lib.cut s p).2.1.length ≤ s.length := by
 unfold Lib.cut; split <;> simp
theorem colT_length (n : Int) : (colT n).length ≤ 2 := by
 unfold colT; split
 ·simp
 ·split <;> simp
theorem markT_length (b : Bool) : (markT b).length ≤ 1 := by cases b <;> simp [markT]
theorem capital_ret (c : Int) (w : World) : Ret Tryz.prog 72 [.int .u8 c] w (fun v w' => v = .bool (capB c) ∧ Ext w w') := by
 refine Rte Tryz.func72 Tryz.ntmps72 ?_; refine Sa ?_; refine Lwp (fun h1 => ?_) fun h1 => ?_
 all_goals
  refine Sa ?_; refine QW.body1 Tryz.results72 rfl ⟨?_, Chg.refl _ _⟩; simp [capB, h1]
theorem digit_ret (c : Int) (w : World) : Ret Tryz.prog 53 [.int .u8 c] w (fun v w' => v = .bool (digB c) ∧ Ext w w') := by
 refine Rte Tryz.func53 Tryz.ntmps53 ?_; refine Sa ?_; refine Lwp (fun h1 => ?_) fun h1 => ?_
 all_goals
  refine Sa ?_; refine QW.body1 Tryz.results53 rfl ⟨?_, Chg.refl _ _⟩; simp [digB, h1]
theorem letter_ret (c : Int) (w : World) : Ret Tryz.prog 52 [.int .u8 c] w (fun v w' => v = .bool (letB c) ∧ Ext w w') := by
 refine Rte Tryz.func52 Tryz.ntmps52 ?_; refine Sa ?_; refine Lc0 rfl rfl (capital_ret _ _) ?_; rintro v w' ⟨rfl, hx⟩; refine Sa ?_; refine Lwp (fun h1 => ?_) fun h1 => ?_
 ·refine Sa ?_; refine QW.body1 Tryz.results52 rfl ⟨?_, hx⟩; simp [letB, h1]
 ·refine Sa ?_; refine Lwp (fun h2 => ?_) fun h2 => ?_
  all_goals
   refine Sa ?_; refine QW.body1 Tryz.results52 rfl ⟨?_, hx⟩; simp [letB, h1, h2]
theorem Name_ret (s : List UInt8) (w : World) (hs : s.length ≤ 9223372036854775807) : Ret Tryz.prog 25 [str s] w (fun v w' => v = .bool (nameB s) ∧ Ext w w') := by
 refine Rte Tryz.func25 Tryz.ntmps25 ?_; refine Sa ?_; refine Lwp (fun h0 => ?_) fun h0 => ?_
 ·have h0 : s = [] := by simpa using h0
  subst h0; refine Sa ?_; refine QW.body1 Tryz.results25 rfl ⟨rfl, Chg.refl _ _⟩
 have h0 : s ≠ [] := by simpa using h0
 have hp : 0 < s.length := List.length_pos_iff.2 h0; refine Sa ?_; refine Lwp (fun h1 => ?_) fun h1 => ?_
 ·have h1 : 12 < s.length := by simp at h1; omega
  refine Sa ?_; refine QW.body1 Tryz.results25 rfl ⟨by rw [nameB_long h1], Chg.refl _ _⟩
 have h1 : s.length ≤ 12 := by simp at h1; omega
 refine Sa ?_; refine Lc0 rfl rfl (letter_ret _ _) ?_; rintro v w1 ⟨rfl, hx⟩; refine Sa ?_; refine Cwc (fun h2 => ?_) fun h2 => ?_
 ·refine Sa ?_; refine QW.body1 Tryz.results25 rfl ⟨?_, hx⟩; rw [nameB_first]
  simpa using h2
 have h2 : letB (byte s 0) = true := by simpa using h2
 refine Sa ?_; refine CW.loop (ι := Nat) (fun k w' => k ≤ s.length ∧ Ext w w' ∧ ∀ j, j < k → ldB (byte s j) = true) (fun k => [(0, str s), (18, .int .i64 s.length), (19, .int .i64 k)]) (fun k => s.length - k) 0 ⟨by omega, hx, by omega⟩ Sub3 ?_; rintro k w2 ⟨hk, hx2, hall⟩; refine Sa ?_; refine Cwc (fun h3 => ?_) fun h3 => ?_
 ·have h3 : k < s.length := by simpa using h3
  refine Sa ?_; refine Lc0 rfl rfl (letter_ret _ _) ?_; rintro v w3 ⟨rfl, hx3⟩; refine Sa ?_; refine Lwp (fun h4 => ?_) fun h4 => ?_
  ·refine Sa ?_; refine Lc0 rfl rfl (digit_ret _ _) ?_; rintro v w4 ⟨rfl, hx4⟩; refine Sa ?_; refine Cwc (fun h5 => ?_) fun h5 => ?_
   ·refine Sa ?_; refine QW.body1 Tryz.results25 rfl ⟨?_, (hx2.trans hx3).trans hx4⟩; rw [nameB_at h3]; simp at h4 h5; simp [ldB, h4, h5]
   ·refine Sa ?_; refine QW.again (k + 1) ⟨by omega, (hx2.trans hx3).trans hx4, ?_⟩ Sub3 (by omega); intro j hj; by_cases hjk : j = k
    ·subst hjk; simp at h5; simp [ldB, h5]
    ·exact hall j (by omega)
  ·refine Sa ?_; refine QW.again (k + 1) ⟨by omega, hx2.trans hx3, ?_⟩ Sub3 (by omega); intro j hj; by_cases hjk : j = k
   ·subst hjk; simp at h4; simp [ldB, h4]
   ·exact hall j (by omega)
 ·have h3 : k = s.length := by simp at h3; omega
  subst h3; refine Sa ?_; refine QW.body1 Tryz.results25 rfl ⟨?_, hx2⟩; rw [nameB_true h0 h1 h2 hall]
theorem mark_ret (b : Bool) (w : World) : Ret Tryz.prog 178 [.bool b] w (fun v w' => v = str (markT b) ∧ Ext w w') := by
 cases b
 all_goals
  refine Rte Tryz.func178 Tryz.ntmps178 ?_; refine Sa ?_; refine QW.body1 Tryz.results178 rfl ⟨rfl, Chg.refl _ _⟩
theorem Col_ret (n : Int) (h0 : -9223372036854775808 ≤ n) (h1 : n ≤ 9223372036854775807) (w : World) : Ret Tryz.prog 179 [.int .i64 n] w (fun v w' => v = str (colT n) ∧ Ext w w') := by
 refine Rte Tryz.func179 Tryz.ntmps179 ?_; refine Sa ?_; refine Lwp (fun h2 => ?_) fun h2 => ?_
 ·have h2 : n < 0 := by simpa using h2
  refine Sa ?_; refine QW.body1 Tryz.results179 rfl ⟨?_, Chg.refl _ _⟩; rw [colT, if_pos (by omega)]
 have h2 : 0 ≤ n := by simpa using h2
 refine Sa ?_; refine Cwc (fun h3 => ?_) fun h3 => ?_
 ·have h3 : 701 < n := by simpa using h3
  refine Sa ?_; refine QW.body1 Tryz.results179 rfl ⟨?_, Chg.refl _ _⟩; rw [colT, if_pos (by omega)]
 have h3 : n ≤ 701 := by simpa using h3
 refine Sa ?_; refine Cwc (fun h4 => ?_) fun h4 => ?_
 ·have h4 : n < 26 := by simpa using h4
  refine Sa ?_; refine QW.body1 Tryz.results179 rfl ⟨?_, Chg.refl _ _⟩; rw [colT, if_neg (by omega), if_pos h4]; rfl
 ·have h4 : 26 ≤ n := by simpa using h4
  refine Sa ?_; refine QW.body1 Tryz.results179 rfl ⟨?_, Chg.refl _ _⟩; rw [colT, if_neg (by omega), if_neg (by omega)]; rfl
theorem May_ret (x : RefD) (hs : x.sheet.length ≤ 9223372036854775807) (w : World) : Ret Tryz.prog 150 [refV x] w (fun v w' => v = .bool (mayB x) ∧ Ext w w') := by
 obtain ⟨sh, c, r, ac, ar⟩ := x; simp only [refV]; refine Rte Tryz.func150 Tryz.ntmps150 ?_; refine Sa ?_; refine Lwb fun b w1 hb hx hB => ?_; refine Sa ?_; refine Lwp (fun h1 => ?_) fun h1 => ?_
 ·refine Sa ?_; refine Lwp (fun h2 => ?_) fun h2 => ?_
  ·refine Sa ?_; refine Lwp (fun h3 => ?_) fun h3 => ?_
   ·refine Sa ?_; refine Lwp (fun h4 => ?_) fun h4 => ?_
    ·refine Sa ?_; refine QW.body1 Tryz.results150 rfl ⟨?_, hx⟩; simp [mayB, *]
    ·refine Sa ?_; refine QW.body1 Tryz.results150 rfl ⟨?_, hx⟩; simp [mayB, *]
   ·refine Sa ?_; refine QW.body1 Tryz.results150 rfl ⟨?_, hx⟩; simp [mayB, *]
  ·refine Sa ?_; refine QW.body1 Tryz.results150 rfl ⟨?_, hx⟩; simp [mayB, *]
 ·refine Sa ?_; refine Lc0 rfl rfl (Name_ret _ _ hs) ?_; rintro v w2 ⟨rfl, hx2⟩; replace hB := hB.ext hx2; replace hx := hx.trans hx2; refine Sa ?_; refine Lwp (fun h0 => ?_) fun h0 => ?_
  ·refine Sa ?_; refine Lwp (fun h2 => ?_) fun h2 => ?_
   ·refine Sa ?_; refine Lwp (fun h3 => ?_) fun h3 => ?_
    ·refine Sa ?_; refine Lwp (fun h4 => ?_) fun h4 => ?_
     ·refine Sa ?_; refine QW.body1 Tryz.results150 rfl ⟨?_, hx⟩; simp [mayB, *]
     ·refine Sa ?_; refine QW.body1 Tryz.results150 rfl ⟨?_, hx⟩; simp [mayB, *]
    ·refine Sa ?_; refine QW.body1 Tryz.results150 rfl ⟨?_, hx⟩; simp [mayB, *]
   ·refine Sa ?_; refine QW.body1 Tryz.results150 rfl ⟨?_, hx⟩; simp [mayB, *]
  ·refine Sa ?_; refine QW.body1 Tryz.results150 rfl ⟨?_, hx⟩; simp [mayB, *]
theorem ReadCol_ret (s : List UInt8) (hs : s.length ≤ 1000000) (w : World) : Ret Tryz.prog 191 [str s] w (fun v w' => v = readColV s ∧ Ext w w') := by
 match s, hs with
 | [], _ =>
  refine Rte Tryz.func191 Tryz.ntmps191 ?_; refine Sa ?_
  refine QW.body2 Tryz.results191 rfl rfl ⟨rfl, Chg.refl _ _⟩
 | a :: b :: c :: l, hs =>
  simp at hs; refine Rte Tryz.func191 Tryz.ntmps191 ?_; refine Sa ?_; refine Cwc (fun h => ?_) fun h => ?_
  ·refine Sa ?_; refine QW.body2 Tryz.results191 rfl rfl ⟨rfl, Chg.refl _ _⟩
  ·simp at h; omega
 | [a], _ =>
  refine Rte Tryz.func191 Tryz.ntmps191 ?_; refine Sa ?_; refine CW.rounds 2 ?_; refine Sa ?_; refine Lc0 rfl rfl (capital_ret _ _) ?_; rintro v w1 ⟨rfl, hx⟩; refine Sa ?_; refine Cwc (fun h1 => ?_) fun h1 => ?_
  ·refine Sa ?_; refine QW.body2 Tryz.results191 rfl rfl ⟨?_, hx⟩; have h1 : capB (byte [a] 0) = false := by simpa using h1
   simp [readColV, readCol, h1]
  have h1 : capB (byte [a] 0) = true := by simpa using h1
  have hb := byte_lt [a] 0; have hb2 : 65 ≤ byte [a] 0 ∧ byte [a] 0 ≤ 90 := by simpa [capB] using h1
  have e0 : byte [a] (0 : Int).toNat = byte [a] 0 := rfl; refine Sa ?_; refine QW.body2 Tryz.results191 rfl rfl ⟨?_, hx⟩
  simp [readColV, readCol, h1]
 | [a, b], _ =>
  refine Rte Tryz.func191 Tryz.ntmps191 ?_; refine Sa ?_; refine CW.rounds 3 ?_; refine Sa ?_; refine Lc0 rfl rfl (capital_ret _ _) ?_; rintro v w1 ⟨rfl, hx⟩; refine Sa ?_; refine Cwc (fun h1 => ?_) fun h1 => ?_
  ·refine Sa ?_; refine QW.body2 Tryz.results191 rfl rfl ⟨?_, hx⟩; have h1 : capB (byte [a, b] 0) = false := by simpa using h1
   simp [readColV, readCol, h1]
  have h1 : capB (byte [a, b] 0) = true := by simpa using h1
  have hb := byte_lt [a, b] 0; have hb2 : 65 ≤ byte [a, b] 0 ∧ byte [a, b] 0 ≤ 90 := by simpa [capB] using h1
  have e0 : byte [a, b] (0 : Int).toNat = byte [a, b] 0 := rfl; refine Sa ?_; refine Lc0 rfl rfl (capital_ret _ _) ?_; rintro v w2 ⟨rfl, hx2⟩; refine Sa ?_; refine Cwc (fun h3 => ?_) fun h3 => ?_
  ·refine Sa ?_; refine QW.body2 Tryz.results191 rfl rfl ⟨?_, hx.trans hx2⟩; have h3 : capB (byte [a, b] 1) = false := by simpa using h3
   simp [readColV, readCol, h1, h3]
  have h3 : capB (byte [a, b] 1) = true := by simpa using h3
  have hc := byte_lt [a, b] 1; have hc2 : 65 ≤ byte [a, b] 1 ∧ byte [a, b] 1 ≤ 90 := by simpa [capB] using h3
  have e1 : byte [a, b] (0 + 1 : Int).toNat = byte [a, b] 1 := rfl; refine Sa ?_; refine QW.body2 Tryz.results191 rfl rfl ⟨?_, hx.trans hx2⟩; simp [readColV, readCol, h1, h3]
theorem Text_ret (x : RefD) (hs : x.sheet.length ≤ 1000) (w : World) (g : Glob w) :
  Ret Tryz.prog 154 [refV x] w (fun v w' => v = str (textT x) ∧ Ext w w') := by
 obtain ⟨sh, c, r, ac, ar⟩ := x; simp only at hs; simp only [refV]; refine Rte Tryz.func154 Tryz.ntmps154 ?_; refine Sa ?_; refine Lwb fun b w1 hb hx hB => ?_; refine Sa ?_; refine Lc0 rfl rfl (May_ret ⟨sh, c, r, ac, ar⟩ (by simp only; omega) w1) ?_; rintro v w2 ⟨rfl, hx2⟩; replace hB := hB.ext hx2; replace hx := hx.trans hx2; refine Sa ?_; refine Cwc (fun h1 => ?_) fun h1 => ?_
 ·refine Sa ?_; refine QW.body1 Tryz.results154 rfl ⟨?_, hx⟩; have h1 : mayB ⟨sh, c, r, ac, ar⟩ = false := by simpa using h1
  simp [textT, h1]
 have h1 : mayB ⟨sh, c, r, ac, ar⟩ = true := by simpa using h1
 have hl1 := markT_length ac; have hl2 := markT_length ar; have hl3 := colT_length c; have hm : 0 ≤ c ∧ c ≤ 701 ∧ 0 ≤ r ∧ r ≤ 998 := by
  simp only [mayB, Bool.and_eq_true, decide_eq_true_eq] at h1; exact ⟨h1.1.1.1.2, h1.1.1.2, h1.1.2, h1.2⟩
 have hl4 := Lib.itoa_length_le (r + 1) (by omega) (by omega); refine Sa ?_; refine Cwd ?_; refine Sq ?_; refine QL.call0 rfl rfl (fun w3 _ => mark_ret ac w3) ?_; refine Sq ?_; refine QL.call0 rfl rfl (fun w3 _ => Col_ret c (by omega) (by omega) w3) ?_; refine Sq ?_; refine QL.call0 rfl rfl (fun w3 _ => mark_ret ar w3) ?_; refine Sq ?_; refine QL.call0 rfl rfl (fun w3 h3 => Itoa_ret (r + 1) (by omega) (by omega) w3 (g.ext (hx.trans h3))) ?_; refine Sq ?_; refine QL.nil fun w3 hx3 => ?_; replace hB := hB.ext hx3; replace hx := hx.trans hx3; refine Sa ?_; refine Cwc (fun h2 => ?_) fun h2 => ?_
 ·have h2 : sh ≠ [] := by simpa using h2
  refine Sa ?_; refine QW.body1 Tryz.results154 rfl ⟨?_, hx⟩; rw [textT, if_pos h1]; simp [textB, h2]
 ·have h2 : sh = [] := by simpa using h2
  refine Sa ?_; refine QW.body1 Tryz.results154 rfl ⟨?_, hx⟩; rw [textT, if_pos h1]; simp [textB, h2]
theorem sign_ret (s : List UInt8) (b : Nat) (w : World) (hB : Blk w b [str s] 198) : Ret Tryz.prog 189 [.pointer (some ⟨b, 0, none⟩)] w
  (fun v w' => v = .bool (Lib.hasPrefix s [36]) ∧ Chg [b] w w' ∧ Blk w' b [str (Lib.trimPrefix s [36])] 198) := by
 refine Rte Tryz.func189 Tryz.ntmps189 ?_; refine Sa ?_; refine Lc0 rfl rfl (CutPrefix_ret s [36] w) ?_; rintro v w1 ⟨rfl, hx⟩; replace hB := hB.ext hx; refine Sa ?_; refine Lwt fun w2 hc hB2 => ?_; refine Sa ?_; exact QW.body1 Tryz.results189 rfl ⟨rfl, hx.chg.same hc, hB2⟩
theorem while_ret (p : Int → Bool) (f : Nat) (hp : ∀ (c : Int) (w : World), Ret Tryz.prog f [.int .u8 c] w (fun v w' => v = .bool (p c) ∧ Ext w w')) (s : List UInt8) (hs : s.length ≤ 1000000) (b : Nat) (w : World) (hB : Blk w b [str s] 198) :
  Ret Tryz.prog 190 [.pointer (some ⟨b, 0, none⟩), .func (.func f) #[] #[]] w
  (fun v w' => v = str (spanL p s) ∧ Chg [b] w w' ∧ Blk w' b [str (restL p s)] 198) := by
 refine Rte Tryz.func190 Tryz.ntmps190 ?_; refine Sa ?_; refine CW.loop (ι := Nat) (fun k w' => k ≤ s.length ∧ Ext w w' ∧ ∀ j, j < k → p (byte s j) = true) (fun k => [(0, .pointer (some ⟨b, 0, none⟩)), (1, .func (.func f) #[] #[]), (5, .int .i64 k)]) (fun k => s.length - k) 0 ⟨by omega, Chg.refl _ _, by omega⟩ Sub3 ?_; rintro k w1 ⟨hk, hx, hall⟩; replace hB := hB.ext hx; refine Sa ?_; refine Lwp (fun h1 => ?_) fun h1 => ?_
 ·have h1 : k < s.length := by simpa using h1
  refine Sa ?_; refine LW.call (fs := []) (cs := []) rfl rfl rfl (hp _ _) ?_; rintro v w2 ⟨rfl, hx2⟩; replace hB := hB.ext hx2; replace hx := hx.trans hx2; refine Sa ?_; refine Cwc (fun h2 => ?_) fun h2 => ?_
  ·have h2 : p (byte s k) = true := h2; refine Sa ?_; refine QW.again (k + 1) ⟨by omega, hx, ?_⟩ Sub3 (by omega); intro j hj; by_cases hjk : j = k
   ·subst hjk; exact h2
   ·exact hall j (by omega)
  ·have h2 : p (byte s k) = false := h2; have hsp := span_at p s k hk hall (Or.inr h2); refine Sa ?_; refine LW.slice_str (i := 0) (j := k) rfl rfl rfl rfl ⟨_, _, rfl, rfl⟩ (by omega) hk rfl ?_; refine Sa ?_; refine LW.slice_str (i := k) (j := s.length) rfl rfl rfl ⟨_, _, rfl, rfl⟩ rfl hk (by omega) rfl ?_; refine Sa ?_; refine Lwt fun w3 hc hB2 => ?_; refine Sa ?_; refine QW.body1 Tryz.results190 rfl ⟨?_, hx.chg.same hc, ?_⟩
   ·rw [cut_head, hsp.1]
   ·rw [← hsp.2, ← cut_tail]; exact hB2
 ·have h1 : k = s.length := by simp at h1; omega
  have hsp := span_at p s k hk hall (Or.inl h1); refine Sa ?_; refine LW.slice_str (i := 0) (j := k) rfl rfl rfl rfl ⟨_, _, rfl, rfl⟩ (by omega) hk rfl ?_; refine Sa ?_; refine LW.slice_str (i := k) (j := s.length) rfl rfl rfl ⟨_, _, rfl, rfl⟩ rfl hk (by omega) rfl ?_; refine Sa ?_; refine Lwt fun w3 hc hB2 => ?_; refine Sa ?_; refine QW.body1 Tryz.results190 rfl ⟨?_, hx.chg.same hc, ?_⟩
  ·rw [cut_head, hsp.1]
  ·rw [← hsp.2, ← cut_tail]; exact hB2
def rowOf (s : List UInt8) : Option Int := match Lib.atoiAll (spanL digB (cand3 s)) with
 | .ok n => some n
 | _ => none
def candV (s : List UInt8) : RefD := ⟨candS s, (readCol (spanL capB (cand1 s))).getD 0, IntKind.i64.wrap ((rowOf s).getD 0 - 1), Lib.hasPrefix (candR s) [36], Lib.hasPrefix (cand2 s) [36]⟩
def okRead (s : List UInt8) : Bool := (readCol (spanL capB (cand1 s))).isSome && (rowOf s).isSome && decide (textT (candV s) = s) && !decide (s = [])
def refZ : RefD := ⟨[], 0, 0, false, false⟩
def readV (s : List UInt8) : Value := if okRead s then .tuple #[refV (candV s), .bool true] else .tuple #[refV refZ, .bool false]
theorem readColV_fst (s : List UInt8) : readColV s = .tuple #[.int .i64 ((readCol s).getD 0), .bool (readCol s).isSome] := by
 unfold readColV; cases readCol s <;> rfl
theorem readCol_bound (s : List UInt8) : -1000000 ≤ (readCol s).getD 0 ∧ (readCol s).getD 0 ≤ 1000000 := by
 unfold readCol
 split
 ·rename_i a; have := byte_lt [a] 0
  split <;> simp <;> omega
 ·rename_i a b; have := byte_lt [a, b] 0; have := byte_lt [a, b] 1
  split <;> simp <;> omega
 ·simp
theorem Read_ret (s : List UInt8) (hs : s.length ≤ 1000) (w : World) (g : Glob w) : Ret Tryz.prog 173 [str s] w (fun v w' => v = readV s ∧ Ext w w') := by
 refine Rte Tryz.func173 Tryz.ntmps173 ?_; refine Sa ?_; refine Lwa fun R w1 hbR hx hR => ?_; refine Sa ?_; refine Lwa fun C w2 hbC hx2 hC => ?_; have hRC : R < C := by have := hR.lt; omega
 replace hR : Blk w2 R (refL refZ) 98 := hR.ext hx2; replace hC : Blk w2 C (refL refZ) 98 := hC; replace hx := hx.trans hx2; refine Sa ?_; refine Lwb fun X w3 hbX hx3 hX => ?_; have hCX : C < X := by have := hC.lt; omega
 replace hR := hR.ext hx3; replace hC := hC.ext hx3; replace hX : Blk w3 X [str s] 198 := hX; replace hx := hx.trans hx3; refine Sa ?_; refine Lc0 rfl rfl (Cut_ret s [33] (by omega) w3 (g.ext hx)) ?_; rintro v w4 ⟨rfl, hx4⟩; replace hR := hR.ext hx4; replace hC := hC.ext hx4; replace hX := hX.ext hx4; replace hx := hx.trans hx4; refine Sl ?_; apply LW.nil; apply QW.then_n; refine CW.cut (ι := Unit) (fun _ w' => Ext w w' ∧ Blk w' R (refL refZ) 98 ∧ Blk w' C [str (candS s), .int .i64 0, .int .i64 0, .bool false, .bool false] 98 ∧ Blk w' X [str (candR s)] 198)
  (fun _ => [(0, str s), (2, .pointer (some ⟨R, 0, none⟩)), (3, .bool false), (4, .pointer (some ⟨C, 0, none⟩)), (5, .pointer (some ⟨X, 0, none⟩))]) ?_ ?_
 ·refine Sa ?_; refine Cwc (fun h1 => ?_) fun h1 => ?_
  ·refine Sa ?_; refine Lwt fun w5 hc5 hC5 => ?_; replace hR := hR.chg hc5 (by simp; omega); replace hX := hX.chg hc5 (by simp; omega); replace hx := hx.step hc5 (by simp; omega); refine Sa ?_; refine Lwt fun w6 hc6 hX6 => ?_; replace hR := hR.chg hc6 (by simp; omega); replace hC5 := hC5.chg hc6 (by simp; omega); replace hx := hx.step hc6 (by simp; omega); refine Sa ?_; refine QW.head () ⟨hx, hR, ?_, ?_⟩ Sub5
   ·simpa [candS, h1, refL, refZ] using hC5
   ·simpa [candR, h1] using hX6
  ·refine Sa ?_; refine QW.head () ⟨hx, hR, ?_, ?_⟩ Sub5
   ·simpa [candS, h1, refL, refZ] using hC
   ·simpa [candR, h1] using hX
 clear hx hR hC hX hx2 hx3 hx4; rintro _ w5 ⟨hx, hR, hC, hX⟩; have hl0 : (candR s).length ≤ s.length := by
  unfold candR; split
  ·exact cut_len2 s [33]
  ·omega
 have hl1 : (cand1 s).length ≤ 1000 := Nat.le_trans (trimPrefix_length _ _) (by omega); have hl2 : (cand2 s).length ≤ 1000 := Nat.le_trans (restL_length _ _) hl1; have hl3 : (cand3 s).length ≤ 1000 := Nat.le_trans (trimPrefix_length _ _) hl2; have hl4 : (spanL capB (cand1 s)).length ≤ 1000 := Nat.le_trans (spanL_length _ _) hl1; have hl5 : (spanL digB (cand3 s)).length ≤ 1000 := Nat.le_trans (spanL_length _ _) hl3; have hl6 : (candS s).length ≤ 1000 := by
  unfold candS; split
  ·exact Nat.le_trans (cut_len1 s [33]) hs
  ·simp
 refine Sa ?_; refine LW.call (fs := [.pointer (some ⟨X, 0, none⟩)]) (cs := []) rfl rfl rfl (sign_ret _ X w5 hX) ?_; rintro v w6 ⟨rfl, hc6, hX⟩; replace hR := hR.chg hc6 (by simp; omega); replace hC := hC.chg hc6 (by simp; omega); replace hx := hx.step hc6 (by simp; omega); refine Sa ?_; refine Lwt fun w7 hc7 hC => ?_; replace hR := hR.chg hc7 (by simp; omega); replace hX := hX.chg hc7 (by simp; omega); replace hx := hx.step hc7 (by simp; omega); refine Sa ?_; refine LW.call (fs := [.pointer (some ⟨X, 0, none⟩)]) (cs := []) rfl rfl rfl (while_ret capB _ capital_ret (cand1 s) (by omega) X w7 hX) ?_; rintro v w8 ⟨rfl, hc8, hX⟩; replace hR := hR.chg hc8 (by simp; omega); replace hC := hC.chg hc8 (by simp; omega); replace hx := hx.step hc8 (by simp; omega); refine Sa ?_; refine Lc0 rfl rfl (ReadCol_ret _ (by omega) w8) ?_; rintro v w9 ⟨rfl, hx9⟩; rw [readColV_fst]; replace hR := hR.ext hx9; replace hC := hC.ext hx9; replace hX := hX.ext hx9; replace hx := hx.trans hx9; refine Sa ?_; refine LW.call (fs := [.pointer (some ⟨X, 0, none⟩)]) (cs := []) rfl rfl rfl (sign_ret (cand2 s) X w9 hX) ?_; rintro v w10 ⟨rfl, hc10, hX⟩; replace hR := hR.chg hc10 (by simp; omega); replace hC := hC.chg hc10 (by simp; omega); replace hx := hx.step hc10 (by simp; omega); refine Sa ?_; refine Lwt fun w11 hc11 hC => ?_; replace hR := hR.chg hc11 (by simp; omega); replace hX := hX.chg hc11 (by simp; omega); replace hx := hx.step hc11 (by simp; omega); refine Sa ?_; refine LW.call (fs := [.pointer (some ⟨X, 0, none⟩)]) (cs := []) rfl rfl rfl (while_ret digB _ digit_ret (cand3 s) (by omega) X w11 hX) ?_; rintro v w12 ⟨rfl, hc12, hX⟩; replace hR := hR.chg hc12 (by simp; omega); replace hC := hC.chg hc12 (by simp; omega); replace hx := hx.step hc12 (by simp; omega); refine Sa ?_; refine Lc0 rfl rfl (Atoi_ret _ (by omega) w12 (g.ext hx)) ?_; rintro v w13 ⟨hv, hx13⟩; replace hR := hR.ext hx13; replace hC := hC.ext hx13; replace hX := hX.ext hx13; replace hx := hx.trans hx13; have hcb := readCol_bound (spanL capB (cand1 s))
 cases hro : rowOf s with
 | some z =>
  have hv : v = .tuple #[.int .i64 z, .nilIface] := by
   unfold rowOf at hro; unfold AtoiV at hv
   split at hro
   ·rename_i m hm; rw [hm] at hv; simp only [Option.some.injEq] at hro; subst hro; exact hv
   ·cases hro
  subst hv; refine Sa ?_; refine LW.arith (op := .sub) rfl rfl rfl rfl rfl ?_; refine Sa ?_; refine Lwt fun w14 hc14 hC => ?_; replace hR := hR.chg hc14 (by simp; omega); replace hx := hx.step hc14 (by simp; omega); refine Sa ?_; refine Lwt fun w15 hc15 hC => ?_; replace hR := hR.chg hc15 (by simp; omega); replace hx := hx.step hc15 (by simp; omega); replace hC : Blk w15 C (refL (candV s)) 98 := by
   have e : refL (candV s) = [str (candS s), .int .i64 ((readCol (spanL capB (cand1 s))).getD 0), .int .i64 (IntKind.i64.wrap (z - 1)), .bool (Lib.hasPrefix (candR s) [36]), .bool (Lib.hasPrefix (cand2 s) [36])] := by
    simp [refL, candV, hro]
   rw [e]; exact hC
  refine Sa ?_
  cases hrc : readCol (spanL capB (cand1 s)) with
  | none =>
   have hbad : okRead s = false := by simp [okRead, hrc]
   refine Sa ?_; refine Lws fun w20 hc20 hR20 => ?_; refine Sa ?_; refine QW.body_ct Tryz.results173 rfl hR20 rfl rfl rfl rfl ⟨?_, hx.step hc20 (by simp; omega)⟩; rw [readV, hbad]
   rfl
  | some cz =>
   refine Sa ?_; refine Lc0 rfl rfl (Text_ret (candV s) hl6 w15 (g.ext hx)) ?_; rintro v w16 ⟨rfl, hx16⟩; replace hR := hR.ext hx16; replace hC := hC.ext hx16; replace hx := hx.trans hx16; refine Sa ?_; refine Lwp (fun h1 => ?_) fun h1 => ?_
   ·have hbad : okRead s = false := by
     have h1 : ¬ textT (candV s) = s := by simpa using h1
     simp [okRead, h1]
    refine Sa ?_; refine Lws fun w20 hc20 hR20 => ?_; refine Sa ?_; refine QW.body_ct Tryz.results173 rfl hR20 rfl rfl rfl rfl ⟨?_, hx.step hc20 (by simp; omega)⟩; rw [readV, hbad]; rfl
   ·have h1 : textT (candV s) = s := by simpa using h1
    refine Sa ?_; refine Cwc (fun h2 => ?_) fun h2 => ?_
    ·have hbad : okRead s = false := by
      have h2 : s = [] := by simpa using h2
      simp [okRead, h2]
     refine Sa ?_; refine Lws fun w20 hc20 hR20 => ?_; refine Sa ?_; refine QW.body_ct Tryz.results173 rfl hR20 rfl rfl rfl rfl ⟨?_, hx.step hc20 (by simp; omega)⟩; rw [readV, hbad]; rfl
    ·have h2 : ¬ s = [] := by simpa using h2
     have hgood : okRead s = true := by simp [okRead, hrc, hro, h1, h2]
     refine Sa ?_; refine Lws fun w20 hc20 hR20 => ?_; refine Sa ?_; refine QW.body_ct Tryz.results173 rfl hR20 rfl rfl rfl rfl ⟨?_, hx.step hc20 (by simp; omega)⟩; rw [readV, if_pos hgood]
     rfl
 | none =>
  have hv : ∃ z t x, v = .tuple #[.int .i64 z, .iface t x] := by
   unfold rowOf at hro; unfold AtoiV at hv; cases ha : Lib.atoiAll (spanL digB (cand3 s)) <;> simp only [ha, reduceCtorEq] at hro hv <;> exact hv
  obtain ⟨z, te, xe, rfl⟩ := hv; have hbad : okRead s = false := by simp [okRead, hro]
  refine Sa ?_; refine LW.arith (op := .sub) rfl rfl rfl rfl rfl ?_; refine Sa ?_; refine Lwt fun w14 hc14 hC => ?_; replace hR := hR.chg hc14 (by simp; omega); replace hx := hx.step hc14 (by simp; omega); refine Sa ?_; refine Lwt fun w15 hc15 hC => ?_; replace hR := hR.chg hc15 (by simp; omega); replace hx := hx.step hc15 (by simp; omega)
  cases hrc : readCol (spanL capB (cand1 s)) with
  | none =>
   refine Sa ?_; refine Lws fun w20 hc20 hR20 => ?_; refine Sa ?_; refine QW.body_ct Tryz.results173 rfl hR20 rfl rfl rfl rfl ⟨?_, hx.step hc20 (by simp; omega)⟩; rw [readV, hbad]
   rfl
  | some cz =>
   refine Sa ?_; refine Lws fun w20 hc20 hR20 => ?_; refine Sa ?_; refine QW.body_ct Tryz.results173 rfl hR20 rfl rfl rfl rfl ⟨?_, hx.step hc20 (by simp; omega)⟩; rw [readV, hbad]; rfl
theorem byte_is {l : List UInt8} {i : Nat} {c : UInt8} (hi : i < l.length) : byte l i = (c.toNat : Int) ↔ l[i]? = some c := by
 rw [byte_eq hi, List.getElem?_eq_getElem hi]; constructor
 ·intro h; have : l[i].toNat = c.toNat := by omega
  rw [UInt8.toNat_inj.1 this]
 ·intro h; simp only [Option.some.injEq] at h; rw [h]
theorem occ33 (s : List UInt8) (i : Nat) : Lib.occAt s [33] i = decide (s[i]? = some 33) := by
 unfold Lib.occAt
 cases h : s.drop i with
 | nil =>
  have : s.length ≤ i := by
   have := congrArg List.length h; simp at this; omega
  simp [List.getElem?_eq_none this]
 | cons c r =>
  have hlt : i < s.length := by
   have := congrArg List.length h; simp at this; omega
  have : s[i]? = some c := by
   have := congrArg (fun l : List UInt8 => l[0]?) h
   simpa using this
  rw [this]; rw [Bool.eq_iff_iff]; simp [List.isPrefixOf]; exact eq_comm
theorem cut_found {s : List UInt8} {k : Nat} (hk : k < s.length) (h : byte s k = 33) (hn : ∀ j, j < k → byte s j ≠ 33) : Lib.cut s [33] = (s.take k, s.drop (k + 1), true) := by
 have hi : Lib.index s [33] = k := by
  refine Lib.index_hit (fun j hj => ?_) (by omega) ?_
  ·rw [occ33, decide_eq_false_iff_not]; intro hh; exact hn j hj ((byte_is (c := 33) (by omega)).2 hh)
  ·rw [occ33, decide_eq_true_eq]; exact (byte_is (c := 33) hk).1 h
 unfold Lib.cut; rw [hi, if_pos (by omega)]; simp
theorem cut_none {s : List UInt8} (hn : ∀ j, j < s.length → byte s j ≠ 33) : Lib.cut s [33] = (s, [], false) := by
 have hi : Lib.index s [33] = -1 := by
  refine Lib.index_past (i := s.length) (by simp) (fun j hj => ?_) (by simp); rw [occ33, decide_eq_false_iff_not]; intro hh; exact hn j hj ((byte_is (c := 33) hj).2 hh)
 unfold Lib.cut; rw [hi, if_neg (by omega)]
theorem pre36 (l : List UInt8) : Lib.hasPrefix l [36] = decide (0 < l.length ∧ byte l 0 = 36) := by
 cases l with
 | nil => rfl
 | cons c r =>
  rw [Bool.eq_iff_iff]; have := byte_is (l := c :: r) (i := 0) (c := 36) (by simp); simp [Lib.hasPrefix, List.isPrefixOf]; rw [show (36 : Int) = (((36 : UInt8).toNat : Nat) : Int) from rfl, this]; simp [eq_comm]
theorem trim36 (l : List UInt8) : Lib.trimPrefix l [36] = if 0 < l.length ∧ byte l 0 = 36 then l.drop 1 else l := by
 unfold Lib.trimPrefix; rw [pre36]; simp only [decide_eq_true_eq]; rfl
def d3 (n : Nat) : List UInt8 :=
 if n < 10 then [ch (48 + (n : Int))] else if n < 100 then [ch (48 + ((n / 10 : Nat) : Int)), ch (48 + (n : Int) % 10)] else [ch (48 + ((n / 100 : Nat) : Int)), ch (48 + ((n / 10 : Nat) : Int) % 10), ch (48 + (n : Int) % 10)]
theorem decDigits_small' {u : Nat} (h : u < 10) : Lib.decDigits u = [ch (48 + (u : Int))] := by
 rw [Lib.decDigits, dif_pos h]; rfl
theorem decDigits_big' {u : Nat} (h : 10 ≤ u) : Lib.decDigits u = Lib.decDigits (u / 10) ++ [ch (48 + (u : Int) % 10)] := by
 rw [Lib.decDigits, dif_neg (by omega)]
 congr 2
theorem d3_eq {n : Nat} (h : n < 1000) : Lib.decDigits n = d3 n := by
 unfold d3
 split
 ·rename_i h1; exact decDigits_small' h1
 ·rename_i h1; rw [decDigits_big' (by omega)]
  split
  ·rw [decDigits_small' (by omega)]; rfl
  ·rw [decDigits_big' (by omega), decDigits_small' (by omega)]; have : n / 10 / 10 = n / 100 := by omega
   rw [this]; rfl
def okDigits (n : Nat) : Bool := (d3 n).all (fun c => digB (c.toNat : Int)) && decide (0 < (d3 n).length) && decide ((d3 n).length ≤ 3) && decide (Lib.atoiAll (d3 n) = .ok (n : Int))
theorem all_digits : ∀ n : Fin 1000, okDigits n.val = true := by decide +kernel
theorem itoa_d3 {z : Int} (h0 : 0 ≤ z) (h1 : z < 1000) : Lib.itoa z = d3 z.toNat := by
 unfold Lib.itoa; rw [if_neg (by omega), d3_eq (by omega)]
theorem itoa_ok {z : Int} (h0 : 0 ≤ z) (h1 : z < 1000) : (∀ c ∈ Lib.itoa z, digB (c.toNat : Int) = true) ∧ 0 < (Lib.itoa z).length ∧ (Lib.itoa z).length ≤ 3 ∧ Lib.atoiAll (Lib.itoa z) = .ok z := by
 have := all_digits ⟨z.toNat, by omega⟩; rw [itoa_d3 h0 h1]; simp only [okDigits, Bool.and_eq_true, List.all_eq_true, decide_eq_true_eq] at this; obtain ⟨⟨⟨a1, a2⟩, a3⟩, a4⟩ := this; exact ⟨a1, a2, a3, by rw [a4]; congr 1; omega⟩
def okCol (n : Nat) : Bool := (colT (n : Int)).all (fun c => capB (c.toNat : Int)) && decide (0 < (colT (n : Int)).length) && decide (readCol (colT (n : Int)) = some (n : Int))
theorem all_cols : ∀ n : Fin 702, okCol n.val = true := by decide +kernel
theorem col_ok {z : Int} (h0 : 0 ≤ z) (h1 : z ≤ 701) : (∀ c ∈ colT z, capB (c.toNat : Int) = true) ∧ 0 < (colT z).length ∧ readCol (colT z) = some z := by
 have := all_cols ⟨z.toNat, by omega⟩; have e : ((z.toNat : Nat) : Int) = z := by omega
 simp only [okCol, e, Bool.and_eq_true, List.all_eq_true, decide_eq_true_eq] at this; exact ⟨this.1.1, this.1.2, this.2⟩
theorem may_parts {r : RefD} (h : mayB r = true) : (r.sheet = [] ∨ nameB r.sheet = true) ∧ 0 ≤ r.col ∧ r.col ≤ 701 ∧ 0 ≤ r.row ∧ r.row ≤ 998 := by
 simp only [mayB, Bool.and_eq_true, Bool.or_eq_true, decide_eq_true_eq] at h; exact ⟨h.1.1.1.1, h.1.1.1.2, h.1.1.2, h.1.2, h.2⟩
theorem name_parts {l : List UInt8} (h : nameB l = true) : l ≠ [] ∧ l.length ≤ 12 ∧ ∀ j, j < l.length → ldB (byte l j) = true := by
 simp only [nameB, Bool.and_eq_true, decide_eq_true_eq] at h; exact ⟨h.1.1.1, h.1.1.2, h.2⟩
def tail3 (r : RefD) : List UInt8 := Lib.itoa (r.row + 1)
def tail2 (r : RefD) : List UInt8 := markT r.ar ++ tail3 r
def tail1 (r : RefD) : List UInt8 := colT r.col ++ tail2 r
def tail0 (r : RefD) : List UInt8 := markT r.ac ++ tail1 r
theorem textB_eq (r : RefD) : textB r = (if r.sheet = [] then [] else r.sheet ++ [33]) ++ tail0 r := by
 simp [textB, tail0, tail1, tail2, tail3]
theorem take_span (p : Int → Bool) : ∀ (a b : List UInt8), (∀ c ∈ a, p (c.toNat : Int) = true) → (b = [] ∨ p (byte b 0) = false) → spanL p (a ++ b) = a ∧ restL p (a ++ b) = b
 | [], b, _, hb => by
  cases b with
  | nil => simp [spanL, restL]
  | cons c r =>
   have hc : p (c.toNat : Int) = false := by
    rcases hb with hb | hb
    ·cases hb
    ·exact hb
   simp [spanL, restL, hc]
 | c :: a, b, ha, hb => by
  have hc := ha c (by simp); obtain ⟨h1, h2⟩ := take_span p a b (fun d hd => ha d (by simp [hd])) hb; simp only [spanL, restL] at h1 h2 ⊢; simp [hc, h1, h2]
theorem byte_append_left {a b : List UInt8} {j : Nat} (h : j < a.length) : byte (a ++ b) j = byte a j := by
 unfold byte; rw [List.getD_eq_getElem?_getD, List.getD_eq_getElem?_getD, List.getElem?_append_left h]
theorem byte_mem {l : List UInt8} {j : Nat} (h : j < l.length) : ∃ c ∈ l, byte l j = (c.toNat : Int) := ⟨l[j], List.getElem_mem h, byte_eq h⟩
theorem cap_not (z : Int) (h : capB z = true) : z ≠ 33 ∧ z ≠ 36 ∧ digB z = false := by
 simp [capB] at h; refine ⟨by omega, by omega, ?_⟩; simp [digB]; omega
theorem dig_not (z : Int) (h : digB z = true) : z ≠ 33 ∧ z ≠ 36 ∧ capB z = false := by
 simp [digB] at h; refine ⟨by omega, by omega, ?_⟩; simp [capB]; omega
theorem ld_not (z : Int) (h : ldB z = true) : z ≠ 33 ∧ z ≠ 36 := by
 simp [ldB, letB, capB, digB] at h; omega
theorem no33 {r : RefD} (h : mayB r = true) : ∀ c ∈ tail0 r, (c.toNat : Int) ≠ 33 := by
 obtain ⟨_, c0, c1, r0, r1⟩ := may_parts h; obtain ⟨hc, _, _⟩ := col_ok c0 c1; obtain ⟨hd, _, _, _⟩ := itoa_ok (z := r.row + 1) (by omega) (by omega); intro c hm; have mk : ∀ b, c ∈ markT b → (c.toNat : Int) ≠ 33 := fun b hb => by
  cases b
  ·simp [markT] at hb
  ·simp [markT] at hb; subst hb; decide
 simp only [tail0, tail1, tail2, tail3, List.mem_append] at hm; rcases hm with hm | hm | hm | hm
 ·exact mk _ hm
 ·exact (cap_not _ (hc c hm)).1
 ·exact mk _ hm
 ·exact (dig_not _ (hd c hm)).1
theorem parse {r : RefD} (h : mayB r = true) :
  candS (textB r) = r.sheet ∧ candR (textB r) = tail0 r ∧ Lib.hasPrefix (tail0 r) [36] = r.ac ∧ cand1 (textB r) = tail1 r ∧ spanL capB (tail1 r) = colT r.col ∧ cand2 (textB r) = tail2 r ∧
  Lib.hasPrefix (tail2 r) [36] = r.ar ∧ cand3 (textB r) = tail3 r ∧ spanL digB (tail3 r) = tail3 r := by
 obtain ⟨hs, c0, c1, r0, r1⟩ := may_parts h; obtain ⟨hc, hcl, _⟩ := col_ok c0 c1; obtain ⟨hd, hdl, _, _⟩ := itoa_ok (z := r.row + 1) (by omega) (by omega); have h33 := no33 h; have e0 : candS (textB r) = r.sheet ∧ candR (textB r) = tail0 r := by
  rw [textB_eq]; by_cases hsh : r.sheet = []
  ·rw [if_pos hsh, List.nil_append]; have hcut := cut_none (s := tail0 r) (fun j hj => by
    obtain ⟨c, hm, e⟩ := byte_mem hj; rw [e]; exact h33 c hm)
   simp [candS, candR, hcut, hsh]
  ·rw [if_neg hsh]; have hn : nameB r.sheet = true := hs.resolve_left hsh; obtain ⟨_, _, hld⟩ := name_parts hn; have hcut := cut_found (s := r.sheet ++ [33] ++ tail0 r) (k := r.sheet.length) (by simp)
    (by
     refine (byte_is (c := 33) (by simp)).2 ?_; simp)
    (fun j hj => by
     rw [List.append_assoc, byte_append_left hj]; exact (ld_not _ (hld j hj)).1)
   have t1 : (r.sheet ++ [33] ++ tail0 r).take r.sheet.length = r.sheet := by rw [List.append_assoc, List.take_left]
   have t2 : (r.sheet ++ [33] ++ tail0 r).drop (r.sheet.length + 1) = tail0 r := by
    have : (r.sheet ++ [33]).length = r.sheet.length + 1 := by simp
    rw [← this, List.drop_left]
   rw [t1, t2] at hcut; unfold candS candR; rw [hcut]; exact ⟨rfl, rfl⟩
 have bcol : byte (tail1 r) 0 ≠ 36 := by
  obtain ⟨c, hm, e⟩ := byte_mem hcl; rw [tail1, byte_append_left hcl, e]; exact (cap_not _ (hc c hm)).2.1
 have bdig : byte (tail3 r) 0 ≠ 36 ∧ capB (byte (tail3 r) 0) = false := by
  obtain ⟨c, hm, e⟩ := byte_mem hdl; rw [tail3, e]; exact (dig_not _ (hd c hm)).2
 have p0 : Lib.hasPrefix (tail0 r) [36] = r.ac ∧ Lib.trimPrefix (tail0 r) [36] = tail1 r := by
  rw [pre36, trim36]
  cases ha : r.ac with
  | true =>
   have e : tail0 r = 36 :: tail1 r := by simp [tail0, markT, ha]
   have b : byte (36 :: tail1 r) 0 = 36 := rfl
   rw [e]; simp [b]
  | false =>
   have e : tail0 r = tail1 r := by simp [tail0, markT, ha]
   rw [e]; simp [bcol]
 have p2 : Lib.hasPrefix (tail2 r) [36] = r.ar ∧ Lib.trimPrefix (tail2 r) [36] = tail3 r := by
  rw [pre36, trim36]
  cases ha : r.ar with
  | true =>
   have e : tail2 r = 36 :: tail3 r := by simp [tail2, markT, ha]
   have b : byte (36 :: tail3 r) 0 = 36 := rfl
   rw [e]; simp [b]
  | false =>
   have e : tail2 r = tail3 r := by simp [tail2, markT, ha]
   rw [e]; simp [bdig.1]
 have hb2 : capB (byte (tail2 r) 0) = false := by
  cases ha : r.ar with
  | true =>
   have e : tail2 r = 36 :: tail3 r := by simp [tail2, markT, ha]
   rw [e]; rfl
  | false =>
   have e : tail2 r = tail3 r := by simp [tail2, markT, ha]
   rw [e]; exact bdig.2
 have s1 := take_span capB (colT r.col) (tail2 r) hc (Or.inr hb2); have s3 := take_span digB (tail3 r) [] hd (Or.inl rfl); rw [List.append_nil] at s3; have k1 : cand1 (textB r) = tail1 r := by rw [cand1, e0.2, p0.2]
 have k2 : cand2 (textB r) = tail2 r := by rw [cand2, k1]; exact s1.2
 exact ⟨e0.1, e0.2, p0.1, k1, s1.1, k2, p2.1, by rw [cand3, k2, p2.2], s3.1⟩
theorem textB_ne {r : RefD} (h : mayB r = true) : textB r ≠ [] := by
 obtain ⟨_, _, _, r0, r1⟩ := may_parts h; obtain ⟨_, hdl, _, _⟩ := itoa_ok (z := r.row + 1) (by omega) (by omega); intro he; have := congrArg List.length he; simp [textB] at this; have h2 := this.2.2.2.2; rw [h2] at hdl; simp at hdl
theorem read_text {r : RefD} (h : mayB r = true) : okRead (textB r) = true ∧ candV (textB r) = r := by
 obtain ⟨q1, q2, q3, q4, q5, q6, q7, q8, q9⟩ := parse h; obtain ⟨_, c0, c1, r0, r1⟩ := may_parts h; obtain ⟨_, _, hrc⟩ := col_ok c0 c1; obtain ⟨_, _, _, hat⟩ := itoa_ok (z := r.row + 1) (by omega) (by omega); have hro : rowOf (textB r) = some (r.row + 1) := by
  unfold rowOf; rw [q8, q9, tail3, hat]
 have hv : candV (textB r) = r := by
  unfold candV; rw [q1, q4, q5, hrc, hro, q2, q3, q6, q7]; have : IntKind.i64.wrap ((some (r.row + 1)).getD 0 - 1) = r.row := by
   rw [Option.getD_some, show r.row + 1 - 1 = r.row by omega]; exact wrap_i64 (by omega) (by omega)
  rw [this]; rfl
 refine ⟨?_, hv⟩; unfold okRead; rw [hv, q4, q5, hrc, hro, textT, if_pos h]; simp [textB_ne h]
theorem read_is {s : List UInt8} (h : okRead s = true) : mayB (candV s) = true ∧ textB (candV s) = s := by
 simp only [okRead, Bool.and_eq_true, decide_eq_true_eq, Bool.not_eq_true', decide_eq_false_iff_not] at h; obtain ⟨⟨_, h1⟩, h2⟩ := h; unfold textT at h1
 split at h1
 ·rename_i hm; exact ⟨hm, h1⟩
 ·exact absurd h1.symm h2
theorem read_no {s : List UInt8} (h : ∀ r, mayB r = true → textB r ≠ s) : okRead s = false := by
 cases hk : okRead s
 ·rfl
 ·obtain ⟨a, b⟩ := read_is hk; exact absurd b (h _ a)
theorem rcapital_ret (c : Int) (w : World) : Ret Tryz.prog 169 [.int .u8 c] w (fun v w' => v = .bool (capB c) ∧ Ext w w') := by
 refine Rte Tryz.func169 Tryz.ntmps169 ?_; refine Sa ?_; refine Lwp (fun h1 => ?_) fun h1 => ?_
 all_goals
  refine Sa ?_; refine QW.body1 Tryz.results169 rfl ⟨?_, Chg.refl _ _⟩; simp [capB, h1]
theorem rdigit_ret (c : Int) (w : World) : Ret Tryz.prog 58 [.int .u8 c] w (fun v w' => v = .bool (digB c) ∧ Ext w w') := by
 refine Rte Tryz.func58 Tryz.ntmps58 ?_; refine Sa ?_; refine Lwp (fun h1 => ?_) fun h1 => ?_
 all_goals
  refine Sa ?_; refine QW.body1 Tryz.results58 rfl ⟨?_, Chg.refl _ _⟩; simp [digB, h1]
theorem rletter_ret (c : Int) (w : World) : Ret Tryz.prog 57 [.int .u8 c] w (fun v w' => v = .bool (letB c) ∧ Ext w w') := by
 refine Rte Tryz.func57 Tryz.ntmps57 ?_; refine Sa ?_; refine Lwp (fun h1 => ?_) fun h1 => ?_
 ·refine Sa ?_; refine Lwp (fun h2 => ?_) fun h2 => ?_
  ·refine Sa ?_; refine QW.body1 Tryz.results57 rfl ⟨?_, Chg.refl _ _⟩; simp [letB, capB, h1, h2]
  ·refine Sa ?_; refine Lwp (fun h3 => ?_) fun h3 => ?_
   all_goals
    refine Sa ?_; refine QW.body1 Tryz.results57 rfl ⟨?_, Chg.refl _ _⟩; simp [letB, capB, h1, h2, h3]
 ·refine Sa ?_; refine Lwp (fun h3 => ?_) fun h3 => ?_
  all_goals
   refine Sa ?_; refine QW.body1 Tryz.results57 rfl ⟨?_, Chg.refl _ _⟩; simp [letB, capB, h1, h3]
theorem rCol_ret (n : Int) (h0 : -9223372036854775808 ≤ n) (h1 : n ≤ 9223372036854775807) (w : World) : Ret Tryz.prog 137 [.int .i64 n] w (fun v w' => v = str (colT n) ∧ Ext w w') := by
 refine Rte Tryz.func137 Tryz.ntmps137 ?_; refine Sa ?_; refine Lwp (fun h2 => ?_) fun h2 => ?_
 ·have h2 : n < 0 := by simpa using h2
  refine Sa ?_; refine QW.body1 Tryz.results137 rfl ⟨?_, Chg.refl _ _⟩; rw [colT, if_pos (by omega)]
 have h2 : 0 ≤ n := by simpa using h2
 refine Sa ?_; refine Cwc (fun h3 => ?_) fun h3 => ?_
 ·have h3 : 701 < n := by simpa using h3
  refine Sa ?_; refine QW.body1 Tryz.results137 rfl ⟨?_, Chg.refl _ _⟩; rw [colT, if_pos (by omega)]
 have h3 : n ≤ 701 := by simpa using h3
 refine Sa ?_; refine Cwc (fun h4 => ?_) fun h4 => ?_
 ·have h4 : n < 26 := by simpa using h4
  refine Sa ?_; refine Lwl fun b w1 hb hx hB => ?_; replace hB : Blk w1 b [.int .u8 (65 + n)] 5 := hB; refine Sa ?_; refine QW.body1 Tryz.results137 rfl ⟨?_, hx⟩; rw [colT, if_neg (by omega), if_pos h4]
 ·have h4 : 26 ≤ n := by simpa using h4
  refine Sa ?_; refine Lwl fun b w1 hb hx hB => ?_; replace hB : Blk w1 b [.int .u8 (65 + n / 26 - 1), .int .u8 (65 + n % 26)] 5 := hB; refine Sa ?_; refine QW.body1 Tryz.results137 rfl ⟨?_, hx⟩; rw [colT, if_neg (by omega), if_neg (by omega)]
theorem rReadCol_ret (s : List UInt8) (hs : s.length ≤ 1000000) (w : World) : Ret Tryz.prog 170 [str s] w (fun v w' => v = readColV s ∧ Ext w w') := by
 match s, hs with
 | [], _ =>
  refine Rte Tryz.func170 Tryz.ntmps170 ?_; refine Sa ?_
  refine QW.body2 Tryz.results170 rfl rfl ⟨rfl, Chg.refl _ _⟩
 | a :: b :: c :: l, hs =>
  simp at hs; refine Rte Tryz.func170 Tryz.ntmps170 ?_; refine Sa ?_; refine Lwp (fun h => ?_) fun h => ?_
  ·refine Sa ?_; refine QW.body2 Tryz.results170 rfl rfl ⟨rfl, Chg.refl _ _⟩
  ·simp at h; omega
 | [a], _ =>
  refine Rte Tryz.func170 Tryz.ntmps170 ?_; refine Sa ?_; refine Lc0 rfl rfl (rcapital_ret _ _) ?_; rintro v w1 ⟨rfl, hx⟩; refine Sa ?_; refine Lwp (fun h1 => ?_) fun h1 => ?_
  ·refine Sa ?_; refine QW.body2 Tryz.results170 rfl rfl ⟨?_, hx⟩; have h1 : capB (byte [a] 0) = false := by simpa using h1
   simp [readColV, readCol, h1]
  have h1 : capB (byte [a] 0) = true := by simpa using h1
  refine Sa ?_; refine Lc0 rfl rfl (rcapital_ret _ _) ?_; rintro v w2 ⟨rfl, hx2⟩; refine Sa ?_; refine Cwc (fun h2 => ?_) fun h2 => ?_
  ·have h2 : capB (byte [a] 0) = false := by simpa using h2
   rw [h1] at h2; cases h2
  have hb := byte_lt [a] 0; have hb2 : 65 ≤ byte [a] 0 ∧ byte [a] 0 ≤ 90 := by simpa [capB] using h1
  have e0 : byte [a] (0 : Int).toNat = byte [a] 0 := rfl; refine Sa ?_; refine QW.body2 Tryz.results170 rfl rfl ⟨?_, hx.trans hx2⟩
  simp [readColV, readCol, h1]
 | [a, b], _ =>
  refine Rte Tryz.func170 Tryz.ntmps170 ?_; refine Sa ?_; refine Lc0 rfl rfl (rcapital_ret _ _) ?_; rintro v w1 ⟨rfl, hx⟩; refine Sa ?_; refine Lwp (fun h1 => ?_) fun h1 => ?_
  ·refine Sa ?_; refine QW.body2 Tryz.results170 rfl rfl ⟨?_, hx⟩; have h1 : capB (byte [a, b] 0) = false := by simpa using h1
   simp [readColV, readCol, h1]
  have h1 : capB (byte [a, b] 0) = true := by simpa using h1
  refine Sa ?_; refine Lc0 rfl rfl (rcapital_ret _ _) ?_; rintro v w2 ⟨rfl, hx2⟩; refine Sa ?_; refine Cwc (fun h2 => ?_) fun h2 => ?_
  ·refine Sa ?_; refine QW.body2 Tryz.results170 rfl rfl ⟨?_, hx.trans hx2⟩; have h2 : capB (byte [a, b] 1) = false := by simpa using h2
   simp [readColV, readCol, h1, h2]
  have h2 : capB (byte [a, b] 1) = true := by simpa using h2
  have hb := byte_lt [a, b] 0; have hb2 : 65 ≤ byte [a, b] 0 ∧ byte [a, b] 0 ≤ 90 := by simpa [capB] using h1
  have e0 : byte [a, b] (0 : Int).toNat = byte [a, b] 0 := rfl; have hc := byte_lt [a, b] 1; have hc2 : 65 ≤ byte [a, b] 1 ∧ byte [a, b] 1 ≤ 90 := by simpa [capB] using h2
  have e1 : byte [a, b] (1 : Int).toNat = byte [a, b] 1 := rfl; refine Sa ?_; refine Cwd ?_; refine Sq ?_; refine QL.nil fun w3 hx3 => ?_; refine Sa ?_; refine QW.body2 Tryz.results170 rfl rfl ⟨?_, (hx.trans hx2).trans hx3⟩; simp [readColV, readCol, h1, h2]; omega
theorem rName_ret (s : List UInt8) (hs : s.length ≤ 9223372036854775807) (w : World) : Ret Tryz.prog 29 [str s] w (fun v w' => v = .bool (nameB s) ∧ Ext w w') := by
 refine Rte Tryz.func29 Tryz.ntmps29 ?_; refine Sa ?_; refine CW.loop (ι := Nat) (fun k w' => k ≤ s.length ∧ Ext w w' ∧ (0 < k → letB (byte s 0) = true) ∧ ∀ j, j < k → ldB (byte s j) = true) (fun k => [(0, str s), (3, .int .i64 k)]) (fun k => s.length - k) 0 ⟨by omega, Chg.refl _ _, by omega, by omega⟩ Sub2 ?_; rintro k w1 ⟨hk, hx, hf, hall⟩; refine Sa ?_; refine Cwc (fun h1 => ?_) fun h1 => ?_
 ·have h1 : k < s.length := by simpa using h1
  refine Sa ?_; refine Lc0 rfl rfl (rletter_ret _ _) ?_; rintro v w2 ⟨rfl, hx2⟩; replace hx := hx.trans hx2; refine Sa ?_; refine Lwp (fun h2 => ?_) fun h2 => ?_
  ·have h2 : letB (byte s k) = false := by simpa using h2
   refine Sa ?_; refine Lwp (fun h3 => ?_) fun h3 => ?_
   ·have h3 : 0 < k := by simpa using h3
    refine Sa ?_; refine Lc0 rfl rfl (rdigit_ret _ _) ?_; rintro v w3 ⟨rfl, hx3⟩; replace hx := hx.trans hx3; refine Sa ?_; refine Cwc (fun h4 => ?_) fun h4 => ?_
    ·have h4 : digB (byte s k) = false := by simpa using h4
     refine Sa ?_; refine QW.body1 Tryz.results29 rfl ⟨?_, hx⟩; rw [nameB_at h1 (by simp [ldB, h2, h4])]
    ·have h4 : digB (byte s k) = true := by simpa using h4
     refine Sa ?_; refine QW.again (k + 1) ⟨by omega, hx, fun _ => hf h3, ?_⟩ Sub2 (by omega); intro j hj; by_cases hjk : j = k
     ·subst hjk; simp [ldB, h4]
     ·exact hall j (by omega)
   ·have h3 : k = 0 := by simpa using h3
    subst h3; refine Sa ?_; refine QW.body1 Tryz.results29 rfl ⟨?_, hx⟩; rw [nameB_first h2]
  ·have h2 : letB (byte s k) = true := by simpa using h2
   refine Sa ?_; refine QW.again (k + 1) ⟨by omega, hx, fun _ => ?_, ?_⟩ Sub2 (by omega)
   ·by_cases hk0 : k = 0
    ·subst hk0; exact h2
    ·exact hf (by omega)
   ·intro j hj; by_cases hjk : j = k
    ·subst hjk; simp [ldB, h2]
    ·exact hall j (by omega)
 ·have h1 : k = s.length := by simp at h1; omega
  subst h1; refine Sa ?_; refine Lwp (fun h2 => ?_) fun h2 => ?_
  ·have h2 : 1 ≤ s.length := by simp at h2; omega
   have hne : s ≠ [] := by intro h; rw [h] at h2; simp at h2
   refine Sa ?_; refine QW.body1 Tryz.results29 rfl ⟨?_, hx⟩; by_cases h3 : s.length ≤ 12
   ·rw [nameB_true hne h3 (hf (by omega)) hall]; simp; omega
   ·rw [nameB_long (by omega)]; simp; omega
  ·have h2 : s = [] := by
    apply List.eq_nil_of_length_eq_zero; simp at h2; omega
   subst h2; refine Sa ?_; refine QW.body1 Tryz.results29 rfl ⟨rfl, hx⟩
theorem decDigits_big {u : Nat} (h : 10 ≤ u) : Lib.decDigits u = Lib.decDigits (u / 10) ++ [ch (48 + (u : Int) % 10)] := by
 rw [Lib.decDigits, dif_neg (by omega)]
 congr 2
theorem decDigits_small {u : Nat} (h : u < 10) : Lib.decDigits u = [ch (48 + (u : Int))] := by
 rw [Lib.decDigits, dif_pos h]; rfl
theorem Digits_ret (k : Int) (h0 : 0 ≤ k) (h1 : k ≤ 9223372036854775807) (w : World) : Ret Tryz.prog 39 [.int .i64 k] w (fun v w' => v = str (Lib.itoa k) ∧ Ext w w') := by
 obtain ⟨m, rfl⟩ := Int.eq_ofNat_of_zero_le h0; have hit : Lib.itoa (m : Int) = Lib.decDigits m := by unfold Lib.itoa; rw [if_neg (by omega)]; rfl
 have hlen := Lib.itoa_length_le (m : Int) (by omega) h1; rw [hit] at hlen; rw [hit]; refine Rte Tryz.func39 Tryz.ntmps39 ?_; refine Sa ?_; refine CW.loop (ι := Nat × List UInt8) (fun i w' => i.1 ≤ m ∧ Ext w w' ∧ Lib.decDigits m = Lib.decDigits i.1 ++ i.2) (fun i => [(0, .int .i64 (m : Int)), (3, .int .u64 (i.1 : Int)), (4, str i.2)]) (fun i => i.1) (m, []) ⟨by simp, Chg.refl _ _, by simp⟩ Sub3 ?_; rintro ⟨u, acc⟩ w1 ⟨hu, hx, hd⟩; simp only at hu hd; have hal : acc.length ≤ 21 := by
  have := congrArg List.length hd; rw [List.length_append] at this; omega
 refine Sa ?_; refine Cwc (fun h2 => ?_) fun h2 => ?_
 ·have h2 : 10 ≤ u := by simp at h2; omega
  refine Sa ?_; refine Lwl fun b w2 hb hx2 hB => ?_; replace hB : Blk w2 b [.int .u8 (48 + (u : Int) % 10)] 5 := hB; replace hx := hx.trans hx2; refine Sa ?_; refine QW.again (u / 10, [ch (48 + (u : Int) % 10)] ++ acc) ⟨?_, hx, ?_⟩ Sub3 ?_
  ·simp only; omega
  ·simp only; rw [hd, decDigits_big h2]; simp
  ·simp only; omega
 ·have h2 : u < 10 := by simp at h2; omega
  refine Sa ?_; refine Lwl fun b w2 hb hx2 hB => ?_; replace hB : Blk w2 b [.int .u8 (48 + (u : Int))] 5 := hB; replace hx := hx.trans hx2; refine Sa ?_; refine QW.body1 Tryz.results39 rfl ⟨?_, hx⟩; rw [hd, decDigits_small h2]
theorem rMay_ret (x : RefD) (hs : x.sheet.length ≤ 9223372036854775807) (w : World) : Ret Tryz.prog 135 [refV x] w (fun v w' => v = .bool (mayB x) ∧ Ext w w') := by
 obtain ⟨sh, c, r, ac, ar⟩ := x; simp only [refV]; refine Rte Tryz.func135 Tryz.ntmps135 ?_; refine Sa ?_; refine Lwb fun b w1 hb hx hB => ?_; refine Sa ?_; refine Lwp (fun h1 => ?_) fun h1 => ?_
 ·refine Sa ?_; refine Lwp (fun h2 => ?_) fun h2 => ?_
  ·refine Sa ?_; refine Lwp (fun h3 => ?_) fun h3 => ?_
   ·refine Sa ?_; refine Lwp (fun h4 => ?_) fun h4 => ?_
    ·refine Sa ?_; refine QW.body1 Tryz.results135 rfl ⟨?_, hx⟩; simp [mayB, *]
    ·refine Sa ?_; refine QW.body1 Tryz.results135 rfl ⟨?_, hx⟩; simp [mayB, *]
   ·refine Sa ?_; refine QW.body1 Tryz.results135 rfl ⟨?_, hx⟩; simp [mayB, *]
  ·refine Sa ?_; refine QW.body1 Tryz.results135 rfl ⟨?_, hx⟩; simp [mayB, *]
 ·refine Sa ?_; refine Lc0 rfl rfl (rName_ret _ hs _) ?_; rintro v w2 ⟨rfl, hx2⟩; replace hB := hB.ext hx2; replace hx := hx.trans hx2; refine Sa ?_; refine Lwp (fun h0 => ?_) fun h0 => ?_
  ·refine Sa ?_; refine Lwp (fun h2 => ?_) fun h2 => ?_
   ·refine Sa ?_; refine Lwp (fun h3 => ?_) fun h3 => ?_
    ·refine Sa ?_; refine Lwp (fun h4 => ?_) fun h4 => ?_
     ·refine Sa ?_; refine QW.body1 Tryz.results135 rfl ⟨?_, hx⟩; simp [mayB, *]
     ·refine Sa ?_; refine QW.body1 Tryz.results135 rfl ⟨?_, hx⟩; simp [mayB, *]
    ·refine Sa ?_; refine QW.body1 Tryz.results135 rfl ⟨?_, hx⟩; simp [mayB, *]
   ·refine Sa ?_; refine QW.body1 Tryz.results135 rfl ⟨?_, hx⟩; simp [mayB, *]
  ·refine Sa ?_; refine QW.body1 Tryz.results135 rfl ⟨?_, hx⟩; simp [mayB, *]
theorem RefText_ret (x : RefD) (hs : x.sheet.length ≤ 1000) (w : World) : Ret Tryz.prog 102 [refV x] w (fun v w' => v = str (textT x) ∧ Ext w w') := by
 obtain ⟨sh, c, r, ac, ar⟩ := x; simp only at hs; simp only [refV]; refine Rte Tryz.func102 Tryz.ntmps102 ?_; refine Sa ?_; refine Lwb fun b w1 hb hx hB => ?_; refine Sa ?_; refine Lc0 rfl rfl (rMay_ret ⟨sh, c, r, ac, ar⟩ (by simp only; omega) w1) ?_; rintro v w2 ⟨rfl, hx2⟩; replace hB := hB.ext hx2; replace hx := hx.trans hx2; refine Sa ?_; refine Cwc (fun h1 => ?_) fun h1 => ?_
 ·refine Sa ?_; refine QW.body1 Tryz.results102 rfl ⟨?_, hx⟩; have h1 : mayB ⟨sh, c, r, ac, ar⟩ = false := by simpa using h1
  simp [textT, h1]
 have h1 : mayB ⟨sh, c, r, ac, ar⟩ = true := by simpa using h1
 have hm : 0 ≤ c ∧ c ≤ 701 ∧ 0 ≤ r ∧ r ≤ 998 := by
  simp only [mayB, Bool.and_eq_true, decide_eq_true_eq] at h1; exact ⟨h1.1.1.1.2, h1.1.1.2, h1.1.2, h1.2⟩
 have hl3 := colT_length c; have hl4 := Lib.itoa_length_le (r + 1) (by omega) (by omega); rw [textT, if_pos h1]; clear h1
 match sh, hs with
 | [], _ =>
  cases ac <;> cases ar
  all_goals
   refine Sa ?_; refine Lc0 rfl rfl (rCol_ret c (by omega) (by omega) w2) ?_; rintro v w3 ⟨rfl, hx3⟩; replace hB := hB.ext hx3; replace hx := hx.trans hx3; refine Sa ?_; refine Lc0 rfl rfl (Digits_ret (r + 1) (by omega) (by omega) w3) ?_; rintro v w4 ⟨rfl, hx4⟩; replace hx := hx.trans hx4; refine Sa ?_; refine QW.body1 Tryz.results102 rfl ⟨?_, hx⟩
   simp [textB, markT]
 | a :: l, hs =>
  simp at hs; cases ac <;> cases ar
  all_goals
   refine Sa ?_; refine Lc0 rfl rfl (rCol_ret c (by omega) (by omega) w2) ?_; rintro v w3 ⟨rfl, hx3⟩; replace hB := hB.ext hx3; replace hx := hx.trans hx3; refine Sa ?_; refine Lc0 rfl rfl (Digits_ret (r + 1) (by omega) (by omega) w3) ?_; rintro v w4 ⟨rfl, hx4⟩; replace hx := hx.trans hx4; refine Sa ?_; refine QW.body1 Tryz.results102 rfl ⟨?_, hx⟩; simp [textB, markT]
def numT (acc : Int) (l : List UInt8) : Int := l.foldl (fun a c => 10 * a + ((c.toNat : Int) - 48)) acc
theorem numT_snoc (acc : Int) (l : List UInt8) (c : UInt8) : numT acc (l ++ [c]) = 10 * numT acc l + ((c.toNat : Int) - 48) := by simp [numT]
def okNum (n : Nat) : Bool := decide (numT 0 (d3 n) = (n : Int))
theorem all_nums : ∀ n : Fin 1000, okNum n.val = true := by decide +kernel
theorem num_itoa {z : Int} (h0 : 0 ≤ z) (h1 : z < 1000) : numT 0 (Lib.itoa z) = z := by
 have := all_nums ⟨z.toNat, by omega⟩; rw [itoa_d3 h0 h1]; simp only [okNum, decide_eq_true_eq] at this; rw [this]; omega
theorem take_snoc' {l : List UInt8} {k : Nat} (h : k < l.length) : l.take (k + 1) = l.take k ++ [l[k]] := by
 rw [List.take_succ_eq_append_getElem h]
theorem byte_drop (l : List UInt8) (a k : Nat) : byte (l.drop a) k = byte l (a + k) := by
 unfold byte; rw [List.getD_eq_getElem?_getD, List.getD_eq_getElem?_getD, List.getElem?_drop]
theorem no_at {s : List UInt8} (h : okRead s = false) : readV s = .tuple #[refV refZ, .bool false] := by rw [readV, h]; rfl
def rcand (s : List UInt8) : RefD := ⟨candS s, (readCol (spanL capB (cand1 s))).getD 0, numT 0 ((cand3 s).take 4) - 1, Lib.hasPrefix (candR s) [36], Lib.hasPrefix (cand2 s) [36]⟩
theorem cand_is {s : List UInt8} {r : RefD} (h : mayB r = true) (e : textB r = s) : rcand s = r ∧ (readCol (spanL capB (cand1 s))).isSome = true := by
 obtain ⟨q1, q2, q3, q4, q5, q6, q7, q8, _⟩ := parse h; obtain ⟨_, c0, c1, r0, r1⟩ := may_parts h; obtain ⟨_, _, hrc⟩ := col_ok c0 c1; obtain ⟨_, _, hl, _⟩ := itoa_ok (z := r.row + 1) (by omega) (by omega); rw [e] at q1 q2 q4 q6 q8; unfold rcand; rw [q1, q4, q5, hrc, q8, q2, q3, q6, q7, List.take_of_length_le (by rw [tail3]; omega), tail3, num_itoa (by omega) (by omega)]; refine ⟨?_, rfl⟩; rw [show r.row + 1 - 1 = r.row by omega]; rfl
theorem first33 {s : List UInt8} (hl : 0 < s.length) (h : byte s 0 = 33) : okRead s = false := by
 refine read_no fun r hr e => ?_; have hc := cut_found (s := s) (k := 0) hl h (fun j hj => by omega); have hcs : candS s = [] := by unfold candS; rw [hc]; rfl
 have hsh : r.sheet = [] := by
  have := (parse hr).1; rw [e, hcs] at this; exact this.symm
 rw [textB_eq, if_pos hsh, List.nil_append] at e; subst e; obtain ⟨c, hm, e⟩ := byte_mem hl; exact no33 hr c hm (by rw [← e]; exact h)
theorem not_digit {s : List UInt8} {j : Nat} (hl : j < (cand3 s).length) (h : digB (byte (cand3 s) j) = false) : okRead s = false := by
 refine read_no fun r hr e => ?_; obtain ⟨_, _, _, _, _, _, _, q8, _⟩ := parse hr; obtain ⟨_, c0, c1, r0, r1⟩ := may_parts hr; obtain ⟨hd, _, _, _⟩ := itoa_ok (z := r.row + 1) (by omega) (by omega); rw [e] at q8; obtain ⟨c, hm, e2⟩ := byte_mem hl; rw [q8] at hm; rw [e2, hd c hm] at h; cases h
theorem num_bound (l : List UInt8) (h : ∀ j, j < l.length → digB (byte l j) = true) : 0 ≤ numT 0 l ∧ numT 0 l < 10 ^ l.length := by
 have key : ∀ (n : Nat) (l : List UInt8), l.length = n → (∀ j, j < l.length → digB (byte l j) = true) → 0 ≤ numT 0 l ∧ numT 0 l < 10 ^ n := by
  intro n
  induction n with
  | zero =>
   intro l hl _; have : l = [] := List.eq_nil_of_length_eq_zero hl
   subst this; simp [numT]
  | succ n ih =>
   intro l hl h; have hne : l ≠ [] := by intro h0; rw [h0] at hl; simp at hl
   have e : l = l.dropLast ++ [l.getLast hne] := (List.dropLast_concat_getLast hne).symm; have hdl : l.dropLast.length = n := by simp; omega
   have h1 := ih l.dropLast hdl (fun j hj => by
    have := h j (by omega); rw [e, byte_append_left hj] at this; exact this)
   have h2 : digB (((l.getLast hne).toNat : Nat) : Int) = true := by
    have := h n (by omega); have e3 : byte l n = ((l.getLast hne).toNat : Int) := by
     rw [byte_eq (by omega)]
     congr 2
     rw [List.getLast_eq_getElem]
     congr 1
     omega
    rw [e3] at this; exact this
   have h3 : numT 0 l = 10 * numT 0 l.dropLast + (((l.getLast hne).toNat : Int) - 48) := by
    conv => lhs; rw [e]
    exact numT_snoc _ _ _
   simp only [digB, Bool.and_eq_true, decide_eq_true_eq] at h2; rw [h3, Int.pow_succ]; constructor <;> omega
 exact key l.length l rfl h
theorem ReadRef_ret (s : List UInt8) (hs : s.length ≤ 1000) (w : World) : Ret Tryz.prog 133 [str s] w (fun v w' => v = readV s ∧ Ext w w') := by
 refine Rte Tryz.func133 Tryz.ntmps133 ?_; refine Sa ?_; refine Lwa fun R w1 hbR hx hR => ?_; refine Sa ?_; refine Lwa fun C w2 hbC hx2 hC => ?_; have hRC : R < C := by have := hR.lt; omega
 replace hR : Blk w2 R (refL refZ) 98 := hR.ext hx2; replace hC : Blk w2 C [str [], .int .i64 0, .int .i64 0, .bool false, .bool false] 98 := hC; replace hx := hx.trans hx2; refine Sl ?_; apply LW.nil; apply QW.then_n; apply CW.seq; apply CW.region; refine Sl ?_; apply LW.nil; apply QW.then_n; apply CW.seq; refine CW.cut (ι := Nat) (fun a w' => Ext w w' ∧ Blk w' R (refL refZ) 98 ∧ Blk w' C [str (candS s), .int .i64 0, .int .i64 0, .bool false, .bool false] 98 ∧ a ≤ s.length ∧ s.drop a = candR s)
  (fun a => [(0, str s), (2, .pointer (some ⟨R, 0, none⟩)), (3, .bool false), (4, .pointer (some ⟨C, 0, none⟩)), (5, .int .i64 a)]) ?_ ?_
 ·refine Sa ?_; refine CW.loop (ι := Nat) (fun k w' => k ≤ s.length ∧ Ext w w' ∧ Blk w' R (refL refZ) 98 ∧ Blk w' C [str [], .int .i64 0, .int .i64 0, .bool false, .bool false] 98 ∧ ∀ j, j < k → byte s j ≠ 33)
   (fun k => [(0, str s), (2, .pointer (some ⟨R, 0, none⟩)), (3, .bool false), (4, .pointer (some ⟨C, 0, none⟩)), (5, .int .i64 0), (6, .int .i64 k)]) (fun k => s.length - k) 0 ⟨by omega, hx, hR, hC, by omega⟩ Sub6 ?_
  clear hx hR hC hx2; rintro k w3 ⟨hk, hx, hR, hC, hall⟩; refine Sa ?_; refine Cwc (fun h1 => ?_) fun h1 => ?_
  ·have h1 : k < s.length := by simpa using h1
   refine Sa ?_; refine Cwc (fun h2 => ?_) fun h2 => ?_
   ·have h2 : byte s k = 33 := by simpa using h2
    have hcf := cut_found h1 h2 hall; refine Sa ?_; refine LW.slice_str (i := 0) (j := k) rfl rfl rfl rfl ⟨_, _, rfl, rfl⟩ (by omega) hk rfl ?_; refine Sa ?_; refine Lwt fun w4 hc4 hC4 => ?_; replace hR := hR.chg hc4 (by simp; omega); replace hx := hx.step hc4 (by simp; omega); refine Sa ?_; refine Cwc (fun h3 => ?_) fun h3 => ?_
    ·have h3 : k = 0 := by simpa using h3
     subst h3; refine Sa ?_; refine Lws fun w5 hc5 hR5 => ?_; refine Sa ?_; refine QW.body_ct Tryz.results133 rfl hR5 rfl rfl rfl rfl ⟨?_, hx.step hc5 (by simp; omega)⟩; rw [no_at (first33 h1 h2)]; rfl
    ·refine Sa ?_; refine QW.head (k + 1) ⟨hx, hR, ?_, by omega, ?_⟩ Sub5
     ·have e : candS s = cut s 0 k := by unfold candS; rw [hcf, cut_head]; rfl
      rw [e]; exact hC4
     ·unfold candR; rw [hcf]; rfl
   ·have h2 : byte s k ≠ 33 := by simpa using h2
    refine Sa ?_; refine QW.again (k + 1) ⟨by omega, hx, hR, hC, ?_⟩ Sub6 (by omega); intro j hj; by_cases hjk : j = k
    ·subst hjk; exact h2
    ·exact hall j (by omega)
  ·have h1 : k = s.length := by simp at h1; omega
   subst h1; have hcf := cut_none hall; refine Sa ?_; refine QW.head 0 ⟨hx, hR, ?_, by omega, ?_⟩ Sub5
   ·have e : candS s = [] := by unfold candS; rw [hcf]; rfl
    rw [e]; exact hC
   ·unfold candR; rw [hcf]; rfl
 clear hx hR hC hx2; rintro a w3 ⟨hx, hR, hC, ha, had⟩; have hla : (candR s).length = s.length - a := by rw [← had]; simp
 apply CW.seq; refine CW.cut (ι := Nat) (fun a w' => Ext w w' ∧ Blk w' R (refL refZ) 98 ∧ Blk w' C [str (candS s), .int .i64 0, .int .i64 0, .bool (Lib.hasPrefix (candR s) [36]), .bool false] 98 ∧ a ≤ s.length ∧ s.drop a = cand1 s)
  (fun a => [(0, str s), (2, .pointer (some ⟨R, 0, none⟩)), (3, .bool false), (4, .pointer (some ⟨C, 0, none⟩)), (5, .int .i64 a)]) ?_ ?_
 ·refine Sa ?_; refine Lwp (fun h1 => ?_) fun h1 => ?_
  ·have h1 : a < s.length := by simpa using h1
   refine Sa ?_; refine Cwc (fun h2 => ?_) fun h2 => ?_
   ·have h2 : byte s a = 36 := by simpa using h2
    have e1 : 0 < (candR s).length ∧ byte (candR s) 0 = 36 := ⟨by omega, by rw [← had, byte_drop]; exact h2⟩; refine Sa ?_; refine Lwt fun w4 hc4 hC4 => ?_; replace hR := hR.chg hc4 (by simp; omega); replace hx := hx.step hc4 (by simp; omega); refine Sa ?_; refine QW.head (a + 1) ⟨hx, hR, ?_, by omega, ?_⟩ Sub5
    ·rw [pre36, decide_eq_true e1]; exact hC4
    ·rw [cand1, trim36, if_pos e1, ← had, List.drop_drop]
   ·have h2 : byte s a ≠ 36 := by simpa using h2
    have e1 : ¬ (0 < (candR s).length ∧ byte (candR s) 0 = 36) := by
     rintro ⟨_, h⟩; rw [← had, byte_drop] at h; exact h2 h
    refine Sa ?_; refine QW.head a ⟨hx, hR, ?_, ha, ?_⟩ Sub5
    ·rw [pre36, decide_eq_false e1]; exact hC
    ·rw [cand1, trim36, if_neg e1, had]
  ·have h1 : a = s.length := by simp at h1; omega
   have e1 : ¬ (0 < (candR s).length ∧ byte (candR s) 0 = 36) := by
    rintro ⟨h, _⟩; omega
   refine Sa ?_; refine QW.head a ⟨hx, hR, ?_, ha, ?_⟩ Sub5
   ·rw [pre36, decide_eq_false e1]; exact hC
   ·rw [cand1, trim36, if_neg e1, had]
 clear hx hR hC ha had hla a; rintro a w4 ⟨hx, hR, hC, ha, had⟩; apply CW.seq; apply CW.region; refine Sl ?_; apply LW.nil; apply QW.then_n; apply CW.seq; refine CW.cut (ι := Nat) (fun k w' => Ext w w' ∧ Blk w' R (refL refZ) 98 ∧ Blk w' C [str (candS s), .int .i64 0, .int .i64 0, .bool (Lib.hasPrefix (candR s) [36]), .bool false] 98 ∧ a ≤ k ∧ k ≤ s.length ∧ cut s a k = spanL capB (cand1 s) ∧ s.drop k = cand2 s)
  (fun k => [(0, str s), (2, .pointer (some ⟨R, 0, none⟩)), (3, .bool false), (4, .pointer (some ⟨C, 0, none⟩)), (5, .int .i64 a), (7, .int .i64 k)]) ?_ ?_
 ·refine Sa ?_; refine CW.loop (ι := Nat) (fun k w' => a ≤ k ∧ k ≤ s.length ∧ Ext w w' ∧ Blk w' R (refL refZ) 98 ∧ Blk w' C [str (candS s), .int .i64 0, .int .i64 0, .bool (Lib.hasPrefix (candR s) [36]), .bool false] 98 ∧ ∀ j, j < k - a → capB (byte (cand1 s) j) = true)
   (fun k => [(0, str s), (2, .pointer (some ⟨R, 0, none⟩)), (3, .bool false), (4, .pointer (some ⟨C, 0, none⟩)), (5, .int .i64 a), (7, .int .i64 k)]) (fun k => s.length - k) a ⟨by omega, ha, hx, hR, hC, by omega⟩ Sub6 ?_
  clear hx hR hC; rintro k w5 ⟨hak, hk, hx, hR, hC, hall⟩; have hl1 : (cand1 s).length = s.length - a := by rw [← had]; simp
  have hbk : byte (cand1 s) (k - a) = byte s k := by
   rw [← had, byte_drop]; congr 1; omega
  have fin : k = s.length ∨ capB (byte s k) = false → cut s a k = spanL capB (cand1 s) ∧ s.drop k = cand2 s := fun h => by
   have sp := span_at capB (cand1 s) (k - a) (by omega) hall (by
    rcases h with h | h
    ·exact Or.inl (by omega)
    ·exact Or.inr (by rw [hbk]; exact h))
   refine ⟨?_, ?_⟩
   ·unfold cut; rw [had]; exact sp.1
   ·have : s.drop k = (s.drop a).drop (k - a) := by rw [List.drop_drop]; congr 1; omega
    rw [this, had]; exact sp.2
  refine Sa ?_; refine Lwp (fun h1 => ?_) fun h1 => ?_
  ·have h1 : k < s.length := by simpa using h1
   refine Sa ?_; refine Lc0 rfl rfl (rcapital_ret _ _) ?_; rintro v w6 ⟨rfl, hx6⟩; replace hR := hR.ext hx6; replace hC := hC.ext hx6; replace hx := hx.trans hx6; refine Sa ?_; refine Cwc (fun h2 => ?_) fun h2 => ?_
   ·have h2 : capB (byte s k) = true := h2; refine Sa ?_; refine QW.again (k + 1) ⟨by omega, by omega, hx, hR, hC, ?_⟩ Sub6 (by omega); intro j hj; by_cases hjk : j = k - a
    ·subst hjk; rw [hbk]; exact h2
    ·exact hall j (by omega)
   ·have h2 : capB (byte s k) = false := h2; refine Sa ?_; exact QW.head k ⟨hx, hR, hC, hak, hk, fin (Or.inr h2)⟩ Sub6
  ·have h1 : k = s.length := by simp at h1; omega
   refine Sa ?_; exact QW.head k ⟨hx, hR, hC, hak, hk, fin (Or.inl h1)⟩ Sub6
 clear hx hR hC; rintro k w5 ⟨hx, hR, hC, hak, hk, hck, hdk⟩; have hls : (spanL capB (cand1 s)).length ≤ 1000 := by rw [← hck]; simp [cut]; omega
 have hcb := readCol_bound (spanL capB (cand1 s)); have hl2 : (cand2 s).length = s.length - k := by rw [← hdk]; simp
 apply CW.seq; apply CW.region; refine Sl ?_; refine LW.slice_str (i := a) (j := k) rfl rfl rfl ⟨_, _, rfl, rfl⟩ ⟨_, _, rfl, rfl⟩ hak hk rfl ?_; refine Sl ?_; rw [hck]; refine Lc0 rfl rfl (rReadCol_ret _ (by omega) w5) ?_; rintro v w6 ⟨rfl, hx6⟩; rw [readColV_fst]; replace hR := hR.ext hx6; replace hC := hC.ext hx6; replace hx := hx.trans hx6; refine Sl ?_; apply LW.nil; apply QW.then_n; apply CW.seq; refine CW.cut (ι := Nat) (fun k w' => Ext w w' ∧ Blk w' R (refL refZ) 98 ∧ Blk w' C [str (candS s), .int .i64 0, .int .i64 0, .bool (Lib.hasPrefix (candR s) [36]), .bool (Lib.hasPrefix (cand2 s) [36])] 98 ∧ k ≤ s.length ∧ s.drop k = cand3 s)
  (fun k => [(0, str s), (2, .pointer (some ⟨R, 0, none⟩)), (3, .bool false), (4, .pointer (some ⟨C, 0, none⟩)), (7, .int .i64 k), (8, .int .i64 ((readCol (spanL capB (cand1 s))).getD 0)), (9, .bool (readCol (spanL capB (cand1 s))).isSome)]) ?_ ?_
 ·refine Sa ?_; refine Lwp (fun h1 => ?_) fun h1 => ?_
  ·have h1 : k < s.length := by simpa using h1
   refine Sa ?_; refine Cwc (fun h2 => ?_) fun h2 => ?_
   ·have h2 : byte s k = 36 := by simpa using h2
    have e1 : 0 < (cand2 s).length ∧ byte (cand2 s) 0 = 36 := ⟨by omega, by rw [← hdk, byte_drop]; exact h2⟩; refine Sa ?_; refine Lwt fun w7 hc7 hC7 => ?_; replace hR := hR.chg hc7 (by simp; omega); replace hx := hx.step hc7 (by simp; omega); refine Sa ?_; refine QW.head (k + 1) ⟨hx, hR, ?_, by omega, ?_⟩ Sub7
    ·rw [pre36 (cand2 s), decide_eq_true e1]; exact hC7
    ·rw [cand3, trim36, if_pos e1, ← hdk, List.drop_drop]
   ·have h2 : byte s k ≠ 36 := by simpa using h2
    have e1 : ¬ (0 < (cand2 s).length ∧ byte (cand2 s) 0 = 36) := by
     rintro ⟨_, h⟩; rw [← hdk, byte_drop] at h; exact h2 h
    refine Sa ?_; refine QW.head k ⟨hx, hR, ?_, hk, ?_⟩ Sub7
    ·rw [pre36 (cand2 s), decide_eq_false e1]; exact hC
    ·rw [cand3, trim36, if_neg e1, hdk]
  ·have h1 : k = s.length := by simp at h1; omega
   have e1 : ¬ (0 < (cand2 s).length ∧ byte (cand2 s) 0 = 36) := by
    rintro ⟨h, _⟩; omega
   refine Sa ?_; refine QW.head k ⟨hx, hR, ?_, hk, ?_⟩ Sub7
   ·rw [pre36 (cand2 s), decide_eq_false e1]; exact hC
   ·rw [cand3, trim36, if_neg e1, hdk]
 clear hx hR hC hak hk hck hdk hl2 hx6 k ha had a; rintro k w7 ⟨hx, hR, hC, hk, hdk⟩; have hl3 : (cand3 s).length = s.length - k := by rw [← hdk]; simp
 apply CW.seq; apply CW.region; refine Sl ?_; apply LW.nil; apply QW.then_n; apply CW.seq; apply CW.seq; apply CW.region; refine Sl ?_; apply LW.nil; apply QW.then_n; refine CW.cut (ι := Unit) (fun _ w' => Ext w w' ∧ Blk w' R (refL refZ) 98 ∧ Blk w' C [str (candS s), .int .i64 0, .int .i64 0, .bool (Lib.hasPrefix (candR s) [36]), .bool (Lib.hasPrefix (cand2 s) [36])] 98 ∧ 0 ≤ numT 0 ((cand3 s).take 4) ∧ numT 0 ((cand3 s).take 4) ≤ 10000)
  (fun _ => [(0, str s), (2, .pointer (some ⟨R, 0, none⟩)), (3, .bool false), (4, .pointer (some ⟨C, 0, none⟩)), (8, .int .i64 ((readCol (spanL capB (cand1 s))).getD 0)), (9, .bool (readCol (spanL capB (cand1 s))).isSome), (10, .int .i64 (numT 0 ((cand3 s).take 4)))]) ?_ ?_
 ·refine Sa ?_; refine CW.loop (ι := Nat) (fun i w' => i ≤ 4 ∧ k + i ≤ s.length ∧ Ext w w' ∧ Blk w' R (refL refZ) 98 ∧ Blk w' C [str (candS s), .int .i64 0, .int .i64 0, .bool (Lib.hasPrefix (candR s) [36]), .bool (Lib.hasPrefix (cand2 s) [36])] 98 ∧ ∀ j, j < i → digB (byte (cand3 s) j) = true)
   (fun i => [(0, str s), (2, .pointer (some ⟨R, 0, none⟩)), (3, .bool false), (4, .pointer (some ⟨C, 0, none⟩)), (7, .int .i64 k), (8, .int .i64 ((readCol (spanL capB (cand1 s))).getD 0)), (9, .bool (readCol (spanL capB (cand1 s))).isSome), (10, .int .i64 (numT 0 ((cand3 s).take i))), (11, .int .i64 ((k + i : Nat) : Int))]) (fun i => 4 - i) 0 ⟨by omega, hk, hx, hR, hC, by omega⟩ Sub9 ?_
  clear hx hR hC; rintro i w8 ⟨hi, hki, hx, hR, hC, hall⟩; have hnb := num_bound ((cand3 s).take i) (fun j hj => by
   have hji : j < i := by simp at hj; omega
   have hjl : j < (cand3 s).length := by omega
   have := hall j hji; have e : byte ((cand3 s).take i) j = byte (cand3 s) j := by
    unfold byte; rw [List.getD_eq_getElem?_getD, List.getD_eq_getElem?_getD, List.getElem?_take, if_pos hji]
   rw [e]; exact this)
  have hnl : ((cand3 s).take i).length = i := by simp; omega
  rw [hnl] at hnb; have hpw : (10 : Int) ^ i ≤ 10000 := by
   have : i = 0 ∨ i = 1 ∨ i = 2 ∨ i = 3 ∨ i = 4 := by omega
   rcases this with rfl | rfl | rfl | rfl | rfl <;> decide
  have fin : (k + i = s.length ∨ i = 4) → (cand3 s).take i = (cand3 s).take 4 := fun h => by
   rcases h with h | h
   ·rw [List.take_of_length_le (by omega), List.take_of_length_le (by omega)]
   ·rw [h]
  refine Sa ?_; refine Lwp (fun h1 => ?_) fun h1 => ?_
  ·have h1 : k + i < s.length := by simp at h1; omega
   refine Sa ?_; refine Cwc (fun h2 => ?_) fun h2 => ?_
   ·have h2 : i < 4 := by simp at h2; omega
    refine Sa ?_; refine Lc0 rfl rfl (rdigit_ret _ _) ?_; rintro v w9 ⟨rfl, hx9⟩; replace hR := hR.ext hx9; replace hC := hC.ext hx9; replace hx := hx.trans hx9; have hbi : byte (cand3 s) i = byte s (k + i) := by rw [← hdk, byte_drop]
    have hbl := byte_lt s (k + i); refine Sa ?_; refine Cwc (fun h3 => ?_) fun h3 => ?_
    ·have h3 : digB (byte (cand3 s) i) = false := by
      have h3 : (!digB (byte s (k + i))) = true := h3; rw [hbi]; simpa using h3
     refine Sa ?_; refine Lws fun w10 hc10 hR10 => ?_; refine Sa ?_; refine QW.body_ct Tryz.results133 rfl hR10 rfl rfl rfl rfl ⟨?_, hx.step hc10 (by simp; omega)⟩; rw [no_at (not_digit (by omega) h3)]; rfl
    ·have h3 : digB (byte (cand3 s) i) = true := by
      have h3 : (!digB (byte s (k + i))) = false := h3; rw [hbi]; simpa using h3
     have h4 : 48 ≤ byte s (k + i) ∧ byte s (k + i) ≤ 57 := by rw [hbi] at h3; simpa [digB] using h3
     have e4 : byte s ((k + i : Nat) : Int).toNat = byte s (k + i) := rfl; refine Sa ?_; have hil : i < (cand3 s).length := by omega
     have e5 : numT 0 ((cand3 s).take (i + 1)) = 10 * numT 0 ((cand3 s).take i) + (byte s (k + i) - 48) := by
      rw [take_snoc' hil, numT_snoc, ← byte_eq hil, hbi]
     refine QW.again (i + 1) ⟨by omega, by omega, hx, hR, hC, ?_⟩ (Sub.cons rfl (Sub.cons rfl (Sub.cons rfl (Sub.cons rfl (Sub.cons rfl (Sub.cons rfl (Sub.cons rfl (Sub.cons (by rw [e5]; exact rfl) (Sub.cons rfl Sub.nil))))))))) (by omega); intro j hj; by_cases hjk : j = i
     ·subst hjk; exact h3
     ·exact hall j (by omega)
   ·have h2 : i = 4 := by simp at h2; omega
    subst h2; refine Sa ?_; exact QW.head () ⟨hx, hR, hC, hnb.1, by omega⟩ Sub7
  ·have h1 : k + i = s.length := by simp at h1; omega
   have e6 := fin (Or.inl h1); rw [e6] at hnb; refine Sa ?_; refine QW.head () ⟨hx, hR, hC, hnb.1, by omega⟩ (Sub.cons rfl (Sub.cons rfl (Sub.cons rfl (Sub.cons rfl (Sub.cons rfl (Sub.cons rfl (Sub.cons (by rw [← e6]; exact rfl) Sub.nil)))))))
 clear hx hR hC hk hdk hl3 k; rintro _ w8 ⟨hx, hR, hC, hn0, hn1⟩; have hl6 : (candS s).length ≤ 1000 := by
  unfold candS; split
  ·exact Nat.le_trans (cut_len1 s [33]) hs
  ·simp
 refine Sa ?_; refine Lwt fun w9 hc9 hC => ?_; replace hR := hR.chg hc9 (by simp; omega); replace hx := hx.step hc9 (by simp; omega); refine Sa ?_; refine Lwt fun w10 hc10 hC => ?_; replace hR := hR.chg hc10 (by simp; omega); replace hx := hx.step hc10 (by simp; omega); replace hC : Blk w10 C (refL (rcand s)) 98 := hC; have bad : (mayB (rcand s) = false ∨ textT (rcand s) ≠ s ∨ (readCol (spanL capB (cand1 s))).isSome = false) → okRead s = false := fun h => read_no fun r hr e => by
  obtain ⟨e1, e2⟩ := cand_is hr e; rcases h with h | h | h
  ·rw [e1, hr] at h; cases h
  ·rw [e1, textT, if_pos hr] at h; exact h e
  ·rw [e2] at h; cases h
 refine Sa ?_
 cases hrc : (readCol (spanL capB (cand1 s))).isSome with
 | false =>
  have hbad := bad (Or.inr (Or.inr hrc)); refine Sa ?_; refine Lws fun w20 hc20 hR20 => ?_; refine Sa ?_; refine QW.body_ct Tryz.results133 rfl hR20 rfl rfl rfl rfl ⟨?_, hx.step hc20 (by simp; omega)⟩; rw [no_at hbad]
  rfl
 | true =>
  refine Sa ?_; refine Lc0 rfl rfl (rMay_ret (rcand s) (Nat.le_trans hl6 (by omega)) w10) ?_; rintro v w11 ⟨rfl, hx11⟩; replace hR := hR.ext hx11; replace hC := hC.ext hx11; replace hx := hx.trans hx11
  cases hm : mayB (rcand s) with
  | false =>
   have hbad := bad (Or.inl hm); refine Sa ?_; refine Lws fun w20 hc20 hR20 => ?_; refine Sa ?_; refine QW.body_ct Tryz.results133 rfl hR20 rfl rfl rfl rfl ⟨?_, hx.step hc20 (by simp; omega)⟩; rw [no_at hbad]
   rfl
  | true =>
   refine Sa ?_; refine Lc0 rfl rfl (RefText_ret (rcand s) hl6 w11) ?_; rintro v w12 ⟨rfl, hx12⟩; replace hR := hR.ext hx12; replace hC := hC.ext hx12; replace hx := hx.trans hx12; refine Sa ?_; refine Cwc (fun h1 => ?_) fun h1 => ?_
   ·have h1 : textT (rcand s) ≠ s := by simpa using h1
    have hbad := bad (Or.inr (Or.inl h1)); refine Sa ?_; refine Lws fun w20 hc20 hR20 => ?_; refine Sa ?_; refine QW.body_ct Tryz.results133 rfl hR20 rfl rfl rfl rfl ⟨?_, hx.step hc20 (by simp; omega)⟩; rw [no_at hbad]; rfl
   ·have h1 : textT (rcand s) = s := by simpa using h1
    refine Sa ?_; refine Lws fun w20 hc20 hR20 => ?_; refine Sa ?_; refine QW.body_ct Tryz.results133 rfl hR20 rfl rfl rfl rfl ⟨?_, hx.step hc20 (by simp; omega)⟩; rw [textT, if_pos hm] at h1; obtain ⟨e1, e2⟩ := read_text hm; rw [h1] at e1 e2; rw [readV, if_pos e1, e2]; rfl
def begB (c : Int) : Bool := capB c || (decide (97 ≤ c) && decide (c ≤ 122)) || decide (c = 36)
def wiB (c : Int) : Bool := begB c || digB c || decide (c = 33)
def spB (c : Int) : Bool := decide (c = 32)
def cdB (c : Int) : Bool := capB c || digB c
def fnB (l : List UInt8) : Bool := decide (l ≠ []) && decide (l.length ≤ 12) && capB (byte l 0) && decide (∀ j, j < l.length → cdB (byte l j) = true)
theorem fnB_nil : fnB [] = false := rfl
theorem fnB_long {l : List UInt8} (h : 12 < l.length) : fnB l = false := by simp [fnB]; intros; omega
theorem fnB_first {l : List UInt8} (h : capB (byte l 0) = false) : fnB l = false := by simp [fnB, h]
theorem fnB_at {l : List UInt8} {k : Nat} (hk : k < l.length) (h : cdB (byte l k) = false) : fnB l = false := by
 simp only [fnB, Bool.and_eq_false_iff, decide_eq_false_iff_not]; exact Or.inr fun hh => by rw [hh k hk] at h; cases h
theorem fnB_true {l : List UInt8} (h0 : l ≠ []) (h1 : l.length ≤ 12) (h2 : capB (byte l 0) = true) (h3 : ∀ j, j < l.length → cdB (byte l j) = true) : fnB l = true := by
 simp [fnB, h0, h1, h2]; exact h3
structure TokD where
 kind : Int
 text : List UInt8
 num : Int
 ref : RefD
 at_ : Int
deriving DecidableEq
def tokL (x : TokD) : List Value := [.int .i64 x.kind, str x.text, .int .i64 x.num, str x.ref.sheet, .int .i64 x.ref.col, .int .i64 x.ref.row, .bool x.ref.ac, .bool x.ref.ar, .int .i64 x.at_]
def refN : RefD := ⟨[], 0, 0, false, false⟩
theorem byte_drop' (l : List UInt8) (a k : Nat) : byte (l.drop a) k = byte l (a + k) := by
 simp [byte, List.getD_eq_getElem?_getD, List.getElem?_drop]
theorem cut_mid {s : List UInt8} {a k : Nat} : cut s a k = (s.take k).drop a := by rw [cut, List.drop_take]
theorem span_from (p : Int → Bool) (s : List UInt8) (a k : Nat) (ha : a ≤ k) (hk : k ≤ s.length) (hall : ∀ j, a ≤ j → j < k → p (byte s j) = true) (h : k = s.length ∨ p (byte s k) = false) :
  (s.take k).drop a = spanL p (s.drop a) ∧ k = a + (spanL p (s.drop a)).length := by
 have := span_at p (s.drop a) (k - a) (by simp; omega) (fun j hj => by rw [byte_drop']; exact hall _ (by omega) (by omega)) (by
  rcases h with h | h
  ·exact Or.inl (by simp; omega)
  ·exact Or.inr (by rw [byte_drop', show a + (k - a) = k by omega]; exact h))
 have e : (s.take k).drop a = (s.drop a).take (k - a) := by rw [List.drop_take]
 have h2 := congrArg List.length this.1; rw [e, this.1]; refine ⟨rfl, ?_⟩; rw [← h2]; simp; omega
def numO (l : List UInt8) : Option (TokD × Nat) :=
 let sp := spanL digB l
 match Lib.atoiAll sp with
 | .ok z => if byte sp 0 ≠ 48 ∨ sp.length = 1 then some (⟨1, [], z, refN, 0⟩, sp.length) else none
 | _ => none
def wordO (l : List UInt8) : Option (TokD × Nat) :=
 let sp := spanL wiB l
 if okRead sp then some (⟨4, [], 0, candV sp, 0⟩, sp.length) else if fnB sp then some (⟨3, sp, 0, refN, 0⟩, sp.length) else none
def deadT : List UInt8 := [35, 82, 69, 70, 33]
def signsT : List (List UInt8) := [[60, 62], [60, 61], [62, 61], [43], [45], [42], [47], [38], [61], [60], [62], [40], [41], [44], [58]]
def signO (l : List UInt8) : Option (TokD × Nat) :=
 if Lib.hasPrefix l deadT then some (⟨6, [], 0, refN, 0⟩, 5) else (signsT.find? fun s => Lib.hasPrefix l s).map fun s => (⟨5, s, 0, refN, 0⟩, s.length)
def scanT : List UInt8 → Option (List UInt8 × Nat)
 | [] => none
 | [c] => if c = 34 then some ([], 1) else none
 | c :: d :: r =>
  if c = 34 then (if d = 34 then (scanT r).map fun x => (34 :: x.1, x.2 + 2) else some ([], 1))
  else if c < 32 then none else (scanT (d :: r)).map fun x => (c :: x.1, x.2 + 1)
def textO (l : List UInt8) : Option (TokD × Nat) := (scanT (l.drop 1)).map fun x => (⟨2, x.1, 0, refN, 0⟩, x.2 + 1)
def oneO (l : List UInt8) : Option (TokD × Nat) :=
 if digB (byte l 0) then numO l else if byte l 0 = 34 then textO l else if begB (byte l 0) then wordO l else signO l
theorem numO_ok {l : List UInt8} {z : Int} (h : Lib.atoiAll (spanL digB l) = .ok z) : numO l = if byte (spanL digB l) 0 ≠ 48 ∨ (spanL digB l).length = 1 then some (⟨1, [], z, refN, 0⟩, (spanL digB l).length) else none := by
 simp only [numO, h]
theorem numO_bad {l : List UInt8} (h : ∀ z, Lib.atoiAll (spanL digB l) ≠ .ok z) : numO l = none := by
 unfold numO
 cases e : Lib.atoiAll (spanL digB l) with
 | ok z => exact absurd e (h z)
 | _ => simp only [e]
theorem find_first {α : Type} (p : α → Bool) (d : α) : ∀ (l : List α) (k : Nat), k < l.length → (∀ j, j < k → p (l.getD j d) = false) → p (l.getD k d) = true → l.find? p = some (l.getD k d)
 | [], k, hk, _, _ => by simp at hk
 | x :: r, 0, _, _, h => by
  have h : p x = true := h
  simp [List.find?, h]
 | x :: r, k + 1, hk, hn, h => by
  have h0 : p x = false := hn 0 (by omega); have ih := find_first p d r k (by simpa using hk) (fun j hj => hn (j + 1) (by omega)) h; simp only [List.find?, h0]; exact ih
theorem find_none {α : Type} (p : α → Bool) (d : α) : ∀ (l : List α), (∀ j, j < l.length → p (l.getD j d) = false) → l.find? p = none
 | [], _ => rfl
 | x :: r, hn => by
  have h0 : p x = false := hn 0 (by simp); simp only [List.find?, h0]; exact find_none p d r (fun j hj => hn (j + 1) (by simp; omega))
theorem pre_le {s p : List UInt8} (h : Lib.hasPrefix s p = true) : p.length ≤ s.length := (List.isPrefixOf_iff_prefix.1 h).length_le
theorem span_pos {p : Int → Bool} {l : List UInt8} (hl : 0 < l.length) (h : p (byte l 0) = true) : 0 < (spanL p l).length ∧ byte (spanL p l) 0 = byte l 0 := by
 cases l with
 | nil => simp at hl
 | cons c r =>
  have hc : p (c.toNat : Int) = true := h; simp [spanL, hc]; rfl
theorem span_le (p : Int → Bool) (l : List UInt8) : (spanL p l).length ≤ l.length := (List.takeWhile_prefix _).length_le
theorem drop_at {s : List UInt8} {i : Nat} (h : i < s.length) : ∃ c, s.drop i = c :: s.drop (i + 1) ∧ byte s i = (c.toNat : Int) :=
 ⟨s[i], List.drop_eq_getElem_cons h, byte_eq h⟩
theorem u8_34 {c : UInt8} (h : (c.toNat : Int) = 34) : c = 34 := UInt8.toNat_inj.1 (by simpa using (by omega : c.toNat = 34))
theorem u8_ne34 {c : UInt8} (h : (c.toNat : Int) ≠ 34) : c ≠ 34 := by
 rintro rfl; exact h rfl
theorem u8_lt32 {c : UInt8} (h : (c.toNat : Int) < 32) : c < 32 := UInt8.lt_iff_toNat_lt.2 (by simpa using (by omega : c.toNat < 32))
theorem u8_ge32 {c : UInt8} (h : ¬ (c.toNat : Int) < 32) : ¬ c < 32 := fun hh => h (by have := UInt8.lt_iff_toNat_lt.1 hh; simp at this; omega)
theorem scan_end {s : List UInt8} {i : Nat} (h : s.length ≤ i) : scanT (s.drop i) = none := by
 rw [List.drop_eq_nil_of_le h]; rfl
theorem scan_two {s : List UInt8} {i : Nat} (h : i + 1 < s.length) (h1 : byte s i = 34) (h2 : byte s (i + 1) = 34) : scanT (s.drop i) = (scanT (s.drop (i + 2))).map fun x => (34 :: x.1, x.2 + 2) := by
 obtain ⟨c, e, hc⟩ := drop_at (show i < s.length by omega); obtain ⟨d, e2, hd⟩ := drop_at h; rw [e, e2]; obtain rfl := u8_34 (hc.symm.trans h1); obtain rfl := u8_34 (hd.symm.trans h2); simp [scanT]
theorem scan_quote {s : List UInt8} {i : Nat} (h : i < s.length) (h1 : byte s i = 34) (h2 : i + 1 < s.length → byte s (i + 1) ≠ 34) : scanT (s.drop i) = some ([], 1) := by
 obtain ⟨c, e, hc⟩ := drop_at h; rw [e]; obtain rfl := u8_34 (hc.symm.trans h1); by_cases hl : i + 1 < s.length
 ·obtain ⟨d, e2, hd⟩ := drop_at hl; rw [e2]; have := u8_ne34 (c := d) (by rw [← hd]; exact h2 hl); simp [scanT, this]
 ·rw [List.drop_eq_nil_of_le (by omega)]; simp [scanT]
theorem scan_low {s : List UInt8} {i : Nat} (h : i < s.length) (h1 : byte s i < 32) : scanT (s.drop i) = none := by
 obtain ⟨c, e, hc⟩ := drop_at h; rw [e]; have h3 := u8_lt32 (c := c) (by rw [← hc]; exact h1); have h4 := u8_ne34 (c := c) (by omega)
 cases s.drop (i + 1) with
 | nil => simp [scanT, h4]
 | cons d r => simp [scanT, h4, h3]
theorem scan_go {s : List UInt8} {i : Nat} (h : i < s.length) (h1 : byte s i ≠ 34) (h2 : ¬ byte s i < 32) : scanT (s.drop i) = (scanT (s.drop (i + 1))).map fun x => (ch (byte s i) :: x.1, x.2 + 1) := by
 obtain ⟨c, e, hc⟩ := drop_at h; rw [e]; have h3 := u8_ge32 (c := c) (by rw [← hc]; exact h2); have h4 := u8_ne34 (c := c) (by rw [← hc]; exact h1); have h5 : ch (byte s i) = c := by rw [hc]; simp [ch]
 rw [h5]
 cases s.drop (i + 1) with
 | nil => simp [scanT, h4]
 | cons d r => simp [scanT, h4, h3]
def ScanAt (s : List UInt8) (a i : Nat) (out : List UInt8) : Prop := a ≤ i ∧ scanT (s.drop a) = (scanT (s.drop i)).map fun x => (out ++ x.1, x.2 + (i - a))
theorem ScanAt.start (s : List UInt8) (a : Nat) : ScanAt s a a [] := ⟨Nat.le_refl _, by simp⟩
theorem ScanAt.go {s : List UInt8} {a i j : Nat} {out : List UInt8} {c : UInt8} (h : ScanAt s a i out) (hj : i ≤ j) (e : scanT (s.drop i) = (scanT (s.drop j)).map fun x => (c :: x.1, x.2 + (j - i))) : ScanAt s a j (out ++ [c]) := by
 refine ⟨by have := h.1; omega, ?_⟩; rw [h.2, e, Option.map_map]
 congr 1
 funext x
 have := h.1; simp; omega
def lexF (l : List UInt8) (a : Nat) : Option (List TokD) :=
 match _h : l.drop (spanL spB l).length with
 | [] => some [⟨0, [], 0, refN, ((a + (spanL spB l).length : Nat) : Int)⟩]
 | c :: r => match oneO (c :: r) with
  | none => none
  | some (t, k) => if _hk : k = 0 then none else (lexF ((c :: r).drop k) (a + (spanL spB l).length + k)).map ({ t with at_ := ((a + (spanL spB l).length : Nat) : Int) } :: ·)
termination_by l.length
decreasing_by
 have := congrArg List.length _h; simp at this; simp; omega
def lexT (s : List UInt8) : Option (List TokD) := lexF s 0
theorem lexF_end {l : List UInt8} {a : Nat} (h : l.drop (spanL spB l).length = []) : lexF l a = some [⟨0, [], 0, refN, ((a + (spanL spB l).length : Nat) : Int)⟩] := by
 rw [lexF]
 split
 ·rfl
 ·rename_i c r e; rw [h] at e; cases e
theorem lexF_bad {l l' : List UInt8} {a : Nat} (h : l.drop (spanL spB l).length = l') (hl : l' ≠ []) (h1 : oneO l' = none) : lexF l a = none := by
 rw [lexF]
 split
 ·rename_i e; rw [h] at e; exact absurd e hl
 ·rename_i c r e; rw [h] at e; subst e; rw [h1]
theorem lexF_go {l l' : List UInt8} {a k : Nat} {t : TokD} (h : l.drop (spanL spB l).length = l') (hl : l' ≠ []) (h1 : oneO l' = some (t, k)) (hk : 0 < k) :
  lexF l a = (lexF (l'.drop k) (a + (spanL spB l).length + k)).map ({ t with at_ := ((a + (spanL spB l).length : Nat) : Int) } :: ·) := by
 rw [lexF]
 split
 ·rename_i e; rw [h] at e; exact absurd e hl
 ·rename_i c r e; rw [h] at e; subst e; rw [h1]; simp only; rw [dif_neg (by omega)]
theorem numO_len {l : List UInt8} {t : TokD} {k : Nat} (h : numO l = some (t, k)) : k = (spanL digB l).length ∧ t.kind = 1 := by
 unfold numO at h; simp only at h
 split at h
 ·split at h
  ·simp only [Option.some.injEq, Prod.mk.injEq] at h; exact ⟨h.2.symm, by rw [← h.1]⟩
  ·cases h
 ·cases h
theorem okRead_nil : okRead [] = false := by decide +kernel
theorem wordO_len {l : List UInt8} {t : TokD} {k : Nat} (h : wordO l = some (t, k)) : k = (spanL wiB l).length ∧ 0 < k := by
 unfold wordO at h; simp only at h
 split at h
 ·rename_i hr; simp only [Option.some.injEq, Prod.mk.injEq] at h; refine ⟨h.2.symm, ?_⟩; rw [← h.2]
  cases e : spanL wiB l with
  | nil => rw [e, okRead_nil] at hr; cases hr
  | cons _ _ => simp
 ·split at h
  ·rename_i hr; simp only [Option.some.injEq, Prod.mk.injEq] at h; refine ⟨h.2.symm, ?_⟩; rw [← h.2]
   cases e : spanL wiB l with
   | nil => rw [e, fnB_nil] at hr; cases hr
   | cons _ _ => simp
  ·cases h
theorem textO_pos {l : List UInt8} {t : TokD} {k : Nat} (h : textO l = some (t, k)) : 0 < k := by
 unfold textO at h
 cases e : scanT (l.drop 1) with
 | none => rw [e] at h; cases h
 | some x =>
  rw [e] at h; simp only [Option.map_some, Option.some.injEq, Prod.mk.injEq] at h; omega
theorem signO_pos {l : List UInt8} {t : TokD} {k : Nat} (h : signO l = some (t, k)) : 0 < k := by
 unfold signO at h
 split at h
 ·simp only [Option.some.injEq, Prod.mk.injEq] at h; omega
 ·cases e : signsT.find? fun s => Lib.hasPrefix l s with
  | none => rw [e] at h; cases h
  | some x =>
   rw [e] at h; simp only [Option.map_some, Option.some.injEq, Prod.mk.injEq] at h; have hm := List.mem_of_find?_eq_some e; have : ∀ s ∈ signsT, 0 < s.length := by decide
   have := this x hm; omega
theorem oneO_pos {l : List UInt8} (hl : l ≠ []) {t : TokD} {k : Nat} (h : oneO l = some (t, k)) : 0 < k := by
 unfold oneO at h
 split at h
 ·rename_i hd; rw [(numO_len h).1]; exact (span_pos (List.length_pos_iff.2 hl) hd).1
 ·split at h
  ·exact textO_pos h
  ·split at h
   ·exact (wordO_len h).2
   ·exact signO_pos h
theorem lexF_congr {l m : List UInt8} {a b : Nat} (h : l.drop (spanL spB l).length = m.drop (spanL spB m).length) (ha : a + (spanL spB l).length = b + (spanL spB m).length) : lexF l a = lexF m b := by
 cases e : m.drop (spanL spB m).length with
 | nil => rw [lexF_end (h.trans e), lexF_end e, ha]
 | cons c r =>
  cases ho : oneO (c :: r) with
  | none => rw [lexF_bad (h.trans e) (by simp) ho, lexF_bad e (by simp) ho]
  | some x =>
   obtain ⟨t, k⟩ := x; have hk := oneO_pos (by simp) ho; rw [lexF_go (h.trans e) (by simp) ho hk, lexF_go e (by simp) ho hk, ha]
theorem scan_le : ∀ (l : List UInt8) {x : List UInt8 × Nat}, scanT l = some x → x.2 ≤ l.length
 | [], x, h => by simp [scanT] at h
 | [c], x, h => by
  simp only [scanT] at h
  split at h
  ·simp only [Option.some.injEq] at h; subst h; simp
  ·cases h
 | c :: d :: r, x, h => by
  simp only [scanT] at h
  split at h
  ·split at h
   ·cases e : scanT r with
    | none => rw [e] at h; cases h
    | some y =>
     rw [e] at h; simp only [Option.map_some, Option.some.injEq] at h; have := scan_le r e; subst h; simp; omega
   ·simp only [Option.some.injEq] at h; subst h; simp
  ·split at h
   ·cases h
   ·cases e : scanT (d :: r) with
    | none => rw [e] at h; cases h
    | some y =>
     rw [e] at h; simp only [Option.map_some, Option.some.injEq] at h; have := scan_le (d :: r) e; subst h; simp at this ⊢; omega
theorem oneO_le {l : List UInt8} {t : TokD} {k : Nat} (h : oneO l = some (t, k)) : k ≤ l.length := by
 unfold oneO at h
 split at h
 ·rw [(numO_len h).1]; exact span_le _ _
 ·split at h
  ·unfold textO at h
   cases e : scanT (l.drop 1) with
   | none => rw [e] at h; cases h
   | some x =>
    rw [e] at h; simp only [Option.map_some, Option.some.injEq, Prod.mk.injEq] at h; have := scan_le _ e
    cases l with
    | nil => cases e
    | cons c r =>
     simp at this ⊢; omega
  ·split at h
   ·rw [(wordO_len h).1]; exact span_le _ _
   ·unfold signO at h
    split at h
    ·rename_i hp; simp only [Option.some.injEq, Prod.mk.injEq] at h; have := pre_le hp; have h5 : deadT.length = 5 := rfl; omega
    ·cases e : signsT.find? fun s => Lib.hasPrefix l s with
     | none => rw [e] at h; cases h
     | some x =>
      rw [e] at h; simp only [Option.map_some, Option.some.injEq, Prod.mk.injEq] at h; have := pre_le (List.find?_some e); omega
theorem lexF_len : ∀ (n : Nat) (l : List UInt8) (a : Nat) {out : List TokD}, l.length ≤ n → lexF l a = some out → out.length ≤ l.length + 1
 | n, l, a, out, hn, h => by
  cases e : l.drop (spanL spB l).length with
  | nil =>
   rw [lexF_end e] at h; simp only [Option.some.injEq] at h
   subst h; simp
  | cons c r =>
   have hl := congrArg List.length e; simp at hl
   cases ho : oneO (c :: r) with
   | none => rw [lexF_bad e (by simp) ho] at h; cases h
   | some x =>
    obtain ⟨t, k⟩ := x; have hk := oneO_pos (by simp) ho; have hk2 := oneO_le ho; rw [lexF_go e (by simp) ho hk] at h
    cases hr : lexF ((c :: r).drop k) (a + (spanL spB l).length + k) with
    | none => rw [hr] at h; cases h
    | some y =>
     rw [hr] at h; simp only [Option.map_some, Option.some.injEq] at h; subst h
     match n with
     | 0 => omega
     | n + 1 =>
      have hd : ((c :: r).drop k).length = r.length + 1 - k := by simp
      have := lexF_len n ((c :: r).drop k) _ (by rw [hd]; omega) hr; simp only [List.length_cons]; rw [hd] at this; omega
theorem lexT_len {s : List UInt8} {l : List TokD} (h : lexT s = some l) : l.length ≤ s.length + 1 := lexF_len _ s 0 (Nat.le_refl _) h
def LexAt (s : List UInt8) (a : Nat) (out : List TokD) : Prop := lexT s = (lexF (s.drop a) a).map (out ++ ·)
theorem LexAt.start (s : List UInt8) : LexAt s 0 [] := by simp [LexAt, lexT]
theorem LexAt.end {s : List UInt8} {a : Nat} {out : List TokD} (h : LexAt s a out) (he : a + (spanL spB (s.drop a)).length = s.length) : lexT s = some (out ++ [⟨0, [], 0, refN, (s.length : Int)⟩]) := by
 rw [h, lexF_end (by rw [List.drop_drop, he, List.drop_length]), he]; rfl
theorem LexAt.bad {s : List UInt8} {a c : Nat} {out : List TokD} (h : LexAt s a out) (he : a + (spanL spB (s.drop a)).length = c) (hc : c < s.length) (h1 : oneO (s.drop c) = none) : lexT s = none := by
 rw [h, lexF_bad (l' := s.drop c) (by rw [List.drop_drop, he]) (by intro hn; have := congrArg List.length hn; simp at this; omega) h1]; rfl
theorem LexAt.go {s : List UInt8} {a c k : Nat} {out : List TokD} {t : TokD} (h : LexAt s a out) (he : a + (spanL spB (s.drop a)).length = c) (hc : c < s.length) (h1 : oneO (s.drop c) = some (t, k)) : LexAt s (c + k) (out ++ [{ t with at_ := (c : Int) }]) := by
 have hne : s.drop c ≠ [] := by intro hn; have := congrArg List.length hn; simp at this; omega
 unfold LexAt; rw [h, lexF_go (l' := s.drop c) (by rw [List.drop_drop, he]) hne h1 (oneO_pos hne h1), he, List.drop_drop, Option.map_map]
 congr 1
 funext x
 simp
theorem LexAt.blank {s : List UInt8} {a : Nat} {out : List TokD} (h : LexAt s a out) (ha : a < s.length) (hb : byte s a = 32) : LexAt s (a + 1) out := by
 unfold LexAt; rw [h]; have e : (spanL spB (s.drop a)).length = (spanL spB (s.drop (a + 1))).length + 1 := by
  obtain ⟨c, e, hc⟩ := drop_at ha; rw [e]; have : spB (c.toNat : Int) = true := by simp [spB]; omega
  simp [spanL, this]
 have e2 : (s.drop a).drop (spanL spB (s.drop a)).length = (s.drop (a + 1)).drop (spanL spB (s.drop (a + 1))).length := by
  rw [List.drop_drop, List.drop_drop, e]
  congr 1
  omega
 have e3 : a + (spanL spB (s.drop a)).length = a + 1 + (spanL spB (s.drop (a + 1))).length := by omega
 rw [lexF_congr e2 e3]
theorem numT_cons (acc : Int) (c : UInt8) (r : List UInt8) : numT acc (c :: r) = numT (10 * acc + ((c.toNat : Int) - 48)) r := rfl
theorem numT_mono : ∀ (l : List UInt8) (acc : Int), 0 ≤ acc → (∀ c ∈ l, 48 ≤ c.toNat) → acc ≤ numT acc l
 | [], acc, _, _ => Int.le_refl _
 | c :: r, acc, h, hd => by
  rw [numT_cons]; have hc := hd c (by simp); have := numT_mono r (10 * acc + ((c.toNat : Int) - 48)) (by omega) (fun x hx => hd x (by simp [hx])); omega
theorem parse_digits : ∀ (l : List UInt8) (acc : Nat), acc < 18446744073709551616 → (∀ c ∈ l, 48 ≤ c.toNat ∧ c.toNat ≤ 57) →
  Lib.parseUint10 acc l = if numT acc l < 18446744073709551616 then .ok (numT acc l).toNat else .range
 | [], acc, h, _ => by
  have : numT acc [] = acc := rfl; simp only [Lib.parseUint10, this]; rw [if_pos (by omega)]
  rfl
 | c :: r, acc, h, hd => by
  have hc := hd c (by simp); have hr : ∀ x ∈ r, 48 ≤ x.toNat ∧ x.toNat ≤ 57 := fun x hx => hd x (by simp [hx]); have e : (10 * (acc : Int) + ((c.toNat : Int) - 48)) = ((acc * 10 + (c.toNat - 48) : Nat) : Int) := by omega
  have hm := numT_mono r (10 * (acc : Int) + ((c.toNat : Int) - 48)) (by omega) (fun x hx => (hr x hx).1); simp only [Lib.parseUint10]; rw [if_pos hc, numT_cons]
  split
  ·rw [if_neg (by omega)]
  ·split
   ·rw [if_neg (by omega)]
   ·rw [parse_digits r _ (by omega) hr, e]
theorem atoi_digits {l : List UInt8} (h : l ≠ []) (hd : ∀ c ∈ l, digB (c.toNat : Int) = true) : Lib.atoiAll l = if numT 0 l ≤ 9223372036854775807 then .ok (numT 0 l) else .range := by
 have hd' : ∀ c ∈ l, 48 ≤ c.toNat ∧ c.toNat ≤ 57 := fun c hc => by
  have := hd c hc; simp [digB] at this; omega
 have hp := parse_digits l 0 (by omega) hd'; have hm := numT_mono l 0 (by omega) (fun c hc => (hd' c hc).1)
 cases l with
 | nil => exact absurd rfl h
 | cons c r =>
  have hc := hd' c (by simp); rw [Lib.atoiAll_plain c r (by omega) (by omega)]; have e : Lib.parseMag (c :: r) = Lib.parseUint10 0 (c :: r) := by simp [Lib.parseMag]
  rw [e, hp]; simp only [Int.natCast_zero] at *; by_cases h1 : numT 0 (c :: r) < 18446744073709551616
  ·rw [if_pos h1]; simp only [Lib.signless]; by_cases h2 : numT 0 (c :: r) ≤ 9223372036854775807
   ·rw [if_pos h2, if_neg (by omega)]
    congr 1
    omega
   ·rw [if_neg h2, if_pos (by omega)]
  ·rw [if_neg h1, if_neg (by omega)]; rfl
theorem span_all (p : Int → Bool) : ∀ (l : List UInt8), ∀ c ∈ spanL p l, p (c.toNat : Int) = true
 | [], c, hc => by simp [spanL] at hc
 | d :: r, c, hc => by
  have ih := span_all p r; simp only [spanL] at hc ih; cases hd : p (d.toNat : Int)
  ·simp [hd] at hc
  ·simp only [List.takeWhile_cons, hd, if_true, List.mem_cons] at hc; rcases hc with rfl | hc
   ·exact hd
   ·exact ih c hc
theorem numO_is {l : List UInt8} (h : spanL digB l ≠ []) : numO l = if numT 0 (spanL digB l) ≤ 9223372036854775807 ∧ (byte (spanL digB l) 0 ≠ 48 ∨ (spanL digB l).length = 1) then some (⟨1, [], numT 0 (spanL digB l), refN, 0⟩, (spanL digB l).length) else none := by
 have ha := atoi_digits h (span_all digB l); by_cases h1 : numT 0 (spanL digB l) ≤ 9223372036854775807
 ·rw [if_pos h1] at ha; rw [numO_ok ha]; simp only [h1, true_and]
 ·rw [if_neg h1] at ha; rw [numO_bad (by intro z hz; rw [ha] at hz; cases hz), if_neg (by intro hh; exact h1 hh.1)]
theorem ldigit_ret (c : Int) (w : World) : Ret Tryz.prog 139 [.int .u8 c] w (fun v w' => v = .bool (digB c) ∧ Ext w w') := by
 refine Rte Tryz.func139 Tryz.ntmps139 ?_; refine Sa ?_; refine Lwp (fun h1 => ?_) fun h1 => ?_
 all_goals
  refine Sa ?_; refine QW.body1 Tryz.results139 rfl ⟨?_, Chg.refl _ _⟩; simp [digB, h1]
theorem lcapital_ret (c : Int) (w : World) : Ret Tryz.prog 171 [.int .u8 c] w (fun v w' => v = .bool (capB c) ∧ Ext w w') := by
 refine Rte Tryz.func171 Tryz.ntmps171 ?_; refine Sa ?_; refine Lwp (fun h1 => ?_) fun h1 => ?_
 all_goals
  refine Sa ?_; refine QW.body1 Tryz.results171 rfl ⟨?_, Chg.refl _ _⟩; simp [capB, h1]
theorem space_ret (c : Int) (w : World) : Ret Tryz.prog 111 [.int .u8 c] w (fun v w' => v = .bool (spB c) ∧ Ext w w') := by
 refine Rte Tryz.func111 Tryz.ntmps111 ?_; refine Sa ?_; refine QW.body1 Tryz.results111 rfl ⟨rfl, Chg.refl _ _⟩
theorem begins_ret (c : Int) (w : World) : Ret Tryz.prog 142 [.int .u8 c] w (fun v w' => v = .bool (begB c) ∧ Ext w w') := by
 refine Rte Tryz.func142 Tryz.ntmps142 ?_; refine Sa ?_; refine Lc0 rfl rfl (lcapital_ret _ _) ?_; rintro v w' ⟨rfl, hx⟩; refine Sa ?_; refine Lwp (fun h1 => ?_) fun h1 => ?_
 ·refine Sa ?_; refine QW.body1 Tryz.results142 rfl ⟨?_, hx⟩; simp [begB, h1]
 ·refine Sa ?_; refine Lwp (fun h2 => ?_) fun h2 => ?_
  ·refine Sa ?_; refine Lwp (fun h3 => ?_) fun h3 => ?_
   all_goals
    refine Sa ?_; refine QW.body1 Tryz.results142 rfl ⟨?_, hx⟩; simp [begB, h1, h2, h3]
  ·refine Sa ?_; refine QW.body1 Tryz.results142 rfl ⟨?_, hx⟩; simp [begB, h1, h2]
theorem within_ret (c : Int) (w : World) : Ret Tryz.prog 172 [.int .u8 c] w (fun v w' => v = .bool (wiB c) ∧ Ext w w') := by
 refine Rte Tryz.func172 Tryz.ntmps172 ?_; refine Sa ?_; refine Lc0 rfl rfl (begins_ret _ _) ?_; rintro v w1 ⟨rfl, hx⟩; refine Sa ?_; refine Lwp (fun h1 => ?_) fun h1 => ?_
 ·refine Sa ?_; refine QW.body1 Tryz.results172 rfl ⟨?_, hx⟩; simp [wiB, h1]
 ·refine Sa ?_; refine Lc0 rfl rfl (ldigit_ret _ _) ?_; rintro v w2 ⟨rfl, hx2⟩; replace hx := hx.trans hx2; refine Sa ?_; refine Lwp (fun h2 => ?_) fun h2 => ?_
  all_goals
   refine Sa ?_; refine QW.body1 Tryz.results172 rfl ⟨?_, hx⟩; simp [wiB, h1, h2]
theorem lwhile_ret (p : Int → Bool) (f : Nat) (hp : ∀ (c : Int) (w : World), Ret Tryz.prog f [.int .u8 c] w (fun v w' => v = .bool (p c) ∧ Ext w w')) (s : List UInt8) (hs : s.length ≤ 1000000) (a : Nat) (ha : a ≤ s.length) (b : Nat) (w : World) (hB : Blk w b [str s, .int .i64 a] 145) :
  Ret Tryz.prog 110 [.pointer (some ⟨b, 0, none⟩), .func (.func f) #[] #[]] w
  (fun v w' => v = str (spanL p (s.drop a)) ∧ Chg [b] w w' ∧ Blk w' b [str s, .int .i64 ((a + (spanL p (s.drop a)).length : Nat) : Int)] 145) := by
 refine Rte Tryz.func110 Tryz.ntmps110 ?_; refine Sa ?_; refine CW.loop (ι := Nat) (fun k w' => a ≤ k ∧ k ≤ s.length ∧ Ext w w' ∧ ∀ j, a ≤ j → j < k → p (byte s j) = true) (fun k => [(0, .pointer (some ⟨b, 0, none⟩)), (1, .func (.func f) #[] #[]), (5, .int .i64 k)]) (fun k => s.length - k) a ⟨by omega, ha, Chg.refl _ _, by omega⟩ Sub3 ?_; rintro k w1 ⟨hak, hk, hx, hall⟩; replace hB := hB.ext hx; refine Sa ?_; refine Lwp (fun h1 => ?_) fun h1 => ?_
 ·have h1 : k < s.length := by simpa using h1
  refine Sa ?_; refine LW.call (fs := []) (cs := []) rfl rfl rfl (hp _ _) ?_; rintro v w2 ⟨rfl, hx2⟩; replace hB := hB.ext hx2; replace hx := hx.trans hx2; refine Sa ?_; refine Cwc (fun h2 => ?_) fun h2 => ?_
  ·have h2 : p (byte s k) = true := h2; refine Sa ?_; refine QW.again (k + 1) ⟨by omega, by omega, hx, ?_⟩ Sub3 (by omega); intro j hja hj; by_cases hjk : j = k
   ·subst hjk; exact h2
   ·exact hall j hja (by omega)
  ·have h2 : p (byte s k) = false := h2; obtain ⟨e1, e2⟩ := span_from p s a k hak hk hall (Or.inr h2); refine Sa ?_; refine Cwd ?_; refine Sq ?_; refine QL.slice_str (i := a) (j := k) rfl rfl rfl ⟨_, _, rfl, rfl⟩ ⟨_, _, rfl, rfl⟩ hak hk rfl ?_; refine Sq ?_; refine QL.nil fun w4 hx4 => ?_; replace hB := hB.ext hx4; replace hx := hx.trans hx4; refine Sa ?_; refine Lwt fun w3 hc hB2 => ?_; refine Sa ?_; refine QW.body1 Tryz.results110 rfl ⟨?_, hx.chg.same hc, ?_⟩
   ·rw [← e1, cut_mid]
   ·rw [← e2]; exact hB2
 ·have h1 : k = s.length := by simp at h1; omega
  obtain ⟨e1, e2⟩ := span_from p s a k hak hk hall (Or.inl h1); refine Sa ?_; refine Cwd ?_; refine Sq ?_; refine QL.slice_str (i := a) (j := k) rfl rfl rfl ⟨_, _, rfl, rfl⟩ ⟨_, _, rfl, rfl⟩ hak hk rfl ?_; refine Sq ?_; refine QL.nil fun w4 hx4 => ?_; replace hB := hB.ext hx4; replace hx := hx.trans hx4; refine Sa ?_; refine Lwt fun w3 hc hB2 => ?_; refine Sa ?_; refine QW.body1 Tryz.results110 rfl ⟨?_, hx.chg.same hc, ?_⟩
  ·rw [← e1, cut_mid]
  ·rw [← e2]; exact hB2
def TokR (s : List UInt8) (a b : Nat) (w : World) (o : Option (TokD × Nat)) (v : Value) (w' : World) : Prop :=
 ∃ t ok a', v = .tuple #[.agg ⟨tokL t⟩, .bool ok] ∧ Chg [b] w w' ∧ Blk w' b [str s, .int .i64 ((a' : Nat) : Int)] 145 ∧ a' ≤ s.length ∧ a ≤ a' ∧ o = if ok then some (t, a' - a) else none
theorem _root_.Go.E.Chg.fresh {S S' : List Nat} {a b c : World} (h : Chg S a b) (k : Chg S' b c) (hs : ∀ j, j ∈ S' → a.heap.size ≤ j) : Chg S a c :=
 (Chg.trans h k).mono fun j hj hl => by
  rcases List.mem_append.1 hj with hj | hj
  ·exact hj
  ·have := hs j hj; omega
theorem lName_ret (s : List UInt8) (w : World) (hs : s.length ≤ 1000000) : Ret Tryz.prog 174 [str s] w (fun v w' => v = .bool (fnB s) ∧ Ext w w') := by
 refine Rte Tryz.func174 Tryz.ntmps174 ?_; refine Sa ?_; refine Lwp (fun h0 => ?_) fun h0 => ?_
 ·have h0 : s = [] := by simpa using h0
  subst h0; refine Sa ?_; refine QW.body1 Tryz.results174 rfl ⟨rfl, Chg.refl _ _⟩
 have h0 : s ≠ [] := by simpa using h0
 have hp : 0 < s.length := List.length_pos_iff.2 h0; refine Sa ?_; refine Lwp (fun h1 => ?_) fun h1 => ?_
 ·have h1 : 12 < s.length := by simp at h1; omega
  refine Sa ?_; refine QW.body1 Tryz.results174 rfl ⟨by rw [fnB_long h1], Chg.refl _ _⟩
 have h1 : s.length ≤ 12 := by simp at h1; omega
 refine Sa ?_; refine Lc0 rfl rfl (lcapital_ret _ _) ?_; rintro v w1 ⟨rfl, hx⟩; refine Sa ?_; refine Cwc (fun h2 => ?_) fun h2 => ?_
 ·refine Sa ?_; refine QW.body1 Tryz.results174 rfl ⟨?_, hx⟩; rw [fnB_first]
  simpa using h2
 have h2 : capB (byte s 0) = true := by simpa using h2
 refine Sa ?_; refine CW.loop (ι := Nat) (fun k w' => k ≤ s.length ∧ Ext w w' ∧ ∀ j, j < k → cdB (byte s j) = true) (fun k => [(0, str s), (18, .int .i64 s.length), (19, .int .i64 k)]) (fun k => s.length - k) 0 ⟨by omega, hx, by omega⟩ Sub3 ?_; rintro k w2 ⟨hk, hx2, hall⟩; refine Sa ?_; refine Cwc (fun h3 => ?_) fun h3 => ?_
 ·have h3 : k < s.length := by simpa using h3
  refine Sa ?_; refine Lc0 rfl rfl (lcapital_ret _ _) ?_; rintro v w3 ⟨rfl, hx3⟩; refine Sa ?_; refine Lwp (fun h4 => ?_) fun h4 => ?_
  ·refine Sa ?_; refine Lc0 rfl rfl (ldigit_ret _ _) ?_; rintro v w4 ⟨rfl, hx4⟩; refine Sa ?_; refine Cwc (fun h5 => ?_) fun h5 => ?_
   ·refine Sa ?_; refine QW.body1 Tryz.results174 rfl ⟨?_, (hx2.trans hx3).trans hx4⟩; rw [fnB_at h3]; simp at h4 h5; simp [cdB, h4, h5]
   ·refine Sa ?_; refine QW.again (k + 1) ⟨by omega, (hx2.trans hx3).trans hx4, ?_⟩ Sub3 (by omega); intro j hj; by_cases hjk : j = k
    ·subst hjk; simp at h5; simp [cdB, h5]
    ·exact hall j (by omega)
  ·refine Sa ?_; refine QW.again (k + 1) ⟨by omega, hx2.trans hx3, ?_⟩ Sub3 (by omega); intro j hj; by_cases hjk : j = k
   ·subst hjk; simp at h4; simp [cdB, h4]
   ·exact hall j (by omega)
 ·have h3 : k = s.length := by simp at h3; omega
  subst h3; refine Sa ?_; refine QW.body1 Tryz.results174 rfl ⟨?_, hx2⟩; rw [fnB_true h0 h1 h2 hall]
theorem number_ret (s : List UInt8) (hs : s.length ≤ 1000) (a : Nat) (ha : a < s.length) (hd : digB (byte s a) = true) (b : Nat) (w0 w : World) (g : Glob w0) (h0 : Ext w0 w) (hb0 : w0.heap.size ≤ b) (hB : Blk w b [str s, .int .i64 a] 145) :
  Ret Tryz.prog 140 [.pointer (some ⟨b, 0, none⟩)] w (TokR s a b w (numO (s.drop a))) := by
 have hlen := span_le digB (s.drop a); have hlen2 : (s.drop a).length = s.length - a := by simp
 obtain ⟨hsp, hs0⟩ := span_pos (p := digB) (l := s.drop a) (by omega) (by rw [byte_drop']; exact hd); have hbl := hB.lt; refine Rte Tryz.func140 Tryz.ntmps140 ?_; refine Sa ?_; refine Lwa fun C w1 hbC hx hC => ?_; have hCb : b < C := by omega
 replace hB := hB.ext hx; refine Sa ?_; refine LW.call (fs := []) (cs := []) rfl rfl rfl (lwhile_ret digB _ ldigit_ret s (by omega) a (by omega) b w1 hB) ?_; rintro v w2 ⟨rfl, hc2, hB⟩; replace hC := hC.chg hc2 (by simp; omega); have hcc : Chg [b] w w2 := (Chg.trans hx hc2).mono (by simp); have hx2 : Ext w0 w2 := (h0.trans hx).step hc2 (by simpa using hb0); refine Sa ?_; refine Lc0 rfl rfl (Atoi_ret _ (by omega) w2 (g.ext hx2)) ?_; rintro v w3 ⟨hv, hx3⟩; replace hC := hC.ext hx3; replace hB := hB.ext hx3; replace hcc := hcc.ext hx3; unfold AtoiV at hv; by_cases hok : ∃ z, Lib.atoiAll (spanL digB (s.drop a)) = .ok z
 ·obtain ⟨z, hat⟩ := hok; rw [hat] at hv; rw [numO_ok hat]; simp only at hv; subst hv; refine Sa ?_
  (first | (apply LW.eql_nil; exact rfl; exact rfl; exact rfl; exact rfl) | (apply LW.eql_nil_nil; exact rfl; exact rfl; exact rfl; exact rfl))
  refine Sa ?_; refine Lwp (fun h3 => ?_) fun h3 => ?_
  ·refine Sa ?_; refine Lws fun w4 hc4 hC => ?_; replace hC : Blk w4 C (tokL ⟨1, [], z, refN, 0⟩) 100 := hC; replace hB := hB.chg hc4 (by simp; omega); replace hcc := hcc.fresh hc4 (by simp; omega); refine Sa ?_; refine QW.body_ct Tryz.results140 rfl hC rfl rfl rfl rfl ⟨_, _, _, rfl, hcc, hB, by omega, by omega, ?_⟩; have h3 : byte (spanL digB (s.drop a)) 0 ≠ 48 := by simpa using h3
   simp only [h3, ne_eq, not_false_eq_true, true_or, if_true, Nat.add_sub_cancel_left]
  ·refine Sa ?_; refine Lws fun w4 hc4 hC => ?_; replace hC : Blk w4 C (tokL ⟨1, [], z, refN, 0⟩) 100 := hC; replace hB := hB.chg hc4 (by simp; omega); replace hcc := hcc.fresh hc4 (by simp; omega); refine Sa ?_; refine QW.body_ct Tryz.results140 rfl hC rfl rfl rfl rfl ⟨_, _, _, rfl, hcc, hB, by omega, by omega, ?_⟩; have h3 : byte (spanL digB (s.drop a)) 0 = 48 := by simpa using h3
   simp only [h3, ne_eq, not_true_eq_false, false_or, Nat.add_sub_cancel_left, decide_eq_true_eq]; by_cases h4 : (spanL digB (s.drop a)).length = 1
   ·simp [h4]
   ·have h5 : ¬ ((spanL digB (s.drop a)).length : Int) = 1 := by omega
    simp [h4, h5]
 ·have hbad : ∀ z, Lib.atoiAll (spanL digB (s.drop a)) ≠ .ok z := fun z hz => hok ⟨z, hz⟩; rw [numO_bad hbad]; obtain ⟨z, t, x, rfl⟩ : ∃ z t x, v = .tuple #[.int .i64 z, .iface t x] := by
   split at hv
   ·rename_i z hz; exact absurd hz (hbad z)
   ·exact hv
  refine Sa ?_
  (first | (apply LW.eql_nil; exact rfl; exact rfl; exact rfl; exact rfl) | (apply LW.eql_nil_nil; exact rfl; exact rfl; exact rfl; exact rfl))
  refine Sa ?_; refine Lws fun w4 hc4 hC => ?_; replace hC : Blk w4 C (tokL ⟨1, [], z, refN, 0⟩) 100 := hC; replace hB := hB.chg hc4 (by simp; omega); replace hcc := hcc.fresh hc4 (by simp; omega); refine Sa ?_; refine QW.body_ct Tryz.results140 rfl hC rfl rfl rfl rfl ⟨_, _, _, rfl, hcc, hB, by omega, by omega, rfl⟩
theorem word_ret (s : List UInt8) (hs : s.length ≤ 1000) (a : Nat) (ha : a < s.length) (b : Nat) (w0 w : World) (g : Glob w0) (h0 : Ext w0 w) (hb0 : w0.heap.size ≤ b) (hB : Blk w b [str s, .int .i64 a] 145) :
  Ret Tryz.prog 143 [.pointer (some ⟨b, 0, none⟩)] w (TokR s a b w (wordO (s.drop a))) := by
 have hlen := span_le wiB (s.drop a); have hlen2 : (s.drop a).length = s.length - a := by simp
 have hbl := hB.lt; refine Rte Tryz.func143 Tryz.ntmps143 ?_; refine Sa ?_; refine Lwa fun C w1 hbC hx hC => ?_; have hCb : b < C := by omega
 replace hB := hB.ext hx; refine Sa ?_; refine LW.call (fs := []) (cs := []) rfl rfl rfl (lwhile_ret wiB _ within_ret s (by omega) a (by omega) b w1 hB) ?_; rintro v w2 ⟨rfl, hc2, hB⟩; replace hC := hC.chg hc2 (by simp; omega); have hcc : Chg [b] w w2 := (Chg.trans hx hc2).mono (by simp); have hx2 : Ext w0 w2 := (h0.trans hx).step hc2 (by simpa using hb0); refine Sa ?_; refine Lc0 rfl rfl (Read_ret _ (by omega) w2 (g.ext hx2)) ?_; rintro v w3 ⟨rfl, hx3⟩; replace hC := hC.ext hx3; replace hB := hB.ext hx3; replace hcc := hcc.ext hx3; have hz3 := hcc.size
 cases hr : okRead (spanL wiB (s.drop a)) with
 | true =>
  rw [readV, if_pos hr]; refine Sa ?_; refine Lwa fun F w4 hbF hx4 hF => ?_; have hCF : C < F := by have := hC.lt; omega
  replace hC := hC.ext hx4; replace hB := hB.ext hx4; replace hcc := hcc.ext hx4; refine Sa ?_; refine Lws fun w5 hc5 hF => ?_; replace hF : Blk w5 F (refL (candV (spanL wiB (s.drop a)))) 98 := hF; replace hC := hC.chg hc5 (by simp; omega); replace hB := hB.chg hc5 (by simp; omega); replace hcc := hcc.fresh hc5 (by simp; omega); refine Sa ?_; refine Lws fun w6 hc6 hC => ?_; replace hC : Blk w6 C (tokL ⟨4, [], 0, candV (spanL wiB (s.drop a)), 0⟩) 100 := hC; replace hB := hB.chg hc6 (by simp; omega); replace hcc := hcc.fresh hc6 (by simp; omega); refine Sa ?_; refine QW.body_ct Tryz.results143 rfl hC rfl rfl rfl rfl ⟨_, _, _, rfl, hcc, hB, by omega, by omega, ?_⟩
  simp [wordO, hr]
 | false =>
  rw [no_at hr]; refine Sa ?_; refine Lwa fun F w4 hbF hx4 hF => ?_; have hCF : C < F := by have := hC.lt; omega
  replace hC := hC.ext hx4; replace hB := hB.ext hx4; replace hcc := hcc.ext hx4; refine Sa ?_; refine Lws fun w5 hc5 hF => ?_; replace hC := hC.chg hc5 (by simp; omega); replace hB := hB.chg hc5 (by simp; omega); replace hcc := hcc.fresh hc5 (by simp; omega); refine Sa ?_; refine Lc0 rfl rfl (lName_ret _ w5 (by omega)) ?_; rintro v w7 ⟨rfl, hx7⟩; replace hC := hC.ext hx7; replace hB := hB.ext hx7; replace hcc := hcc.ext hx7; refine Sa ?_; refine Lws fun w6 hc6 hC => ?_; replace hC : Blk w6 C (tokL ⟨3, spanL wiB (s.drop a), 0, refN, 0⟩) 100 := hC; replace hB := hB.chg hc6 (by simp; omega); replace hcc := hcc.fresh hc6 (by simp; omega); refine Sa ?_; refine QW.body_ct Tryz.results143 rfl hC rfl rfl rfl rfl ⟨_, _, _, rfl, hcc, hB, by omega, by omega, ?_⟩; simp [wordO, hr]
theorem sign_val (k : Nat) (hk : k < 15) : (signsT.map str)[k]? = some (str (signsT.getD k [])) := by
 have : signsT.length = 15 := rfl; simp [List.getD_eq_getElem?_getD, List.getElem?_eq_getElem (show k < signsT.length by omega)]
theorem signL_ret (s : List UInt8) (hs : s.length ≤ 1000) (a : Nat) (ha : a < s.length) (b : Nat) (w : World) (hB : Blk w b [str s, .int .i64 a] 145) :
  Ret Tryz.prog 144 [.pointer (some ⟨b, 0, none⟩)] w (TokR s a b w (signO (s.drop a))) := by
 have hlen2 : (s.drop a).length = s.length - a := by simp
 have hbl := hB.lt; refine Rte Tryz.func144 Tryz.ntmps144 ?_; refine Sa ?_; refine Lwa fun C w1 hbC hx hC => ?_; have hCb : b < C := by omega
 replace hB := hB.ext hx; refine Sa ?_; refine Cwd ?_; refine Sq ?_; refine QL.slice_str (i := a) (j := s.length) rfl rfl rfl ⟨_, _, rfl, rfl⟩ rfl (by omega) (by omega) rfl ?_; refine Sq ?_; refine QL.call0 rfl rfl (fun w' _ => HasPrefix_ret _ _ w') ?_; refine Sq ?_; refine QL.nil fun w2 hx2 => ?_; rw [cut_tail]; replace hC := hC.ext hx2; replace hB := hB.ext hx2; replace hx := hx.trans hx2; refine Sa ?_; refine Cwc (fun hd => ?_) fun hd => ?_
 ·have hp5 := pre_le hd; simp only [List.length_cons, List.length_nil] at hp5; refine Sa ?_; refine Lwt fun w3 hc3 hB => ?_; replace hC := hC.chg hc3 (by simp; omega); have hcc : Chg [b] w w3 := (Chg.trans hx hc3).mono (by simp); refine Sa ?_; refine Lws fun w4 hc4 hC => ?_; replace hC : Blk w4 C (tokL ⟨6, [], 0, refN, 0⟩) 100 := hC; replace hB : Blk w4 b [str s, .int .i64 ((a + 5 : Nat) : Int)] 145 := hB.chg hc4 (by simp; omega); replace hcc := hcc.fresh hc4 (by simp; omega); refine Sa ?_; refine QW.body_ct Tryz.results144 rfl hC rfl rfl rfl rfl ⟨_, _, _, rfl, hcc, hB, by omega, by omega, ?_⟩; have hd : Lib.hasPrefix (s.drop a) deadT = true := hd; simp [signO, hd]
 have hd : Lib.hasPrefix (s.drop a) deadT = false := hd; refine Sa ?_; refine Lwl fun A w3 hbA hx3 hA => ?_; replace hA : Blk w3 A (signsT.map str) 9 := hA; have hAC : C < A := by have := hC.lt; omega
 replace hC := hC.ext hx3; replace hB := hB.ext hx3; replace hx := hx.trans hx3; have hz3 := hx.size; refine Sa ?_; refine CW.loop (ι := Nat) (fun k w' => k ≤ 15 ∧ Ext w3 w' ∧ ∀ j, j < k → Lib.hasPrefix (s.drop a) (signsT.getD j []) = false) (fun k => [(0, .pointer (some ⟨b, 0, none⟩)), (2, .pointer (some ⟨C, 0, none⟩)), (24, .slice (some ⟨A, 0, none⟩) 15 15), (25, .int .i64 15), (26, .int .i64 k)]) (fun k => 15 - k) 0 ⟨by omega, Chg.refl _ _, by omega⟩ Sub5 ?_; rintro k w5 ⟨hk, hx5, hall⟩; replace hA := hA.ext hx5; replace hC := hC.ext hx5; replace hB := hB.ext hx5; replace hx := hx.trans hx5; refine Sa ?_; refine Cwc (fun h1 => ?_) fun h1 => ?_
 ·have h1 : k < 15 := by simp at h1; omega
  refine Sa ?_; refine LW.idx_slice (j := k) rfl rfl rfl rfl rfl (by omega) (by simp; omega) (by show 0 + _ * 1 = _; omega) rfl ?_; refine Sa ?_; refine LW.load rfl hA (sign_val k h1) rfl rfl rfl ?_; refine Sa ?_; refine Cwd ?_; refine Sq ?_; refine QL.slice_str (i := a) (j := s.length) rfl rfl rfl ⟨_, _, rfl, rfl⟩ rfl (by omega) (by omega) rfl ?_; refine Sq ?_; refine QL.call0 rfl rfl (fun w' _ => HasPrefix_ret _ _ w') ?_; refine Sq ?_; refine QL.nil fun w6 hx6 => ?_; rw [cut_tail]; replace hC := hC.ext hx6; replace hB := hB.ext hx6; replace hx := hx.trans hx6; replace hx5 := hx5.trans hx6; refine Sa ?_; refine Cwc (fun h2 => ?_) fun h2 => ?_
  ·have h2 : Lib.hasPrefix (s.drop a) (signsT.getD k []) = true := h2; have hp := pre_le h2; refine Sa ?_; refine Lwt fun w7 hc7 hB => ?_; replace hC := hC.chg hc7 (by simp; omega); have hcc : Chg [b] w w7 := (Chg.trans hx hc7).mono (by simp); refine Sa ?_; refine Lws fun w8 hc8 hC => ?_; replace hC : Blk w8 C (tokL ⟨5, signsT.getD k [], 0, refN, 0⟩) 100 := hC; replace hB : Blk w8 b [str s, .int .i64 ((a + (signsT.getD k []).length : Nat) : Int)] 145 := hB.chg hc8 (by simp; omega); replace hcc := hcc.fresh hc8 (by simp; omega); refine Sa ?_; refine QW.body_ct Tryz.results144 rfl hC rfl rfl rfl rfl ⟨_, _, _, rfl, hcc, hB, by omega, by omega, ?_⟩; simp only [signO, hd, find_first (fun x => Lib.hasPrefix (s.drop a) x) [] signsT k h1 hall h2]; simp
  ·have h2 : Lib.hasPrefix (s.drop a) (signsT.getD k []) = false := h2; refine Sa ?_; refine QW.again (k + 1) ⟨by omega, hx5, ?_⟩ Sub5 (by omega); intro j hj; by_cases hjk : j = k
   ·subst hjk; exact h2
   ·exact hall j (by omega)
 ·have h1 : k = 15 := by simp at h1; omega
  subst h1; refine Sa ?_; refine Lws fun w8 hc8 hC => ?_; replace hC : Blk w8 C (tokL ⟨0, [], 0, refN, 0⟩) 100 := hC; replace hB := hB.chg hc8 (by simp; omega); have hcc : Chg [b] w w8 := (hx.mono (S' := [b]) (by simp)).fresh hc8 (by simp; omega); refine Sa ?_; refine QW.body_ct Tryz.results144 rfl hC rfl rfl rfl rfl ⟨_, _, a, rfl, hcc, hB, by omega, by omega, ?_⟩; simp only [signO, hd, find_none (fun x => Lib.hasPrefix (s.drop a) x) [] signsT hall]; simp
theorem own_snoc {w : World} {lo : Nat} {e : TypeId} {v : Value} {out : List UInt8} {z : Int} (h0 : 0 ≤ z) (h1 : z ≤ 255) (h : Own w lo e 1 v (out.length + 1) (bcells out ++ [.int .u8 z])) : Own w lo e 1 v (out ++ [ch z]).length (bcells (out ++ [ch z])) := by
 have e1 : bcells (out ++ [ch z]) = bcells out ++ [.int .u8 z] := by simp [bcells, ch_toNat h0 h1]
 rw [e1]
 simpa using h
theorem textQ_ret (s : List UInt8) (hs : s.length ≤ 1000) (a : Nat) (ha : a < s.length) (b : Nat) (w : World) (hB : Blk w b [str s, .int .i64 a] 145) :
  Ret Tryz.prog 141 [.pointer (some ⟨b, 0, none⟩)] w (TokR s a b w (textO (s.drop a))) := by
 have hbl := hB.lt; refine Rte Tryz.func141 Tryz.ntmps141 ?_; refine Sa ?_; refine Lwa fun C w1 hbC hx hC => ?_; have hCb : b < C := by omega
 replace hB := hB.ext hx; have hz1 : C < w1.heap.size := hC.lt; have hzx := hx.size; refine Sa ?_; refine CW.loop (ι := Nat × List UInt8 × Value) (fun k w' => k.1 ≤ s.length ∧ k.2.1.length ≤ k.1 ∧ Ext w1 w' ∧ Own w' w1.heap.size 5 1 k.2.2 k.2.1.length (bcells k.2.1) ∧ ScanAt s (a + 1) k.1 k.2.1) (fun k => [(0, .pointer (some ⟨b, 0, none⟩)), (2, .pointer (some ⟨C, 0, none⟩)), (4, k.2.2), (5, .int .i64 k.1)]) (fun k => s.length - k.1) (a + 1, [], .slice none 0 0) ⟨by simp; omega, by simp, Chg.refl _ _, Own.nil _ _ _ _, ScanAt.start _ _⟩ Sub4 ?_; rintro ⟨i, out, v⟩ w2 ⟨hi, ho, hx2, hown, hsc⟩; simp only at hi ho hown hsc; show CW _ _ _ _ _ [(0, .pointer (some ⟨b, 0, none⟩)), (2, .pointer (some ⟨C, 0, none⟩)), (4, v), (5, .int .i64 i)] _; have ha1 := hsc.1; have hcv : C ∉ vblk v := hown.old hz1; have hbv : b ∉ vblk v := hown.old (by omega); replace hC := hC.ext hx2; replace hB := hB.ext hx2; have hz2 := hx2.size; refine Sa ?_; refine Cwc (fun h1 => ?_) fun h1 => ?_
 ·have h1 : i < s.length := by simp at h1; omega
  refine Sa ?_; have hby := byte_lt s i; refine Lwp (fun h2 => ?_) fun h2 => ?_
  ·have h2 : byte s i = 34 := by simpa using h2
   refine Sa ?_; refine Lwp (fun h3 => ?_) fun h3 => ?_
   ·have h3 : i + 1 < s.length := by simp at h3; omega
    refine Sa ?_; refine Cwc (fun h4 => ?_) fun h4 => ?_
    ·have h4 : byte s (i + 1) = 34 := by simpa using h4
     refine Sa ?_; refine Sa ?_; refine Lwl fun A w3 hbA hx3 hA => ?_; replace hown := hown.ext hx3; replace hx2 := hx2.trans hx3; have hz3 := hx2.size; refine Sa ?_; refine LW.append rfl rfl rfl rfl rfl rfl hown (by omega) hA rfl rfl rfl (by show (out.length + 1) * 2 ≤ 140737488355328; omega) rfl ?_; intro v' w4 hc4 hown' hv'; replace hx2 := hx2.step hc4 (fun k hk => (hown.lt hk).1); refine Sa ?_; refine QW.again (i + 2, out ++ [ch (byte s i)], v') ⟨by show i + 2 ≤ _; omega, by show (out ++ _).length ≤ i + 2; simp; omega, hx2, own_snoc hby.1 (by omega) hown', ScanAt.go hsc (by omega) ?_⟩ Sub4 (by show s.length - (i + 2) < s.length - i; omega); rw [scan_two h3 h2 h4, show i + 2 - i = 2 by omega, h2]; rfl
    ·have h4 : i + 1 < s.length → byte s (i + 1) ≠ 34 := fun _ => by simpa using h4
     refine Sa ?_; refine CW.yes rfl (by simpa using h2) ?_; refine Sa ?_; refine Lwt fun w5 hc5 hB => ?_; replace hB : Blk w5 b [str s, .int .i64 ((i + 1 : Nat) : Int)] 145 := hB; replace hC := hC.chg hc5 (by simp; omega); have hcc : Chg [b] w w5 := (Chg.trans (hx.trans hx2) hc5).mono (by simp); replace hown := hown.chg hc5 (fun j hj hb => hbv (by simp at hb; subst hb; exact hj)); refine Sa ?_; refine LW.string_own rfl hown rfl rfl rfl rfl rfl rfl rfl ?_; refine Sa ?_; refine Lws fun w8 hc8 hC => ?_; replace hC : Blk w8 C (tokL ⟨2, out, 0, refN, 0⟩) 100 := hC; replace hB := hB.chg hc8 (by simp; omega); replace hcc := hcc.fresh hc8 (by simp; omega); refine Sa ?_; refine QW.body_ct Tryz.results141 rfl hC rfl rfl rfl rfl ⟨_, _, _, rfl, hcc, hB, by omega, by omega, ?_⟩; have e := hsc.2; rw [scan_quote h1 h2 h4] at e; simp only [textO, List.drop_drop]; rw [e]; simp; omega
   ·have h3 : ¬ i + 1 < s.length := by simp at h3; omega
    have h4 : i + 1 < s.length → byte s (i + 1) ≠ 34 := fun h => absurd h h3; refine Sa ?_; refine CW.yes rfl (by simpa using h2) ?_; refine Sa ?_; refine Lwt fun w5 hc5 hB => ?_; replace hB : Blk w5 b [str s, .int .i64 ((i + 1 : Nat) : Int)] 145 := hB; replace hC := hC.chg hc5 (by simp; omega); have hcc : Chg [b] w w5 := (Chg.trans (hx.trans hx2) hc5).mono (by simp); replace hown := hown.chg hc5 (fun j hj hb => hbv (by simp at hb; subst hb; exact hj)); refine Sa ?_; refine LW.string_own rfl hown rfl rfl rfl rfl rfl rfl rfl ?_; refine Sa ?_; refine Lws fun w8 hc8 hC => ?_; replace hC : Blk w8 C (tokL ⟨2, out, 0, refN, 0⟩) 100 := hC; replace hB := hB.chg hc8 (by simp; omega); replace hcc := hcc.fresh hc8 (by simp; omega); refine Sa ?_; refine QW.body_ct Tryz.results141 rfl hC rfl rfl rfl rfl ⟨_, _, _, rfl, hcc, hB, by omega, by omega, ?_⟩; have e := hsc.2; rw [scan_quote h1 h2 h4] at e; simp only [textO, List.drop_drop]; rw [e]; simp; omega
  ·have h2 : byte s i ≠ 34 := by simpa using h2
   refine Sa ?_; refine CW.no rfl (by simpa using h2) ?_; refine Sa ?_; refine Cwc (fun h5 => ?_) fun h5 => ?_
   ·have h5 : byte s i < 32 := by simpa using h5
    refine Sa ?_; refine Lws fun w8 hc8 hC => ?_; replace hC : Blk w8 C (tokL ⟨0, [], 0, refN, 0⟩) 100 := hC; replace hB := hB.chg hc8 (by simp; omega); have hcc : Chg [b] w w8 := ((hx.trans hx2).mono (S' := [b]) (by simp)).fresh hc8 (by simp; omega); refine Sa ?_; refine QW.body_ct Tryz.results141 rfl hC rfl rfl rfl rfl ⟨_, _, a, rfl, hcc, hB, by omega, by omega, ?_⟩; have e := hsc.2; rw [scan_low (i := i) (by omega) h5] at e; simp only [textO, List.drop_drop]; rw [e]; simp
   ·have h5 : ¬ byte s i < 32 := by simpa using h5
    refine Sa ?_; refine Sa ?_; refine Lwl fun A w3 hbA hx3 hA => ?_; replace hown := hown.ext hx3; replace hx2 := hx2.trans hx3; have hz3 := hx2.size; refine Sa ?_; refine LW.append rfl rfl rfl rfl rfl rfl hown (by omega) hA rfl rfl rfl (by show (out.length + 1) * 2 ≤ 140737488355328; omega) rfl ?_; intro v' w4 hc4 hown' hv'; replace hx2 := hx2.step hc4 (fun k hk => (hown.lt hk).1); refine Sa ?_; refine QW.again (i + 1, out ++ [ch (byte s i)], v') ⟨by show i + 1 ≤ _; omega, by show (out ++ _).length ≤ i + 1; simp; omega, hx2, own_snoc hby.1 (by omega) hown', ScanAt.go hsc (by omega) ?_⟩ Sub4 (by show s.length - (i + 1) < s.length - i; omega); rw [scan_go h1 h2 h5, show i + 1 - i = 1 by omega]
 ·have h1 : i = s.length := by simp at h1; omega
  refine Sa ?_; refine Lws fun w8 hc8 hC => ?_; replace hC : Blk w8 C (tokL ⟨0, [], 0, refN, 0⟩) 100 := hC; replace hB := hB.chg hc8 (by simp; omega); have hcc : Chg [b] w w8 := ((hx.trans hx2).mono (S' := [b]) (by simp)).fresh hc8 (by simp; omega); refine Sa ?_; refine QW.body_ct Tryz.results141 rfl hC rfl rfl rfl rfl ⟨_, _, a, rfl, hcc, hB, by omega, by omega, ?_⟩; have e := hsc.2; rw [scan_end (i := i) (by omega)] at e; simp only [textO, List.drop_drop]; rw [e]; simp
def byF (c : Int) : Nat := if digB c then 140 else if c = 34 then 141 else if begB c then 143 else 144
theorem by_ret (c : Int) (w : World) : Ret Tryz.prog 112 [.int .u8 c] w (fun v w' => v = .func (.func (byF c)) #[] #[] ∧ Ext w w') := by
 refine Rte Tryz.func112 Tryz.ntmps112 ?_; refine Sa ?_; refine Lc0 rfl rfl (ldigit_ret _ _) ?_; rintro v w1 ⟨rfl, hx⟩; refine Sa ?_; refine Cwc (fun h1 => ?_) fun h1 => ?_
 ·refine Sa ?_; refine QW.body1 Tryz.results112 rfl ⟨?_, hx⟩; simp [byF, h1]
 ·refine Sa ?_; refine Cwc (fun h2 => ?_) fun h2 => ?_
  ·have h2 : c = 34 := by simpa using h2
   refine Sa ?_; refine QW.body1 Tryz.results112 rfl ⟨?_, hx⟩; rw [byF, h1, if_neg (by simp), if_pos h2]
  ·have h2 : c ≠ 34 := by simpa using h2
   refine Sa ?_; refine Lc0 rfl rfl (begins_ret _ _) ?_; rintro v w2 ⟨rfl, hx2⟩; replace hx := hx.trans hx2; refine Sa ?_; refine Cwc (fun h3 => ?_) fun h3 => ?_
   all_goals
    refine Sa ?_; refine QW.body1 Tryz.results112 rfl ⟨?_, hx⟩; simp [byF, h1, h2, h3]
theorem one_ret (s : List UInt8) (hs : s.length ≤ 1000) (a : Nat) (ha : a < s.length) (b : Nat) (w0 w : World) (g : Glob w0) (h0 : Ext w0 w) (hb0 : w0.heap.size ≤ b) (hB : Blk w b [str s, .int .i64 a] 145) :
  Ret Tryz.prog (byF (byte s a)) [.pointer (some ⟨b, 0, none⟩)] w (TokR s a b w (oneO (s.drop a))) := by
 have e : byte (s.drop a) 0 = byte s a := by rw [byte_drop']; rfl
 unfold byF oneO; rw [e]; cases h1 : digB (byte s a)
 ·by_cases h2 : byte s a = 34
  ·simp only [Bool.false_eq_true, if_false, h2, if_true]; exact textQ_ret s hs a ha b w hB
  ·cases h3 : begB (byte s a)
   ·simp only [Bool.false_eq_true, if_false, h2]; exact signL_ret s hs a ha b w hB
   ·simp only [Bool.false_eq_true, if_false, h2, if_true]; exact word_ret s hs a ha b w0 w g h0 hb0 hB
 ·simp only [if_true]; exact number_ret s hs a ha h1 b w0 w g h0 hb0 hB
def LexV (s : List UInt8) (v : Value) (w : World) (lo : Nat) : Prop :=
 if 300 < s.length then v = .tuple #[.slice none 0 0, .int .i64 4]
 else match lexT s with
  | none => v = .tuple #[.slice none 0 0, .int .i64 5]
  | some l => ∃ sv, v = .tuple #[sv, .int .i64 0] ∧ Own w lo 100 9 sv l.length (l.flatMap tokL)
theorem own_tok {w : World} {lo : Nat} {e : TypeId} {v : Value} {out : List TokD} {t : TokD} (h : Own w lo e 9 v (out.length + 1) (out.flatMap tokL ++ tokL t)) : Own w lo e 9 v (out ++ [t]).length ((out ++ [t]).flatMap tokL) := by
 simpa using h
theorem Lex_ret (s : List UInt8) (hs : s.length ≤ 9223372036854775807) (w : World) (g : Glob w) : Ret Tryz.prog 85 [str s] w (fun v w' => LexV s v w' w.heap.size ∧ Ext w w') := by
 refine Rte Tryz.func85 Tryz.ntmps85 ?_; refine Sa ?_; refine Cwc (fun h1 => ?_) fun h1 => ?_
 ·have h1 : 300 < s.length := by simp at h1; omega
  refine Sa ?_; refine QW.body2 Tryz.results85 rfl rfl ⟨?_, Chg.refl _ _⟩; rw [LexV, if_pos h1]
 have h1 : ¬ 300 < s.length := by simp at h1; omega
 refine Sa ?_; refine Lwb fun b w1 hbb hx hB => ?_; replace hB : Blk w1 b [str s, .int .i64 ((0 : Nat) : Int)] 145 := hB; have hz1 : b < w1.heap.size := hB.lt; refine Sa ?_; refine CW.loop (ι := Nat × List TokD × Value) (fun k w' => k.1 ≤ s.length ∧ k.2.1.length ≤ k.1 ∧ Ext w w' ∧ w1.heap.size ≤ w'.heap.size ∧ Blk w' b [str s, .int .i64 k.1] 145 ∧ Own w' w1.heap.size 100 9 k.2.2 k.2.1.length (k.2.1.flatMap tokL) ∧ LexAt s k.1 k.2.1) (fun k => [(0, str s), (4, .pointer (some ⟨b, 0, none⟩)), (5, k.2.2)]) (fun k => s.length - k.1) (0, [], .slice none 0 0) ⟨by simp, by simp, hx, Nat.le_refl _, hB, Own.nil _ _ _ _, LexAt.start _⟩ Sub3 ?_; rintro ⟨a, out, v⟩ w2 ⟨ha, ho, hx2, hz2, hB2, hown, hla⟩; clear hB; simp only at ha ho hB2 hown hla; show CW _ _ _ _ _ [(0, str s), (4, .pointer (some ⟨b, 0, none⟩)), (5, v)] _; have hbv : b ∉ vblk v := hown.old hz1; refine Sa ?_; refine Lc0 rfl rfl (lwhile_ret spB _ space_ret s (by omega) a (by omega) b w2 hB2) ?_; rintro u w3 ⟨rfl, hc3, hB3⟩; have hx3 := hx2.step hc3 (by simp; omega); have hz3 := hc3.size; have hown3 := hown.chg hc3 (fun j hj hb => hbv (by simp at hb; subst hb; exact hj)); generalize hc : a + (spanL spB (s.drop a)).length = c at hB3; have hcl : c ≤ s.length := by
  have := span_le spB (s.drop a); simp at this; omega
 refine Sa ?_; refine Cwc (fun h2 => ?_) fun h2 => ?_
 ·have h2 : c = s.length := by simp at h2; omega
  refine Sa ?_; refine Lwl fun A w4 hbA hx4 hA => ?_; replace hA : Blk w4 A (tokL ⟨0, [], 0, refN, (s.length : Int)⟩) 100 := by rw [← h2]; exact hA
  have hz4 := hx4.size; refine Sa ?_; refine LW.append rfl rfl rfl rfl rfl rfl (hown3.ext hx4) (by omega) hA rfl rfl rfl (by show (out.length + 1) * 81 ≤ 140737488355328; omega) rfl ?_; intro v' w5 hc5 hown5 _; refine Sa ?_; refine QW.body2 Tryz.results85 rfl rfl ⟨?_, (hx3.trans hx4).step hc5 (fun k hk => ?_)⟩
  ·rw [LexV, if_neg h1, hla.end (by omega)]; refine ⟨_, rfl, ?_⟩; obtain ⟨hl, hh⟩ := own_tok hown5; refine ⟨hl, ?_⟩; rcases hh with hh | ⟨gg, cap, sp, e1, e2, e3, e4, e5⟩
   ·exact .inl hh
   ·exact .inr ⟨gg, cap, sp, e1, e2, e3, e4, by have := hx.size; omega⟩
  ·have := (hown.lt hk).1; have := hx.size; omega
 have h2 : c < s.length := by simp at h2; omega
 refine Sa ?_; refine Lc0 rfl rfl (by_ret _ _) ?_; rintro u w4 ⟨rfl, hx4⟩; have hz4 := hx4.size; refine Sa ?_; refine LW.call (fs := []) (cs := []) rfl rfl rfl (one_ret s (by omega) c h2 b w w4 g (hx3.trans hx4) (by omega) (hB3.ext hx4)) ?_; rintro u w5 ⟨t, ok, a', rfl, hc5, hB5, hal, hca, ho5⟩; have hx5 := (hx3.trans hx4).step hc5 (by simp; omega); have hz5 := hc5.size; have hown5 := (hown3.ext hx4).chg hc5 (fun j hj hb => hbv (by simp at hb; subst hb; exact hj)); refine Sa ?_; refine Lwa fun C w6 hbC hx6 hC => ?_; have hz6 := hx6.size; refine Sa ?_; refine Lws fun w7 hc7 hC => ?_; replace hC : Blk w7 C (tokL t) 100 := hC; have hx7 := (hx5.trans hx6).step hc7 (by simp; omega); have hz7 := hc7.size; have hB7 := (hB5.ext hx6).chg hc7 (by simp; omega); have hown7 := (hown5.ext hx6).chg hc7 (fun j hj hb => by
  simp at hb; have := (hown5.lt hj).2; omega)
 refine Sa ?_
 cases ok with
 | false =>
  refine Sa ?_; refine QW.body2 Tryz.results85 rfl rfl ⟨?_, hx7⟩
  rw [LexV, if_neg h1, hla.bad hc h2 (by simpa using ho5)]
 | true =>
  have ho5 : oneO (s.drop c) = some (t, a' - c) := by simpa using ho5
  have hpos := oneO_pos (by intro hn; have := congrArg List.length hn; simp at this; omega) ho5; refine Sa ?_; refine Lwt fun w8 hc8 hC => ?_; replace hC : Blk w8 C (tokL { t with at_ := (c : Int) }) 100 := hC; have hx8 := hx7.step hc8 (by simp; omega); have hz8 := hc8.size; have hB8 := hB7.chg hc8 (by simp; omega); have hown8 := hown7.chg hc8 (fun j hj hb => by
   simp at hb; have := (hown5.lt hj).2; omega)
  refine Sa ?_; refine Lwl fun A w9 hbA hx9 hA => ?_; replace hA : Blk w9 A (tokL { t with at_ := (c : Int) }) 100 := hA; have hz9 := hx9.size; refine Sa ?_; refine LW.append rfl rfl rfl rfl rfl rfl (hown8.ext hx9) (by omega) hA rfl rfl rfl (by show (out.length + 1) * 81 ≤ 140737488355328; omega) rfl ?_; intro v' w10 hc10 hown10 _; have hz10 := hc10.size; refine Sa ?_; refine QW.again (a', out ++ [{ t with at_ := (c : Int) }], v') ⟨hal, by simp; omega, ?_, by omega, ?_, own_tok hown10, ?_⟩ Sub3 (by show s.length - a' < s.length - a; omega)
  ·refine (hx8.trans hx9).step hc10 (fun k hk => ?_); have := (hown.lt hk).1; omega
  ·exact (hB8.ext hx9).chg hc10 hbv
  ·have := hla.go hc h2 ho5
   rwa [show c + (a' - c) = a' by omega] at this
end Go.Proofs.YtgdohpcnpgjpaaaGreatDoor
