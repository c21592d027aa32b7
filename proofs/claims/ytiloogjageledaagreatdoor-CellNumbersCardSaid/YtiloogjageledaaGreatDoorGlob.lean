/-
  What is known of the package-level variables; the library's contracts in the engine's words.
-/
import Derived.Test.YtiloogjageledaaGreatDoorTab
import Derived.Test.YtiloogjageledaaGreatDoorEng
import Derived.Test.YtiloogjageledaaGreatDoorShelf
import Derived.ChangeAgain
namespace Go.Proofs.YtiloogjageledaaGreatDoor
open Go Go.E Go.RowKit

structure Glob (w : World) : Prop where
  shaped : w.ShapedOpen Tryz.prog
  pow : Lib.TabIs Tryz.prog w "internal/strconv.uint64pow10" .u64 Lib.pow10Tab
  syn : ∃ t v, w.cell? ⟨0, 0, none⟩ = some (.iface t v)
  rng : ∃ t v, w.cell? ⟨1, 0, none⟩ = some (.iface t v)

theorem cell_ext {w w' : World} (h : Ext w w') {a : Addr} {v : Value} (hc : w.cell? a = some v) : w'.cell? a = some v := by
  have hlt := World.block_lt_of_cell? w a hc
  rw [(Ext.toBelow h).cell hlt]; exact hc
theorem var_ext {w w' : World} (h : Ext w w') {n : String} {cs : Array Value} (hv : w.var? Tryz.prog n = some cs) : w'.var? Tryz.prog n = some cs := by
  unfold World.var? at hv ⊢
  cases hg : Tryz.prog.globalNamed n with
  | none => simp [hg] at hv
  | some g =>
    simp only [hg, Option.bind_some] at hv ⊢
    have hlt : g < w.heap.size := by
      rcases Nat.lt_or_ge g w.heap.size with hl | hl
      · exact hl
      · rw [Array.getElem?_eq_none hl] at hv; cases hv
    rw [(Ext.toBelow h).block g hlt]; exact hv
theorem Glob.ext {w w' : World} (g : Glob w) (h : Ext w w') : Glob w' :=
  ⟨World.ShapedOpen.keptBut g.shaped ((Ext.toBelow h).frame (fun _ => False)) (fun _ hf => hf.elim), var_ext h g.pow,
   g.syn.elim fun t ht => ht.elim fun v hv => ⟨t, v, cell_ext h hv⟩, g.rng.elim fun t ht => ht.elim fun v hv => ⟨t, v, cell_ext h hv⟩⟩

theorem Ext.drewN (w : World) (k : Nat) : Ext w (w.drewN k) := ⟨rfl, rfl, rfl, Nat.le_refl _, fun _ _ _ => rfl⟩
theorem Ext.grow (w : World) (os : Array Obj) : Ext w (Go.Sort.grow w os) :=
  ⟨rfl, rfl, rfl, by simp [Go.Sort.grow], fun k hk _ => by simp [Go.Sort.grow, Array.getElem?_append_left hk]⟩
theorem Ext.bytesWorld (w : World) (e : TypeId) (s : ByteArray) : Ext w (Lib.bytesWorld w e s) := by
  refine ⟨?_, ?_, ?_, ?_, fun k hk _ => ?_⟩
  · unfold Lib.bytesWorld World.freeze; split <;> rfl
  · unfold Lib.bytesWorld World.freeze; split <;> rfl
  · unfold Lib.bytesWorld World.freeze; split <;> rfl
  · unfold Lib.bytesWorld World.freeze
    simp
  · unfold Lib.bytesWorld World.freeze
    rw [if_neg (by omega)]
    show (Array.modify _ _ _)[k]? = _
    rw [Array.getElem?_modify, if_neg (by simp; omega)]
    exact Below.heap_alloc _ _ _ hk

theorem ret_of {f : FuncId} {args : List Value} {w : World} {R : Ending → World → Prop} {Φ : Value → World → Prop} (hc : callable Tryz.prog f = true) (h : Calls Tryz.prog f ⟨args⟩ w R) (hm : ∀ e w', R e w' → RetR Φ e w') : Ret Tryz.prog f args w Φ := ⟨hc, h.mono hm⟩

theorem Itoa_ret (n : Int) (h0 : -9223372036854775808 ≤ n) (h1 : n ≤ 9223372036854775807) (w : World) (g : Glob w) : Ret Tryz.prog 82 [.int .i64 n] w (fun v w' => v = str (Lib.itoa n) ∧ Ext w w') :=
  ret_of (by kernel_rfl) (Tryz.strconv_Itoa n h0 h1 w g.pow) fun e w' ⟨he, k, os, hw⟩ => ⟨_, he, rfl, by subst hw; exact (Ext.drewN w k).trans (Ext.grow _ _)⟩

/-- What strconv.Atoi hands back. -/
def AtoiV (l : List UInt8) (v : Value) : Prop := match Lib.atoiAll l with
  | .ok n => v = .tuple #[.int .i64 n, .nilIface]
  | _ => ∃ z t x, v = .tuple #[.int .i64 z, .iface t x]
theorem Atoi_ret (l : List UInt8) (hl : l.length ≤ 1000000) (w : World) (g : Glob w) : Ret Tryz.prog 136 [str l] w (fun v w' => AtoiV l v ∧ Ext w w') := by
  have hs : (⟨⟨l⟩⟩ : ByteArray).size = l.length := rfl
  cases h : Lib.atoiAll l with
  | ok n =>
    refine ret_of (by kernel_rfl) (Tryz.strconv_Atoi_ok ⟨⟨l⟩⟩ (by rw [hs]; omega) n h w) fun e w' ⟨he, hw⟩ => ⟨_, he, by unfold AtoiV; rw [h], ?_⟩
    rcases hw with rfl | ⟨t, rfl⟩
    · exact Chg.refl _ _
    · exact Ext.bytesWorld ..
  | range =>
    obtain ⟨t, v, hv⟩ := g.rng
    exact ret_of (by kernel_rfl) (Tryz.strconv_Atoi_range ⟨⟨l⟩⟩ (by rw [hs]; omega) h _ w hv (Or.inr ⟨t, v, rfl⟩)) fun e w' ⟨N, he, _, _, hb⟩ => ⟨_, he, by unfold AtoiV; rw [h]; exact ⟨_, _, _, rfl⟩, Ext.of_below hb⟩
  | _ =>
    obtain ⟨t, v, hv⟩ := g.syn
    exact ret_of (by kernel_rfl) (Any.strconv_Atoi_syntax Tryz.laysAtoi ⟨⟨l⟩⟩ (by rw [hs]; omega) h _ w hv (Or.inr ⟨t, v, rfl⟩)) fun e w' ⟨N, he, _, _, hb⟩ => ⟨_, he, by unfold AtoiV; rw [h]; exact ⟨_, _, _, rfl⟩, Ext.of_below hb⟩

theorem CutPrefix_ret (s p : List UInt8) (w : World) : Ret Tryz.prog 211 [str s, str p] w (fun v w' => v = .tuple #[str (Lib.trimPrefix s p), .bool (Lib.hasPrefix s p)] ∧ Ext w w') :=
  ret_of (by kernel_rfl) (Tryz.strings_CutPrefix ⟨⟨s⟩⟩ ⟨⟨p⟩⟩ w) fun e w' ⟨he, hw⟩ => ⟨_, he, rfl, by subst hw; exact Chg.refl _ _⟩
theorem HasPrefix_ret (s p : List UInt8) (w : World) : Ret Tryz.prog 186 [str s, str p] w (fun v w' => v = .bool (Lib.hasPrefix s p) ∧ Ext w w') :=
  ret_of (by kernel_rfl) (Tryz.strings_HasPrefix ⟨⟨s⟩⟩ ⟨⟨p⟩⟩ w) fun e w' ⟨he, hw⟩ => ⟨_, he, rfl, by subst hw; exact Chg.refl _ _⟩
theorem ReplaceAll_ret (s o n : List UInt8) (hs : s.length ≤ 1000000) (ho : 1 ≤ o.length) (hn : n.length ≤ 1000) (w : World) (g : Glob w) : Ret Tryz.prog 170 [str s, str o, str n] w (fun v w' => v = str (Lib.replaceAll s o n) ∧ Ext w w') := by
  obtain ⟨m, hm⟩ := (Tryz.laysM143 ).s1_3 w g.shaped
  have hc : Lib.countB ⟨⟨s⟩⟩ ⟨⟨o⟩⟩ ≤ s.length + 1 := Lib.count_le s o
  have hz : Lib.countB ⟨⟨s⟩⟩ ⟨⟨o⟩⟩ * n.length ≤ 1000001 * 1000 := Nat.mul_le_mul (by omega) hn
  exact ret_of (by kernel_rfl) (Tryz.strings_ReplaceAll ⟨⟨s⟩⟩ ⟨⟨o⟩⟩ ⟨⟨n⟩⟩ m w (show s.length < _ by omega) hm ho (show s.length + _ * n.length ≤ _ by omega)) fun e w' ⟨he, hw⟩ => ⟨_, he, rfl, Ext.of_below hw⟩
theorem Cut_ret (s p : List UInt8) (hs : s.length ≤ 1000000) (w : World) (g : Glob w) : Ret Tryz.prog 191 [str s, str p] w (fun v w' => v = .tuple #[str (Lib.cut s p).1, str (Lib.cut s p).2.1, .bool (Lib.cut s p).2.2] ∧ Ext w w') :=
  ret_of (by kernel_rfl) (Tryz.strings_Cut_shaped ⟨⟨s⟩⟩ ⟨⟨p⟩⟩ w g.shaped (show s.length < _ by omega)) fun e w' ⟨he, k, hw⟩ => ⟨_, he, rfl, by subst hw; exact Ext.drewN w k⟩

end Go.Proofs.YtiloogjageledaaGreatDoor
