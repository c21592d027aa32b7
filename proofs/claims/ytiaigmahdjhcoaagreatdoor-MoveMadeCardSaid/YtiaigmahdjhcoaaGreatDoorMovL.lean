/-
 Walks: a map by numbers.
-/
import Derived.Test.YtiaigmahdjhcoaaGreatDoorPkJ
namespace Go.Proofs.YtiaigmahdjhcoaaGreatDoor
open Go Go.E

def mkStep (m : MapD) (z : Int) : MapD := if z % 4 = 0 then ⟨m.to ++ [-1], m.new⟩ else if z % 4 = 1 then ⟨m.to, m.new + 1 + z / 4 % 3⟩ else ⟨m.to ++ [m.new], m.new + 1⟩
def makeM (ns : List Int) : MapD := ns.foldl mkStep ⟨[], 0⟩
theorem makeM_snoc (ns : List Int) (z : Int) : makeM (ns ++ [z]) = mkStep (makeM ns) z := by simp [makeM, List.foldl_append]
theorem riseB_mono {a b : Int} (h : a ≤ b) : ∀ (l : List Int) (last : Int), riseB a last l = true → riseB b last l = true
 | [], _, _ => rfl
 | z :: r, last, hr => by
  rw [riseB] at hr ⊢
  by_cases h1 : z = -1
  ·rw [if_pos h1] at hr ⊢
   exact riseB_mono h r last hr
  ·rw [if_neg h1] at hr ⊢
   by_cases h2 : z ≤ last ∨ a ≤ z
   ·rw [if_pos h2] at hr; cases hr
   ·rw [if_neg h2] at hr
    rw [if_neg (by omega)]
    exact riseB_mono h r z hr
theorem make_inv (ns : List Int) (hb : ∀ z ∈ ns, 0 ≤ z ∧ z ≤ 255) : ∀ k, k ≤ ns.length → 0 ≤ (makeM (ns.take k)).new ∧ (makeM (ns.take k)).new ≤ 3 * k ∧ (makeM (ns.take k)).to.length ≤ k ∧ riseB (makeM (ns.take k)).new (-1) (makeM (ns.take k)).to = true ∧ lastT (makeM (ns.take k)).to < (makeM (ns.take k)).new
 | 0, _ => ⟨Int.le_refl _, Int.le_refl _, Nat.le_refl _, rfl, by show lastT [] < 0; decide⟩
 | k + 1, hk => by
  obtain ⟨h1, h2, h3, h4, h5⟩ := make_inv ns hb k (by omega)
  have e : ns.take (k + 1) = ns.take k ++ [ns[k]] := by rw [List.take_add_one, List.getElem?_eq_getElem (by omega)]; rfl
  obtain ⟨z0, z1⟩ := hb ns[k] (List.getElem_mem _)
  rw [e, makeM_snoc]
  generalize makeM (ns.take k) = m at h1 h2 h3 h4 h5
  generalize ns[k] = z at z0 z1
  unfold mkStep
  split
  ·refine ⟨h1, by simp only; omega, by simp; omega, ?_, ?_⟩
   ·simp only
    rw [riseB_app, h4]
    simp
   ·simp only
    rw [lastT_snoc, if_pos rfl]
    exact h5
  ·split
   ·exact ⟨by simp only; omega, by simp only; omega, by simp only; omega, riseB_mono (show m.new ≤ m.new + 1 + z / 4 % 3 by omega) _ _ h4, by simp only; omega⟩
   ·refine ⟨by simp only; omega, by simp only; omega, by simp; omega, ?_, ?_⟩
    ·simp only
     rw [riseB_app, riseB_mono (show m.new ≤ m.new + 1 by omega) _ _ h4]
     have : lastT m.to < m.new ∧ m.new < m.new + 1 := ⟨h5, by omega⟩
     unfold lastT at this
     simp [this]
    ·simp only
     rw [lastT_snoc, if_neg (by omega)]
     omega
theorem make_may {ns : List Int} (hb : ∀ z ∈ ns, 0 ≤ z ∧ z ≤ 255) (hl : ns.length ≤ 100000) : mayM (makeM ns) = true := by
 obtain ⟨h1, h2, h3, h4, _⟩ := make_inv ns hb ns.length (Nat.le_refl _)
 rw [List.take_length] at h1 h2 h3 h4
 rw [mayM, decide_eq_true h1, decide_eq_true (by omega), decide_eq_true (by omega), h4]
 rfl

set_option maxHeartbeats 1000000 in
theorem Make_ret (ns : List Int) (vn : Value) (w : World) (hin : InS .u8 w vn ns) (hb : ∀ z ∈ ns, 0 ≤ z ∧ z ≤ 255) (hl : ns.length ≤ 100000) : Ret Tryz.prog 40 [vn] w (fun v w' => MapO w w' v (makeM ns) ∧ Ext w w') := by
 obtain ⟨np, nc, rfl⟩ := hin.slice
 refine Ret.enter Tryz.func40 rfl Tryz.ntmps40 (by kernel_rfl) rfl ?_
 refine Sa ?_
 refine Lwa fun R w1 hbR hx1 hR => ?_
 replace hR : Blk w1 R [.slice none 0 0, .int .i64 0] 68 := hR
 have hRlt := hR.lt
 have hz1 := hx1.size
 refine Sa ?_
 refine Lwa fun M w2 hbM hx2 hM => ?_
 replace hM : Blk w2 M [.slice none 0 0, .int .i64 0] 68 := hM
 replace hR := hR.ext hx2
 have hx2' := hx1.trans hx2
 have hRM : R ≠ M := by omega
 refine Sa ?_
 refine CW.loop (ι := Nat × Option Addr × Nat) (fun x w' => x.1 ≤ ns.length ∧ Ext w w' ∧ Blk w' R [.slice none 0 0, .int .i64 0] 68 ∧ Blk w' M [.slice x.2.1 (makeM (ns.take x.1)).to.length x.2.2, .int .i64 (makeM (ns.take x.1)).new] 68 ∧ Own w' w.heap.size 3 1 (.slice x.2.1 (makeM (ns.take x.1)).to.length x.2.2) (makeM (ns.take x.1)).to.length (icells (makeM (ns.take x.1)).to)) (fun x => [(0, .slice np ns.length nc), (2, .pointer (some ⟨R, 0, none⟩)), (3, .pointer (some ⟨M, 0, none⟩)), (4, .int .i64 (x.1 : Int))]) (fun x => ns.length - x.1) (0, none, 0) ⟨by simp, hx2', hR, hM, Own.nil _ _ _ _⟩ (Sub.cons rfl (Sub.cons rfl (Sub.cons rfl (Sub.cons rfl (Sub.nil))))) ?_
 have hMw : w.heap.size ≤ M := by omega
 have hRw : w.heap.size ≤ R := by omega
 clear hR hM hx2' hx2 hbM hx1 hbR hRlt hz1
 rintro ⟨k, p, c⟩ w4 ⟨hk, hx4, hR4, hM4, ho⟩
 dsimp only at hk hM4 ho
 show CW _ _ _ _ _ [(0, .slice np ns.length nc), (2, .pointer (some ⟨R, 0, none⟩)), (3, .pointer (some ⟨M, 0, none⟩)), (4, .int .i64 (k : Int))] _
 have hz4 := hx4.size
 obtain ⟨i1, i2, i3, _, _⟩ := make_inv ns hb k hk
 refine Sa ?_
 refine Cwc (fun b => ?_) fun b => ?_
 rotate_left
 ·have b : k = ns.length := by simp at b; omega
  subst b
  rw [List.take_length] at hM4 ho
  refine Sa ?_
  refine Lws fun w5 hc5 hR5 => ?_
  refine Sa ?_
  exact QW.body_c Tryz.results40 rfl hR5 rfl rfl rfl ⟨⟨_, rfl, ho.chg hc5 (fun b hb hm => absurd (by simp at hm; subst hm; exact Own.type ho hb hR4) (by decide))⟩, hx4.step hc5 (by simpa using hRw)⟩
 have b : k < ns.length := by simp at b; omega
 obtain ⟨z, hz⟩ : ∃ z, ns[k]? = some z := ⟨_, List.getElem?_eq_getElem b⟩
 obtain ⟨z0, z1⟩ := hb z (List.mem_of_getElem? hz)
 obtain ⟨na, rfl, hzc⟩ : ∃ na, np = some na ∧ w4.cell? (na.add (((k : Nat) : Int).toNat * 1)) = some (.int .u8 z) := by
  obtain ⟨_, ⟨_, e2⟩ | ⟨a, cap, e, hc⟩⟩ := hin.ext hx4
  ·subst e2; simp at b
  ·simp only [Value.slice.injEq] at e
   refine ⟨a, e.1, ?_⟩
   rw [show ((k : Nat) : Int).toNat * 1 = k by omega]
   exact hc _ _ hz
 have hmk : makeM (ns.take (k + 1)) = mkStep (makeM (ns.take k)) z := by
  rw [← makeM_snoc]
  congr 1
  rw [List.take_add_one, hz]
  rfl
 obtain ⟨m, hm⟩ : ∃ m, m = makeM (ns.take k) := ⟨_, rfl⟩
 rw [← hm] at hM4 ho i1 i2 i3 hmk
 clear hm
 have hml : m.to.length ≤ 100000 := by omega
 refine Sa ?_
 refine Lo ?_
 refine Lp hzc ?_
 refine Sa ?_
 refine Cwc (fun c0 => ?_) fun c0 => ?_
 ·have c0 : z % 4 = 0 := by simpa using c0
  have hst : mkStep m z = ⟨m.to ++ [-1], m.new⟩ := by rw [mkStep, if_pos c0]
  rw [hst] at hmk
  refine Sa ?_
  refine Lwl fun B w5 hbB hx5 hB => ?_
  replace hB : Blk w5 B [.int .i64 (-1)] 3 := hB
  have hM5 := hM4.ext hx5
  have hR5 := hR4.ext hx5
  have ho5 := ho.ext hx5
  have hz5 := hx5.size
  refine Sa ?_
  refine LW.append rfl rfl rfl rfl rfl rfl ho5 (by omega) hB rfl rfl rfl (by show (m.to.length + 1) * 9 ≤ 140737488355328; omega) rfl ?_
  intro v' w6 hc6 ho6 hv6
  obtain ⟨p', c', rfl⟩ := ho6.slice
  have hM6 := hM5.chg hc6 (fun hm => absurd (Own.type ho5 hm hM5) (by decide))
  have hR6 := hR5.chg hc6 (fun hm => absurd (Own.type ho5 hm hR5) (by decide))
  have hx6 : Ext w w6 := (hx4.trans hx5).step hc6 (fun b hb => (ho5.lt hb).1)
  refine Sa ?_
  refine Lwt fun w7 hc7 hM7 => ?_
  replace hM7 : Blk w7 M [.slice p' (m.to.length + 1) c', .int .i64 m.new] 68 := hM7
  have hR7 := hR6.chg hc7 (by simpa using hRM)
  have ho7 := ho6.chg hc7 (fun b hb hm => absurd (by simp at hm; subst hm; exact Own.type ho6 hb hM6) (by decide))
  have ei : ∀ y : Int, icells m.to ++ [.int .i64 y] = icells (m.to ++ [y]) := fun y => by simp [icells]
  rw [ei] at ho7
  have hx7 := hx6.step hc7 (by simpa using hMw)
  refine Sa ?_
  refine QW.again (k + 1, p', c') ⟨b, hx7, hR7, ?_, ?_⟩ (Sub.cons rfl (Sub.cons rfl (Sub.cons rfl (Sub.cons rfl (Sub.nil))))) (by show ns.length - (k + 1) < ns.length - k; omega)
  ·dsimp only
   rw [hmk]
   simp only [List.length_append, List.length_singleton]
   exact hM7
  ·dsimp only
   rw [hmk]
   simp only [List.length_append, List.length_singleton]
   exact ho7
 have c0 : ¬ z % 4 = 0 := by simpa using c0
 refine Sa ?_
 refine Cwc (fun c1 => ?_) fun c1 => ?_
 ·have c1 : z % 4 = 1 := by simpa using c1
  have hst : mkStep m z = ⟨m.to, m.new + 1 + z / 4 % 3⟩ := by rw [mkStep, if_neg c0, if_pos c1]
  rw [hst] at hmk
  refine Sa ?_
  refine Lwt fun w5 hc5 hM5 => ?_
  replace hM5 : Blk w5 M [.slice p m.to.length c, .int .i64 (m.new + 1 + z / 4 % 3)] 68 := hM5
  have hR5 := hR4.chg hc5 (by simpa using hRM)
  have ho5 := ho.chg hc5 (fun b hb hm => absurd (by simp at hm; subst hm; exact Own.type ho hb hM4) (by decide))
  refine Sa ?_
  refine QW.again (k + 1, p, c) ⟨b, hx4.step hc5 (by simpa using hMw), hR5, ?_, ?_⟩ (Sub.cons rfl (Sub.cons rfl (Sub.cons rfl (Sub.cons rfl (Sub.nil))))) (by show ns.length - (k + 1) < ns.length - k; omega)
  ·dsimp only
   rw [hmk]
   exact hM5
  ·dsimp only
   rw [hmk]
   exact ho5
 have c1 : ¬ z % 4 = 1 := by simpa using c1
 have hst : mkStep m z = ⟨m.to ++ [m.new], m.new + 1⟩ := by rw [mkStep, if_neg c0, if_neg c1]
 rw [hst] at hmk
 refine Sa ?_
 refine Lwl fun B w5 hbB hx5 hB => ?_
 replace hB : Blk w5 B [.int .i64 m.new] 3 := hB
 have hM5 := hM4.ext hx5
 have hR5 := hR4.ext hx5
 have ho5 := ho.ext hx5
 have hz5 := hx5.size
 refine Sa ?_
 refine LW.append rfl rfl rfl rfl rfl rfl ho5 (by omega) hB rfl rfl rfl (by show (m.to.length + 1) * 9 ≤ 140737488355328; omega) rfl ?_
 intro v' w6 hc6 ho6 hv6
 obtain ⟨p', c', rfl⟩ := ho6.slice
 have hM6 := hM5.chg hc6 (fun hm => absurd (Own.type ho5 hm hM5) (by decide))
 have hR6 := hR5.chg hc6 (fun hm => absurd (Own.type ho5 hm hR5) (by decide))
 have hx6 : Ext w w6 := (hx4.trans hx5).step hc6 (fun b hb => (ho5.lt hb).1)
 refine Sa ?_
 refine Lwt fun w7 hc7 hM7 => ?_
 replace hM7 : Blk w7 M [.slice p' (m.to.length + 1) c', .int .i64 m.new] 68 := hM7
 have hR7 := hR6.chg hc7 (by simpa using hRM)
 have ho7 := ho6.chg hc7 (fun b hb hm => absurd (by simp at hm; subst hm; exact Own.type ho6 hb hM6) (by decide))
 have ei : ∀ y : Int, icells m.to ++ [.int .i64 y] = icells (m.to ++ [y]) := fun y => by simp [icells]
 rw [ei] at ho7
 have hx7 := hx6.step hc7 (by simpa using hMw)
 refine Sa ?_
 refine Lwt fun w8 hc8 hM8 => ?_
 replace hM8 : Blk w8 M [.slice p' (m.to.length + 1) c', .int .i64 (m.new + 1)] 68 := hM8
 have hR8 := hR7.chg hc8 (by simpa using hRM)
 have ho8 := ho7.chg hc8 (fun b hb hm => absurd (by simp at hm; subst hm; exact Own.type ho7 hb hM7) (by decide))
 refine Sa ?_
 refine QW.again (k + 1, p', c') ⟨b, hx7.step hc8 (by simpa using hMw), hR8, ?_, ?_⟩ (Sub.cons rfl (Sub.cons rfl (Sub.cons rfl (Sub.cons rfl (Sub.nil))))) (by show ns.length - (k + 1) < ns.length - k; omega)
 ·dsimp only
  rw [hmk]
  simp only [List.length_append, List.length_singleton]
  exact hM8
 ·dsimp only
  rw [hmk]
  simp only [List.length_append, List.length_singleton]
  exact ho8
end Go.Proofs.YtiaigmahdjhcoaaGreatDoor
