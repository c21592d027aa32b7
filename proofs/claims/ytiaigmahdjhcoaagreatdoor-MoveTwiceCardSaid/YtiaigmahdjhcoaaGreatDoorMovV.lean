/-
 Walks: the document's map that is by one map, then by another.
-/
import Derived.Test.YtiaigmahdjhcoaaGreatDoorMovU
import Derived.Test.YtiaigmahdjhcoaaGreatDoorMovX
namespace Go.Proofs.YtiaigmahdjhcoaaGreatDoor
open Go Go.E

theorem then_snoc {a : List Int} {b : MapD} {i : Nat} {z : Int} (hz : a[i]? = some z) : icells ((a.take (i + 1)).map (imgM b)) = icells ((a.take i).map (imgM b)) ++ [.int .i64 (imgM b z)] := by
 rw [List.take_add_one, hz]
 simp [icells]
set_option maxHeartbeats 2000000 in
theorem Then_ret (a b : MapD) (ap bp : Option Addr) (ac bc : Nat) (hbf : b.Fine) (hbig : ∀ z ∈ a.to, z ≤ 1000000000000) (hl : a.to.length ≤ 100000) (w : World) (ha : IntsR w (.slice ap a.to.length ac) a.to) (hb : IntsR w (.slice bp b.to.length bc) b.to) :
  Ret Tryz.prog 42 [.agg ⟨[.slice ap a.to.length ac, .int .i64 a.new]⟩, .agg ⟨[.slice bp b.to.length bc, .int .i64 b.new]⟩] w (fun v w' => MapO w w' v (thenM a b) ∧ Ext w w') := by
 refine Ret.enter Tryz.func42 rfl Tryz.ntmps42 (by kernel_rfl) rfl ?_
 refine Sa ?_
 refine Lwb fun A w1 hbA hx1 hA => ?_
 replace hA : Blk w1 A [.slice ap a.to.length ac, .int .i64 a.new] 68 := hA
 refine Sa ?_
 refine Lwb fun B w2 hbB hx2 hB => ?_
 replace hB : Blk w2 B [.slice bp b.to.length bc, .int .i64 b.new] 68 := hB
 replace hA := hA.ext hx2
 refine Sa ?_
 refine Lwa fun R w3 hbR hx3 hR => ?_
 replace hR : Blk w3 R [.slice none 0 0, .int .i64 0] 68 := hR
 replace hA := hA.ext hx3
 replace hB := hB.ext hx3
 have hx3' := (hx1.trans hx2).trans hx3
 replace ha := ha.ext hx3'
 replace hb := hb.ext hx3'
 have hz3 := hx3'.size
 have hRw : w.heap.size ≤ R := by have := (hx1.trans hx2).size; omega
 clear hbA hx1 hbB hx2 hbR hx3
 refine Sa ?_
 refine Lwa fun M w4 hbM hx4 hM => ?_
 have hA4 := hA.ext hx4
 have hB4 := hB.ext hx4
 refine Sa ?_
 refine Lws fun w5 hc5 hM => ?_
 replace hM : Blk w5 M [.slice none 0 0, .int .i64 b.new] 68 := hM
 have hx5 : Ext w3 w5 := hx4.step hc5 (by simp; omega)
 have hM3 : w3.heap.size ≤ M := by omega
 clear hA4 hB4 hc5 hx4 hbM
 refine Sa ?_
 refine CW.loop (ι := Nat × Option Addr × Nat) (fun x w' => x.1 ≤ a.to.length ∧ Ext w3 w' ∧ Blk w' M [.slice x.2.1 x.1 x.2.2, .int .i64 b.new] 68 ∧ Own w' w3.heap.size 3 1 (.slice x.2.1 x.1 x.2.2) x.1 (icells ((a.to.take x.1).map (imgM b)))) (fun x => [(2, .pointer (some ⟨A, 0, none⟩)), (3, .pointer (some ⟨B, 0, none⟩)), (4, .pointer (some ⟨R, 0, none⟩)), (5, .pointer (some ⟨M, 0, none⟩)), (6, .int .i64 (x.1 : Int))]) (fun x => a.to.length - x.1) (0, none, 0) ⟨by simp, hx5, hM, Own.nil _ _ _ _⟩ (Sub.cons rfl (Sub.cons rfl (Sub.cons rfl (Sub.cons rfl (Sub.cons rfl (Sub.nil)))))) ?_
 clear hM hx5
 rintro ⟨i, p, c⟩ w6 ⟨hi, hx6, hM6, ho⟩
 dsimp only at hi hM6 ho
 show CW _ _ _ _ _ [(2, .pointer (some ⟨A, 0, none⟩)), (3, .pointer (some ⟨B, 0, none⟩)), (4, .pointer (some ⟨R, 0, none⟩)), (5, .pointer (some ⟨M, 0, none⟩)), (6, .int .i64 (i : Int))] _
 have hA6 := hA.ext hx6
 have hR6 := hR.ext hx6
 refine Sa ?_
 refine Cwc (fun b0 => ?_) fun b0 => ?_
 rotate_left
 ·have b0 : i = a.to.length := by simp at b0; omega
  subst b0
  rw [List.take_length] at ho
  refine Sa ?_
  refine Lws fun w7 hc7 hR6 => ?_
  refine Sa ?_
  refine QW.body_c Tryz.results42 rfl hR6 rfl rfl rfl ⟨⟨_, rfl, ?_⟩, (hx3'.trans hx6).step hc7 (by simpa using hRw)⟩
  show Own _ _ _ _ _ (a.to.map (imgM b)).length (icells (a.to.map (imgM b)))
  rw [List.length_map]
  exact (ho.chg hc7 (fun b hb hm => absurd (by simp at hm; subst hm; exact Own.type ho hb (hR.ext hx6)) (by decide))).low hz3
 have b0 : i < a.to.length := by simp at b0; omega
 obtain ⟨z, hz⟩ : ∃ z, a.to[i]? = some z := ⟨_, List.getElem?_eq_getElem b0⟩
 have hzb := hbig z (List.mem_of_getElem? hz)
 obtain ⟨a0, rfl, hc0⟩ := ha.at b0
 have hzd : a.to.getD i 0 = z := by rw [List.getD_eq_getElem?_getD, hz]; rfl
 rw [hzd, show i = ((i : Nat) : Int).toNat * 1 by omega] at hc0
 refine Sa ?_
 refine CW.drawHeld (fun w' => Ext w3 w') (fun w' h => hx6.trans h) (by kernel_rfl) fun w7 hx7 => ?_
 have hM7 := hM6.ext hx7
 replace ho := ho.ext hx7
 refine HW.take 0 rfl rfl rfl rfl (fun w _ => Y.pure rfl) rfl (by kernel_rfl) (by kernel_rfl) (by kernel_rfl) (fun _ _ _ h => h) ?_
 refine HW.take 2 rfl rfl rfl rfl (fun w hw => Y.load_all rfl (hB.ext hw) rfl rfl rfl) rfl (by kernel_rfl) (by kernel_rfl) (by kernel_rfl) (fun _ _ _ h => h) ?_
 refine HW.take 3 rfl rfl rfl rfl (fun w _ => Y.pure rfl) rfl (by kernel_rfl) (by kernel_rfl) (by kernel_rfl) (fun _ _ _ h => h) ?_
 refine HW.take 4 rfl rfl rfl rfl (fun w hw => Y.load rfl (hA.ext hw) rfl rfl rfl) rfl (by kernel_rfl) (by kernel_rfl) (by kernel_rfl) (fun _ _ _ h => h) ?_
 refine HW.take 5 rfl rfl rfl rfl (fun w _ => Y.pure rfl) rfl (by kernel_rfl) (by kernel_rfl) (by kernel_rfl) (fun _ _ _ h => h) ?_
 refine HW.take 6 rfl rfl rfl rfl (fun w _ => Y.idx_addr rfl rfl rfl rfl rfl (by omega) (by omega)) rfl (by kernel_rfl) (by kernel_rfl) (by kernel_rfl) (fun _ _ _ h => h) ?_
 refine HW.take 7 rfl rfl rfl rfl (fun w hw => Y.load_cell rfl (cell_ext hw hc0) rfl rfl) rfl (by kernel_rfl) (by kernel_rfl) (by kernel_rfl) (fun _ _ _ h => h) ?_
 refine HW.two 1 8 (by kernel_rfl) rfl rfl rfl rfl (fun hS => ?_) (fun hS => ?_)
 ·refine LW.load rfl hM7 rfl rfl rfl rfl ?_
  apply LW.nil
  refine QW.held hS ?_
  refine HW.one 8 (by kernel_rfl) rfl rfl (fun hS => ?_)
  refine LW.call0 rfl rfl (rImage_ret b hbf _ z hzb w7 ⟨_, rfl, hb.ext hS⟩) ?_
  rintro v w8 ⟨rfl, hx8⟩
  apply LW.nil
  refine QW.held (hS.trans hx8) ?_
  refine HW.one 9 (by kernel_rfl) rfl rfl (fun hS => ?_)
  refine Lwl fun C w9 hbC hx9 hC => ?_
  have hx79 := hx8.trans hx9
  apply LW.nil
  refine QW.held (hS.trans hx9) ?_
  replace hC : Blk w9 C [.int .i64 (imgM b z)] 3 := hC
  have hM9 := hM7.ext hx79
  have ho9 := ho.ext hx79
  refine HW.one 10 (by kernel_rfl) rfl rfl (fun hS => ?_)
  refine LW.append rfl rfl rfl rfl rfl rfl ho9 hS.size hC rfl rfl rfl (by show (i + 1) * 9 ≤ 140737488355328; omega) rfl ?_
  intro v' w10 hc10 ho10 hv10
  obtain ⟨p', c', rfl⟩ := ho10.slice
  have hM10 := hM9.chg hc10 (fun hm => absurd (Own.type ho9 hm hM9) (by decide))
  have hx10 := hS.step hc10 (fun b hb => (ho9.lt hb).1)
  apply LW.nil
  refine QW.held hx10 ?_
  refine HW.take 11 rfl rfl rfl rfl (fun w _ => Y.pure rfl) rfl (by kernel_rfl) (by kernel_rfl) (by kernel_rfl) (fun _ _ _ h => h) ?_
  refine HW.one 12 (by kernel_rfl) rfl rfl (fun hS => ?_)
  refine Lwt fun w11 hc11 hM11 => ?_
  replace hM11 : Blk w11 M [.slice p' (i + 1) c', .int .i64 b.new] 68 := hM11
  have ho11 := ho10.chg hc11 (fun b hb hm => absurd (by simp at hm; subst hm; exact Own.type ho10 hb hM10) (by decide))
  have hx11 := hx10.step hc11 (by simpa using hM3)
  rw [← then_snoc (b := b) hz] at ho11
  apply LW.nil
  refine QW.held hx11 ?_
  refine HW.done (by kernel_rfl) ?_
  refine Sa ?_
  exact QW.again (i + 1, p', c') ⟨b0, hx11, hM11, ho11⟩ (Sub.cons rfl (Sub.cons rfl (Sub.cons rfl (Sub.cons rfl (Sub.cons rfl (Sub.nil)))))) (by show a.to.length - (i + 1) < a.to.length - i; omega)
 ·refine LW.call0 rfl rfl (rImage_ret b hbf _ z hzb w7 ⟨_, rfl, hb.ext hS⟩) ?_
  rintro v w8 ⟨rfl, hx8⟩
  apply LW.nil
  refine QW.held (hS.trans hx8) ?_
  refine HW.two 1 9 (by kernel_rfl) rfl rfl rfl rfl (fun hS => ?_) (fun hS => ?_)
  ·refine LW.load rfl (hM7.ext hx8) rfl rfl rfl rfl ?_
   apply LW.nil
   refine QW.held hS ?_
   refine HW.one 9 (by kernel_rfl) rfl rfl (fun hS => ?_)
   refine Lwl fun C w9 hbC hx9 hC => ?_
   have hx79 := hx8.trans hx9
   apply LW.nil
   refine QW.held (hS.trans hx9) ?_
   replace hC : Blk w9 C [.int .i64 (imgM b z)] 3 := hC
   have hM9 := hM7.ext hx79
   have ho9 := ho.ext hx79
   refine HW.one 10 (by kernel_rfl) rfl rfl (fun hS => ?_)
   refine LW.append rfl rfl rfl rfl rfl rfl ho9 hS.size hC rfl rfl rfl (by show (i + 1) * 9 ≤ 140737488355328; omega) rfl ?_
   intro v' w10 hc10 ho10 hv10
   obtain ⟨p', c', rfl⟩ := ho10.slice
   have hM10 := hM9.chg hc10 (fun hm => absurd (Own.type ho9 hm hM9) (by decide))
   have hx10 := hS.step hc10 (fun b hb => (ho9.lt hb).1)
   apply LW.nil
   refine QW.held hx10 ?_
   refine HW.take 11 rfl rfl rfl rfl (fun w _ => Y.pure rfl) rfl (by kernel_rfl) (by kernel_rfl) (by kernel_rfl) (fun _ _ _ h => h) ?_
   refine HW.one 12 (by kernel_rfl) rfl rfl (fun hS => ?_)
   refine Lwt fun w11 hc11 hM11 => ?_
   replace hM11 : Blk w11 M [.slice p' (i + 1) c', .int .i64 b.new] 68 := hM11
   have ho11 := ho10.chg hc11 (fun b hb hm => absurd (by simp at hm; subst hm; exact Own.type ho10 hb hM10) (by decide))
   have hx11 := hx10.step hc11 (by simpa using hM3)
   rw [← then_snoc (b := b) hz] at ho11
   apply LW.nil
   refine QW.held hx11 ?_
   refine HW.done (by kernel_rfl) ?_
   refine Sa ?_
   exact QW.again (i + 1, p', c') ⟨b0, hx11, hM11, ho11⟩ (Sub.cons rfl (Sub.cons rfl (Sub.cons rfl (Sub.cons rfl (Sub.cons rfl (Sub.nil)))))) (by show a.to.length - (i + 1) < a.to.length - i; omega)
  ·refine Lwl fun C w9 hbC hx9 hC => ?_
   have hx79 := hx8.trans hx9
   apply LW.nil
   refine QW.held (hS.trans hx9) ?_
   refine HW.one 1 (by kernel_rfl) rfl rfl (fun hS => ?_)
   refine LW.load rfl (hM7.ext hx79) rfl rfl rfl rfl ?_
   apply LW.nil
   refine QW.held hS ?_
   replace hC : Blk w9 C [.int .i64 (imgM b z)] 3 := hC
   have hM9 := hM7.ext hx79
   have ho9 := ho.ext hx79
   refine HW.one 10 (by kernel_rfl) rfl rfl (fun hS => ?_)
   refine LW.append rfl rfl rfl rfl rfl rfl ho9 hS.size hC rfl rfl rfl (by show (i + 1) * 9 ≤ 140737488355328; omega) rfl ?_
   intro v' w10 hc10 ho10 hv10
   obtain ⟨p', c', rfl⟩ := ho10.slice
   have hM10 := hM9.chg hc10 (fun hm => absurd (Own.type ho9 hm hM9) (by decide))
   have hx10 := hS.step hc10 (fun b hb => (ho9.lt hb).1)
   apply LW.nil
   refine QW.held hx10 ?_
   refine HW.take 11 rfl rfl rfl rfl (fun w _ => Y.pure rfl) rfl (by kernel_rfl) (by kernel_rfl) (by kernel_rfl) (fun _ _ _ h => h) ?_
   refine HW.one 12 (by kernel_rfl) rfl rfl (fun hS => ?_)
   refine Lwt fun w11 hc11 hM11 => ?_
   replace hM11 : Blk w11 M [.slice p' (i + 1) c', .int .i64 b.new] 68 := hM11
   have ho11 := ho10.chg hc11 (fun b hb hm => absurd (by simp at hm; subst hm; exact Own.type ho10 hb hM10) (by decide))
   have hx11 := hx10.step hc11 (by simpa using hM3)
   rw [← then_snoc (b := b) hz] at ho11
   apply LW.nil
   refine QW.held hx11 ?_
   refine HW.done (by kernel_rfl) ?_
   refine Sa ?_
   exact QW.again (i + 1, p', c') ⟨b0, hx11, hM11, ho11⟩ (Sub.cons rfl (Sub.cons rfl (Sub.cons rfl (Sub.cons rfl (Sub.cons rfl (Sub.nil)))))) (by show a.to.length - (i + 1) < a.to.length - i; omega)
end Go.Proofs.YtiaigmahdjhcoaaGreatDoor
