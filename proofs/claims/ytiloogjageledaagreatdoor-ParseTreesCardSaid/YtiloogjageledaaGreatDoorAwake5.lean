/-
  The example of the laws of layer 5.
-/
import Derived.Test.YtiloogjageledaaGreatDoorNodesM
namespace Go.Proofs.YtiloogjageledaaGreatDoor
open Go Go.E

theorem ex_parse : evalT 60 [49, 43, 50] = some (.ok [{ kind := 1, num := 1 }, { kind := 1, num := 2 }, { kind := 16, kids := [0, 1] }]) := isOk_eq (by decide +kernel)

theorem awake5_ret (w : World) (g : Glob w) : Ret Tryz.prog 21 [] w (fun v w' => v = .bool true ∧ Ext w w') := by
  refine Ret.enter Tryz.func21 rfl Tryz.ntmps21 (by kernel_rfl) rfl ?_
  refine Sa ?_
  refine LW.call0 rfl rfl (Parse_ret [49, 43, 50] (by simp) w g) ?_
  rintro v w1 ⟨hv, hx⟩
  obtain ⟨sv, rfl, hn⟩ := ParseV.is ex_parse hv
  obtain ⟨b, cap, nvs, sp, rfl, hB, hm, _⟩ := hn.get (by simp)
  obtain ⟨kv, hg⟩ := nodes_get hm (i := 2) rfl
  refine Sa ?_
  refine LW.call0 rfl rfl (Num_ret 0 w1) ?_
  rintro v w2 ⟨rfl, hx2⟩
  replace hB := hB.ext hx2
  replace hx := hx.trans hx2
  have hv : (nvs.flatMap nvL ++ sp)[2 * 14 + 0]? = some (.int .i64 16) := (flat_get nv_len nvs sp 2 _ 0 hg (by omega)).trans rfl
  refine Sz ?_
  refine LW.load rfl hB hv rfl rfl rfl ?_
  refine Sz ?_
  exact QW.body1 Tryz.results21 rfl ⟨rfl, hx⟩

end Go.Proofs.YtiloogjageledaaGreatDoor
