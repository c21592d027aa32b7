/-
  The laws of layer 5: what they call; how deep formulas go.
-/
import Derived.Test.YtfpklhgkndnjjaaDoorParF
import Derived.Test.YtfpklhgkndnjjaaDoorParG
namespace Go.Proofs.YtfpklhgkndnjjaaDoor
open Go Go.E

theorem ParseV.is {n : Nat} {s : List UInt8} {o : Except Int (List NodeD)} {v : Value} {w : World} {lo : Nat} (h : evalT n s = some o) (hv : ParseV s v w lo) : ResV w lo v o := by
  unfold evalT at h
  unfold ParseV at hv
  split at h
  · rename_i hb
    rw [if_pos hb] at hv
    simp only [Option.some.injEq] at h
    subst h
    exact hv
  · rename_i hb
    rw [if_neg hb] at hv
    cases hl : lexT s with
    | none =>
      rw [hl] at h hv
      simp only [Option.some.injEq] at h
      subst h
      exact hv
    | some T =>
      rw [hl] at h hv
      obtain ⟨o', hp, hv⟩ := hv
      have hpo : Parsed T o := by
        simp only at h
        split at h
        · rename_i e he
          simp only [Option.some.injEq] at h
          subst h
          exact .inl (evalP_PE T _ _ _ _ he)
        · rename_i s1 a he
          split at h
          · rename_i hk
            simp only [Option.some.injEq] at h
            subst h
            exact ⟨s1, a, evalP_PE T _ _ _ _ he, hk, rfl⟩
          · rename_i hk
            simp only [Option.some.injEq] at h
            subst h
            exact .inr ⟨rfl, s1, a, evalP_PE T _ _ _ _ he, hk⟩
        · cases h
      rw [hp.det hpo] at hv
      exact hv

theorem Nodes.get {w : World} {lo : Nat} {sv : Value} {l : List NodeD} (h : Nodes w lo sv l) (hn : 0 < l.length) :
    ∃ (g cap : Nat) (nvs : List NV) (sp : List Value), sv = .slice (some ⟨g, 0, none⟩) l.length cap ∧ Blk w g (nvs.flatMap nvL ++ sp) 59 ∧ nvs.map NV.node = l ∧ ∀ x ∈ nvs, KidsOk w x.kv x.node.kids := by
  obtain ⟨nvs, ho, hm, hk⟩ := h
  have hl : nvs.length = l.length := by rw [← hm]; simp
  obtain ⟨g, cap, sp, rfl, hB, _⟩ := ho.get (by omega)
  exact ⟨g, cap, nvs, sp, by rw [hl], hB, hm, hk⟩
theorem Nodes.slice {w : World} {lo : Nat} {sv : Value} {l : List NodeD} (h : Nodes w lo sv l) : ∃ p c, sv = .slice p l.length c := by
  obtain ⟨nvs, ho, hm, hk⟩ := h
  have hl : nvs.length = l.length := by rw [← hm]; simp
  obtain ⟨p, c, e⟩ := ho.slice
  exact ⟨p, c, by rw [e, hl]⟩

theorem nodes_get {nvs : List NV} {l : List NodeD} (hm : nvs.map NV.node = l) {i : Nat} {nd : NodeD} (h : l[i]? = some nd) : ∃ kv, nvs[i]? = some ⟨nd, kv⟩ := by
  rw [← hm, List.getElem?_map] at h
  cases e : nvs[i]? with
  | none => rw [e] at h; cases h
  | some x =>
    rw [e] at h
    simp only [Option.map_some, Option.some.injEq] at h
    exact ⟨x.kv, by rw [← h]⟩
def isOk (o : Option (Except Int (List NodeD))) (l : List NodeD) : Bool := match o with
  | some (.ok l') => decide (l' = l)
  | _ => false
theorem isOk_eq {o : Option (Except Int (List NodeD))} {l : List NodeD} (h : isOk o l = true) : o = some (.ok l) := by
  unfold isOk at h
  split at h
  · rw [of_decide_eq_true h]
  · cases h
theorem ex_parse : evalT 60 [49, 43, 50] = some (.ok [{ kind := 1, num := 1 }, { kind := 1, num := 2 }, { kind := 16, kids := [0, 1] }]) := isOk_eq (by decide +kernel)

theorem awake5_ret (w : World) (g : Glob w) : Ret Tryd.prog 32 [] w (fun v w' => v = .bool true ∧ Ext w w') := by
  refine Ret.enter Tryd.func32 rfl Tryd.ntmps32 (by kernel_rfl) rfl ?_
  (repeat (first | refine La ?_ | refine Lb ?_ | refine Lc ?_ | refine Ld ?_ | refine Le ?_ | refine Lf ?_ | refine Lg ?_ | apply LW.nil | apply QW.then_n | apply QW.round | apply RW.succ | apply CW.seq | apply CW.region | apply CW.skip | apply CW.block | apply CW.ret | apply CW.exit | apply QW.then_ret | apply QW.then_exit | apply QW.blk_n | apply QW.blk_ret | apply QW.blk_exit | refine Ca ?_ | refine Cb ?_ | refine Cc ?_ | refine Lh ?_ | refine Li ?_ | refine Lj ?_ | refine Lk ?_ | refine Ll ?_))
  refine LW.call0 rfl rfl (Parse_ret [49, 43, 50] (by simp) w g) ?_
  rintro v w1 ⟨hv, hx⟩
  obtain ⟨sv, rfl, hn⟩ := ParseV.is ex_parse hv
  obtain ⟨b, cap, nvs, sp, rfl, hB, hm, _⟩ := hn.get (by simp)
  obtain ⟨kv, hg⟩ := nodes_get hm (i := 2) rfl
  (repeat (first | refine La ?_ | refine Lb ?_ | refine Lc ?_ | refine Ld ?_ | refine Le ?_ | refine Lf ?_ | refine Lg ?_ | apply LW.nil | apply QW.then_n | apply QW.round | apply RW.succ | apply CW.seq | apply CW.region | apply CW.skip | apply CW.block | apply CW.ret | apply CW.exit | apply QW.then_ret | apply QW.then_exit | apply QW.blk_n | apply QW.blk_ret | apply QW.blk_exit | refine Ca ?_ | refine Cb ?_ | refine Cc ?_ | refine Lh ?_ | refine Li ?_ | refine Lj ?_ | refine Lk ?_ | refine Ll ?_))
  refine LW.call0 rfl rfl (Num_ret 0 w1) ?_
  rintro v w2 ⟨rfl, hx2⟩
  replace hB := hB.ext hx2
  replace hx := hx.trans hx2
  have hv : (nvs.flatMap nvL ++ sp)[2 * 14 + 0]? = some (.int .i64 16) := (flat_get nv_len nvs sp 2 _ 0 hg (by omega)).trans rfl
  (repeat (first | refine La ?_ | refine Lb ?_ | refine Lc ?_ | refine Ld ?_ | refine Le ?_ | refine Lf ?_ | refine Lg ?_ | apply LW.nil | apply QW.then_n | apply QW.round | apply RW.succ | apply CW.seq | apply CW.region | apply CW.skip | apply CW.block | apply CW.ret | apply CW.exit | apply QW.then_ret | apply QW.then_exit | apply QW.blk_n | apply QW.blk_ret | apply QW.blk_exit | refine Ca ?_ | refine Cb ?_ | refine Cc ?_ | refine Lh ?_ | refine Li ?_ | refine Lj ?_ | refine Lk ?_ | refine Ll ?_ | refine Lm ?_))
  refine LW.load rfl hB hv rfl rfl rfl ?_
  (repeat (first | refine La ?_ | refine Lb ?_ | refine Lc ?_ | refine Ld ?_ | refine Le ?_ | refine Lf ?_ | refine Lg ?_ | apply LW.nil | apply QW.then_n | apply QW.round | apply RW.succ | apply CW.seq | apply CW.region | apply CW.skip | apply CW.block | apply CW.ret | apply CW.exit | apply QW.then_ret | apply QW.then_exit | apply QW.blk_n | apply QW.blk_ret | apply QW.blk_exit | refine Ca ?_ | refine Cb ?_ | refine Cc ?_ | refine Lh ?_ | refine Li ?_ | refine Lj ?_ | refine Lk ?_ | refine Ll ?_ | refine Lm ?_))
  exact QW.body1 Tryd.results32 rfl ⟨rfl, hx⟩

def opT : Nat → List UInt8
  | 0 => [40]
  | 1 => [45]
  | _ => [83, 85, 77, 40]
def clT : Nat → List UInt8
  | 0 => [41]
  | 1 => []
  | _ => [41]
def repT (a : List UInt8) : Nat → List UInt8
  | 0 => []
  | n + 1 => repT a n ++ a
def deepT (h k : Nat) : List UInt8 := repT (opT h) k ++ [49] ++ repT (clT h) k
def okDeep (h k : Nat) : Bool := match evalT 600 (deepT h k) with
  | some (.error e) => decide (12 < k) && decide (e = 6)
  | some (.ok l) => decide (k ≤ 12) && decide (l.length = if h = 0 then 1 else 1 + k)
  | none => false
theorem all_deep : ∀ h : Fin 3, ∀ k : Fin 20, okDeep h.val k.val = true := by decide +kernel
theorem rep_len (a : List UInt8) : ∀ n, (repT a n).length = n * a.length
  | 0 => by simp [repT]
  | n + 1 => by rw [repT, List.length_append, rep_len a n, Nat.add_mul]; omega
theorem op_len (h : Nat) : (opT h).length ≤ 4 ∧ (clT h).length ≤ 1 := by
  match h with
  | 0 | 1 | n + 2 => simp [opT, clT]

theorem ParseDeep_ret (n h : Int) (hn0 : 0 ≤ n) (hn1 : n ≤ 255) (hh0 : 0 ≤ h) (hh1 : h ≤ 255) (w : World) (g : Glob w) :
    Ret Tryd.prog 10 [.int .u8 n, .int .u8 h] w (fun v w' => v = .bool true ∧ Ext w w') := by
  obtain ⟨k, hk⟩ : ∃ k : Nat, (k : Int) = n % 20 := ⟨(n % 20).toNat, by omega⟩
  obtain ⟨m, hm⟩ : ∃ m : Nat, (m : Int) = h % 3 := ⟨(h % 3).toNat, by omega⟩
  have hm' : m = (h % 3).toNat := by omega
  have hk19 : k < 20 := by omega
  have hm2 : m < 3 := by omega
  have hA0 : ([str [40], str [45], str [83, 85, 77, 40]] : List Value)[m]? = some (str (opT m)) := by
    match m, hm2 with
    | 0, _ | 1, _ | 2, _ => rfl
  have hB0 : ([str [41], str [], str [41]] : List Value)[m]? = some (str (clT m)) := by
    match m, hm2 with
    | 0, _ | 1, _ | 2, _ => rfl
  obtain ⟨ol, cl⟩ := op_len m
  refine Ret.enter Tryd.func10 rfl Tryd.ntmps10 (by kernel_rfl) rfl ?_
  apply CW.seq
  apply CW.region
  (repeat (first | refine La ?_ | refine Lb ?_ | refine Lc ?_ | refine Ld ?_ | refine Le ?_ | refine Lf ?_ | refine Lg ?_ | refine Lh ?_ | refine Li ?_ | refine Lj ?_ | refine Lk ?_ | refine Ll ?_))
  apply LW.nil
  apply QW.then_n
  apply CW.seq
  apply CW.region
  (repeat (first | refine La ?_ | refine Lb ?_ | refine Lc ?_ | refine Ld ?_ | refine Le ?_ | refine Lf ?_ | refine Lg ?_ | refine Lh ?_ | refine Li ?_ | refine Lj ?_ | refine Lk ?_ | refine Ll ?_))
  apply LW.nil
  apply QW.then_n
  refine CW.seq_cut (ι := Unit) (fun _ w' => Ext w w') (fun _ => [(0, .int .u8 n), (1, .int .u8 h), (5, .int .i64 (n % 20)), (6, str (opT m)), (7, str (clT m))]) ?_ ?_
  · refine CW.drawAny (by kernel_rfl) fun w1 hx1 => ?_
    refine AW.take 1 rfl rfl rfl rfl (fun w => Y.pure rfl) rfl rfl (by kernel_rfl) (by kernel_rfl) (by kernel_rfl) (fun _ _ _ h => h) ?_
    refine AW.take 2 rfl rfl rfl rfl (fun w => Y.go rfl (by first | omega | exact ⟨by omega, by omega⟩ | exact ⟨by omega, by omega, by omega⟩)) rfl rfl (by kernel_rfl) (by kernel_rfl) (by kernel_rfl) (fun _ _ _ h => h) ?_
    refine AW.take 6 rfl rfl rfl rfl (fun w => Y.pure rfl) rfl rfl (by kernel_rfl) (by kernel_rfl) (by kernel_rfl) (fun _ _ _ h => h) ?_
    refine AW.take 7 rfl rfl rfl rfl (fun w => Y.go rfl (by first | omega | exact ⟨by omega, by omega⟩ | exact ⟨by omega, by omega, by omega⟩)) rfl rfl (by kernel_rfl) (by kernel_rfl) (by kernel_rfl) (fun _ _ _ h => h) ?_
    refine AW.two 0 5 (by kernel_rfl) rfl rfl rfl rfl ?_ ?_
    · (apply LW.buildSlice; exact rfl; exact rfl; exact rfl; exact rfl; exact rfl; exact rfl; exact rfl; exact rfl; exact rfl; intro A wA hbA hxA hA)
      replace hx1 := hx1.trans hxA
      try replace hB := hB.ext hxA
      apply LW.nil
      apply QW.any
      refine AW.take 3 (v := .pointer (some ⟨A, m, none⟩)) rfl rfl rfl rfl (fun w => Y.idx_slice (j := m) rfl rfl rfl rfl rfl (by omega) (by omega) (by show 0 + _ * 1 = _; omega)) rfl rfl (by kernel_rfl) (by kernel_rfl) (by kernel_rfl) (fun _ _ _ h => h) ?_
      refine AW.two 4 5 (by kernel_rfl) rfl rfl rfl rfl ?_ ?_
      · refine LW.load rfl hA hA0 rfl rfl rfl ?_
        apply LW.nil
        apply QW.any
        refine AW.take 10 rfl rfl rfl rfl (fun w => Y.pure rfl) rfl rfl (by kernel_rfl) (by kernel_rfl) (by kernel_rfl) (fun _ _ _ h => h) ?_
        refine AW.one 5 (by kernel_rfl) rfl rfl ?_
        (apply LW.buildSlice; exact rfl; exact rfl; exact rfl; exact rfl; exact rfl; exact rfl; exact rfl; exact rfl; exact rfl; intro B wB hbB hxB hB)
        replace hx1 := hx1.trans hxB
        try replace hA := hA.ext hxB
        apply LW.nil
        apply QW.any
        refine AW.take 8 (v := .pointer (some ⟨B, m, none⟩)) rfl rfl rfl rfl (fun w => Y.idx_slice (j := m) rfl rfl rfl rfl rfl (by omega) (by omega) (by show 0 + _ * 1 = _; omega)) rfl rfl (by kernel_rfl) (by kernel_rfl) (by kernel_rfl) (fun _ _ _ h => h) ?_
        refine AW.one 9 (by kernel_rfl) rfl rfl ?_
        refine LW.load rfl hB hB0 rfl rfl rfl ?_
        apply LW.nil
        apply QW.any
        refine AW.one 11 (by kernel_rfl) rfl rfl ?_
        (repeat (first | refine La ?_ | refine Lb ?_ | refine Lc ?_ | refine Ld ?_ | refine Le ?_ | refine Lf ?_ | refine Lg ?_ | apply LW.nil | apply QW.then_n | apply QW.round | apply RW.succ | apply CW.seq | apply CW.region | apply CW.skip | apply CW.block | apply CW.ret | apply CW.exit | apply QW.then_ret | apply QW.then_exit | apply QW.blk_n | apply QW.blk_ret | apply QW.blk_exit | refine Ca ?_ | refine Cb ?_ | refine Cc ?_ | refine Lh ?_ | refine Li ?_ | refine Lj ?_ | refine Lk ?_ | refine Ll ?_))
        apply QW.any
        refine AW.done (by kernel_rfl) ?_
        exact QW.head () hx1 (Sub.cons rfl (Sub.cons rfl (Sub.cons rfl (Sub.cons rfl (Sub.cons rfl (Sub.nil))))))
      · (apply LW.buildSlice; exact rfl; exact rfl; exact rfl; exact rfl; exact rfl; exact rfl; exact rfl; exact rfl; exact rfl; intro B wB hbB hxB hB)
        replace hx1 := hx1.trans hxB
        try replace hA := hA.ext hxB
        apply LW.nil
        apply QW.any
        refine AW.take 8 (v := .pointer (some ⟨B, m, none⟩)) rfl rfl rfl rfl (fun w => Y.idx_slice (j := m) rfl rfl rfl rfl rfl (by omega) (by omega) (by show 0 + _ * 1 = _; omega)) rfl rfl (by kernel_rfl) (by kernel_rfl) (by kernel_rfl) (fun _ _ _ h => h) ?_
        refine AW.two 4 9 (by kernel_rfl) rfl rfl rfl rfl ?_ ?_
        · refine LW.load rfl hA hA0 rfl rfl rfl ?_
          apply LW.nil
          apply QW.any
          refine AW.take 10 rfl rfl rfl rfl (fun w => Y.pure rfl) rfl rfl (by kernel_rfl) (by kernel_rfl) (by kernel_rfl) (fun _ _ _ h => h) ?_
          refine AW.one 9 (by kernel_rfl) rfl rfl ?_
          refine LW.load rfl hB hB0 rfl rfl rfl ?_
          apply LW.nil
          apply QW.any
          refine AW.one 11 (by kernel_rfl) rfl rfl ?_
          (repeat (first | refine La ?_ | refine Lb ?_ | refine Lc ?_ | refine Ld ?_ | refine Le ?_ | refine Lf ?_ | refine Lg ?_ | apply LW.nil | apply QW.then_n | apply QW.round | apply RW.succ | apply CW.seq | apply CW.region | apply CW.skip | apply CW.block | apply CW.ret | apply CW.exit | apply QW.then_ret | apply QW.then_exit | apply QW.blk_n | apply QW.blk_ret | apply QW.blk_exit | refine Ca ?_ | refine Cb ?_ | refine Cc ?_ | refine Lh ?_ | refine Li ?_ | refine Lj ?_ | refine Lk ?_ | refine Ll ?_))
          apply QW.any
          refine AW.done (by kernel_rfl) ?_
          exact QW.head () hx1 (Sub.cons rfl (Sub.cons rfl (Sub.cons rfl (Sub.cons rfl (Sub.cons rfl (Sub.nil))))))
        · refine LW.load rfl hB hB0 rfl rfl rfl ?_
          apply LW.nil
          apply QW.any
          refine AW.one 4 (by kernel_rfl) rfl rfl ?_
          refine LW.load rfl hA hA0 rfl rfl rfl ?_
          apply LW.nil
          apply QW.any
          refine AW.take 10 rfl rfl rfl rfl (fun w => Y.pure rfl) rfl rfl (by kernel_rfl) (by kernel_rfl) (by kernel_rfl) (fun _ _ _ h => h) ?_
          refine AW.one 11 (by kernel_rfl) rfl rfl ?_
          (repeat (first | refine La ?_ | refine Lb ?_ | refine Lc ?_ | refine Ld ?_ | refine Le ?_ | refine Lf ?_ | refine Lg ?_ | apply LW.nil | apply QW.then_n | apply QW.round | apply RW.succ | apply CW.seq | apply CW.region | apply CW.skip | apply CW.block | apply CW.ret | apply CW.exit | apply QW.then_ret | apply QW.then_exit | apply QW.blk_n | apply QW.blk_ret | apply QW.blk_exit | refine Ca ?_ | refine Cb ?_ | refine Cc ?_ | refine Lh ?_ | refine Li ?_ | refine Lj ?_ | refine Lk ?_ | refine Ll ?_))
          apply QW.any
          refine AW.done (by kernel_rfl) ?_
          exact QW.head () hx1 (Sub.cons rfl (Sub.cons rfl (Sub.cons rfl (Sub.cons rfl (Sub.cons rfl (Sub.nil))))))
    · (apply LW.buildSlice; exact rfl; exact rfl; exact rfl; exact rfl; exact rfl; exact rfl; exact rfl; exact rfl; exact rfl; intro B wB hbB hxB hB)
      replace hx1 := hx1.trans hxB
      try replace hA := hA.ext hxB
      apply LW.nil
      apply QW.any
      refine AW.take 8 (v := .pointer (some ⟨B, m, none⟩)) rfl rfl rfl rfl (fun w => Y.idx_slice (j := m) rfl rfl rfl rfl rfl (by omega) (by omega) (by show 0 + _ * 1 = _; omega)) rfl rfl (by kernel_rfl) (by kernel_rfl) (by kernel_rfl) (fun _ _ _ h => h) ?_
      refine AW.two 0 9 (by kernel_rfl) rfl rfl rfl rfl ?_ ?_
      · (apply LW.buildSlice; exact rfl; exact rfl; exact rfl; exact rfl; exact rfl; exact rfl; exact rfl; exact rfl; exact rfl; intro A wA hbA hxA hA)
        replace hx1 := hx1.trans hxA
        try replace hB := hB.ext hxA
        apply LW.nil
        apply QW.any
        refine AW.take 3 (v := .pointer (some ⟨A, m, none⟩)) rfl rfl rfl rfl (fun w => Y.idx_slice (j := m) rfl rfl rfl rfl rfl (by omega) (by omega) (by show 0 + _ * 1 = _; omega)) rfl rfl (by kernel_rfl) (by kernel_rfl) (by kernel_rfl) (fun _ _ _ h => h) ?_
        refine AW.two 4 9 (by kernel_rfl) rfl rfl rfl rfl ?_ ?_
        · refine LW.load rfl hA hA0 rfl rfl rfl ?_
          apply LW.nil
          apply QW.any
          refine AW.take 10 rfl rfl rfl rfl (fun w => Y.pure rfl) rfl rfl (by kernel_rfl) (by kernel_rfl) (by kernel_rfl) (fun _ _ _ h => h) ?_
          refine AW.one 9 (by kernel_rfl) rfl rfl ?_
          refine LW.load rfl hB hB0 rfl rfl rfl ?_
          apply LW.nil
          apply QW.any
          refine AW.one 11 (by kernel_rfl) rfl rfl ?_
          (repeat (first | refine La ?_ | refine Lb ?_ | refine Lc ?_ | refine Ld ?_ | refine Le ?_ | refine Lf ?_ | refine Lg ?_ | apply LW.nil | apply QW.then_n | apply QW.round | apply RW.succ | apply CW.seq | apply CW.region | apply CW.skip | apply CW.block | apply CW.ret | apply CW.exit | apply QW.then_ret | apply QW.then_exit | apply QW.blk_n | apply QW.blk_ret | apply QW.blk_exit | refine Ca ?_ | refine Cb ?_ | refine Cc ?_ | refine Lh ?_ | refine Li ?_ | refine Lj ?_ | refine Lk ?_ | refine Ll ?_))
          apply QW.any
          refine AW.done (by kernel_rfl) ?_
          exact QW.head () hx1 (Sub.cons rfl (Sub.cons rfl (Sub.cons rfl (Sub.cons rfl (Sub.cons rfl (Sub.nil))))))
        · refine LW.load rfl hB hB0 rfl rfl rfl ?_
          apply LW.nil
          apply QW.any
          refine AW.one 4 (by kernel_rfl) rfl rfl ?_
          refine LW.load rfl hA hA0 rfl rfl rfl ?_
          apply LW.nil
          apply QW.any
          refine AW.take 10 rfl rfl rfl rfl (fun w => Y.pure rfl) rfl rfl (by kernel_rfl) (by kernel_rfl) (by kernel_rfl) (fun _ _ _ h => h) ?_
          refine AW.one 11 (by kernel_rfl) rfl rfl ?_
          (repeat (first | refine La ?_ | refine Lb ?_ | refine Lc ?_ | refine Ld ?_ | refine Le ?_ | refine Lf ?_ | refine Lg ?_ | apply LW.nil | apply QW.then_n | apply QW.round | apply RW.succ | apply CW.seq | apply CW.region | apply CW.skip | apply CW.block | apply CW.ret | apply CW.exit | apply QW.then_ret | apply QW.then_exit | apply QW.blk_n | apply QW.blk_ret | apply QW.blk_exit | refine Ca ?_ | refine Cb ?_ | refine Cc ?_ | refine Lh ?_ | refine Li ?_ | refine Lj ?_ | refine Lk ?_ | refine Ll ?_))
          apply QW.any
          refine AW.done (by kernel_rfl) ?_
          exact QW.head () hx1 (Sub.cons rfl (Sub.cons rfl (Sub.cons rfl (Sub.cons rfl (Sub.cons rfl (Sub.nil))))))
      · refine LW.load rfl hB hB0 rfl rfl rfl ?_
        apply LW.nil
        apply QW.any
        refine AW.one 0 (by kernel_rfl) rfl rfl ?_
        (apply LW.buildSlice; exact rfl; exact rfl; exact rfl; exact rfl; exact rfl; exact rfl; exact rfl; exact rfl; exact rfl; intro A wA hbA hxA hA)
        replace hx1 := hx1.trans hxA
        try replace hB := hB.ext hxA
        apply LW.nil
        apply QW.any
        refine AW.take 3 (v := .pointer (some ⟨A, m, none⟩)) rfl rfl rfl rfl (fun w => Y.idx_slice (j := m) rfl rfl rfl rfl rfl (by omega) (by omega) (by show 0 + _ * 1 = _; omega)) rfl rfl (by kernel_rfl) (by kernel_rfl) (by kernel_rfl) (fun _ _ _ h => h) ?_
        refine AW.one 4 (by kernel_rfl) rfl rfl ?_
        refine LW.load rfl hA hA0 rfl rfl rfl ?_
        apply LW.nil
        apply QW.any
        refine AW.take 10 rfl rfl rfl rfl (fun w => Y.pure rfl) rfl rfl (by kernel_rfl) (by kernel_rfl) (by kernel_rfl) (fun _ _ _ h => h) ?_
        refine AW.one 11 (by kernel_rfl) rfl rfl ?_
        (repeat (first | refine La ?_ | refine Lb ?_ | refine Lc ?_ | refine Ld ?_ | refine Le ?_ | refine Lf ?_ | refine Lg ?_ | apply LW.nil | apply QW.then_n | apply QW.round | apply RW.succ | apply CW.seq | apply CW.region | apply CW.skip | apply CW.block | apply CW.ret | apply CW.exit | apply QW.then_ret | apply QW.then_exit | apply QW.blk_n | apply QW.blk_ret | apply QW.blk_exit | refine Ca ?_ | refine Cb ?_ | refine Cc ?_ | refine Lh ?_ | refine Li ?_ | refine Lj ?_ | refine Lk ?_ | refine Ll ?_))
        apply QW.any
        refine AW.done (by kernel_rfl) ?_
        exact QW.head () hx1 (Sub.cons rfl (Sub.cons rfl (Sub.cons rfl (Sub.cons rfl (Sub.cons rfl (Sub.nil))))))
  rintro _ w1 hx1
  (repeat (first | refine La ?_ | refine Lb ?_ | refine Lc ?_ | refine Ld ?_ | refine Le ?_ | refine Lf ?_ | refine Lg ?_ | apply LW.nil | apply QW.then_n | apply QW.round | apply RW.succ | apply CW.seq | apply CW.region | apply CW.skip | apply CW.block | apply CW.ret | apply CW.exit | apply QW.then_ret | apply QW.then_exit | apply QW.blk_n | apply QW.blk_ret | apply QW.blk_exit | refine Ca ?_ | refine Cb ?_ | refine Cc ?_ | refine Lh ?_ | refine Li ?_ | refine Lj ?_ | refine Lk ?_ | refine Ll ?_))
  refine CW.loop (ι := Nat) (fun i w' => i ≤ k ∧ w1 = w') (fun i => [(1, .int .u8 h), (5, .int .i64 (n % 20)), (6, str (opT m)), (7, str (clT m)), (8, str (repT (opT m) i)), (9, str (repT (clT m) i)), (10, .int .i64 i)]) (fun i => k - i) 0 ⟨by omega, rfl⟩ (Sub.cons rfl (Sub.cons rfl (Sub.cons rfl (Sub.cons rfl (Sub.cons rfl (Sub.cons rfl (Sub.cons rfl Sub.nil))))))) ?_
  rintro i w' ⟨hi, rfl⟩
  have l1 := rep_len (opT m) i
  have l2 := rep_len (clT m) i
  have l3 : i * (opT m).length ≤ 20 * 4 := Nat.mul_le_mul (by omega) ol
  have l4 : i * (clT m).length ≤ 20 * 1 := Nat.mul_le_mul (by omega) cl
  (repeat (first | refine La ?_ | refine Lb ?_ | refine Lc ?_ | refine Ld ?_ | refine Le ?_ | refine Lf ?_ | refine Lg ?_ | apply LW.nil | apply QW.then_n | apply QW.round | apply RW.succ | apply CW.seq | apply CW.region | apply CW.skip | apply CW.block | apply CW.ret | apply CW.exit | apply QW.then_ret | apply QW.then_exit | apply QW.blk_n | apply QW.blk_ret | apply QW.blk_exit | refine Ca ?_ | refine Cb ?_ | refine Cc ?_ | refine Lh ?_ | refine Li ?_ | refine Lj ?_ | refine Lk ?_ | refine Ll ?_))
  refine CW.cond rfl (fun h1 => ?_) (fun h1 => ?_)
  · have h1 : i < k := by simp at h1; omega
    (repeat (first | refine La ?_ | refine Lb ?_ | refine Lc ?_ | refine Ld ?_ | refine Le ?_ | refine Lf ?_ | refine Lg ?_ | apply LW.nil | apply QW.then_n | apply QW.round | apply RW.succ | apply CW.seq | apply CW.region | apply CW.skip | apply CW.block | apply CW.ret | apply CW.exit | apply QW.then_ret | apply QW.then_exit | apply QW.blk_n | apply QW.blk_ret | apply QW.blk_exit | refine Ca ?_ | refine Cb ?_ | refine Cc ?_ | refine Lh ?_ | refine Li ?_ | refine Lj ?_ | refine Lk ?_ | refine Ll ?_))
    exact QW.again (i + 1) ⟨by omega, rfl⟩ (Sub.cons rfl (Sub.cons rfl (Sub.cons rfl (Sub.cons rfl (Sub.cons rfl (Sub.cons rfl (Sub.cons rfl Sub.nil))))))) (by omega)
  have h1 : i = k := by simp at h1; omega
  subst h1
  have hdl : (deepT m i).length ≤ 200 := by simp [deepT]; omega
  have hok : okDeep m i = true := all_deep ⟨m, hm2⟩ ⟨i, hk19⟩
  (repeat (first | refine La ?_ | refine Lb ?_ | refine Lc ?_ | refine Ld ?_ | refine Le ?_ | refine Lf ?_ | refine Lg ?_ | apply LW.nil | apply QW.then_n | apply QW.round | apply RW.succ | apply CW.seq | apply CW.region | apply CW.skip | apply CW.block | apply CW.ret | apply CW.exit | apply QW.then_ret | apply QW.then_exit | apply QW.blk_n | apply QW.blk_ret | apply QW.blk_exit | refine Ca ?_ | refine Cb ?_ | refine Cc ?_ | refine Lh ?_ | refine Li ?_ | refine Lj ?_ | refine Lk ?_ | refine Ll ?_))
  refine LW.call0 (vs := [str (deepT m i)]) rfl rfl (Parse_ret (deepT m i) (by omega) w1 (g.ext hx1)) ?_
  rintro v w2 ⟨hv, hx2⟩
  replace hx2 := hx1.trans hx2
  unfold okDeep at hok
  cases ho : evalT 600 (deepT m i) with
  | none => rw [ho] at hok; cases hok
  | some o =>
  rw [ho] at hok
  have hres := ParseV.is ho hv
  cases o with
  | error e =>
    simp only [Bool.and_eq_true, decide_eq_true_eq] at hok
    obtain ⟨h12, rfl⟩ := hok
    have hres : v = .tuple #[.slice none 0 0, .int .i64 6] := hres
    subst hres
    (repeat (first | refine La ?_ | refine Lb ?_ | refine Lc ?_ | refine Ld ?_ | refine Le ?_ | refine Lf ?_ | refine Lg ?_ | apply LW.nil | apply QW.then_n | apply QW.round | apply RW.succ | apply CW.seq | apply CW.region | apply CW.skip | apply CW.block | apply CW.ret | apply CW.exit | apply QW.then_ret | apply QW.then_exit | apply QW.blk_n | apply QW.blk_ret | apply QW.blk_exit | refine Ca ?_ | refine Cb ?_ | refine Cc ?_ | refine Lh ?_ | refine Li ?_ | refine Lj ?_ | refine Lk ?_ | refine Ll ?_))
    refine CW.yes rfl (by simp; omega) ?_
    (repeat (first | refine La ?_ | refine Lb ?_ | refine Lc ?_ | refine Ld ?_ | refine Le ?_ | refine Lf ?_ | refine Lg ?_ | apply LW.nil | apply QW.then_n | apply QW.round | apply RW.succ | apply CW.seq | apply CW.region | apply CW.skip | apply CW.block | apply CW.ret | apply CW.exit | apply QW.then_ret | apply QW.then_exit | apply QW.blk_n | apply QW.blk_ret | apply QW.blk_exit | refine Ca ?_ | refine Cb ?_ | refine Cc ?_ | refine Lh ?_ | refine Li ?_ | refine Lj ?_ | refine Lk ?_ | refine Ll ?_))
    refine LW.call0 rfl rfl (Num_ret 6 w2) ?_
    rintro v w3 ⟨rfl, hx3⟩
    (repeat (first | refine La ?_ | refine Lb ?_ | refine Lc ?_ | refine Ld ?_ | refine Le ?_ | refine Lf ?_ | refine Lg ?_ | apply LW.nil | apply QW.then_n | apply QW.round | apply RW.succ | apply CW.seq | apply CW.region | apply CW.skip | apply CW.block | apply CW.ret | apply CW.exit | apply QW.then_ret | apply QW.then_exit | apply QW.blk_n | apply QW.blk_ret | apply QW.blk_exit | refine Ca ?_ | refine Cb ?_ | refine Cc ?_ | refine Lh ?_ | refine Li ?_ | refine Lj ?_ | refine Lk ?_ | refine Ll ?_))
    refine LW.call0 rfl rfl (awake5_ret w3 (g.ext (hx2.trans hx3))) ?_
    rintro v w4 ⟨rfl, hx4⟩
    (repeat (first | refine La ?_ | refine Lb ?_ | refine Lc ?_ | refine Ld ?_ | refine Le ?_ | refine Lf ?_ | refine Lg ?_ | apply LW.nil | apply QW.then_n | apply QW.round | apply RW.succ | apply CW.seq | apply CW.region | apply CW.skip | apply CW.block | apply CW.ret | apply CW.exit | apply QW.then_ret | apply QW.then_exit | apply QW.blk_n | apply QW.blk_ret | apply QW.blk_exit | refine Ca ?_ | refine Cb ?_ | refine Cc ?_ | refine Lh ?_ | refine Li ?_ | refine Lj ?_ | refine Lk ?_ | refine Ll ?_))
    exact QW.body1 Tryd.results10 rfl ⟨rfl, (hx2.trans hx3).trans hx4⟩
  | ok l =>
    simp only [Bool.and_eq_true, decide_eq_true_eq] at hok
    obtain ⟨h12, hl⟩ := hok
    obtain ⟨sv, rfl, hn⟩ := hres
    obtain ⟨p, c, rfl⟩ := hn.slice
    (repeat (first | refine La ?_ | refine Lb ?_ | refine Lc ?_ | refine Ld ?_ | refine Le ?_ | refine Lf ?_ | refine Lg ?_ | apply LW.nil | apply QW.then_n | apply QW.round | apply RW.succ | apply CW.seq | apply CW.region | apply CW.skip | apply CW.block | apply CW.ret | apply CW.exit | apply QW.then_ret | apply QW.then_exit | apply QW.blk_n | apply QW.blk_ret | apply QW.blk_exit | refine Ca ?_ | refine Cb ?_ | refine Cc ?_ | refine Lh ?_ | refine Li ?_ | refine Lj ?_ | refine Lk ?_ | refine Ll ?_))
    refine CW.no rfl (by simp; omega) ?_
    (repeat (first | refine La ?_ | refine Lb ?_ | refine Lc ?_ | refine Ld ?_ | refine Le ?_ | refine Lf ?_ | refine Lg ?_ | apply LW.nil | apply QW.then_n | apply QW.round | apply RW.succ | apply CW.seq | apply CW.region | apply CW.skip | apply CW.block | apply CW.ret | apply CW.exit | apply QW.then_ret | apply QW.then_exit | apply QW.blk_n | apply QW.blk_ret | apply QW.blk_exit | refine Ca ?_ | refine Cb ?_ | refine Cc ?_ | refine Lh ?_ | refine Li ?_ | refine Lj ?_ | refine Lk ?_ | refine Ll ?_))
    refine CW.cond rfl (fun h2 => ?_) (fun h2 => ?_)
    · have h2 : m = 0 := by simp at h2; omega
      rw [if_pos h2] at hl
      (repeat (first | refine La ?_ | refine Lb ?_ | refine Lc ?_ | refine Ld ?_ | refine Le ?_ | refine Lf ?_ | refine Lg ?_ | apply LW.nil | apply QW.then_n | apply QW.round | apply RW.succ | apply CW.seq | apply CW.region | apply CW.skip | apply CW.block | apply CW.ret | apply CW.exit | apply QW.then_ret | apply QW.then_exit | apply QW.blk_n | apply QW.blk_ret | apply QW.blk_exit | refine Ca ?_ | refine Cb ?_ | refine Cc ?_ | refine Lh ?_ | refine Li ?_ | refine Lj ?_ | refine Lk ?_ | refine Ll ?_))
      refine LW.call0 rfl rfl (Num_ret 0 w2) ?_
      rintro v w3 ⟨rfl, hx3⟩
      (repeat (first | refine La ?_ | refine Lb ?_ | refine Lc ?_ | refine Ld ?_ | refine Le ?_ | refine Lf ?_ | refine Lg ?_ | apply LW.nil | apply QW.then_n | apply QW.round | apply RW.succ | apply CW.seq | apply CW.region | apply CW.skip | apply CW.block | apply CW.ret | apply CW.exit | apply QW.then_ret | apply QW.then_exit | apply QW.blk_n | apply QW.blk_ret | apply QW.blk_exit | refine Ca ?_ | refine Cb ?_ | refine Cc ?_ | refine Lh ?_ | refine Li ?_ | refine Lj ?_ | refine Lk ?_ | refine Ll ?_))
      refine LW.know (t := 73) (c := true) rfl (by simp; omega) ?_
      (repeat (first | refine La ?_ | refine Lb ?_ | refine Lc ?_ | refine Ld ?_ | refine Le ?_ | refine Lf ?_ | refine Lg ?_ | apply LW.nil | apply QW.then_n | apply QW.round | apply RW.succ | apply CW.seq | apply CW.region | apply CW.skip | apply CW.block | apply CW.ret | apply CW.exit | apply QW.then_ret | apply QW.then_exit | apply QW.blk_n | apply QW.blk_ret | apply QW.blk_exit | refine Ca ?_ | refine Cb ?_ | refine Cc ?_ | refine Lh ?_ | refine Li ?_ | refine Lj ?_ | refine Lk ?_ | refine Ll ?_))
      refine LW.call0 rfl rfl (awake5_ret w3 (g.ext (hx2.trans hx3))) ?_
      rintro v w4 ⟨rfl, hx4⟩
      (repeat (first | refine La ?_ | refine Lb ?_ | refine Lc ?_ | refine Ld ?_ | refine Le ?_ | refine Lf ?_ | refine Lg ?_ | apply LW.nil | apply QW.then_n | apply QW.round | apply RW.succ | apply CW.seq | apply CW.region | apply CW.skip | apply CW.block | apply CW.ret | apply CW.exit | apply QW.then_ret | apply QW.then_exit | apply QW.blk_n | apply QW.blk_ret | apply QW.blk_exit | refine Ca ?_ | refine Cb ?_ | refine Cc ?_ | refine Lh ?_ | refine Li ?_ | refine Lj ?_ | refine Lk ?_ | refine Ll ?_))
      exact QW.body1 Tryd.results10 rfl ⟨rfl, (hx2.trans hx3).trans hx4⟩
    · have h2 : m ≠ 0 := by simp at h2; omega
      rw [if_neg h2] at hl
      (repeat (first | refine La ?_ | refine Lb ?_ | refine Lc ?_ | refine Ld ?_ | refine Le ?_ | refine Lf ?_ | refine Lg ?_ | apply LW.nil | apply QW.then_n | apply QW.round | apply RW.succ | apply CW.seq | apply CW.region | apply CW.skip | apply CW.block | apply CW.ret | apply CW.exit | apply QW.then_ret | apply QW.then_exit | apply QW.blk_n | apply QW.blk_ret | apply QW.blk_exit | refine Ca ?_ | refine Cb ?_ | refine Cc ?_ | refine Lh ?_ | refine Li ?_ | refine Lj ?_ | refine Lk ?_ | refine Ll ?_))
      refine LW.call0 rfl rfl (Num_ret 0 w2) ?_
      rintro v w3 ⟨rfl, hx3⟩
      (repeat (first | refine La ?_ | refine Lb ?_ | refine Lc ?_ | refine Ld ?_ | refine Le ?_ | refine Lf ?_ | refine Lg ?_ | apply LW.nil | apply QW.then_n | apply QW.round | apply RW.succ | apply CW.seq | apply CW.region | apply CW.skip | apply CW.block | apply CW.ret | apply CW.exit | apply QW.then_ret | apply QW.then_exit | apply QW.blk_n | apply QW.blk_ret | apply QW.blk_exit | refine Ca ?_ | refine Cb ?_ | refine Cc ?_ | refine Lh ?_ | refine Li ?_ | refine Lj ?_ | refine Lk ?_ | refine Ll ?_))
      refine LW.know (t := 73) (c := true) rfl (by simp; omega) ?_
      (repeat (first | refine La ?_ | refine Lb ?_ | refine Lc ?_ | refine Ld ?_ | refine Le ?_ | refine Lf ?_ | refine Lg ?_ | apply LW.nil | apply QW.then_n | apply QW.round | apply RW.succ | apply CW.seq | apply CW.region | apply CW.skip | apply CW.block | apply CW.ret | apply CW.exit | apply QW.then_ret | apply QW.then_exit | apply QW.blk_n | apply QW.blk_ret | apply QW.blk_exit | refine Ca ?_ | refine Cb ?_ | refine Cc ?_ | refine Lh ?_ | refine Li ?_ | refine Lj ?_ | refine Lk ?_ | refine Ll ?_))
      refine LW.call0 rfl rfl (awake5_ret w3 (g.ext (hx2.trans hx3))) ?_
      rintro v w4 ⟨rfl, hx4⟩
      (repeat (first | refine La ?_ | refine Lb ?_ | refine Lc ?_ | refine Ld ?_ | refine Le ?_ | refine Lf ?_ | refine Lg ?_ | apply LW.nil | apply QW.then_n | apply QW.round | apply RW.succ | apply CW.seq | apply CW.region | apply CW.skip | apply CW.block | apply CW.ret | apply CW.exit | apply QW.then_ret | apply QW.then_exit | apply QW.blk_n | apply QW.blk_ret | apply QW.blk_exit | refine Ca ?_ | refine Cb ?_ | refine Cc ?_ | refine Lh ?_ | refine Li ?_ | refine Lj ?_ | refine Lk ?_ | refine Ll ?_))
      exact QW.body1 Tryd.results10 rfl ⟨rfl, (hx2.trans hx3).trans hx4⟩
end Go.Proofs.YtfpklhgkndnjjaaDoor
