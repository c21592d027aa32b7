/-
  Walks: the document's reader of a formula's tokens: levels, signs ahead, references, calls; all of them.
-/
import Derived.Test.YtiloogjageledaaGreatDoorRPar1
import Derived.Test.YtiloogjageledaaGreatDoorParL2
namespace Go.Proofs.YtiloogjageledaaGreatDoor
open Go Go.E

def rM (n : Nat) : PMode := if n < 4 then .lev n else .unary
theorem below_rM {n : Nat} (h : n < 4) : below n = rM (n + 1) := by
  unfold below rM
  by_cases h3 : n < 3
  · rw [if_pos h3, if_pos (by omega)]
  · rw [if_neg h3, if_neg (by omega)]
/-- How many nodes there may be once something is wrong. -/
def kc (m : PMode) (d : Nat) : Nat := 400 + 6 * (12 - d) + (match m with | .lev n => 4 - n | _ => 0)
theorem kc_below {n : Nat} (hn : n < 4) (d : Nat) : kc (below n) d + 1 ≤ kc (.lev n) d := by
  unfold below
  split <;> simp only [kc] <;> omega
theorem kc_le (m : PMode) (d : Nat) : 400 ≤ kc m d ∧ kc m d ≤ 500 := by
  unfold kc
  split <;> omega
def RG (c : PCtx) (X : List Nat) (m : PMode) (s : PSt) (w' : World) (z : Int) : Prop :=
  ∃ (s' : PSt) (p : Nat), z = (p : Int) ∧ PE c.T m s (.ok s' p) ∧ Rq c X w' s' ∧ s.at_ < s'.at_ ∧ s'.deep = s.deep ∧ s.at_ + s'.out.length ≤ s'.at_ + s.out.length
def RB (c : PCtx) (m : PMode) (s : PSt) (w' : World) : Prop := ∃ e d, PE c.T m s (.err e) ∧ (d = (s.deep : Int) ∨ d = s.deep - 1) ∧ Re c w' e d (kc m s.deep)
def RC (c : PCtx) (f : Nat) (av : List Value) (m : PMode) (s : PSt) : Prop := ∀ w X, (∀ b ∈ X, b < w.heap.size) → Rq c X w s → Ret Tryz.prog f (.pointer (some ⟨c.rb, 0, none⟩) :: av) w (fun v w' => ∃ z, v = .int .i64 z ∧ Fq w w' ∧ (RG c X m s w' z ∨ RB c m s w'))
theorem rx_map {c : PCtx} {X : List Nat} {m m' : PMode} {s : PSt} {w : World} {z : Int} (h : RG c X m s w z ∨ RB c m s w) (hp : ∀ r, PE c.T m s r → PE c.T m' s r) (hk : kc m s.deep ≤ kc m' s.deep) : RG c X m' s w z ∨ RB c m' s w := by
  rcases h with ⟨s', p, h1, h2, h3⟩ | ⟨e, d, h1, h2, h3⟩
  · exact .inl ⟨s', p, h1, hp _ h2, h3⟩
  · exact .inr ⟨e, d, hp _ h1, h2, h3.mono hk⟩

theorem row4_ret {c : PCtx} (s : PSt) (h1 : RC c 113 [] .unary s) : RC c 71 [.int .i64 4] .unary s := by
  intro w X hX h
  refine Ret.enter Tryz.func71 rfl Tryz.ntmps71 (by kernel_rfl) rfl ?_
  refine Sa ?_
  refine LW.call0 rfl rfl (h1 w X hX h) ?_
  rintro v w1 ⟨z, rfl, hf, hr⟩
  refine Sa ?_
  exact QW.body1 Tryz.results71 rfl ⟨z, rfl, hf, hr⟩

/-- What holds at the head of a level's loop. -/
def RI (c : PCtx) (X : List Nat) (n : Nat) (s : PSt) (w0 : World) (sb kb : Nat) (k : (PSt × Nat) ⊕ (Int × Int × Int)) (w' : World) : Prop :=
  Fq w0 w' ∧ Blk w' sb ((signsN n).map str) 9 ∧ Blk w' kb (icells (kindsN n)) 3 ∧ match k with
  | .inl (t, a) => s.at_ < t.at_ ∧ t.deep = s.deep ∧ s.at_ + t.out.length ≤ t.at_ + s.out.length ∧ Rq c X w' t ∧ ∀ r, PE c.T (.loop n a) t r → PE c.T (.lev n) s r
  | .inr (e, d, _) => PE c.T (.lev n) s (.err e) ∧ (d = (s.deep : Int) ∨ d = s.deep - 1) ∧ Re c w' e d (kc (.lev n) s.deep)
def zI : (PSt × Nat) ⊕ (Int × Int × Int) → Int
  | .inl (_, a) => (a : Int)
  | .inr (_, _, z) => z
def mI (L : Nat) : (PSt × Nat) ⊕ (Int × Int × Int) → Nat
  | .inl (t, _) => L - t.at_ + 1
  | .inr _ => 0
/-- What holds at the head of the search for a sign. -/
def RJ (c : PCtx) (X : List Nat) (n : Nat) (t : PSt) (w0 : World) (k : Nat ⊕ Nat) (w' : World) : Prop := match k with
  | .inl j => j ≤ (signsN n).length ∧ Ext w0 w' ∧ ∀ i, i < j → isS c.T t ((signsN n).getD i []) = false
  | .inr i => i < (signsN n).length ∧ opIx c.T t n = some i ∧ Rq c X w' (adv t) ∧ Fq w0 w'
def kJ (n : Nat) : Nat ⊕ Nat → Int
  | .inl _ => 0
  | .inr i => (kindsN n).getD i 0
def jJ : Nat ⊕ Nat → Int
  | .inl j => j
  | .inr i => (i : Int) + 1
def mJ (L : Nat) : Nat ⊕ Nat → Nat
  | .inl j => L - j + 1
  | .inr _ => 0
theorem kinds_pos {n i : Nat} (h : i < (kindsN n).length) : (kindsN n).getD i 0 ≠ 0 := by
  match n with
  | 0 =>
    have : ∀ i, i < (kindsN 0).length → (kindsN 0).getD i 0 ≠ 0 := by decide
    exact this i h
  | 1 =>
    have : ∀ i, i < (kindsN 1).length → (kindsN 1).getD i 0 ≠ 0 := by decide
    exact this i h
  | 2 =>
    have : ∀ i, i < (kindsN 2).length → (kindsN 2).getD i 0 ≠ 0 := by decide
    exact this i h
  | n + 3 =>
    have : ∀ i, i < (kindsN 3).length → (kindsN 3).getD i 0 ≠ 0 := by decide
    exact this i h
theorem op_some {T : List TokD} {t : PSt} {n i : Nat} (hi : i < (signsN n).length) (hn : ∀ j, j < i → isS T t ((signsN n).getD j []) = false) (h : isS T t ((signsN n).getD i []) = true) : opIx T t n = some i := by
  obtain ⟨h1, h2⟩ := isS_kind h
  rw [opIx, if_pos h1]
  refine findIdx_first _ [] _ i hi (fun j hj => ?_) (by simp [h2])
  have := hn j hj
  simpa [isS, h1, eq_comm] using this
theorem op_no {T : List TokD} {t : PSt} {n : Nat} (hn : ∀ j, j < (signsN n).length → isS T t ((signsN n).getD j []) = false) : opIx T t n = none := by
  unfold opIx
  split
  · rename_i h1
    refine findIdx_none _ [] _ (fun j hj => ?_)
    have := hn j hj
    simpa [isS, h1, eq_comm] using this
  · rfl

theorem row_ret {c : PCtx} (hc : c.Ok) (n : Nat) (hn : n < 4) (s : PSt) (h1 : RC c 71 [.int .i64 ((n : Int) + 1)] (below n) s) (h2 : ∀ s', s.at_ < s'.at_ → s'.deep = s.deep → RC c 71 [.int .i64 ((n : Int) + 1)] (below n) s') :
    RC c 71 [.int .i64 (n : Int)] (.lev n) s := by
  intro w X hX h
  have hlen := hc.len
  have hl0 := h.len
  obtain ⟨hl1, hl2⟩ := lens n
  have hkb := kc_below hn s.deep
  have hkl := kc_le (.lev n) s.deep
  refine Ret.enter Tryz.func71 rfl Tryz.ntmps71 (by kernel_rfl) rfl ?_
  refine Sa ?_
  refine CW.no rfl (by simp; omega) ?_
  refine Sa ?_
  refine LW.call0 rfl rfl (h1 w X hX h) ?_
  rintro v w1 ⟨z, rfl, hf, hres⟩
  refine Sa ?_
  refine LW.call0 rfl rfl (level_ret n hn w1) ?_
  rintro v w2 ⟨sb, kb, rfl, hsb, hkb2, hx2⟩
  obtain ⟨k0, hz0, hI0⟩ : ∃ k0, zI k0 = z ∧ RI c X n s w sb kb k0 w2 := by
    rcases hres with ⟨t, p, rfl, hp, hr, g1, g2, g3⟩ | ⟨e, d, hp, hd, hr⟩
    · exact ⟨.inl (t, p), rfl, hf.trans (.ext hx2), hsb, hkb2, g1, g2, g3, hr.ext hx2, fun r hl => .lev_ok hp hl⟩
    · exact ⟨.inr (e, d, z), rfl, hf.trans (.ext hx2), hsb, hkb2, .lev_err hp, hd, (hr.ext hx2).mono (by omega)⟩
  subst hz0
  refine Sa ?_
  refine CW.loop (ι := (PSt × Nat) ⊕ (Int × Int × Int)) (RI c X n s w sb kb) (fun k => [(0, .pointer (some ⟨c.rb, 0, none⟩)), (1, .int .i64 (n : Int)), (5, .int .i64 (zI k)), (6, .slice (some ⟨sb, 0, none⟩) (signsN n).length (signsN n).length), (7, .slice (some ⟨kb, 0, none⟩) (kindsN n).length (kindsN n).length)]) (mI c.T.length) k0 hI0 (Sub.cons rfl (Sub.cons rfl (Sub.cons rfl (Sub.cons rfl (Sub.cons rfl (Sub.nil)))))) ?_
  clear hI0 k0 hres hf hsb hkb2 hx2 w1 w2
  rintro (⟨t, a⟩ | ⟨e, d, z⟩) w2 ⟨hf, hsb, hkb2, hI⟩
  rotate_left
  · obtain ⟨hp, hd, hr⟩ := hI
    have hr0 := hr
    obtain ⟨h0, he, i, outv, m, xs, hB, ho, hle⟩ := hr
    refine Sa ?_
    refine CW.no rfl (by simp [he]) ?_
    refine Sa ?_
    exact QW.body1 Tryz.results71 rfl ⟨z, rfl, hf, .inr ⟨e, d, hp, hd, hr0⟩⟩
  obtain ⟨g1, g2, g3, hr, hcont⟩ := hI
  have hl3 := hr.len
  have hB := hr.2.2.2.2
  obtain ⟨outv, nvs, hB, _⟩ := hB
  refine Sa ?_
  try refine CW.yes rfl (by simp) ?_
  refine Sa ?_
  refine CW.loop (ι := Nat ⊕ Nat) (RJ c X n t w2) (fun k => [(0, .pointer (some ⟨c.rb, 0, none⟩)), (1, .int .i64 (n : Int)), (5, .int .i64 (a : Int)), (6, .slice (some ⟨sb, 0, none⟩) (signsN n).length (signsN n).length), (7, .slice (some ⟨kb, 0, none⟩) (kindsN n).length (kindsN n).length), (8, .int .i64 (kJ n k)), (9, .int .i64 (jJ k))]) (mJ (signsN n).length) (.inl 0) ⟨by omega, Chg.refl _ _, by omega⟩ (Sub.cons rfl (Sub.cons rfl (Sub.cons rfl (Sub.cons rfl (Sub.cons rfl (Sub.cons rfl (Sub.cons rfl (Sub.nil)))))))) ?_
  rintro (j | i) w3 hJ
  · obtain ⟨hj, hx3, hall⟩ := hJ
    replace hsb := hsb.ext hx3
    replace hkb2 := hkb2.ext hx3
    replace hr := hr.ext hx3
    replace hf := hf.trans (.ext hx3)
    show CW _ _ _ _ _ [(0, .pointer (some ⟨c.rb, 0, none⟩)), (1, .int .i64 (n : Int)), (5, .int .i64 (a : Int)), (6, .slice (some ⟨sb, 0, none⟩) (signsN n).length (signsN n).length), (7, .slice (some ⟨kb, 0, none⟩) (kindsN n).length (kindsN n).length), (8, .int .i64 0), (9, .int .i64 (j : Int))] _
    refine Sa ?_
    refine LW.part rfl rfl rfl (fun h3 => ?_) (fun h3 => ?_)
    · have h3 : j < (signsN n).length := by simp at h3; omega
      have hv : ((signsN n).map str)[j]? = some (str ((signsN n).getD j [])) := by simp [List.getD_eq_getElem?_getD, List.getElem?_eq_getElem h3]
      refine Sa ?_
      try refine CW.yes rfl (by simp) ?_
      refine Sa ?_
      refine LW.idx_slice (j := j) rfl rfl rfl rfl rfl (by omega) (by omega) (by show 0 + _ * 1 = _; omega) rfl ?_
      refine LW.load rfl hsb hv rfl rfl rfl ?_
      refine Sa ?_
      refine LW.call0 rfl rfl (is_ok hc hr ((signsN n).getD j [])) ?_
      rintro v w4 ⟨rfl, hx4⟩
      replace hkb2 := hkb2.ext hx4
      replace hr := hr.ext hx4
      refine Sa ?_
      refine CW.cond rfl (fun h4 => ?_) (fun h4 => ?_)
      · have h4 : isS c.T t ((signsN n).getD j []) = true := h4
        have hkv : (icells (kindsN n))[j]? = some (.int .i64 ((kindsN n).getD j 0)) := by simp [icells, List.getD_eq_getElem?_getD, List.getElem?_eq_getElem (show j < (kindsN n).length by omega)]
        obtain ⟨a0, a1, a2, a3, outv, nvs, hB, ho, hm, hk⟩ := hr
        have hnx := rd_next hc a1 (by rw [(isS_kind h4).1]; decide)
        have hB0 := hB
        refine Sa ?_
        refine LW.idx_slice (j := j) rfl rfl rfl rfl rfl (by omega) (by omega) (by show 0 + _ * 1 = _; omega) rfl ?_
        refine LW.load rfl hkb2 hkv rfl rfl rfl ?_
        refine Sa ?_
        (apply LW.store; exact rfl; exact rfl; exact rfl; assumption; exact rfl; exact rfl; exact rfl; intro w5 hc5 hB)
        replace hB : Blk w5 c.rb [c.tokv, .int .i64 (adv t).at_, .int .i64 (adv t).deep, .int .i64 0, outv] 110 := hB
        obtain ⟨hr5, hf5⟩ := Rq.set hc (s := t) (s' := adv t) a0 ho hm hk hB0 hc5 hB rfl hnx a2 (by show t.out.length ≤ t.at_ + 1; omega)
        refine Sa ?_
        exact QW.again (.inr j) ⟨h3, op_some h3 hall h4, hr5, ((Fq.ext hx3).trans (.ext hx4)).trans hf5⟩ (Sub.cons rfl (Sub.cons rfl (Sub.cons rfl (Sub.cons rfl (Sub.cons rfl (Sub.cons rfl (Sub.cons rfl (Sub.nil)))))))) (by simp [mJ])
      · have h4 : isS c.T t ((signsN n).getD j []) = false := h4
        refine Sa ?_
        refine QW.again (.inl (j + 1)) ⟨by omega, hx3.trans hx4, fun i hi => ?_⟩ (Sub.cons rfl (Sub.cons rfl (Sub.cons rfl (Sub.cons rfl (Sub.cons rfl (Sub.cons rfl (Sub.cons rfl (Sub.nil)))))))) (by simp [mJ]; omega)
        by_cases e : i = j
        · subst e; exact h4
        · exact hall i (by omega)
    · have h3 : j = (signsN n).length := by simp at h3; omega
      subst h3
      have hop := op_no hall
      refine Sa ?_
      try refine CW.yes rfl (by simp) ?_
      refine Sa ?_
      exact QW.body1 Tryz.results71 rfl ⟨a, rfl, hf, .inl ⟨t, a, rfl, hcont _ (.loop_end hop), hr, g1, g2, g3⟩⟩
  · obtain ⟨hi, hop, hr3, hf3⟩ := hJ
    have hkp := kinds_pos (show i < (kindsN n).length by omega)
    replace hsb := hf3.blk _ _ _ hsb (by decide) (by decide)
    replace hkb2 := hf3.blk _ _ _ hkb2 (by decide) (by decide)
    replace hf := hf.trans hf3
    show CW _ _ _ _ _ [(0, .pointer (some ⟨c.rb, 0, none⟩)), (1, .int .i64 (n : Int)), (5, .int .i64 (a : Int)), (6, .slice (some ⟨sb, 0, none⟩) (signsN n).length (signsN n).length), (7, .slice (some ⟨kb, 0, none⟩) (kindsN n).length (kindsN n).length), (8, .int .i64 ((kindsN n).getD i 0)), (9, .int .i64 ((i : Int) + 1))] _
    refine Sa ?_
    refine LW.part rfl rfl rfl (fun h3 => ?_) (fun h3 => ?_)
    · refine Sa ?_
      refine CW.no rfl (decide_eq_false hkp) ?_
      refine Sa ?_
      refine CW.no rfl (decide_eq_false hkp) ?_
      refine Sa ?_
      refine LW.call0 rfl rfl (h2 (adv t) (by show s.at_ < t.at_ + 1; omega) g2 w3 X (fun b hb => Nat.lt_of_lt_of_le (hX b hb) hf.size) hr3) ?_
      rintro v w8 ⟨z, rfl, hf8, hres⟩
      replace hf := hf.trans hf8
      replace hsb := hf8.blk _ _ _ hsb (by decide) (by decide)
      replace hkb2 := hf8.blk _ _ _ hkb2 (by decide) (by decide)
      have hz8 := hf.size
      refine Sa ?_
      (apply LW.buildSlice; exact rfl; exact rfl; exact rfl; exact rfl; exact rfl; exact rfl; exact rfl; exact rfl; exact rfl; intro K w9 hbK hx9 hK)
      replace hK : Blk w9 K (icells [(a : Int), z]) 3 := hK
      replace hf := hf.trans (.ext hx9)
      replace hsb := hsb.ext hx9
      replace hkb2 := hkb2.ext hx9
      rcases hres with ⟨s1, b, rfl, hp, hr8, k1, k2, k3⟩ | ⟨e, d, hp, hd, hr8⟩
      · have k1' : t.at_ + 1 < s1.at_ := k1
        have k3' : t.at_ + 1 + s1.out.length ≤ s1.at_ + t.out.length := k3
        refine Sa ?_
        refine LW.call0 (vs := [.pointer (some ⟨c.rb, 0, none⟩), .agg ⟨nvL ⟨{ kind := (kindsN n).getD i 0, kids := [(a : Int), (b : Int)] }, .slice (some ⟨K, 0, none⟩) 2 2⟩⟩]) rfl rfl (rput_ok hc (hr8.ext hx9) ⟨{ kind := (kindsN n).getD i 0, kids := [(a : Int), (b : Int)] }, .slice (some ⟨K, 0, none⟩) 2 2⟩ (.inr ⟨K, 2, [], rfl, by rw [List.append_nil]; exact hK⟩) (fun b hb hbX => by
          have h3 := hX b hbX
          simp [vblk] at hb
          omega) (by omega)) ?_
        rintro v w10 ⟨rfl, hr10, hf10⟩
        refine Sa ?_
        refine QW.again (.inl (putS s1 { kind := (kindsN n).getD i 0, kids := [(a : Int), (b : Int)] }, s1.out.length)) ⟨hf.trans hf10, hf10.blk _ _ _ hsb (by decide) (by decide), hf10.blk _ _ _ hkb2 (by decide) (by decide), by show s.at_ < s1.at_; omega, k2.trans g2, by simp [putS]; omega, hr10, fun r hl => hcont r (.loop_go hop hp hl)⟩ (Sub.cons rfl (Sub.cons rfl (Sub.cons rfl (Sub.cons rfl (Sub.cons rfl (Sub.nil)))))) (by show c.T.length - s1.at_ + 1 < c.T.length - t.at_ + 1; omega)
      · have hd' : d = (s.deep : Int) ∨ d = s.deep - 1 := by rw [← g2]; exact hd
        have hk' : kc (below n) (adv t).deep + 1 ≤ kc (.lev n) s.deep := by rw [show (adv t).deep = s.deep from g2]; exact hkb
        refine Sa ?_
        refine LW.call0 (vs := [.pointer (some ⟨c.rb, 0, none⟩), .agg ⟨nvL ⟨{ kind := (kindsN n).getD i 0, kids := [(a : Int), z] }, .slice (some ⟨K, 0, none⟩) 2 2⟩⟩]) rfl rfl (rput_bad hc (hr8.ext hx9) (by omega) ⟨{ kind := (kindsN n).getD i 0, kids := [(a : Int), z] }, .slice (some ⟨K, 0, none⟩) 2 2⟩ rfl) ?_
        rintro v w10 ⟨⟨y, rfl⟩, hr10, hf10⟩
        refine Sa ?_
        exact QW.again (.inr (e, d, y)) ⟨hf.trans hf10, hf10.blk _ _ _ hsb (by decide) (by decide), hf10.blk _ _ _ hkb2 (by decide) (by decide), hcont _ (.loop_err hop hp), hd', hr10.mono hk'⟩ (Sub.cons rfl (Sub.cons rfl (Sub.cons rfl (Sub.cons rfl (Sub.cons rfl (Sub.nil)))))) (by show 0 < _ + 1; omega)
    · refine Sa ?_
      refine Sa ?_
      refine CW.no rfl (decide_eq_false hkp) ?_
      refine Sa ?_
      refine LW.call0 rfl rfl (h2 (adv t) (by show s.at_ < t.at_ + 1; omega) g2 w3 X (fun b hb => Nat.lt_of_lt_of_le (hX b hb) hf.size) hr3) ?_
      rintro v w8 ⟨z, rfl, hf8, hres⟩
      replace hf := hf.trans hf8
      replace hsb := hf8.blk _ _ _ hsb (by decide) (by decide)
      replace hkb2 := hf8.blk _ _ _ hkb2 (by decide) (by decide)
      have hz8 := hf.size
      refine Sa ?_
      (apply LW.buildSlice; exact rfl; exact rfl; exact rfl; exact rfl; exact rfl; exact rfl; exact rfl; exact rfl; exact rfl; intro K w9 hbK hx9 hK)
      replace hK : Blk w9 K (icells [(a : Int), z]) 3 := hK
      replace hf := hf.trans (.ext hx9)
      replace hsb := hsb.ext hx9
      replace hkb2 := hkb2.ext hx9
      rcases hres with ⟨s1, b, rfl, hp, hr8, k1, k2, k3⟩ | ⟨e, d, hp, hd, hr8⟩
      · have k1' : t.at_ + 1 < s1.at_ := k1
        have k3' : t.at_ + 1 + s1.out.length ≤ s1.at_ + t.out.length := k3
        refine Sa ?_
        refine LW.call0 (vs := [.pointer (some ⟨c.rb, 0, none⟩), .agg ⟨nvL ⟨{ kind := (kindsN n).getD i 0, kids := [(a : Int), (b : Int)] }, .slice (some ⟨K, 0, none⟩) 2 2⟩⟩]) rfl rfl (rput_ok hc (hr8.ext hx9) ⟨{ kind := (kindsN n).getD i 0, kids := [(a : Int), (b : Int)] }, .slice (some ⟨K, 0, none⟩) 2 2⟩ (.inr ⟨K, 2, [], rfl, by rw [List.append_nil]; exact hK⟩) (fun b hb hbX => by
          have h3 := hX b hbX
          simp [vblk] at hb
          omega) (by omega)) ?_
        rintro v w10 ⟨rfl, hr10, hf10⟩
        refine Sa ?_
        refine QW.again (.inl (putS s1 { kind := (kindsN n).getD i 0, kids := [(a : Int), (b : Int)] }, s1.out.length)) ⟨hf.trans hf10, hf10.blk _ _ _ hsb (by decide) (by decide), hf10.blk _ _ _ hkb2 (by decide) (by decide), by show s.at_ < s1.at_; omega, k2.trans g2, by simp [putS]; omega, hr10, fun r hl => hcont r (.loop_go hop hp hl)⟩ (Sub.cons rfl (Sub.cons rfl (Sub.cons rfl (Sub.cons rfl (Sub.cons rfl (Sub.nil)))))) (by show c.T.length - s1.at_ + 1 < c.T.length - t.at_ + 1; omega)
      · have hd' : d = (s.deep : Int) ∨ d = s.deep - 1 := by rw [← g2]; exact hd
        have hk' : kc (below n) (adv t).deep + 1 ≤ kc (.lev n) s.deep := by rw [show (adv t).deep = s.deep from g2]; exact hkb
        refine Sa ?_
        refine LW.call0 (vs := [.pointer (some ⟨c.rb, 0, none⟩), .agg ⟨nvL ⟨{ kind := (kindsN n).getD i 0, kids := [(a : Int), z] }, .slice (some ⟨K, 0, none⟩) 2 2⟩⟩]) rfl rfl (rput_bad hc (hr8.ext hx9) (by omega) ⟨{ kind := (kindsN n).getD i 0, kids := [(a : Int), z] }, .slice (some ⟨K, 0, none⟩) 2 2⟩ rfl) ?_
        rintro v w10 ⟨⟨y, rfl⟩, hr10, hf10⟩
        refine Sa ?_
        exact QW.again (.inr (e, d, y)) ⟨hf.trans hf10, hf10.blk _ _ _ hsb (by decide) (by decide), hf10.blk _ _ _ hkb2 (by decide) (by decide), hcont _ (.loop_err hop hp), hd', hr10.mono hk'⟩ (Sub.cons rfl (Sub.cons rfl (Sub.cons rfl (Sub.cons rfl (Sub.cons rfl (Sub.nil)))))) (by show 0 < _ + 1; omega)

theorem runary_ret {c : PCtx} (hc : c.Ok) (s : PSt) (h1 : RC c 162 [] .prim s) (h2 : ∀ s', s.at_ < s'.at_ → RC c 113 [] .unary s') : RC c 113 [] .unary s := by
  intro w X hX h
  have hlen := hc.len
  have hl := h.len
  refine Ret.enter Tryz.func113 rfl Tryz.ntmps113 (by kernel_rfl) rfl ?_
  refine Sa ?_
  refine LW.call0 rfl rfl (is_ok hc h [45]) ?_
  rintro v w1 ⟨rfl, hx1⟩
  replace h := h.ext hx1
  replace hX : ∀ b ∈ X, b < w1.heap.size := fun b hb => Nat.lt_of_lt_of_le (hX b hb) hx1.size
  refine Sa ?_
  refine CW.cond rfl (fun hi => ?_) (fun hi => ?_)
  · have hi : isS c.T s [45] = false := by simpa using hi
    refine Sa ?_
    refine LW.call0 rfl rfl (h1 w1 X hX h) ?_
    rintro v w2 ⟨z, rfl, hf, hr⟩
    refine Sa ?_
    exact QW.body1 Tryz.results113 rfl ⟨z, rfl, (Fq.ext hx1).trans hf, rx_map hr (fun r hp => .un_prim hi hp) (Nat.le_refl _)⟩
  have hi : isS c.T s [45] = true := by simpa using hi
  refine Sa ?_
  refine LW.call0 rfl rfl (ropen_ok hc h (by rw [(isS_kind hi).1]; decide)) ?_
  rintro v w2 ⟨rfl, hf, ⟨hd, hr⟩ | ⟨hd, hr⟩⟩
  rotate_left
  · have hr0 := hr
    obtain ⟨h0, he, i, outv, m, xs, hB, ho, hle⟩ := hr
    refine Sa ?_
    exact QW.body1 Tryz.results113 rfl ⟨0, rfl, (Fq.ext hx1).trans hf, .inr ⟨6, s.deep, .un_deep hi hd, .inl rfl, hr0.mono (by have := kc_le .unary s.deep; omega)⟩⟩
  have hr0 := hr
  obtain ⟨a0, a1, a2, a3, outv, nvs, hB, ho, hm, hk⟩ := hr
  refine Sa ?_
  refine LW.call0 rfl rfl (h2 (deeper (adv s)) (by show s.at_ < s.at_ + 1; omega) w2 X (fun b hb => Nat.lt_of_lt_of_le (hX b hb) hf.size) hr0) ?_
  rintro v w3 ⟨z, rfl, hf3, hres⟩
  clear hB ho hm hk outv nvs
  have hff := ((Fq.ext hx1).trans hf).trans hf3
  have hz3 := (hf.trans hf3).size
  rcases hres with ⟨s1, a, rfl, hp, hr, g1, g2, g3⟩ | ⟨e, d, hp, hdd, hr⟩
  · have g1' : s.at_ + 1 < s1.at_ := g1
    have g2' : s1.deep = s.deep + 1 := g2
    have g3' : s.at_ + 1 + s1.out.length ≤ s1.at_ + s.out.length := g3
    obtain ⟨a0, a1, a2, a3, outv, nvs, hB, ho, hm, hk⟩ := hr
    have hB0 := hB
    refine Sa ?_
    (apply LW.store; exact rfl; exact rfl; exact rfl; assumption; exact rfl; exact rfl; exact rfl; intro w4 hc4 hB)
    have e4 : (s1.deep : Int) - 1 = (((upper s1).deep : Nat) : Int) := by show (s1.deep : Int) - 1 = ((s1.deep - 1 : Nat) : Int); omega
    replace hB : Blk w4 c.rb [c.tokv, .int .i64 s1.at_, .int .i64 ((s1.deep : Int) - 1), .int .i64 0, outv] 110 := hB
    rw [e4] at hB
    obtain ⟨hr4, hf4⟩ := Rq.set hc (s := s1) (s' := upper s1) a0 ho hm hk hB0 hc4 hB rfl a1 (by show s1.deep - 1 ≤ 12; omega) a3
    have hz4 := hf4.size
    refine Sa ?_
    (apply LW.buildSlice; exact rfl; exact rfl; exact rfl; exact rfl; exact rfl; exact rfl; exact rfl; exact rfl; exact rfl; intro K w5 hbK hx5 hK)
    replace hK : Blk w5 K (icells [(a : Int)]) 3 := hK
    refine Sa ?_
    refine LW.call0 (vs := [.pointer (some ⟨c.rb, 0, none⟩), .agg ⟨nvL ⟨{ kind := 8, kids := [(a : Int)] }, .slice (some ⟨K, 0, none⟩) 1 1⟩⟩]) rfl rfl (rput_ok hc (hr4.ext hx5) ⟨{ kind := 8, kids := [(a : Int)] }, .slice (some ⟨K, 0, none⟩) 1 1⟩ (.inr ⟨K, 1, [], rfl, by rw [List.append_nil]; exact hK⟩) (fun b hb hbX => by
      have h3 := hX b hbX
      simp [vblk] at hb
      omega) (by show s1.out.length + 1 ≤ s1.at_; omega)) ?_
    rintro v w6 ⟨rfl, hr6, hf6⟩
    refine Sa ?_
    exact QW.body1 Tryz.results113 rfl ⟨_, rfl, ((hff.trans hf4).trans (.ext hx5)).trans hf6, .inl ⟨putS (upper s1) { kind := 8, kids := [(a : Int)] }, s1.out.length, rfl, .un_ok hi hd hp, hr6, by show s.at_ < s1.at_; omega, by show s1.deep - 1 = s.deep; omega, by simp [putS, upper]; omega⟩⟩
  · have hdd : d = ((s.deep + 1 : Nat) : Int) ∨ d = ((s.deep + 1 : Nat) : Int) - 1 := hdd
    obtain ⟨h0, he, i, outv, m, xs, hB, ho, hle⟩ := hr
    have hB0 := hB
    have hkk : kc .unary (deeper (adv s)).deep + 1 ≤ kc .unary s.deep := by
      show 400 + 6 * (12 - (s.deep + 1)) + 0 + 1 ≤ 400 + 6 * (12 - s.deep) + 0
      omega
    refine Sa ?_
    (apply LW.store; exact rfl; exact rfl; exact rfl; assumption; exact rfl; exact rfl; exact rfl; intro w4 hc4 hB)
    replace hB : Blk w4 c.rb [c.tokv, .int .i64 i, .int .i64 (d - 1), .int .i64 e, outv] 110 := hB
    obtain ⟨hr4, hf4⟩ := Re.set hc h0 ho hB0 hc4 he hB hle
    refine Sa ?_
    (apply LW.buildSlice; exact rfl; exact rfl; exact rfl; exact rfl; exact rfl; exact rfl; exact rfl; exact rfl; exact rfl; intro K w5 hbK hx5 hK)
    refine Sa ?_
    refine LW.call0 (vs := [.pointer (some ⟨c.rb, 0, none⟩), .agg ⟨nvL ⟨{ kind := 8, kids := [z] }, .slice (some ⟨K, 0, none⟩) 1 1⟩⟩]) rfl rfl (rput_bad hc (hr4.ext hx5) (by have := kc_le .unary (deeper (adv s)).deep; omega) ⟨{ kind := 8, kids := [z] }, .slice (some ⟨K, 0, none⟩) 1 1⟩ rfl) ?_
    rintro v w6 ⟨⟨y, rfl⟩, hr6, hf6⟩
    refine Sa ?_
    exact QW.body1 Tryz.results113 rfl ⟨y, rfl, ((hff.trans hf4).trans (.ext hx5)).trans hf6, .inr ⟨e, d - 1, .un_err hi hd hp, by omega, hr6.mono hkk⟩⟩
end Go.Proofs.YtiloogjageledaaGreatDoor
