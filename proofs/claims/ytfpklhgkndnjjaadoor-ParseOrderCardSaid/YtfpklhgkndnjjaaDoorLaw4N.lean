/-
  The laws of layer 4: numbers.
-/
import Derived.Test.YtfpklhgkndnjjaaDoorLaw4
namespace Go.Proofs.YtfpklhgkndnjjaaDoor
open Go Go.E

theorem dec_facts : ∀ (n u : Nat), u ≤ n → (∀ c ∈ Lib.decDigits u, digB (c.toNat : Int) = true) ∧ Lib.decDigits u ≠ [] ∧ numT 0 (Lib.decDigits u) = u ∧ (u ≠ 0 → byte (Lib.decDigits u) 0 ≠ 48) ∧ (u = 0 → (Lib.decDigits u).length = 1)
  | n, u, hn => by
    by_cases h : u < 10
    · rw [decDigits_small' h]
      have e : ((ch (48 + (u : Int))).toNat : Int) = 48 + u := ch_toNat (by omega) (by omega)
      refine ⟨?_, by simp, ?_, fun h0 => ?_, fun _ => rfl⟩
      · intro c hc
        simp only [List.mem_singleton] at hc
        subst hc
        rw [e]
        simp [digB]
        omega
      · have := numT_byte 0 [] (z := 48 + (u : Int)) (by omega) (by omega)
        rw [List.nil_append] at this
        rw [this]
        have : numT 0 [] = 0 := rfl
        omega
      · have : byte [ch (48 + (u : Int))] 0 = 48 + u := e
        omega
    · rw [decDigits_big' (by omega)]
      match n with
      | 0 => omega
      | n + 1 =>
        obtain ⟨a1, a2, a3, a4, _⟩ := dec_facts n (u / 10) (by omega)
        have hr : (48 + (u : Int) % 10) ≤ 57 ∧ 48 ≤ (48 + (u : Int) % 10) := by omega
        have e : ((ch (48 + (u : Int) % 10)).toNat : Int) = 48 + (u : Int) % 10 := ch_toNat (by omega) (by omega)
        refine ⟨?_, by simp, ?_, fun _ => ?_, fun h0 => by omega⟩
        · intro c hc
          rw [List.mem_append] at hc
          rcases hc with hc | hc
          · exact a1 c hc
          · simp only [List.mem_singleton] at hc
            subst hc
            rw [e]
            simp [digB]
            omega
        · rw [numT_byte _ _ (by omega) (by omega), a3]
          omega
        · rw [byte_append_left (List.length_pos_iff.2 a2)]
          exact a4 (by omega)
theorem itoa_nat {k : Int} (h : 0 ≤ k) : Lib.itoa k = Lib.decDigits k.toNat := by
  unfold Lib.itoa
  rw [if_neg (by omega)]
theorem span_whole (p : Int → Bool) (l : List UInt8) (h : ∀ c ∈ l, p (c.toNat : Int) = true) : spanL p l = l := by
  have := span_append p l [] h
  simpa [spanL] using this

/-- A text of one token. -/
theorem lex_whole {l : List UInt8} {t : TokD} (hl : l ≠ []) (hb : byte l 0 ≠ 32) (h : oneO l = some (t, l.length)) : lexT l = some [{ t with at_ := 0 }, ⟨0, [], 0, refN, (l.length : Int)⟩] := by
  have hsp : 0 + (spanL spB (l.drop 0)).length = 0 := by
    cases l with
    | nil => exact absurd rfl hl
    | cons c r =>
      have : spB (c.toNat : Int) = false := by simp [spB]; exact hb
      simp [spanL, this]
  have h1 := (LexAt.start l).go hsp (List.length_pos_iff.2 hl) (t := t) (k := l.length) (by rw [List.drop_zero]; exact h)
  have := h1.end (by rw [Nat.zero_add, List.drop_length]; rfl)
  rw [this]
  rfl
theorem lex_none {l : List UInt8} (hl : l ≠ []) (hb : byte l 0 ≠ 32) (h : oneO l = none) : lexT l = none := by
  have hsp : 0 + (spanL spB (l.drop 0)).length = 0 := by
    cases l with
    | nil => exact absurd rfl hl
    | cons c r =>
      have : spB (c.toNat : Int) = false := by simp [spB]; exact hb
      simp [spanL, this]
  exact (LexAt.start l).bad hsp (List.length_pos_iff.2 hl) (by rw [List.drop_zero]; exact h)
theorem one_num {l : List UInt8} (hl : l ≠ []) (hd : ∀ c ∈ l, digB (c.toNat : Int) = true) : oneO l = if numT 0 l ≤ 9223372036854775807 ∧ (byte l 0 ≠ 48 ∨ l.length = 1) then some (⟨1, [], numT 0 l, refN, 0⟩, l.length) else none := by
  have h0 : digB (byte l 0) = true := by
    obtain ⟨c, hm, e⟩ := byte_mem (List.length_pos_iff.2 hl)
    rw [e]; exact hd c hm
  have hs := span_whole digB l hd
  rw [oneO, h0, if_pos rfl, numO_is (by rw [hs]; exact hl), hs]
theorem dig_ne32 {l : List UInt8} (hl : l ≠ []) (hd : ∀ c ∈ l, digB (c.toNat : Int) = true) : byte l 0 ≠ 32 := by
  obtain ⟨c, hm, e⟩ := byte_mem (List.length_pos_iff.2 hl)
  have := hd c hm
  rw [← e] at this
  simp [digB] at this
  omega
theorem lex_num {k : Int} (h0 : 0 ≤ k) (h1 : k ≤ 9223372036854775807) : lexT (Lib.itoa k) = some [⟨1, [], k, refN, 0⟩, ⟨0, [], 0, refN, ((Lib.itoa k).length : Int)⟩] := by
  rw [itoa_nat h0]
  obtain ⟨a1, a2, a3, a4, a5⟩ := dec_facts k.toNat k.toNat (Nat.le_refl _)
  refine lex_whole (t := ⟨1, [], k, refN, 0⟩) a2 (dig_ne32 a2 a1) ?_
  have ek : ((k.toNat : Nat) : Int) = k := by omega
  rw [one_num a2 a1, a3, ek, if_pos]
  refine ⟨h1, ?_⟩
  by_cases hz : k.toNat = 0
  · exact .inr (a5 hz)
  · exact .inl (a4 hz)
theorem lex_nought {k : Int} (h0 : 0 ≤ k) : lexT ([48] ++ Lib.itoa k) = none := by
  rw [itoa_nat h0]
  obtain ⟨a1, a2, _⟩ := dec_facts k.toNat k.toNat (Nat.le_refl _)
  have hd : ∀ c ∈ [48] ++ Lib.decDigits k.toNat, digB (c.toNat : Int) = true := fun c hc => by
    rw [List.mem_append] at hc
    rcases hc with hc | hc
    · simp at hc; subst hc; rfl
    · exact a1 c hc
  have hne : [48] ++ Lib.decDigits k.toNat ≠ [] := by simp
  refine lex_none hne (dig_ne32 hne hd) ?_
  rw [one_num hne hd, if_neg]
  rintro ⟨_, h | h⟩
  · exact h rfl
  · simp [a2] at h
theorem lex_big : lexT [57, 50, 50, 51, 51, 55, 50, 48, 51, 54, 56, 53, 52, 55, 55, 53, 56, 48, 56] = none := by
  refine lex_none (by simp) (by decide) ?_
  rw [one_num (by simp) (by decide), if_neg (by decide)]

/-- A reference's text is one token. -/
theorem lex_ref {r : RefD} (h : mayB r = true) : lexT (textB r) = some [⟨4, [], 0, r, 0⟩, ⟨0, [], 0, refN, ((textB r).length : Int)⟩] := by
  obtain ⟨hs, c0, c1, r0, r1⟩ := may_parts h
  obtain ⟨hc, hcl, _⟩ := col_ok c0 c1
  obtain ⟨hd, hdl, _, _⟩ := itoa_ok (z := r.row + 1) (by omega) (by omega)
  obtain ⟨hread, hcand⟩ := read_text h
  have hmark : ∀ b c, c ∈ markT b → c = 36 := fun b c hm => by cases b <;> simp [markT] at hm; exact hm
  have wcap : ∀ z, capB z = true → begB z = true := fun z hz => by simp [begB, hz]
  have wld : ∀ z, ldB z = true → wiB z = true := fun z hz => by
    simp only [ldB, letB, Bool.or_eq_true] at hz
    simp only [wiB, begB, Bool.or_eq_true]
    rcases hz with (hz | hz) | hz
    · exact .inl (.inl (.inl (.inl hz)))
    · exact .inl (.inl (.inl (.inr hz)))
    · exact .inl (.inr hz)
  have hall : ∀ c ∈ textB r, wiB (c.toNat : Int) = true := by
    intro c hm
    simp only [textB, List.mem_append] at hm
    rcases hm with hm | ((hm | hm) | hm) | hm
    · by_cases hsh : r.sheet = []
      · simp [hsh] at hm
      · simp only [hsh, if_false, List.mem_append, List.mem_singleton] at hm
        rcases hm with hm | hm
        · obtain ⟨_, _, hld⟩ := name_parts (hs.resolve_left hsh)
          obtain ⟨j, hj, rfl⟩ := List.mem_iff_getElem.1 hm
          have := hld j hj
          rw [byte_eq hj] at this
          exact wld _ this
        · subst hm; rfl
    · rw [hmark _ c hm]; rfl
    · have := wcap _ (hc c hm)
      simp [wiB, this]
    · rw [hmark _ c hm]; rfl
    · have := hd c hm
      simp [wiB, this]
  have hsp := span_whole wiB _ hall
  have hne := textB_ne h
  have hbeg : begB (byte (textB r) 0) = true := by
    have htail : ∀ x, begB (byte (markT r.ac ++ colT r.col ++ x) 0) = true := fun x => by
      cases ha : r.ac with
      | true => rfl
      | false =>
        have : markT false ++ colT r.col ++ x = colT r.col ++ x := rfl
        rw [this, byte_append_left hcl]
        obtain ⟨c, hm, e⟩ := byte_mem hcl
        rw [e]
        exact wcap _ (hc c hm)
    by_cases hsh : r.sheet = []
    · have := htail (markT r.ar ++ Lib.itoa (r.row + 1))
      simpa [textB, hsh] using this
    · have hn := hs.resolve_left hsh
      have hl : letB (byte r.sheet 0) = true := by
        simp only [nameB, Bool.and_eq_true, decide_eq_true_eq] at hn
        exact hn.1.2
      have : byte (textB r) 0 = byte r.sheet 0 := by
        simp only [textB, hsh, if_false, List.append_assoc]
        exact byte_append_left (List.length_pos_iff.2 hsh)
      rw [this, beg_eq, hl]
      rfl
  have hb0 : digB (byte (textB r) 0) = false ∧ byte (textB r) 0 ≠ 34 ∧ byte (textB r) 0 ≠ 32 := by
    simp only [begB, capB, Bool.or_eq_true, Bool.and_eq_true, decide_eq_true_eq] at hbeg
    refine ⟨?_, by omega, by omega⟩
    simp [digB]
    omega
  refine lex_whole (t := ⟨4, [], 0, r, 0⟩) hne hb0.2.2 ?_
  rw [oneO, hb0.1, if_neg (by simp), if_neg hb0.2.1, hbeg, if_pos rfl, wordO, hsp]
  simp only [hread, hcand, if_true]

theorem LexNumbers_ret (n sh row : Int) (hn0 : 0 ≤ n) (hn1 : n ≤ 18446744073709551615) (hs0 : 0 ≤ sh) (hs1 : sh ≤ 255) (hr0 : 0 ≤ row) (hr1 : row ≤ 65535) (w : World) (g : Glob w) :
    Ret Tryd.prog 9 [.int .u64 n, .int .u8 sh, .int .u16 row] w (fun v w' => v = .bool true ∧ Ext w w') := by
  have hk0 : 0 ≤ n / 2 := by omega
  have hk1 : n / 2 ≤ 9223372036854775807 := by omega
  have hil := Lib.itoa_length_le (n / 2) (by omega) (by omega)
  refine Ret.enter Tryd.func9 rfl Tryd.ntmps9 (by kernel_rfl) rfl ?_
  (repeat (first | refine La ?_ | refine Lb ?_ | refine Lc ?_ | refine Ld ?_ | refine Le ?_ | refine Lf ?_ | refine Lg ?_ | apply LW.nil | apply QW.then_n | apply QW.round | apply RW.succ | apply CW.seq | apply CW.region | apply CW.skip | apply CW.block | apply CW.ret | apply CW.exit | apply QW.then_ret | apply QW.then_exit | apply QW.blk_n | apply QW.blk_ret | apply QW.blk_exit | refine Ca ?_ | refine Cb ?_ | refine Cc ?_ | refine Lh ?_ | refine Li ?_ | refine Lj ?_ | refine Lk ?_ | refine Ll ?_))
  refine LW.shr (k := .u64) (m := 1) (p := n) (z := n / 2) rfl rfl (by decide) rfl rfl ?_
  (repeat (first | refine La ?_ | refine Lb ?_ | refine Lc ?_ | refine Ld ?_ | refine Le ?_ | refine Lf ?_ | refine Lg ?_ | apply LW.nil | apply QW.then_n | apply QW.round | apply RW.succ | apply CW.seq | apply CW.region | apply CW.skip | apply CW.block | apply CW.ret | apply CW.exit | apply QW.then_ret | apply QW.then_exit | apply QW.blk_n | apply QW.blk_ret | apply QW.blk_exit | refine Ca ?_ | refine Cb ?_ | refine Cc ?_ | refine Lh ?_ | refine Li ?_ | refine Lj ?_ | refine Lk ?_ | refine Ll ?_))
  refine LW.call0 rfl rfl (Digits_ret (n / 2) hk0 hk1 w) ?_
  rintro v w1 ⟨rfl, hx1⟩
  (repeat (first | refine La ?_ | refine Lb ?_ | refine Lc ?_ | refine Ld ?_ | refine Le ?_ | refine Lf ?_ | refine Lg ?_ | apply LW.nil | apply QW.then_n | apply QW.round | apply RW.succ | apply CW.seq | apply CW.region | apply CW.skip | apply CW.block | apply CW.ret | apply CW.exit | apply QW.then_ret | apply QW.then_exit | apply QW.blk_n | apply QW.blk_ret | apply QW.blk_exit | refine Ca ?_ | refine Cb ?_ | refine Cc ?_ | refine Lh ?_ | refine Li ?_ | refine Lj ?_ | refine Lk ?_ | refine Ll ?_))
  refine LW.call0 rfl rfl (Lex_ret (Lib.itoa (n / 2)) (by omega) w1 (g.ext hx1)) ?_
  rintro v w2 ⟨hv, hx2⟩
  replace hx2 := hx1.trans hx2
  rw [LexV, if_neg (by omega), lex_num hk0 hk1] at hv
  obtain ⟨sv, rfl, hown1⟩ := hv
  obtain ⟨b1, cap1, sp1, rfl, hB1, _⟩ := hown1.get (by simp)
  (repeat (first | refine La ?_ | refine Lb ?_ | refine Lc ?_ | refine Ld ?_ | refine Le ?_ | refine Lf ?_ | refine Lg ?_ | apply LW.nil | apply QW.then_n | apply QW.round | apply RW.succ | apply CW.seq | apply CW.region | apply CW.skip | apply CW.block | apply CW.ret | apply CW.exit | apply QW.then_ret | apply QW.then_exit | apply QW.blk_n | apply QW.blk_ret | apply QW.blk_exit | refine Ca ?_ | refine Cb ?_ | refine Cc ?_ | refine Lh ?_ | refine Li ?_ | refine Lj ?_ | refine Lk ?_ | refine Ll ?_))
  refine LW.call0 rfl rfl (Digits_ret (n / 2) hk0 hk1 w2) ?_
  rintro v w3 ⟨rfl, hx3⟩
  replace hB1 := hB1.ext hx3
  replace hx3 := hx2.trans hx3
  (repeat (first | refine La ?_ | refine Lb ?_ | refine Lc ?_ | refine Ld ?_ | refine Le ?_ | refine Lf ?_ | refine Lg ?_ | apply LW.nil | apply QW.then_n | apply QW.round | apply RW.succ | apply CW.seq | apply CW.region | apply CW.skip | apply CW.block | apply CW.ret | apply CW.exit | apply QW.then_ret | apply QW.then_exit | apply QW.blk_n | apply QW.blk_ret | apply QW.blk_exit | refine Ca ?_ | refine Cb ?_ | refine Cc ?_ | refine Lh ?_ | refine Li ?_ | refine Lj ?_ | refine Lk ?_ | refine Ll ?_))
  have hl0 : ([48] ++ Lib.itoa (n / 2)).length ≤ 300 := by simp; omega
  refine LW.call0 rfl rfl (Lex_ret ([48] ++ Lib.itoa (n / 2)) (by omega) w3 (g.ext hx3)) ?_
  rintro v w4 ⟨hv, hx4⟩
  rw [LexV, if_neg (by omega), lex_nought hk0] at hv
  subst hv
  replace hB1 := hB1.ext hx4
  replace hx4 := hx3.trans hx4
  (repeat (first | refine La ?_ | refine Lb ?_ | refine Lc ?_ | refine Ld ?_ | refine Le ?_ | refine Lf ?_ | refine Lg ?_ | apply LW.nil | apply QW.then_n | apply QW.round | apply RW.succ | apply CW.seq | apply CW.region | apply CW.skip | apply CW.block | apply CW.ret | apply CW.exit | apply QW.then_ret | apply QW.then_exit | apply QW.blk_n | apply QW.blk_ret | apply QW.blk_exit | refine Ca ?_ | refine Cb ?_ | refine Cc ?_ | refine Lh ?_ | refine Li ?_ | refine Lj ?_ | refine Lk ?_ | refine Ll ?_))
  refine LW.call0 rfl rfl (Lex_ret [57, 50, 50, 51, 51, 55, 50, 48, 51, 54, 56, 53, 52, 55, 55, 53, 56, 48, 56] (by simp) w4 (g.ext hx4)) ?_
  rintro v w5 ⟨hv, hx5⟩
  rw [LexV, if_neg (by simp), lex_big] at hv
  subst hv
  replace hB1 := hB1.ext hx5
  replace hx5 := hx4.trans hx5
  (repeat (first | refine La ?_ | refine Lb ?_ | refine Lc ?_ | refine Ld ?_ | refine Le ?_ | refine Lf ?_ | refine Lg ?_ | apply LW.nil | apply QW.then_n | apply QW.round | apply RW.succ | apply CW.seq | apply CW.region | apply CW.skip | apply CW.block | apply CW.ret | apply CW.exit | apply QW.then_ret | apply QW.then_exit | apply QW.blk_n | apply QW.blk_ret | apply QW.blk_exit | refine Ca ?_ | refine Cb ?_ | refine Cc ?_ | refine Lh ?_ | refine Li ?_ | refine Lj ?_ | refine Lk ?_ | refine Ll ?_))
  (apply LW.buildSlice; exact rfl; exact rfl; exact rfl; exact rfl; exact rfl; exact rfl; exact rfl; exact rfl; exact rfl; intro A w6 hbA hx6 hA)
  replace hB1 := hB1.ext hx6
  replace hx6 := hx5.trans hx6
  have hsw : sh % 2 = 0 ∨ sh % 2 = 1 := by omega
  obtain ⟨st, hst, hsn⟩ : ∃ st : List UInt8, ([str [], str [83]] : List Value)[(sh % 2).toNat]? = some (str st) ∧ (st = [] ∨ st = [83]) := by
    rcases hsw with h | h <;> rw [h]
    · exact ⟨_, rfl, .inl rfl⟩
    · exact ⟨_, rfl, .inr rfl⟩
  (repeat (first | refine La ?_ | refine Lb ?_ | refine Lc ?_ | refine Ld ?_ | refine Le ?_ | refine Lf ?_ | refine Lg ?_ | apply LW.nil | apply QW.then_n | apply QW.round | apply RW.succ | apply CW.seq | apply CW.region | apply CW.skip | apply CW.block | apply CW.ret | apply CW.exit | apply QW.then_ret | apply QW.then_exit | apply QW.blk_n | apply QW.blk_ret | apply QW.blk_exit | refine Ca ?_ | refine Cb ?_ | refine Cc ?_ | refine Lh ?_ | refine Li ?_ | refine Lj ?_ | refine Lk ?_ | refine Ll ?_))
  refine LW.idx_slice (j := (sh % 2).toNat) rfl rfl rfl rfl rfl (by omega) (by omega) (by show 0 + _ * 1 = _; omega) rfl ?_
  refine LW.load rfl hA hst rfl rfl rfl ?_
  (repeat (first | refine La ?_ | refine Lb ?_ | refine Lc ?_ | refine Ld ?_ | refine Le ?_ | refine Lf ?_ | refine Lg ?_ | apply LW.nil | apply QW.then_n | apply QW.round | apply RW.succ | apply CW.seq | apply CW.region | apply CW.skip | apply CW.block | apply CW.ret | apply CW.exit | apply QW.then_ret | apply QW.then_exit | apply QW.blk_n | apply QW.blk_ret | apply QW.blk_exit | refine Ca ?_ | refine Cb ?_ | refine Cc ?_ | refine Lh ?_ | refine Li ?_ | refine Lj ?_ | refine Lk ?_ | refine Ll ?_))
  have hb1 := hB1.lt
  (apply LW.alloc; exact rfl; exact rfl; exact rfl; intro C w7 hbC hx7 hC)
  have hz6 := hx6.size
  replace hB1 := hB1.ext hx7
  have hb1C : b1 ≠ C := by omega
  replace hx7 := hx6.trans hx7
  (repeat (first | refine La ?_ | refine Lb ?_ | refine Lc ?_ | refine Ld ?_ | refine Le ?_ | refine Lf ?_ | refine Lg ?_ | apply LW.nil | apply QW.then_n | apply QW.round | apply RW.succ | apply CW.seq | apply CW.region | apply CW.skip | apply CW.block | apply CW.ret | apply CW.exit | apply QW.then_ret | apply QW.then_exit | apply QW.blk_n | apply QW.blk_ret | apply QW.blk_exit | refine Ca ?_ | refine Cb ?_ | refine Cc ?_ | refine Lh ?_ | refine Li ?_ | refine Lj ?_ | refine Lk ?_ | refine Ll ?_))
  (apply LW.store_all; exact rfl; exact rfl; exact rfl; assumption; exact rfl; exact rfl; exact rfl; intro w8 hc8 hC)
  obtain ⟨r, hr⟩ : ∃ r : RefD, r = ⟨st, sh, row % 999, decide (1 < sh % 4), false⟩ := ⟨_, rfl⟩
  replace hC : Blk w8 C (refL r) 23 := by rw [hr]; exact hC
  replace hB1 := hB1.chg hc8 (by simpa using hb1C)
  have hx8 := hx7.step hc8 (by simp; omega)
  have hmay : mayB r = true := by
    rw [hr]
    have : decide (st = []) || nameB st := by rcases hsn with rfl | rfl <;> decide
    simp only [mayB, this, Bool.true_and, Bool.and_eq_true, decide_eq_true_eq]
    omega
  have hsl : r.sheet.length ≤ 1 := by rw [hr]; rcases hsn with rfl | rfl <;> simp
  (repeat (first | refine La ?_ | refine Lb ?_ | refine Lc ?_ | refine Ld ?_ | refine Le ?_ | refine Lf ?_ | refine Lg ?_ | apply LW.nil | apply QW.then_n | apply QW.round | apply RW.succ | apply CW.seq | apply CW.region | apply CW.skip | apply CW.block | apply CW.ret | apply CW.exit | apply QW.then_ret | apply QW.then_exit | apply QW.blk_n | apply QW.blk_ret | apply QW.blk_exit | refine Ca ?_ | refine Cb ?_ | refine Cc ?_ | refine Lh ?_ | refine Li ?_ | refine Lj ?_ | refine Lk ?_ | refine Ll ?_))
  refine LW.call0 (vs := [refV r]) rfl rfl (RefText_ret r (by omega) w8) ?_
  rintro v w9 ⟨rfl, hx9⟩
  rw [textT, if_pos hmay]
  replace hC := hC.ext hx9
  replace hB1 := hB1.ext hx9
  replace hx9 := hx8.trans hx9
  have htl : (textB r).length ≤ 100 := by
    obtain ⟨_, c0, c1, r0, r1⟩ := may_parts hmay
    obtain ⟨_, _, hil, _⟩ := itoa_ok (z := r.row + 1) (by omega) (by omega)
    have h1 := colT_length r.col
    have h2 := markT_length r.ac
    have h3 := markT_length r.ar
    have h4 : (if r.sheet = [] then [] else r.sheet ++ [33]).length ≤ 2 := by split <;> simp; omega
    simp only [textB, List.length_append]
    omega
  (repeat (first | refine La ?_ | refine Lb ?_ | refine Lc ?_ | refine Ld ?_ | refine Le ?_ | refine Lf ?_ | refine Lg ?_ | apply LW.nil | apply QW.then_n | apply QW.round | apply RW.succ | apply CW.seq | apply CW.region | apply CW.skip | apply CW.block | apply CW.ret | apply CW.exit | apply QW.then_ret | apply QW.then_exit | apply QW.blk_n | apply QW.blk_ret | apply QW.blk_exit | refine Ca ?_ | refine Cb ?_ | refine Cc ?_ | refine Lh ?_ | refine Li ?_ | refine Lj ?_ | refine Lk ?_ | refine Ll ?_))
  refine LW.call0 rfl rfl (Lex_ret (textB r) (by omega) w9 (g.ext hx9)) ?_
  rintro v w10 ⟨hv, hx10⟩
  rw [LexV, if_neg (by omega), lex_ref hmay] at hv
  obtain ⟨sv, rfl, hown2⟩ := hv
  obtain ⟨b2, cap2, sp2, rfl, hB2, _⟩ := hown2.get (by simp)
  replace hC := hC.ext hx10
  replace hB1 := hB1.ext hx10
  replace hx10 := hx9.trans hx10
  (repeat (first | refine La ?_ | refine Lb ?_ | refine Lc ?_ | refine Ld ?_ | refine Le ?_ | refine Lf ?_ | refine Lg ?_ | apply LW.nil | apply QW.then_n | apply QW.round | apply RW.succ | apply CW.seq | apply CW.region | apply CW.skip | apply CW.block | apply CW.ret | apply CW.exit | apply QW.then_ret | apply QW.then_exit | apply QW.blk_n | apply QW.blk_ret | apply QW.blk_exit | refine Ca ?_ | refine Cb ?_ | refine Cc ?_ | refine Lh ?_ | refine Li ?_ | refine Lj ?_ | refine Lk ?_ | refine Ll ?_))
  refine CW.draw (by kernel_rfl) (by kernel_rfl) ?_
  (repeat (first | refine Qa ?_ | refine Qb ?_ | refine Qc ?_ | refine Qd ?_ | refine Qe ?_ | refine Qf ?_ | refine Qg ?_))
  refine QL.call0 rfl rfl (fun w' _ => Num_ret 0 w') ?_
  (repeat (first | refine Qa ?_ | refine Qb ?_ | refine Qc ?_ | refine Qd ?_ | refine Qe ?_ | refine Qf ?_ | refine Qg ?_ | refine Qm ?_))
  refine QL.know (t := 73) (c := true) rfl (by simp) ?_
  (repeat (first | refine Qa ?_ | refine Qb ?_ | refine Qc ?_ | refine Qd ?_ | refine Qe ?_ | refine Qf ?_ | refine Qg ?_ | refine Qm ?_))
  refine QL.call0 rfl rfl (fun w' _ => Num_ret 5 w') ?_
  (repeat (first | refine Qa ?_ | refine Qb ?_ | refine Qc ?_ | refine Qd ?_ | refine Qe ?_ | refine Qf ?_ | refine Qg ?_ | refine Qm ?_))
  refine QL.call0 rfl rfl (fun w' _ => Num_ret 5 w') ?_
  (repeat (first | refine Qa ?_ | refine Qb ?_ | refine Qc ?_ | refine Qd ?_ | refine Qe ?_ | refine Qf ?_ | refine Qg ?_ | refine Qm ?_))
  refine QL.call0 rfl rfl (fun w' _ => Num_ret 0 w') ?_
  (repeat (first | refine Qa ?_ | refine Qb ?_ | refine Qc ?_ | refine Qd ?_ | refine Qe ?_ | refine Qf ?_ | refine Qg ?_ | refine Qm ?_))
  refine QL.load_agg (cs := refL r) rfl hB2 rfl rfl rfl ⟨rfl, rfl, rfl, rfl, rfl, trivial⟩ rfl ?_
  (repeat (first | refine Qa ?_ | refine Qb ?_ | refine Qc ?_ | refine Qd ?_ | refine Qe ?_ | refine Qf ?_ | refine Qg ?_ | refine Qm ?_))
  refine QL.eql_agg rfl rfl eqg_ref4 (fun w' => eqr_ref r r 9998 w') rfl ?_
  (repeat (first | refine Qa ?_ | refine Qb ?_ | refine Qc ?_ | refine Qd ?_ | refine Qe ?_ | refine Qf ?_ | refine Qg ?_ | refine Qm ?_))
  refine QL.know (t := 101) (c := true) rfl (by simp) ?_
  (repeat (first | refine Qa ?_ | refine Qb ?_ | refine Qc ?_ | refine Qd ?_ | refine Qe ?_ | refine Qf ?_ | refine Qg ?_ | refine Qm ?_))
  refine QL.call0 rfl rfl (fun w' h => awake4_ret w' (g.ext (hx10.trans h))) ?_
  (repeat (first | refine Qa ?_ | refine Qb ?_ | refine Qc ?_ | refine Qd ?_ | refine Qe ?_ | refine Qf ?_ | refine Qg ?_ | refine Qm ?_))
  refine QL.nil fun w11 hx11 => ?_
  (repeat (first | refine La ?_ | refine Lb ?_ | refine Lc ?_ | refine Ld ?_ | refine Le ?_ | refine Lf ?_ | refine Lg ?_ | apply LW.nil | apply QW.then_n | apply QW.round | apply RW.succ | apply CW.seq | apply CW.region | apply CW.skip | apply CW.block | apply CW.ret | apply CW.exit | apply QW.then_ret | apply QW.then_exit | apply QW.blk_n | apply QW.blk_ret | apply QW.blk_exit | refine Ca ?_ | refine Cb ?_ | refine Cc ?_ | refine Lh ?_ | refine Li ?_ | refine Lj ?_ | refine Lk ?_ | refine Ll ?_))
  exact QW.body1 Tryd.results9 rfl ⟨rfl, hx10.trans hx11⟩
end Go.Proofs.YtfpklhgkndnjjaaDoor
