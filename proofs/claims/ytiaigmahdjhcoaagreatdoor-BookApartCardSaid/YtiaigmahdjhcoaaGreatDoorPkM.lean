/-
 Joined by program out of the texts TextP BookT BookB BookC.
-/
import Derived.Test.YtiaigmahdjhcoaaGreatDoorPkG
import Derived.Test.YtiaigmahdjhcoaaGreatDoorPkE
import Derived.Test.YtiaigmahdjhcoaaGreatDoorPkL
import Derived.Test.YtiaigmahdjhcoaaGreatDoorPkB
namespace Go.Proofs.YtiaigmahdjhcoaaGreatDoor
open Go Go.E
def Tr.fitB : {b : Bool} → Tr b → Bool
 | _, .leaf n => decide (1 ≤ n.kind) && decide (n.kind ≤ 6) && decide (n.kids = []) && plainB n
 | _, .neg a => a.fitB
 | _, .two k a b => decide (9 ≤ k) && decide (k ≤ 19) && a.fitB && b.fitB
 | _, .call x ks => nameF x && ks.fitB
 | _, .nil => true
 | _, .snoc ks a => ks.fitB && a.fitB
theorem Tr.fit_of : ∀ {b : Bool} (t : Tr b), t.fitB = true → t.Fit
 | _, .leaf n, h => by
  simp only [Tr.fitB, Bool.and_eq_true, decide_eq_true_eq] at h
  exact ⟨h.1.1.1, h.1.1.2, h.1.2, h.2⟩
 | _, .neg a, h => Tr.fit_of a h
 | _, .two k a b, h => by
  simp only [Tr.fitB, Bool.and_eq_true, decide_eq_true_eq] at h
  exact ⟨h.1.1.1, h.1.1.2, Tr.fit_of a h.1.2, Tr.fit_of b h.2⟩
 | _, .call x ks, h => by
  simp only [Tr.fitB, Bool.and_eq_true] at h
  exact ⟨h.1, Tr.fit_of ks h.2⟩
 | _, .nil, _ => trivial
 | _, .snoc ks a, h => by
  simp only [Tr.fitB, Bool.and_eq_true] at h
  exact ⟨Tr.fit_of ks h.1, Tr.fit_of a h.2⟩
def Tr.numB {b : Bool} (t : Tr b) : Bool := t.toks.all fun k => decide (k.num ≤ 9223372036854775807)
theorem Tr.num_of' {b : Bool} {t : Tr b} (h : t.numB = true) : t.Num := fun k hk => by
 have := List.all_eq_true.1 h k hk
 simpa using this
def Tr.okB (t : Tr false) : Bool := t.fitB && t.numB && decide (t.text.length < 300) && decide (t.need ≤ 12)
theorem tree_may {t : Tr false} (hf : t.Fit) (hn : t.Num) (hl : t.text.length < 300) (hd : t.need ≤ 12) : mayC (61 :: t.text) = true := by
 have hp : parseT t.text = .ok (t.flat 0) := by rw [parseT_text t hf hn, if_neg (by omega), if_pos hd]
 rw [mayC, if_neg (by simp; omega), if_neg (by simp [byte]), if_pos (by simp [byte])]
 show (match parseT t.text with | .error _ => false | .ok l => decide (printT l = t.text)) = true
 rw [hp]
 simp only
 rw [printT_of hf]
 simp
theorem okB_may {t : Tr false} (h : t.okB = true) : mayC (61 :: t.text) = true := by
 simp only [Tr.okB, Bool.and_eq_true, decide_eq_true_eq] at h
 exact tree_may (t.fit_of h.1.1.1) (Tr.num_of' h.1.1.2) h.1.2 h.2
theorem may_itoa (n : Int) (b0 : -9223372036854775808 ≤ n) (b1 : n ≤ 9223372036854775807) : mayC (Lib.itoa n) = true := by
 obtain ⟨c1, c2, c3⟩ := numC_itoa b0 b1
 have hlen := Lib.itoa_length_le n b0 b1
 have n39 : ¬ (Lib.itoa n = [] ∨ byte (Lib.itoa n) 0 = 39) := by
  rintro (h | h)
  ·exact c2 h
  ·omega
 rw [mayC, if_neg (by omega), if_neg n39, if_neg (by omega), c1]
 simp
def rfP (c r : Int) : RefD := ⟨[], c, r, false, false⟩
def lfR (x : RefD) : Tr false := .leaf { kind := 5, ref := x }
def lfN (z : Int) : Tr false := .leaf { kind := 1, num := z }
def trN (n : Nat) : Tr false :=
 let k : Nat := n / 13
 match n % 13 with
 | 6 => lfR (rfP 0 (k % 5 : Nat))
 | 7 => .two 16 (lfR (rfP 1 (k % 4 : Nat))) (lfN 1)
 | 8 => .call [83, 85, 77] (.snoc .nil (.leaf { kind := 6, ref := rfP 0 0, to := rfP 1 (k % 5 : Nat) }))
 | 9 => .two 18 (lfR ⟨[66], (k % 4 : Nat), 1, false, false⟩) (lfN 2)
 | 10 => .call [73, 70] (.snoc (.snoc (.snoc .nil (.two 13 (lfR ⟨[], 0, 0, true, true⟩) (lfN 2))) (lfR (rfP 2 (k % 4 : Nat)))) (.leaf { kind := 2, text := [120] }))
 | 11 => .two 15 (lfR ⟨[67], 0, 0, false, false⟩) (.leaf { kind := 2, text := [121] })
 | _ => .two 19 (lfN 1) (lfN (k % 2 : Nat))
def cellN (n : Nat) : List UInt8 :=
 if n % 13 ≤ 2 then [] else if n % 13 ≤ 4 then Lib.itoa (n / 13 % 9 : Nat) else if n % 13 = 5 then [39, UInt8.ofNat (97 + n / 13 % 5)] else 61 :: (trN n).text
theorem trN_ok : ∀ n, n < 256 → 6 ≤ n % 13 → (trN n).okB = true := by decide +kernel
theorem cellN_len : ∀ n, n < 256 → (cellN n).length ≤ 40 := by decide +kernel
theorem cellN_may {n : Nat} (h : n < 256) : mayC (cellN n) = true := by
 unfold cellN
 split
 ·rw [mayC, if_neg (by simp), if_pos (.inl rfl)]
 split
 ·exact may_itoa _ (by omega) (by omega)
 split
 ·rw [mayC, if_neg (by simp), if_pos (.inr (by simp [byte]))]
 ·exact okB_may (trN_ok n h (by omega))
end Go.Proofs.YtiaigmahdjhcoaaGreatDoor
namespace Go.Proofs.YtiaigmahdjhcoaaGreatDoor
open Go Go.E
theorem cellN_5 : ∀ n, n < 256 → n % 13 = 5 → [39, ch ((97 + n / 13 % 5 : Nat) : Int)] = cellN n := by decide +kernel
theorem cellN_6 : ∀ n, n < 256 → n % 13 = 6 → [61, 65] ++ Lib.itoa ((1 + n / 13 % 5 : Nat) : Int) = cellN n := by decide +kernel
theorem cellN_7 : ∀ n, n < 256 → n % 13 = 7 → [61, 66] ++ Lib.itoa ((1 + n / 13 % 4 : Nat) : Int) ++ [43, 49] = cellN n := by decide +kernel
theorem cellN_8 : ∀ n, n < 256 → n % 13 = 8 → [61, 83, 85, 77, 40, 65, 49, 58, 66] ++ Lib.itoa ((1 + n / 13 % 5 : Nat) : Int) ++ [41] = cellN n := by decide +kernel
theorem cellN_9 : ∀ n, n < 256 → n % 13 = 9 → [61, 66, 33] ++ colT ((n / 13 % 4 : Nat) : Int) ++ [50, 42, 50] = cellN n := by decide +kernel
theorem cellN_10 : ∀ n, n < 256 → n % 13 = 10 → [61, 73, 70, 40, 36, 65, 36, 49, 62, 50, 44, 67] ++ Lib.itoa ((1 + n / 13 % 4 : Nat) : Int) ++ [44, 34, 120, 34, 41] = cellN n := by decide +kernel
theorem cellN_11 : ∀ n, n < 256 → n % 13 = 11 → [61, 67, 33, 65, 49, 38, 34, 121, 34] = cellN n := by decide +kernel
theorem cellN_12 : ∀ n, n < 256 → n % 13 = 12 → [61, 49, 47] ++ Lib.itoa ((n / 13 % 2 : Nat) : Int) = cellN n := by decide +kernel
theorem text_ret (n : Nat) (hn : n < 256) (w : World) : Ret Tryz.prog 14 [.int .i64 n] w (fun r w' => r = str (cellN n) ∧ Ext w w') := by
 refine Ret.enter Tryz.func14 rfl Tryz.ntmps14 (by kernel_rfl) rfl ?_
 refine Sa ?_
 have h : n % 13 = 0 ∨ n % 13 = 1 ∨ n % 13 = 2 ∨ n % 13 = 3 ∨ n % 13 = 4 ∨ n % 13 = 5 ∨ n % 13 = 6 ∨ n % 13 = 7 ∨ n % 13 = 8 ∨ n % 13 = 9 ∨ n % 13 = 10 ∨ n % 13 = 11 ∨ n % 13 = 12 := by omega
 rcases h with h | h | h | h | h | h | h | h | h | h | h | h | h
 ·rw [show ((n : Nat) : Int) % 13 = 0 by omega]
  refine Sa ?_
  exact QW.body1 Tryz.results14 rfl ⟨by rw [cellN, if_pos (by omega)], Chg.refl _ _⟩
 ·rw [show ((n : Nat) : Int) % 13 = 1 by omega]
  refine Sa ?_
  exact QW.body1 Tryz.results14 rfl ⟨by rw [cellN, if_pos (by omega)], Chg.refl _ _⟩
 ·rw [show ((n : Nat) : Int) % 13 = 2 by omega]
  refine Sa ?_
  exact QW.body1 Tryz.results14 rfl ⟨by rw [cellN, if_pos (by omega)], Chg.refl _ _⟩
 ·rw [show ((n : Nat) : Int) % 13 = 3 by omega]
  refine Sa ?_
  have hlen := Lib.itoa_length_le ((n / 13 % 9 : Nat) : Int) (by omega) (by omega)
  refine LW.call0 rfl rfl (Digits_all ((n / 13 % 9 : Nat) : Int) (by omega) (by omega) w) ?_
  rintro v w1 ⟨rfl, hx1⟩
  refine Sa ?_
  exact QW.body1 Tryz.results14 rfl ⟨by rw [cellN, if_neg (by omega), if_pos (by omega)], hx1⟩
 ·rw [show ((n : Nat) : Int) % 13 = 4 by omega]
  refine Sa ?_
  have hlen := Lib.itoa_length_le ((n / 13 % 9 : Nat) : Int) (by omega) (by omega)
  refine LW.call0 rfl rfl (Digits_all ((n / 13 % 9 : Nat) : Int) (by omega) (by omega) w) ?_
  rintro v w1 ⟨rfl, hx1⟩
  refine Sa ?_
  exact QW.body1 Tryz.results14 rfl ⟨by rw [cellN, if_neg (by omega), if_pos (by omega)], hx1⟩
 ·rw [show ((n : Nat) : Int) % 13 = 5 by omega]
  refine Sa ?_
  refine Lwl fun X w1 hbX hx1 hX => ?_
  replace hX : Blk w1 X [.int .u8 ((97 + n / 13 % 5 : Nat) : Int)] 5 := hX
  refine Sa ?_
  exact QW.body1 Tryz.results14 rfl ⟨by rw [← cellN_5 n hn h]; rfl, hx1⟩
 ·rw [show ((n : Nat) : Int) % 13 = 6 by omega]
  refine Sa ?_
  have hlen := Lib.itoa_length_le ((1 + n / 13 % 5 : Nat) : Int) (by omega) (by omega)
  refine LW.call0 rfl rfl (Digits_all ((1 + n / 13 % 5 : Nat) : Int) (by omega) (by omega) w) ?_
  rintro v w1 ⟨rfl, hx1⟩
  generalize hT : Lib.itoa ((1 + n / 13 % 5 : Nat) : Int) = T at hlen ⊢
  refine Sa ?_
  exact QW.body1 Tryz.results14 rfl ⟨by rw [← cellN_6 n hn h, hT], hx1⟩
 ·rw [show ((n : Nat) : Int) % 13 = 7 by omega]
  refine Sa ?_
  have hlen := Lib.itoa_length_le ((1 + n / 13 % 4 : Nat) : Int) (by omega) (by omega)
  refine LW.call0 rfl rfl (Digits_all ((1 + n / 13 % 4 : Nat) : Int) (by omega) (by omega) w) ?_
  rintro v w1 ⟨rfl, hx1⟩
  generalize hT : Lib.itoa ((1 + n / 13 % 4 : Nat) : Int) = T at hlen ⊢
  refine Sa ?_
  exact QW.body1 Tryz.results14 rfl ⟨by rw [← cellN_7 n hn h, hT], hx1⟩
 ·rw [show ((n : Nat) : Int) % 13 = 8 by omega]
  refine Sa ?_
  have hlen := Lib.itoa_length_le ((1 + n / 13 % 5 : Nat) : Int) (by omega) (by omega)
  refine LW.call0 rfl rfl (Digits_all ((1 + n / 13 % 5 : Nat) : Int) (by omega) (by omega) w) ?_
  rintro v w1 ⟨rfl, hx1⟩
  generalize hT : Lib.itoa ((1 + n / 13 % 5 : Nat) : Int) = T at hlen ⊢
  refine Sa ?_
  exact QW.body1 Tryz.results14 rfl ⟨by rw [← cellN_8 n hn h, hT], hx1⟩
 ·rw [show ((n : Nat) : Int) % 13 = 9 by omega]
  refine Sa ?_
  have hlen : (colT ((n / 13 % 4 : Nat) : Int)).length ≤ 10 := (by decide : ∀ k, k < 4 → (colT ((k : Nat) : Int)).length ≤ 10) _ (by omega)
  refine LW.call0 rfl rfl (rCol_ret ((n / 13 % 4 : Nat) : Int) (by omega) (by omega) w) ?_
  rintro v w1 ⟨rfl, hx1⟩
  generalize hT : colT ((n / 13 % 4 : Nat) : Int) = T at hlen ⊢
  refine Sa ?_
  exact QW.body1 Tryz.results14 rfl ⟨by rw [← cellN_9 n hn h, hT], hx1⟩
 ·rw [show ((n : Nat) : Int) % 13 = 10 by omega]
  refine Sa ?_
  have hlen := Lib.itoa_length_le ((1 + n / 13 % 4 : Nat) : Int) (by omega) (by omega)
  refine LW.call0 rfl rfl (Digits_all ((1 + n / 13 % 4 : Nat) : Int) (by omega) (by omega) w) ?_
  rintro v w1 ⟨rfl, hx1⟩
  generalize hT : Lib.itoa ((1 + n / 13 % 4 : Nat) : Int) = T at hlen ⊢
  refine Sa ?_
  exact QW.body1 Tryz.results14 rfl ⟨by rw [← cellN_10 n hn h, hT], hx1⟩
 ·rw [show ((n : Nat) : Int) % 13 = 11 by omega]
  refine Sa ?_
  exact QW.body1 Tryz.results14 rfl ⟨by rw [← cellN_11 n hn h], Chg.refl _ _⟩
 ·rw [show ((n : Nat) : Int) % 13 = 12 by omega]
  refine Sa ?_
  have hlen := Lib.itoa_length_le ((n / 13 % 2 : Nat) : Int) (by omega) (by omega)
  refine LW.call0 rfl rfl (Digits_all ((n / 13 % 2 : Nat) : Int) (by omega) (by omega) w) ?_
  rintro v w1 ⟨rfl, hx1⟩
  generalize hT : Lib.itoa ((n / 13 % 2 : Nat) : Int) = T at hlen ⊢
  refine Sa ?_
  exact QW.body1 Tryz.results14 rfl ⟨by rw [← cellN_12 n hn h, hT], hx1⟩
end Go.Proofs.YtiaigmahdjhcoaaGreatDoor
namespace Go.Proofs.YtiaigmahdjhcoaaGreatDoor
open Go Go.E
def cellAt (zs : List Int) (k : Nat) : List UInt8 := match zs[k]? with
 | some z => cellN z.toNat
 | none => []
def rowN (zs : List Int) (C k : Nat) : List (List UInt8) := (List.range C).map fun c => cellAt zs (k * C + c)
def colsN (sh : Nat) : Nat := 1 + sh / 3 % 4
def rowsN (sh : Nat) : Nat := 1 + sh / 12 % 5
def sheetN (zs : List Int) (sh i : Nat) : SheetD := { name := [ch ((65 + i + sh / 64 * i : Nat) : Int)], cols := colsN sh, rows := (List.range (rowsN sh)).map fun r => rowN zs (colsN sh) (i * rowsN sh + r) }
def bookN (zs : List Int) (sh : Nat) : BookD := (List.range (1 + sh % 3)).map (sheetN zs sh)
def rowPart (zs : List Int) (C k j : Nat) : List (List UInt8) := (List.range C).map fun c => if c < j then cellAt zs (k * C + c) else []
theorem rowPart_len (zs : List Int) (C k j : Nat) : (rowPart zs C k j).length = C := by simp [rowPart]
theorem rowPart_zero (zs : List Int) (C k : Nat) : (rowPart zs C k 0).map str = List.replicate C (str []) := by
 apply List.ext_getElem?
 intro i
 simp [rowPart, List.getElem?_replicate, List.getElem?_range]
 by_cases h : i < C <;> simp [h]
theorem rowPart_set {zs : List Int} {C k j : Nat} (hj : j < C) : ((rowPart zs C k j).map str).set j (str (cellAt zs (k * C + j))) = (rowPart zs C k (j + 1)).map str := by
 apply List.ext_getElem?
 intro i
 rw [List.getElem?_set]
 simp only [rowPart, List.getElem?_map, List.map_map, List.length_map, List.length_range]
 by_cases e : j = i
 ·subst e
  simp [hj]
 ·by_cases h : i < C
  ·simp only [if_neg e, List.getElem?_range h, Option.map_some, Function.comp]
   have : (i < j) = (i < j + 1) := by apply propext; omega
   simp only [this]
  ·rw [if_neg e, List.getElem?_eq_none (by simpa using h)]
   rfl
theorem rowPart_all {zs : List Int} {C k j : Nat} (h : j = C ∨ zs.length ≤ k * C + j) : rowPart zs C k j = rowN zs C k := by
 apply List.ext_getElem?
 intro i
 simp only [rowPart, rowN, List.getElem?_map]
 by_cases hi : i < C
 ·simp only [List.getElem?_range hi, Option.map_some, Option.some.injEq]
  split
  ·rfl
  ·rename_i h2
   have h3 : zs[k * C + i]? = none := List.getElem?_eq_none (by rcases h with h | h <;> omega)
   rw [cellAt, h3]
 ·rw [List.getElem?_eq_none (by simpa using hi)]
  rfl
theorem cellAt_len {zs : List Int} (hz : ∀ z ∈ zs, 0 ≤ z ∧ z ≤ 255) (k : Nat) : (cellAt zs k).length ≤ 40 := by
 unfold cellAt
 split
 ·rename_i z h
  have := hz z (List.mem_of_getElem? h)
  exact cellN_len _ (by omega)
 ·simp
theorem InS.at {k : IntKind} {w : World} {p : Option Addr} {c : Nat} {zs : List Int} (h : InS k w (.slice p zs.length c) zs) {i : Nat} {z : Int} (hi : zs[i]? = some z) : ∃ a, p = some a ∧ w.cell? (a.add (((i : Nat) : Int).toNat * 1)) = some (.int k z) := by
 obtain ⟨_, ⟨e, e2⟩ | ⟨a, cap, e, h⟩⟩ := h
 ·rw [e2] at hi; simp at hi
 ·simp only [Value.slice.injEq] at e
  exact ⟨a, e.1, by rw [show ((i : Nat) : Int).toNat * 1 = i by omega]; exact h i z hi⟩
set_option maxRecDepth 8000 in
set_option maxHeartbeats 2000000 in
theorem Book_ret (zs : List Int) (nv : Value) (sh : Nat) (w : World) (h : InS .u8 w nv zs) (hz : ∀ z ∈ zs, 0 ≤ z ∧ z ≤ 255) (hl : zs.length ≤ 80) (hsh : sh < 256) : Ret Tryz.prog 12 [nv, .int .u8 sh] w (fun v w' => ∃ u, v = .agg ⟨[u]⟩ ∧ SheetsR w' u (bookN zs sh) ∧ Ext w w') := by
 obtain ⟨p, c, rfl⟩ := h.slice
 refine Ret.enter Tryz.func12 rfl Tryz.ntmps12 (by kernel_rfl) rfl ?_
 apply CW.seq
 apply CW.region
 refine Sl ?_
 refine Lwa fun R w1 hbR hx1 hR => ?_
 have hRl := hR.lt
 refine Sa ?_
 refine Lwa fun C w2 hbC hx2 hC => ?_
 have hCl := hC.lt
 replace hR := hR.ext hx2
 have hz1 := hx1.size
 have hz2 := hx2.size
 have hx02 := hx1.trans hx2
 have hlenb : (bookN zs sh).length = 1 + sh % 3 := by simp [bookN]
 have hget : ∀ i, i < 1 + sh % 3 → (bookN zs sh)[i]? = some (sheetN zs sh i) := fun i hi => by simp [bookN, List.getElem?_range hi]
 refine Sa ?_
 refine CW.loop (ι := Nat × Option Addr × Nat) (fun x w' => x.1 ≤ 1 + sh % 3 ∧ Ext w w' ∧ Chg [C] w2 w' ∧ Blk w' C [.slice x.2.1 x.1 x.2.2] 26 ∧ ∃ rv f, Own w' w2.heap.size 47 3 (.slice x.2.1 x.1 x.2.2) x.1 (sheetsC ((bookN zs sh).take x.1) rv).flatten ∧ BookX w2.heap.size w' x.1 (bookN zs sh) rv f (vblk (.slice x.2.1 x.1 x.2.2))) (fun x => [(0, .slice p zs.length c), (1, .int .u8 sh), (4, .pointer (some ⟨R, 0, none⟩)), (5, .pointer (some ⟨C, 0, none⟩)), (6, .int .i64 ((min (x.1 * rowsN sh * colsN sh) zs.length : Nat) : Int)), (7, .int .i64 x.1)]) (fun x => 1 + sh % 3 - x.1) (0, none, 0) ⟨by omega, hx02, Chg.refl _ _, hC, fun _ => .slice none 0 0, fun _ _ => 0, Own.nil _ _ _ _, BookX.zero⟩ (Sub.cons rfl (Sub.cons rfl (Sub.cons rfl (Sub.cons rfl (Sub.cons (by simp; rfl) (Sub.cons rfl Sub.nil)))))) ?_
 rintro ⟨k, op, oc⟩ w5 ⟨hk, hx5, hc5, hC5, rv, f, hO, hX⟩
 dsimp only at hk hC5 hO hX
 show CW _ _ _ _ _ [(0, .slice p zs.length c), (1, .int .u8 sh), (4, .pointer (some ⟨R, 0, none⟩)), (5, .pointer (some ⟨C, 0, none⟩)), (6, .int .i64 ((min (k * rowsN sh * colsN sh) zs.length : Nat) : Int)), (7, .int .i64 (k : Int))] _
 have hR5 := hR.chg hc5 (by simp; omega)
 have hz5 := hc5.size
 have hw2 := hx02.size
 have hV : ∀ j, j ∈ vblk (Value.slice op k oc) → w2.heap.size ≤ j ∧ j < w5.heap.size := fun j hj => hO.lt hj
 have n2 : C ∉ vblk (Value.slice op k oc) := fun hb => by have := (hV C hb).1; omega
 refine Sa ?_
 refine Cwc (fun h6 => ?_) fun h6 => ?_
 rotate_left
 ·have h6 : k = 1 + sh % 3 := by simp at h6; omega
  subst h6
  rw [← hlenb, List.take_length] at hO
  rw [← hlenb] at hX
  refine Sa ?_
  refine Lws fun w6 hc6 hR6 => ?_
  have hx6 : Ext w w6 := hx5.step hc6 (by simp; omega)
  have hX6 := hX.chg hc6 (fun i s hi hs y hy => by have := ((hX.rows i s hi hs).lt hy).1; simp; omega)
  have hO6 := hO.chg hc6 (fun j hj => by have := (hO.lt hj).1; simp; omega)
  refine Sa ?_
  exact QW.body_c Tryz.results12 rfl hR6 rfl rfl rfl ⟨_, rfl, hlenb ▸ (BookF.mk (rv := rv) (f := f) hO6 (fun s hs => by
   simp only [bookN, List.mem_map] at hs
   obtain ⟨i, _, rfl⟩ := hs
   simp [sheetN]) (by omega) hX6).list, hx6⟩
 have h6 : k < 1 + sh % 3 := by simp at h6; omega
 have hkk : k = 0 ∨ k = 1 ∨ k = 2 := by omega
 have hm : 0 ≤ (sh : Int) / 64 * (k : Int) ∧ (sh : Int) / 64 * (k : Int) ≤ 6 := by
  rcases hkk with rfl | rfl | rfl <;> simp <;> omega
 refine Sa ?_
 refine Lwl fun N w6 hbN hx6 hN => ?_
 replace hN : Blk w6 N [.int .u8 (65 + (k : Int) + (sh : Int) / 64 * (k : Int))] 5 := hN
 refine Sa ?_
 refine Lwa fun T w7 hbT hx7 hT => ?_
 have hTl := hT.lt
 refine Sa ?_
 refine Lws fun w8 hc8 hT => ?_
 have hz57 := (hx6.trans hx7).size
 have hz56 := hx6.size
 have hx58 : Ext w5 w8 := (hx6.trans hx7).step hc8 (by simp; have := hx6.size; omega)
 have enm : [ch (65 + (k : Int) + (sh : Int) / 64 * (k : Int))] = (sheetN zs sh k).name := by
  show _ = [ch ((65 + k + sh / 64 * k : Nat) : Int)]
  rw [show (65 + (k : Int) + (sh : Int) / 64 * (k : Int)) = ((65 + k + sh / 64 * k : Nat) : Int) by push_cast; rfl]
 replace hT : Blk w8 T (sheetL (sheetN zs sh k) (.slice none 0 0)) 47 := by
  have e : sheetL (sheetN zs sh k) (.slice none 0 0) = [str [ch (65 + (k : Int) + (sh : Int) / 64 * (k : Int))], .int .i64 (1 + (sh : Int) / 3 % 4), .slice none 0 0] := by
   rw [sheetL, ← enm]
   simp [sheetN, colsN]
  rw [e]
  exact hT
 have hz58 := hx58.size
 have hn24 : rowsN sh ≤ 5 := by unfold rowsN; omega
 have hc24 : colsN sh ≤ 4 := by unfold colsN; omega
 have hrows : ∀ r, r < rowsN sh → (sheetN zs sh k).rows[r]? = some (rowN zs (colsN sh) (k * rowsN sh + r)) := fun r hr => by simp [sheetN, List.getElem?_range hr]
 have hrl : (sheetN zs sh k).rows.length = rowsN sh := by simp [sheetN]
 refine Sa ?_
 refine CW.loop (ι := Nat × Option Addr × Nat) (fun x w' => x.1 ≤ rowsN sh ∧ Chg [T] w8 w' ∧ Blk w' T (sheetL (sheetN zs sh k) (.slice x.2.1 x.1 x.2.2)) 47 ∧ ∃ xs g, Own w' w8.heap.size 48 1 (.slice x.2.1 x.1 x.2.2) x.1 xs ∧ RowsX w8.heap.size w' xs ((sheetN zs sh k).rows.take x.1) g (vblk (.slice x.2.1 x.1 x.2.2))) (fun x => [(0, .slice p zs.length c), (1, .int .u8 sh), (4, .pointer (some ⟨R, 0, none⟩)), (5, .pointer (some ⟨C, 0, none⟩)), (6, .int .i64 ((min ((k * rowsN sh + x.1) * colsN sh) zs.length : Nat) : Int)), (7, .int .i64 k), (8, .pointer (some ⟨T, 0, none⟩)), (9, .int .i64 x.1)]) (fun x => rowsN sh - x.1) (0, none, 0) ⟨by omega, Chg.refl _ _, hT, [], fun _ => 0, Own.nil _ _ _ _, RowsX.nil⟩ (Sub.cons rfl (Sub.cons rfl (Sub.cons rfl (Sub.cons rfl (Sub.cons rfl (Sub.cons rfl (Sub.cons rfl (Sub.cons rfl (Sub.nil))))))))) ?_
 rintro ⟨r, tp, tc⟩ w9 ⟨hr, hc9, hT9, xs, g, hO9, hX9⟩
 dsimp only at hr hT9 hO9 hX9
 show CW _ _ _ _ _ [(0, .slice p zs.length c), (1, .int .u8 sh), (4, .pointer (some ⟨R, 0, none⟩)), (5, .pointer (some ⟨C, 0, none⟩)), (6, .int .i64 ((min ((k * rowsN sh + r) * colsN sh) zs.length : Nat) : Int)), (7, .int .i64 (k : Int)), (8, .pointer (some ⟨T, 0, none⟩)), (9, .int .i64 (r : Int))] _
 have hx59 : Ext w5 w9 := hx58.step hc9 (by simp; omega)
 have hz9 := hc9.size
 have hTl8 : T < w8.heap.size := hT.lt
 refine Sa ?_
 refine Cwc (fun h7 => ?_) fun h7 => ?_
 rotate_left
 ·have h7 : r = rowsN sh := by simp [rowsN] at h7 ⊢; simp [rowsN] at hr; omega
  subst h7
  rw [show (k * rowsN sh + rowsN sh) * colsN sh = (k + 1) * rowsN sh * colsN sh by rw [Nat.succ_mul]]
  have hC9 := hC5.ext hx59
  rw [← hrl, List.take_length] at hX9
  have hF : RowsF w8.heap.size w9 (.slice tp (rowsN sh) tc) (sheetN zs sh k).rows g := ⟨⟨xs, by rw [hrl]; exact hO9, by rw [hrl] at hX9; exact hX9⟩, by omega⟩
  refine Sa ?_
  refine Lwl fun B2 wa hbB2 hxa hB2 => ?_
  replace hB2 : Blk wa B2 (sheetL (sheetN zs sh k) (.slice tp (rowsN sh) tc)) 47 := hB2
  have hx5a := hx59.trans hxa
  have hz5a := hx5a.size
  replace hF := hF.ext hxa
  have hXa := (hX.ext hx5a).push (hget k h6) (hF.low (by omega)) (fun x hx hb => by
   have := (hF.lt hx).1
   have := (hV x hb).2
   omega) (fun i t hi hit x hx hy => by
   have := ((hX.rows i t hi hit).lt hx).2
   have := (hF.lt hy).1
   omega)
  refine LW.append (lo := w2.heap.size) (k := k) rfl rfl rfl rfl rfl rfl (hO.ext hx5a) (by omega) hB2 rfl rfl rfl (by show (k + 1) * 49 ≤ _; omega) rfl ?_
  intro v10 wd hcd hOd hvd
  obtain ⟨pd, cd, rfl⟩ := hOd.slice
  have hXd := (hXa.over hvd).chg hcd (fun i t hi hit y hy => hXa.apartV i t hi hit y hy)
  have e10 : (sheetsC ((bookN zs sh).take k) rv).flatten ++ sheetL (sheetN zs sh k) (.slice tp (rowsN sh) tc) = (sheetsC ((bookN zs sh).take (k + 1)) fun i => if i = k then .slice tp (rowsN sh) tc else rv i).flatten := by
   rw [sheetsC_take (hget k h6)]
   simp
  rw [e10] at hOd
  have hCd := (hC9.ext hxa).chg hcd n2
  have hgo : Chg [C] w2 wd := (Chg.trans (hc5.ext hx5a) hcd).mono (fun b hb hlt => by
   rcases List.mem_append.1 hb with hb | hb
   ·exact hb
   ·have := (hV b hb).1; omega)
  have hxd : Ext w wd := (hx5.trans hx5a).step hcd (fun b hb => by have := (hV b hb).1; omega)
  refine Sa ?_
  refine Lwt fun we hce hCe => ?_
  replace hCe : Blk we C [.slice pd (k + 1) cd] 26 := hCe
  refine Sa ?_
  exact QW.again (k + 1, pd, cd) ⟨by show k + 1 ≤ _; omega, hxd.step hce (by simp; omega), hgo.same hce, hCe, _, _, hOd.chg hce (fun b hb => by have := (hOd.lt hb).1; simp; omega), hXd.chg hce (fun i t hi hit y hy => by have := ((hXd.rows i t hi hit).lt hy).1; simp; omega)⟩ (Sub.cons rfl (Sub.cons rfl (Sub.cons rfl (Sub.cons rfl (Sub.cons rfl (Sub.cons rfl (Sub.nil))))))) (by show 1 + sh % 3 - (k + 1) < 1 + sh % 3 - k; omega)
 have h7 : r < rowsN sh := by simp at h7; simp [rowsN]; omega
 refine Sa ?_
 refine LW.makeSlice (m := colsN sh) (by simp [sheetN]; rfl) (by simp [sheetN]; rfl) rfl rfl rfl rfl rfl (by omega) rfl rfl ?_
 intro M wa hbM hxa hM
 have hMl := hM.lt
 have hz9a := hxa.size
 have hxa' := (hx5.trans hx59).trans hxa
 have hT9a := hT9.ext hxa
 rw [← rowPart_zero zs (colsN sh) (k * rowsN sh + r)] at hM
 refine Sa ?_
 refine CW.loop (ι := Nat) (fun j w' => j ≤ colsN sh ∧ Chg [M] wa w' ∧ Blk w' M ((rowPart zs (colsN sh) (k * rowsN sh + r) j).map str) 9) (fun j => [(0, .slice p zs.length c), (1, .int .u8 sh), (4, .pointer (some ⟨R, 0, none⟩)), (5, .pointer (some ⟨C, 0, none⟩)), (6, .int .i64 ((min ((k * rowsN sh + r) * colsN sh + j) zs.length : Nat) : Int)), (7, .int .i64 k), (8, .pointer (some ⟨T, 0, none⟩)), (9, .int .i64 r), (10, .slice (some ⟨M, 0, none⟩) (colsN sh) (colsN sh)), (11, .int .i64 j)]) (fun j => colsN sh - j) 0 ⟨by omega, Chg.refl _ _, hM⟩ (Sub.cons rfl (Sub.cons rfl (Sub.cons rfl (Sub.cons rfl (Sub.cons rfl (Sub.cons rfl (Sub.cons rfl (Sub.cons rfl (Sub.cons rfl (Sub.cons rfl (Sub.nil))))))))))) ?_
 rintro j wb ⟨hj, hcb, hMb⟩
 have hTb := hT9a.chg hcb (by simp; omega)
 have hxb : Ext w9 wb := hxa.step hcb (by simp; omega)
 have hzb := hcb.size
 have hAC : (k * rowsN sh + (r + 1)) * colsN sh = (k * rowsN sh + r) * colsN sh + colsN sh := by rw [← Nat.add_assoc, Nat.succ_mul]
 refine Sa ?_
 by_cases h8 : j < colsN sh
 rotate_left
 ·refine LW.know (t := 53) (c := false) rfl (by simp [sheetN]; omega) ?_
  have hdone : j = colsN sh ∨ zs.length ≤ (k * rowsN sh + r) * colsN sh + j := .inl (by omega)
  refine Sa ?_
  have hall := rowPart_all (zs := zs) (C := colsN sh) (k := k * rowsN sh + r) hdone
  rw [hall] at hMb
  have eat : min ((k * rowsN sh + r) * colsN sh + j) zs.length = min ((k * rowsN sh + (r + 1)) * colsN sh) zs.length := by rw [hAC]; omega
  rw [eat]
  have hMt : TextsQ (fun a => a = ⟨M, 0, none⟩) wb (.slice (some ⟨M, 0, none⟩) (colsN sh) (colsN sh)) (rowN zs (colsN sh) (k * rowsN sh + r)) := by
   have hrw : (rowN zs (colsN sh) (k * rowsN sh + r)).length = colsN sh := by simp [rowN]
   have := (own_texts (lo := M) (v := .slice (some ⟨M, 0, none⟩) (colsN sh) (colsN sh)) (l := rowN zs (colsN sh) (k * rowsN sh + r)) (w := wb) ⟨by simp, .inr ⟨M, colsN sh, [], by rw [hrw], by simpa using hMb, by omega, by simp; omega, Nat.le_refl _⟩⟩ (by omega) (fun s hs => by
    simp only [rowN, List.mem_map] at hs
    obtain ⟨i, _, rfl⟩ := hs
    have := cellAt_len hz ((k * rowsN sh + r) * colsN sh + i)
    omega))
   obtain ⟨gM, g1, g2⟩ := this
   have g1' := g1
   obtain ⟨g0, ⟨e, _⟩ | ⟨a, cc, e, g3, g4⟩⟩ := g1
   ·simp at e
   ·simp only [Value.slice.injEq, Option.some.injEq] at e
    refine ⟨g0, .inr ⟨⟨M, 0, none⟩, colsN sh, by rw [hrw], fun _ => rfl, ?_⟩⟩
    rw [← e.1] at g4
    exact g4
  refine Sa ?_
  refine Lwl fun B2 wc hbB2 hxc hB2 => ?_
  replace hB2 : Blk wc B2 [.slice (some ⟨M, 0, none⟩) (colsN sh) (colsN sh)] 48 := hB2
  have hV9 : ∀ b, b ∈ vblk (Value.slice tp r tc) → w8.heap.size ≤ b ∧ b < w9.heap.size := fun b hb => hO9.lt hb
  have hx9c : Ext w9 wc := hxb.trans hxc
  have hzc := hx9c.size
  have hXc := (hX9.ext hx9c).push (TextsQ.ext hMt hxc) (fun hn => ⟨by omega, fun hb => by have := (hV9 _ hb).2; omega, fun r' y hr' hy hf => by
   obtain ⟨_, _, sp', h9'⟩ := hX9.blk r' y hr' hy
   have := h9'.lt
   omega, [], by simpa using hMb.ext hxc⟩)
  have htk : (sheetN zs sh k).rows.take r ++ [rowN zs (colsN sh) (k * rowsN sh + r)] = (sheetN zs sh k).rows.take (r + 1) := by rw [List.take_add_one, hrows r h7]; rfl
  have htl : ((sheetN zs sh k).rows.take r).length = r := by simp [hrl]; omega
  rw [htk, htl] at hXc
  refine LW.append (lo := w8.heap.size) (k := r) rfl rfl rfl rfl rfl rfl (hO9.ext hx9c) (by omega) hB2 rfl rfl rfl (by show (r + 1) * 25 ≤ _; omega) rfl ?_
  intro v10 wd hcd hOd hvd
  obtain ⟨pd, cd, rfl⟩ := hOd.slice
  have hXd := (hXc.over hvd).chg hcd (fun r' y hr' hy => (hXc.blk r' y hr' hy).2.1)
  have hTd := (hTb.ext hxc).chg hcd (fun hb => by have := (hV9 _ hb).1; omega)
  refine Sa ?_
  refine Lwt fun we hce hTe => ?_
  replace hTe : Blk we T (sheetL (sheetN zs sh k) (.slice pd (r + 1) cd)) 47 := hTe
  refine Sa ?_
  exact QW.again (r + 1, pd, cd) ⟨by show r + 1 ≤ _; omega, Chg.same (S := [T]) ((Chg.trans (hc9.ext hx9c) hcd).mono (fun b hb hlt => by
   rcases List.mem_append.1 hb with hb | hb
   ·exact hb
   ·have := (hV9 b hb).1; omega)) hce, hTe, _, _, hOd.chg hce (fun b hb => by have := (hOd.lt hb).1; simp; omega), hXd.chg hce (fun r' y hr' hy => by have := (hXd.blk r' y hr' hy).1; simp; omega)⟩ (Sub.cons rfl (Sub.cons rfl (Sub.cons rfl (Sub.cons rfl (Sub.cons rfl (Sub.cons rfl (Sub.cons rfl (Sub.cons rfl (Sub.nil))))))))) (by show rowsN sh - (r + 1) < rowsN sh - r; omega)
 refine LW.know (t := 53) (c := true) rfl (by simp [sheetN]; omega) ?_
 refine Sa ?_
 refine Cwc (fun h9 => ?_) fun h9 => ?_
 rotate_left
 ·have hdone : j = colsN sh ∨ zs.length ≤ (k * rowsN sh + r) * colsN sh + j := .inr (by simp at h9; omega)
  refine Sa ?_
  have hall := rowPart_all (zs := zs) (C := colsN sh) (k := k * rowsN sh + r) hdone
  rw [hall] at hMb
  have eat : min ((k * rowsN sh + r) * colsN sh + j) zs.length = min ((k * rowsN sh + (r + 1)) * colsN sh) zs.length := by rw [hAC]; omega
  rw [eat]
  have hMt : TextsQ (fun a => a = ⟨M, 0, none⟩) wb (.slice (some ⟨M, 0, none⟩) (colsN sh) (colsN sh)) (rowN zs (colsN sh) (k * rowsN sh + r)) := by
   have hrw : (rowN zs (colsN sh) (k * rowsN sh + r)).length = colsN sh := by simp [rowN]
   have := (own_texts (lo := M) (v := .slice (some ⟨M, 0, none⟩) (colsN sh) (colsN sh)) (l := rowN zs (colsN sh) (k * rowsN sh + r)) (w := wb) ⟨by simp, .inr ⟨M, colsN sh, [], by rw [hrw], by simpa using hMb, by omega, by simp; omega, Nat.le_refl _⟩⟩ (by omega) (fun s hs => by
    simp only [rowN, List.mem_map] at hs
    obtain ⟨i, _, rfl⟩ := hs
    have := cellAt_len hz ((k * rowsN sh + r) * colsN sh + i)
    omega))
   obtain ⟨gM, g1, g2⟩ := this
   have g1' := g1
   obtain ⟨g0, ⟨e, _⟩ | ⟨a, cc, e, g3, g4⟩⟩ := g1
   ·simp at e
   ·simp only [Value.slice.injEq, Option.some.injEq] at e
    refine ⟨g0, .inr ⟨⟨M, 0, none⟩, colsN sh, by rw [hrw], fun _ => rfl, ?_⟩⟩
    rw [← e.1] at g4
    exact g4
  refine Sa ?_
  refine Lwl fun B2 wc hbB2 hxc hB2 => ?_
  replace hB2 : Blk wc B2 [.slice (some ⟨M, 0, none⟩) (colsN sh) (colsN sh)] 48 := hB2
  have hV9 : ∀ b, b ∈ vblk (Value.slice tp r tc) → w8.heap.size ≤ b ∧ b < w9.heap.size := fun b hb => hO9.lt hb
  have hx9c : Ext w9 wc := hxb.trans hxc
  have hzc := hx9c.size
  have hXc := (hX9.ext hx9c).push (TextsQ.ext hMt hxc) (fun hn => ⟨by omega, fun hb => by have := (hV9 _ hb).2; omega, fun r' y hr' hy hf => by
   obtain ⟨_, _, sp', h9'⟩ := hX9.blk r' y hr' hy
   have := h9'.lt
   omega, [], by simpa using hMb.ext hxc⟩)
  have htk : (sheetN zs sh k).rows.take r ++ [rowN zs (colsN sh) (k * rowsN sh + r)] = (sheetN zs sh k).rows.take (r + 1) := by rw [List.take_add_one, hrows r h7]; rfl
  have htl : ((sheetN zs sh k).rows.take r).length = r := by simp [hrl]; omega
  rw [htk, htl] at hXc
  refine LW.append (lo := w8.heap.size) (k := r) rfl rfl rfl rfl rfl rfl (hO9.ext hx9c) (by omega) hB2 rfl rfl rfl (by show (r + 1) * 25 ≤ _; omega) rfl ?_
  intro v10 wd hcd hOd hvd
  obtain ⟨pd, cd, rfl⟩ := hOd.slice
  have hXd := (hXc.over hvd).chg hcd (fun r' y hr' hy => (hXc.blk r' y hr' hy).2.1)
  have hTd := (hTb.ext hxc).chg hcd (fun hb => by have := (hV9 _ hb).1; omega)
  refine Sa ?_
  refine Lwt fun we hce hTe => ?_
  replace hTe : Blk we T (sheetL (sheetN zs sh k) (.slice pd (r + 1) cd)) 47 := hTe
  refine Sa ?_
  exact QW.again (r + 1, pd, cd) ⟨by show r + 1 ≤ _; omega, Chg.same (S := [T]) ((Chg.trans (hc9.ext hx9c) hcd).mono (fun b hb hlt => by
   rcases List.mem_append.1 hb with hb | hb
   ·exact hb
   ·have := (hV9 b hb).1; omega)) hce, hTe, _, _, hOd.chg hce (fun b hb => by have := (hOd.lt hb).1; simp; omega), hXd.chg hce (fun r' y hr' hy => by have := (hXd.blk r' y hr' hy).1; simp; omega)⟩ (Sub.cons rfl (Sub.cons rfl (Sub.cons rfl (Sub.cons rfl (Sub.cons rfl (Sub.cons rfl (Sub.cons rfl (Sub.cons rfl (Sub.nil))))))))) (by show rowsN sh - (r + 1) < rowsN sh - r; omega)
 have h9 : (k * rowsN sh + r) * colsN sh + j < zs.length := by simp at h9; omega
 rw [show min ((k * rowsN sh + r) * colsN sh + j) zs.length = (k * rowsN sh + r) * colsN sh + j by omega]
 obtain ⟨z, hzz⟩ : ∃ z, zs[(k * rowsN sh + r) * colsN sh + j]? = some z := ⟨_, List.getElem?_eq_getElem h9⟩
 have hzb := hz z (List.mem_of_getElem? hzz)
 obtain ⟨m, rfl⟩ : ∃ m : Nat, z = m := ⟨z.toNat, by omega⟩
 obtain ⟨a, rfl, hca⟩ := (h.ext ((hx5.trans hx59).trans hxb)).at hzz
 refine Sw ?_
 refine LW.call0 rfl rfl (text_ret m (by omega) wb) ?_
 rintro v wc ⟨rfl, hxc⟩
 have hMc := hMb.ext hxc
 refine LW.idx_slice (j := j) rfl rfl rfl rfl rfl (by omega) (by omega) (by show 0 + ((j : Nat) : Int).toNat * 1 = _; omega) rfl ?_
 refine LW.store rfl rfl rfl hMc (Nat.ble_eq_true_of_le (by show j + 1 ≤ _; rw [List.length_map, rowPart_len]; omega)) rfl rfl fun wd hcd hMd => ?_
 have ecell : cellN m = cellAt zs ((k * rowsN sh + r) * colsN sh + j) := by rw [cellAt, hzz]; rfl
 rw [ecell, rowPart_set h8] at hMd
 refine Sa ?_
 rw [show (((k * rowsN sh + r) * colsN sh + j : Nat) : Int) + 1 = ((min ((k * rowsN sh + r) * colsN sh + (j + 1)) zs.length : Nat) : Int) by omega]
 exact QW.again (j + 1) ⟨by omega, (hcb.ext hxc).same hcd, hMd⟩ (Sub.cons rfl (Sub.cons rfl (Sub.cons rfl (Sub.cons rfl (Sub.cons rfl (Sub.cons rfl (Sub.cons rfl (Sub.cons rfl (Sub.cons rfl (Sub.cons rfl (Sub.nil))))))))))) (by omega)
end Go.Proofs.YtiaigmahdjhcoaaGreatDoor
namespace Go.Proofs.YtiaigmahdjhcoaaGreatDoor
open Go Go.E
theorem may_nil : mayC [] = true := by rw [mayC, if_neg (by simp), if_pos (.inl rfl)]
theorem cellAt_may {zs : List Int} (hz : ∀ z ∈ zs, 0 ≤ z ∧ z ≤ 255) (k : Nat) : mayC (cellAt zs k) = true := by
 unfold cellAt
 split
 ·rename_i z h
  have := hz z (List.mem_of_getElem? h)
  exact cellN_may (by omega)
 ·exact may_nil
theorem name_letter : ∀ x, x < 9 → nameB [ch ((65 + x : Nat) : Int)] = true := by decide
theorem less_letter : ∀ y, y < 9 → ∀ x, x < y → Op.bytesLess [ch ((65 + x : Nat) : Int)] [ch ((65 + y : Nat) : Int)] = true := by decide
theorem bookN_may {zs : List Int} {sh : Nat} (hz : ∀ z ∈ zs, 0 ≤ z ∧ z ≤ 255) (hsh : sh < 256) : mayBook (bookN zs sh) = true := by
 have hm : ∀ i, i < 3 → i + sh / 64 * i < 9 := fun i hi => by
  have : i = 0 ∨ i = 1 ∨ i = 2 := by omega
  rcases this with rfl | rfl | rfl <;> omega
 rw [mayBook_iff]
 refine ⟨by simp [bookN]; omega, fun s hs => ?_, ?_⟩
 ·simp only [bookN, List.mem_map, List.mem_range] at hs
  obtain ⟨i, hi, rfl⟩ := hs
  have h1 := name_letter (i + sh / 64 * i) (hm i (by omega))
  have e : (65 + (i + sh / 64 * i) : Nat) = 65 + i + sh / 64 * i := by omega
  rw [e] at h1
  simp only [maySh, sheetN, Bool.and_eq_true, decide_eq_true_eq, List.all_eq_true]
  refine ⟨⟨⟨⟨h1, decide_eq_true (by show (0 : Int) ≤ ((colsN sh : Nat) : Int); omega)⟩, decide_eq_true (by show ((colsN sh : Nat) : Int) ≤ 12; unfold colsN; omega)⟩, by simp [rowsN]; omega⟩, fun r hr => ?_⟩
  simp only [List.mem_map, List.mem_range] at hr
  obtain ⟨k, hk, rfl⟩ := hr
  refine ⟨by simp [rowN], fun c hc => ?_⟩
  simp only [rowN, List.mem_map] at hc
  obtain ⟨j, _, rfl⟩ := hc
  exact cellAt_may hz _
 ·unfold bookN
  rw [List.pairwise_map]
  refine List.Pairwise.imp_of_mem ?_ (List.pairwise_lt_range (n := 1 + sh % 3))
  intro i j hi hj hij
  simp only [List.mem_range] at hi hj
  have hlt : i + sh / 64 * i < j + sh / 64 * j := Nat.add_lt_add_of_lt_of_le hij (Nat.mul_le_mul_left _ (Nat.le_of_lt hij))
  have := less_letter (j + sh / 64 * j) (hm j (by omega)) (i + sh / 64 * i) hlt
  have e : ∀ i, (65 + (i + sh / 64 * i) : Nat) = 65 + i + sh / 64 * i := fun i => by omega
  rw [e, e] at this
  exact this
theorem mk1 {w : World} {b : Nat} {l : List Value} {T : TypeId} {zs : List Int} (h : Blk w b l T) (hl : l = zs.map (Value.int .u8)) (hz : zs.length ≤ 1000) : InS .u8 w (.slice (some ⟨b, 0, none⟩) zs.length zs.length) zs := by
 refine ⟨by omega, .inr ⟨⟨b, 0, none⟩, _, rfl, fun i z hi => ?_⟩⟩
 rw [add_addr]
 refine h.cell ?_
 rw [hl, List.getElem?_map, Nat.zero_add, hi]
 rfl
theorem ListR.bound {α : Type} {m : Nat} {ok : Addr → Prop} {R : Elem α} {w : World} {v : Value} {l : List α} (h : ListR m ok R w v l) (hm : 0 < m) : ListR m (fun a => ok a ∧ a.block < w.heap.size) R w v l := by
 have h0 := h
 obtain ⟨k0, ⟨e1, e2⟩ | ⟨a, c, e1, h2, h3⟩⟩ := h
 ·exact ⟨k0, .inl ⟨e1, e2⟩⟩
 ·refine ⟨k0, .inr ⟨a, c, e1, fun hn => ⟨h2 hn, ?_⟩, h3⟩⟩
  obtain ⟨a', c', e3, h4⟩ := h0.lt hm hn
  rw [e1] at e3
  simp only [Value.slice.injEq, Option.some.injEq] at e3
  rw [e3.1]
  exact h4
abbrev midA (lo hi : Nat) : Addr → Prop := fun a => lo ≤ a.block ∧ a.block < hi
abbrev SheetsM (lo hi : Nat) := SheetsQ (midA lo hi) (fun _ => midA lo hi) (fun _ _ => midA lo hi)
theorem SheetsN.mid {lo : Nat} {w : World} {v : Value} {b : BookD} (h : SheetsN lo w v b) : SheetsM lo w.heap.size w v b :=
 ListR.map (ListR.bound h (by omega)) (fun _ h => h) fun _ _ _ _ ⟨rv, e, hn, hr⟩ => ⟨rv, e, hn, ListR.map (ListR.bound hr (by omega)) (fun _ h => h) fun _ _ _ _ ⟨u, e, ht⟩ => ⟨u, e, ListR.map (ListR.bound ht (by omega)) (fun _ h => h) fun _ _ _ _ h => h⟩⟩
theorem SheetsM.off {lo hi X : Nat} {w w' : World} {v : Value} {b : BookD} (h : SheetsM lo hi w v b) (x : Chg [X] w w') (hX : X < lo ∨ hi ≤ X) : SheetsM lo hi w' v b :=
 SheetsQ.chg h x (fun a ha hm => by have ha : lo ≤ a.block ∧ a.block < hi := ha; simp at hm; omega) (fun _ a _ ha hm => by have ha : lo ≤ a.block ∧ a.block < hi := ha; simp at hm; omega) (fun _ _ _ _ a _ _ _ ha hm => by have ha : lo ≤ a.block ∧ a.block < hi := ha; simp at hm; omega)
theorem ex10_set : setRes (bookN [3] 0) [65] 0 0 [55] = ([⟨[65], 1, [[[55]]]⟩], 0) := by
 have h1 : mayBook (bookN [3] 0) = true := bookN_may (by simp) (by omega)
 have h2 : mayC [55] = true := by
  have := may_itoa 7 (by omega) (by omega)
  rwa [show Lib.itoa 7 = [55] by decide +kernel] at this
 rw [setRes_yes (i := 0) (by rw [h1, h2]; rfl) (by decide +kernel) (by decide +kernel)]
 decide +kernel
theorem awake10_ret (w : World) (g : Glob w) : Ret Tryz.prog 11 [] w (fun v w' => v = .bool true ∧ Ext w w') := by
 refine Ret.enter Tryz.func11 rfl Tryz.ntmps11 (by kernel_rfl) rfl ?_
 refine Sa ?_
 refine Lwl fun X w1 hbX hx1 hX => ?_
 replace hX : Blk w1 X [.int .u8 3] 5 := hX
 refine Sa ?_
 refine LW.call0 rfl rfl (Book_ret [3] _ 0 w1 (mk1 (zs := [3]) hX rfl (by simp)) (by simp) (by simp) (by omega)) ?_
 rintro v w2 ⟨u, rfl, hS, hx2⟩
 refine Sa ?_
 refine LW.call0 rfl rfl (Set_book (bookN [3] 0) u [65] 0 0 [55] w2 (g.ext (hx1.trans hx2)) hS (by simp)) ?_
 rintro v w3 ⟨u3, rfl, hS3, hx3⟩
 replace hS3 := SheetsQ.of hS3
 rw [ex10_set] at hS3
 rw [ex10_set]
 obtain ⟨p3, c3, rfl⟩ := ListR.slice hS3
 refine Sa ?_
 refine Lwa fun C w4 hbC hx4 hC => ?_
 refine Sa ?_
 refine Lws fun w5 hc5 hC => ?_
 have hx5 : Ext w3 w5 := hx4.step hc5 (by simp; omega)
 replace hS3 := SheetsQ.ext hS3 hx5
 refine Sa ?_
 refine LW.call0 rfl rfl (Get_book [] (.slice none 0 0) [65] 0 0 w5 ListR.nil) ?_
 rintro v w6 ⟨rfl, hx6⟩
 replace hC : Blk w6 C [.slice p3 1 c3] 26 := hC.ext hx6
 replace hS3 := SheetsQ.ext hS3 hx6
 rw [show getB [] [65] 0 0 = [] from rfl]
 refine Sa ?_
 refine LW.call0 rfl rfl (Num_ret 0 w6) ?_
 rintro v w7 ⟨rfl, hx7⟩
 replace hC := hC.ext hx7
 replace hS3 := SheetsQ.ext hS3 hx7
 refine Sa ?_
 refine LW.call0 rfl rfl (Get_book _ _ [65] 0 0 w7 hS3) ?_
 rintro v w8 ⟨rfl, hx8⟩
 rw [show getB [⟨[65], 1, [[[55]]]⟩] [65] 0 0 = [55] by decide +kernel]
 refine Sa ?_
 exact QW.body1 Tryz.results11 rfl ⟨rfl, (((((hx1.trans hx2).trans hx3).trans hx5).trans hx6).trans hx7).trans hx8⟩
set_option maxRecDepth 8000 in
set_option maxHeartbeats 2000000 in
theorem BookMade_ret (zs : List Int) (nv : Value) (sh ro co se pu : Nat) (w : World) (g : Glob w) (h : InS .u8 w nv zs) (hz : ∀ z ∈ zs, 0 ≤ z ∧ z ≤ 255) (h1 : sh < 256) (h2 : ro < 256) (h3 : co < 256) (h4 : se < 256) (h5 : pu < 256) : Ret Tryz.prog 3 [nv, .int .u8 sh, .int .u8 ro, .int .u8 co, .int .u8 se, .int .u8 pu] w (fun v w' => v = .bool true ∧ Ext w w') := by
 obtain ⟨p, c, rfl⟩ := h.slice
 refine Ret.enter Tryz.func3 rfl Tryz.ntmps3 (by kernel_rfl) rfl ?_
 refine Sa ?_
 refine Cwc (fun a1 => ?_) fun a1 => ?_
 ·refine Sa ?_
  refine LW.call0 rfl rfl (awake10_ret w g) ?_
  rintro v w1 ⟨rfl, hx1⟩
  refine Sa ?_
  exact QW.body1 Tryz.results3 rfl ⟨rfl, hx1⟩
 have a1 : zs.length ≤ 80 := by simp at a1; omega
 refine Sa ?_
 refine LW.call0 rfl rfl (Book_ret zs _ sh w h hz a1 h1) ?_
 rintro v w1 ⟨u, rfl, hQ, hx1⟩
 have hmay := bookN_may hz h1
 obtain ⟨pu', cu', rfl⟩ := ListR.slice hQ
 refine Sa ?_
 refine Lwa fun A w2 hbA hx2 hA => ?_
 refine Sa ?_
 refine Lws fun w3 hc3 hA => ?_
 replace hA : Blk w3 A [.slice pu' (bookN zs sh).length cu'] 26 := hA
 have hx13 : Ext w1 w3 := hx2.step hc3 (by simp; omega)
 have hAl3 := hA.lt
 have hx3 := hx1.trans hx13
 replace hQ := SheetsQ.ext hQ hx13
 refine Sa ?_
 refine Lwl fun N w4 hbN hx4 hN => ?_
 replace hN : Blk w4 N [.int .u8 (65 + (se : Int) % 4)] 5 := hN
 replace hA := hA.ext hx4
 refine Sa ?_
 refine Lwa fun B w5 hbB hx5 hB => ?_
 replace hA := hA.ext hx5
 have hAl := hA.lt
 refine Sa ?_
 refine Lws fun w6 hc6 hB => ?_
 have hx46 : Ext w3 w6 := hx4.trans (hx5.step hc6 (by simp; omega))
 replace hB : Blk w6 B (spotL [ch (65 + (se : Int) % 4)] ((ro : Int) % 7 - 1) ((co : Int) % 6 - 1)) 29 := hB
 have hz4 := hx4.size
 replace hA := hA.chg hc6 (by simp; omega)
 replace hQ := SheetsQ.ext hQ hx46
 replace hx3 := hx3.trans hx46
 refine Sa ?_
 have hplen := cellN_len pu h5
 let nm : List UInt8 := [ch (65 + (se : Int) % 4)]
 let rw' : Int := (ro : Int) % 7 - 1
 let cl : Int := (co : Int) % 6 - 1
 refine CW.cut (ι := Value × Nat) (fun x w' => Ext w6 w' ∧ SheetsR w' x.1 (setRes (bookN zs sh) [ch (65 + (se : Int) % 4)] ((ro : Int) % 7 - 1) ((co : Int) % 6 - 1) (cellN pu)).1 ∧ Blk w' x.2 [x.1] 26) (fun x => [(5, .int .u8 pu), (13, .pointer (some ⟨A, 0, none⟩)), (14, .pointer (some ⟨B, 0, none⟩)), (15, .pointer (some ⟨x.2, 0, none⟩)), (16, .int .i64 (setRes (bookN zs sh) [ch (65 + (se : Int) % 4)] ((ro : Int) % 7 - 1) ((co : Int) % 6 - 1) (cellN pu)).2)]) ?_ ?_
 ·refine CW.drawG (Ext w6) 11 (fun w' h => h) (by kernel_rfl) fun w7 hx7 => ?_
  have hE := hx7
  refine Sg ?_
  refine GW.two 4 9 (by kernel_rfl) rfl rfl rfl rfl rfl rfl (fun hS => ?_) (fun hS => ?_)
  ·refine LW.call0 rfl rfl (text_ret pu h5 _) ?_
   rintro v wt ⟨rfl, hxn⟩
   have hszt := hxn.size
   have hE := hE.trans hxn
   apply LW.nil
   refine QW.headed hE ?_
   refine Sg ?_
   refine GW.two 5 9 (by kernel_rfl) rfl rfl rfl rfl rfl rfl (fun hS => ?_) (fun hS => ?_)
   ·refine LW.call0 rfl rfl (Set_book (bookN zs sh) _ [ch (65 + (se : Int) % 4)] ((ro : Int) % 7 - 1) ((co : Int) % 6 - 1) (cellN pu) _ (g.ext (hx3.trans hE)) (SheetsQ.ext hQ hE) (by omega)) ?_
    rintro v ws ⟨us, rfl, hSs, hxn⟩
    replace hSs := SheetsN.mid hSs
    obtain ⟨ps, cs, rfl⟩ := ListR.slice hSs
    have hsz := hxn.size
    have hE := hE.trans hxn
    apply LW.nil
    refine QW.headed hE ?_
    refine Sg ?_
    refine GW.one 9 (by kernel_rfl) rfl rfl rfl (fun hS => ?_)
    refine Lwa fun X wl hbX hxn hX => ?_
    have hXW : w6.heap.size ≤ X := by rw [hbX]; exact hE.size
    have hXlt := hX.lt
    replace hSs := by first | exact hSs.ext hxn | exact ListR.ext' hSs hxn (fun _ _ _ _ h => h) | exact SheetsQ.ext hSs hxn
    have hE := hE.trans hxn
    apply LW.nil
    refine QW.headed hE ?_
    refine Sg ?_
    refine GW.one 10 (by kernel_rfl) rfl rfl rfl (fun hS => ?_)
    refine Lws fun we hce hX => ?_
    have hE := hE.step hce (by simp; omega)
    have hSs2 := SheetsQ.of (SheetsM.off hSs hce (by first | (left; omega) | (right; omega)))
    apply LW.nil
    refine QW.headed hE ?_
    refine GW.tail rfl (by kernel_rfl) (fun hS => ?_)
    refine Sa ?_
    exact QW.head (_, X) ⟨hE, hSs2, hX⟩ (Sub.cons rfl (Sub.cons rfl (Sub.cons rfl (Sub.cons rfl (Sub.cons rfl (Sub.nil))))))
   ·refine Lwa fun X wl hbX hxn hX => ?_
    have hXW : w6.heap.size ≤ X := by rw [hbX]; exact hE.size
    have hXlt := hX.lt
    have hE := hE.trans hxn
    apply LW.nil
    refine QW.headed hE ?_
    refine Sg ?_
    refine GW.one 5 (by kernel_rfl) rfl rfl rfl (fun hS => ?_)
    refine LW.call0 rfl rfl (Set_book (bookN zs sh) _ [ch (65 + (se : Int) % 4)] ((ro : Int) % 7 - 1) ((co : Int) % 6 - 1) (cellN pu) _ (g.ext (hx3.trans hE)) (SheetsQ.ext hQ hE) (by omega)) ?_
    rintro v ws ⟨us, rfl, hSs, hxn⟩
    replace hSs := SheetsN.mid hSs
    obtain ⟨ps, cs, rfl⟩ := ListR.slice hSs
    have hsz := hxn.size
    replace hX := by first | exact hX.ext hxn | exact ListR.ext' hX hxn (fun _ _ _ _ h => h) | exact SheetsQ.ext hX hxn
    have hE := hE.trans hxn
    apply LW.nil
    refine QW.headed hE ?_
    refine Sg ?_
    refine GW.one 10 (by kernel_rfl) rfl rfl rfl (fun hS => ?_)
    refine Lws fun we hce hX => ?_
    have hE := hE.step hce (by simp; omega)
    have hSs2 := SheetsQ.of (SheetsM.off hSs hce (by first | (left; omega) | (right; omega)))
    apply LW.nil
    refine QW.headed hE ?_
    refine GW.tail rfl (by kernel_rfl) (fun hS => ?_)
    refine Sa ?_
    exact QW.head (_, X) ⟨hE, hSs2, hX⟩ (Sub.cons rfl (Sub.cons rfl (Sub.cons rfl (Sub.cons rfl (Sub.cons rfl (Sub.nil))))))
  ·refine Lwa fun X wl hbX hxn hX => ?_
   have hXW : w6.heap.size ≤ X := by rw [hbX]; exact hE.size
   have hXlt := hX.lt
   have hE := hE.trans hxn
   apply LW.nil
   refine QW.headed hE ?_
   refine Sg ?_
   refine GW.one 4 (by kernel_rfl) rfl rfl rfl (fun hS => ?_)
   refine LW.call0 rfl rfl (text_ret pu h5 _) ?_
   rintro v wt ⟨rfl, hxn⟩
   have hszt := hxn.size
   replace hX := by first | exact hX.ext hxn | exact ListR.ext' hX hxn (fun _ _ _ _ h => h) | exact SheetsQ.ext hX hxn
   have hE := hE.trans hxn
   apply LW.nil
   refine QW.headed hE ?_
   refine Sg ?_
   refine GW.one 5 (by kernel_rfl) rfl rfl rfl (fun hS => ?_)
   refine LW.call0 rfl rfl (Set_book (bookN zs sh) _ [ch (65 + (se : Int) % 4)] ((ro : Int) % 7 - 1) ((co : Int) % 6 - 1) (cellN pu) _ (g.ext (hx3.trans hE)) (SheetsQ.ext hQ hE) (by omega)) ?_
   rintro v ws ⟨us, rfl, hSs, hxn⟩
   replace hSs := SheetsN.mid hSs
   obtain ⟨ps, cs, rfl⟩ := ListR.slice hSs
   have hsz := hxn.size
   replace hX := by first | exact hX.ext hxn | exact ListR.ext' hX hxn (fun _ _ _ _ h => h) | exact SheetsQ.ext hX hxn
   have hE := hE.trans hxn
   apply LW.nil
   refine QW.headed hE ?_
   refine Sg ?_
   refine GW.one 10 (by kernel_rfl) rfl rfl rfl (fun hS => ?_)
   refine Lws fun we hce hX => ?_
   have hE := hE.step hce (by simp; omega)
   have hSs2 := SheetsQ.of (SheetsM.off hSs hce (by first | (left; omega) | (right; omega)))
   apply LW.nil
   refine QW.headed hE ?_
   refine GW.tail rfl (by kernel_rfl) (fun hS => ?_)
   refine Sa ?_
   exact QW.head (_, X) ⟨hE, hSs2, hX⟩ (Sub.cons rfl (Sub.cons rfl (Sub.cons rfl (Sub.cons rfl (Sub.cons rfl (Sub.nil))))))
 rintro ⟨uc, X⟩ w8 ⟨hE, hSc, hX⟩
 dsimp only at hSc hX
 show CW _ _ _ _ _ [(5, .int .u8 pu), (13, .pointer (some ⟨A, 0, none⟩)), (14, .pointer (some ⟨B, 0, none⟩)), (15, .pointer (some ⟨X, 0, none⟩)), (16, .int .i64 (setRes (bookN zs sh) [ch (65 + (se : Int) % 4)] ((ro : Int) % 7 - 1) ((co : Int) % 6 - 1) (cellN pu)).2)] _
 replace hA := hA.ext hE
 replace hB := hB.ext hE
 replace hQ := SheetsQ.ext hQ hE
 replace hx3 := hx3.trans hE
 obtain ⟨pc, cc, rfl⟩ := ListR.slice hSc
 refine CW.seq_cut (ι := Value × Nat) (fun x w' => Ext w8 w' ∧ SheetsR w' x.1 (setRes (bookN zs sh) [ch (65 + (se : Int) % 4)] ((ro : Int) % 7 - 1) ((co : Int) % 6 - 1) (cellN pu)).1 ∧ Blk w' x.2 [x.1] 26) (fun x => [(13, .pointer (some ⟨A, 0, none⟩)), (14, .pointer (some ⟨B, 0, none⟩)), (15, .pointer (some ⟨X, 0, none⟩)), (16, .int .i64 (setRes (bookN zs sh) [ch (65 + (se : Int) % 4)] ((ro : Int) % 7 - 1) ((co : Int) % 6 - 1) (cellN pu)).2), (17, .pointer (some ⟨x.2, 0, none⟩)), (18, .int .i64 (setRes (bookN zs sh) [ch (65 + (se : Int) % 4)] ((ro : Int) % 7 - 1) ((co : Int) % 6 - 1) (cellN pu)).2)]) ?_ ?_
 ·refine CW.drawG (Ext w8) 11 (fun w' h => h) (by kernel_rfl) fun w9 hx9 => ?_
  replace hE := hx9
  refine Sg ?_
  refine GW.two 4 9 (by kernel_rfl) rfl rfl rfl rfl rfl rfl (fun hS => ?_) (fun hS => ?_)
  ·refine LW.call0 rfl rfl (text_ret pu h5 _) ?_
   rintro v wt ⟨rfl, hxn⟩
   have hszt := hxn.size
   have hE := hE.trans hxn
   apply LW.nil
   refine QW.headed hE ?_
   refine Sg ?_
   refine GW.two 5 9 (by kernel_rfl) rfl rfl rfl rfl rfl rfl (fun hS => ?_) (fun hS => ?_)
   ·refine LW.call0 rfl rfl (SetCell_ret (bookN zs sh) _ [ch (65 + (se : Int) % 4)] ((ro : Int) % 7 - 1) ((co : Int) % 6 - 1) (cellN pu) _ (SheetsQ.ext hQ hE) (by omega)) ?_
    rintro v ws ⟨us, rfl, hSs, hxn⟩
    replace hSs := SheetsN.mid hSs
    obtain ⟨ps, cs, rfl⟩ := ListR.slice hSs
    have hsz := hxn.size
    have hE := hE.trans hxn
    apply LW.nil
    refine QW.headed hE ?_
    refine Sg ?_
    refine GW.one 9 (by kernel_rfl) rfl rfl rfl (fun hS => ?_)
    refine Lwa fun Z wl hbZ hxn hZ => ?_
    have hZW : w8.heap.size ≤ Z := by rw [hbZ]; exact hE.size
    have hZlt := hZ.lt
    replace hSs := by first | exact hSs.ext hxn | exact ListR.ext' hSs hxn (fun _ _ _ _ h => h) | exact SheetsQ.ext hSs hxn
    have hE := hE.trans hxn
    apply LW.nil
    refine QW.headed hE ?_
    refine Sg ?_
    refine GW.one 10 (by kernel_rfl) rfl rfl rfl (fun hS => ?_)
    refine Lws fun we hce hZ => ?_
    have hE := hE.step hce (by simp; omega)
    have hSs2 := SheetsQ.of (SheetsM.off hSs hce (by first | (left; omega) | (right; omega)))
    apply LW.nil
    refine QW.headed hE ?_
    refine GW.tail rfl (by kernel_rfl) (fun hS => ?_)
    refine Sa ?_
    exact QW.head (_, Z) ⟨hE, hSs2, hZ⟩ (Sub.cons rfl (Sub.cons rfl (Sub.cons rfl (Sub.cons rfl (Sub.cons rfl (Sub.cons rfl (Sub.nil)))))))
   ·refine Lwa fun Z wl hbZ hxn hZ => ?_
    have hZW : w8.heap.size ≤ Z := by rw [hbZ]; exact hE.size
    have hZlt := hZ.lt
    have hE := hE.trans hxn
    apply LW.nil
    refine QW.headed hE ?_
    refine Sg ?_
    refine GW.one 5 (by kernel_rfl) rfl rfl rfl (fun hS => ?_)
    refine LW.call0 rfl rfl (SetCell_ret (bookN zs sh) _ [ch (65 + (se : Int) % 4)] ((ro : Int) % 7 - 1) ((co : Int) % 6 - 1) (cellN pu) _ (SheetsQ.ext hQ hE) (by omega)) ?_
    rintro v ws ⟨us, rfl, hSs, hxn⟩
    replace hSs := SheetsN.mid hSs
    obtain ⟨ps, cs, rfl⟩ := ListR.slice hSs
    have hsz := hxn.size
    replace hZ := by first | exact hZ.ext hxn | exact ListR.ext' hZ hxn (fun _ _ _ _ h => h) | exact SheetsQ.ext hZ hxn
    have hE := hE.trans hxn
    apply LW.nil
    refine QW.headed hE ?_
    refine Sg ?_
    refine GW.one 10 (by kernel_rfl) rfl rfl rfl (fun hS => ?_)
    refine Lws fun we hce hZ => ?_
    have hE := hE.step hce (by simp; omega)
    have hSs2 := SheetsQ.of (SheetsM.off hSs hce (by first | (left; omega) | (right; omega)))
    apply LW.nil
    refine QW.headed hE ?_
    refine GW.tail rfl (by kernel_rfl) (fun hS => ?_)
    refine Sa ?_
    exact QW.head (_, Z) ⟨hE, hSs2, hZ⟩ (Sub.cons rfl (Sub.cons rfl (Sub.cons rfl (Sub.cons rfl (Sub.cons rfl (Sub.cons rfl (Sub.nil)))))))
  ·refine Lwa fun Z wl hbZ hxn hZ => ?_
   have hZW : w8.heap.size ≤ Z := by rw [hbZ]; exact hE.size
   have hZlt := hZ.lt
   have hE := hE.trans hxn
   apply LW.nil
   refine QW.headed hE ?_
   refine Sg ?_
   refine GW.one 4 (by kernel_rfl) rfl rfl rfl (fun hS => ?_)
   refine LW.call0 rfl rfl (text_ret pu h5 _) ?_
   rintro v wt ⟨rfl, hxn⟩
   have hszt := hxn.size
   replace hZ := by first | exact hZ.ext hxn | exact ListR.ext' hZ hxn (fun _ _ _ _ h => h) | exact SheetsQ.ext hZ hxn
   have hE := hE.trans hxn
   apply LW.nil
   refine QW.headed hE ?_
   refine Sg ?_
   refine GW.one 5 (by kernel_rfl) rfl rfl rfl (fun hS => ?_)
   refine LW.call0 rfl rfl (SetCell_ret (bookN zs sh) _ [ch (65 + (se : Int) % 4)] ((ro : Int) % 7 - 1) ((co : Int) % 6 - 1) (cellN pu) _ (SheetsQ.ext hQ hE) (by omega)) ?_
   rintro v ws ⟨us, rfl, hSs, hxn⟩
   replace hSs := SheetsN.mid hSs
   obtain ⟨ps, cs, rfl⟩ := ListR.slice hSs
   have hsz := hxn.size
   replace hZ := by first | exact hZ.ext hxn | exact ListR.ext' hZ hxn (fun _ _ _ _ h => h) | exact SheetsQ.ext hZ hxn
   have hE := hE.trans hxn
   apply LW.nil
   refine QW.headed hE ?_
   refine Sg ?_
   refine GW.one 10 (by kernel_rfl) rfl rfl rfl (fun hS => ?_)
   refine Lws fun we hce hZ => ?_
   have hE := hE.step hce (by simp; omega)
   have hSs2 := SheetsQ.of (SheetsM.off hSs hce (by first | (left; omega) | (right; omega)))
   apply LW.nil
   refine QW.headed hE ?_
   refine GW.tail rfl (by kernel_rfl) (fun hS => ?_)
   refine Sa ?_
   exact QW.head (_, Z) ⟨hE, hSs2, hZ⟩ (Sub.cons rfl (Sub.cons rfl (Sub.cons rfl (Sub.cons rfl (Sub.cons rfl (Sub.cons rfl (Sub.nil)))))))
 rintro ⟨ud, Z⟩ w10 ⟨hE2, hSd, hZ⟩
 dsimp only at hSd hZ
 show CW _ _ _ _ _ [(13, .pointer (some ⟨A, 0, none⟩)), (14, .pointer (some ⟨B, 0, none⟩)), (15, .pointer (some ⟨X, 0, none⟩)), (16, .int .i64 (setRes (bookN zs sh) [ch (65 + (se : Int) % 4)] ((ro : Int) % 7 - 1) ((co : Int) % 6 - 1) (cellN pu)).2), (17, .pointer (some ⟨Z, 0, none⟩)), (18, .int .i64 (setRes (bookN zs sh) [ch (65 + (se : Int) % 4)] ((ro : Int) % 7 - 1) ((co : Int) % 6 - 1) (cellN pu)).2)] _
 replace hA := hA.ext hE2
 replace hB := hB.ext hE2
 replace hX := hX.ext hE2
 replace hQ := SheetsQ.ext hQ hE2
 replace hSc := SheetsQ.ext hSc hE2
 replace hx3 := hx3.trans hE2
 obtain ⟨pd, cd, rfl⟩ := ListR.slice hSd
 have eS : SheetsR w10 (.slice pd _ cd) _ := hSd
 refine Sa ?_
 refine CW.draw (by kernel_rfl) (by kernel_rfl) ?_
 refine Sqw ?_
 refine QL.call0 rfl rfl (fun wv hv => May_book (bookN zs sh) _ wv (g.ext (hx3.trans hv)) (SheetsQ.ext hQ hv)) ?_
 rw [hmay]
 refine Sqw ?_
 refine QL.call0 rfl rfl (fun wv hv => Get_book (bookN zs sh) _ [ch (65 + (se : Int) % 4)] ((ro : Int) % 7 - 1) ((co : Int) % 6 - 1) wv (SheetsQ.ext hQ hv)) ?_
 refine Sqw ?_
 refine QL.call0 rfl rfl (fun wv hv => GetCell_ret (bookN zs sh) _ [ch (65 + (se : Int) % 4)] ((ro : Int) % 7 - 1) ((co : Int) % 6 - 1) wv (SheetsQ.ext hQ hv)) ?_
 refine Sqw ?_
 refine QL.know (t := 69) (c := true) rfl (by simp) ?_
 refine Sqw ?_
 refine QL.call0 rfl rfl (fun wv hv => SameBook_ret _ _ _ _ wv (SheetsQ.ext hSc hv) (SheetsQ.ext hSd hv)) ?_
 refine Sqw ?_
 refine QL.know (t := 74) (c := true) rfl (by simp) ?_
 refine Sqw ?_
 refine QL.call0 rfl rfl (fun wv hv => Num_ret _ wv) ?_
 refine Sqw ?_
 refine QL.know (t := 80) (c := true) rfl (by simp) ?_
 refine Sqw ?_
 refine QL.call0 rfl rfl (fun wv hv => awake10_ret wv (g.ext (hx3.trans hv))) ?_
 refine Sqw ?_
 refine QL.nil fun wv hv => ?_
 refine Sa ?_
 exact QW.body1 Tryz.results3 rfl ⟨rfl, hx3.trans hv⟩
end Go.Proofs.YtiaigmahdjhcoaaGreatDoor
