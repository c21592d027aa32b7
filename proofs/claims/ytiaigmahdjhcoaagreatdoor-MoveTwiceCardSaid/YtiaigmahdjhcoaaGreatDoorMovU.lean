/-
 Plain: by one shift, then by another, is by both.
-/
import Derived.Test.YtiaigmahdjhcoaaGreatDoorPkJ
namespace Go.Proofs.YtiaigmahdjhcoaaGreatDoor
open Go Go.E

theorem small_digits : ∀ n : Fin 999, 1 ≤ (Lib.itoa ((n.val : Int) + 1)).length ∧ (Lib.itoa ((n.val : Int) + 2)).length ≤ 2 * (Lib.itoa ((n.val : Int) + 1)).length := by decide +kernel
theorem row_len {r z : Int} (h0 : 0 ≤ r) (h1 : r ≤ 998) (hz : z = r ∨ z = r + 1) : (Lib.itoa (z + 1)).length ≤ 2 * (Lib.itoa (r + 1)).length := by
 obtain ⟨k, rfl⟩ := Int.eq_ofNat_of_zero_le h0
 have hs := small_digits ⟨k, by omega⟩
 simp only at hs
 rcases hz with rfl | rfl
 ·omega
 ·rw [show (k : Int) + 1 + 1 = (k : Int) + 2 by omega]; exact hs.2
theorem colT_pos {c : Int} (h0 : 0 ≤ c) (h1 : c ≤ 701) : 1 ≤ (colT c).length := by
 unfold colT
 rw [if_neg (by omega)]
 split <;> simp
/-- A reference, its row gone somewhere. -/
def shR (r : RefD) (f : Int → Int) : RefD := ⟨r.sheet, r.col, f r.row, r.ac, r.ar⟩
def shN (n : NodeD) (f : Int → Int) : NodeD := ⟨n.kind, n.num, n.text, shR n.ref f, if n.kind = 6 then shR n.to f else n.to, n.kids⟩
theorem shN_to6 {n : NodeD} {f : Int → Int} (h : n.kind = 6) : (shN n f).to = shR n.to f := if_pos h
theorem shN_last {n : NodeD} {f : Int → Int} (h : n.kind = 5 ∨ n.kind = 6) : (lastN (shN n f)) = shR (lastN n) f := by
 rcases h with h | h
 ·rw [lastN, if_pos (show (shN n f).kind = 5 from h), lastN, if_pos h]
  rfl
 ·rw [lastN, if_neg (show ¬ (shN n f).kind = 5 by show ¬ n.kind = 5; omega), lastN, if_neg (by omega), shN_to6 h]
theorem shN_shN (n : NodeD) (f g : Int → Int) : shN (shN n f) g = shN n (fun z => g (f z)) := by
 unfold shN
 by_cases h : n.kind = 6
 ·simp [h, shR]
 ·simp [h, shR]
theorem shN_congr {n : NodeD} {f g : Int → Int} (h1 : f n.ref.row = g n.ref.row) (h2 : n.kind = 6 → f n.to.row = g n.to.row) : shN n f = shN n g := by
 unfold shN
 by_cases h : n.kind = 6
 ·simp only [h, if_true, shR, h1, h2 h]
 ·simp only [h, if_false, shR, h1]
theorem textB_row {r : RefD} (h : mayB r = true) {f : Int → Int} (hz : f r.row = r.row ∨ f r.row = r.row + 1) : (textB (shR r f)).length ≤ 2 * (textB r).length := by
 obtain ⟨b1, b2, b3, b4, _⟩ := mayB_parts h
 have := row_len b3 b4 hz
 unfold textB shR
 simp only [List.length_append]
 omega
theorem textB_low {r : RefD} (h : mayB r = true) (hr : 998 ≤ r.row) : 4 ≤ (textB r).length := by
 obtain ⟨b1, b2, b3, b4, _⟩ := mayB_parts h
 have e : r.row + 1 = 999 := by omega
 have h3 : (Lib.itoa 999).length = 3 := by decide +kernel
 have := colT_pos b1 b2
 unfold textB
 rw [e]
 simp only [List.length_append]
 omega
theorem leaf_ref {n : NodeD} (h : n.kind = 5) : W (leafK n) = (textB n.ref).length := by
 unfold leafK
 rw [if_neg (by omega), if_neg (by omega), if_neg (by omega), if_neg (by omega), if_pos h, W_cons, W_nil]
 rfl
theorem leaf_range {n : NodeD} (h : n.kind = 6) : W (leafK n) = (textB n.ref).length + 1 + (textB n.to).length := by
 unfold leafK
 rw [if_neg (by omega), if_neg (by omega), if_neg (by omega), if_neg (by omega), if_neg (by omega), W_cons, W_cons, W_cons, W_nil, W_sg]
 show (textB n.ref).length + ([58].length + ((textB n.to).length + 0)) = _
 simp only [List.length_singleton]
 omega
theorem leaf_dead : W (leafK deadN) = 5 := by decide
def wayS (m : MapD) : ShD := ⟨[65], m, sameM 5, false⟩
def oneS (k a : Nat) : ShD := wayS (insM k a)
def bothS (k a b : Nat) : ShD := wayS (thenM (insM k a) (insM (k + 1) b))
theorem ins_keep {k a : Nat} (hk : k ≤ 1000) : Keep (insM k a) := ⟨ins_may (by omega), ins_all⟩
theorem same_keep {k : Nat} (hk : k ≤ 1000) : Keep (sameM k) := ⟨same_may (by omega), same_all⟩
theorem then_keep {k a b : Nat} (hk : k ≤ 1000) (hb : b ≤ k + 1) : Keep (thenM (insM k a) (insM (k + 1) b)) := ⟨then_may (by omega) hb, then_all hb⟩
theorem ins_int {k a : Nat} (ha : a ≤ k) {r : Int} (h0 : 0 ≤ r) : imgM (insM k a) r = r ∨ imgM (insM k a) r = r + 1 := by
 obtain ⟨i, rfl⟩ := Int.eq_ofNat_of_zero_le h0
 rw [ins_img ha]
 unfold insF
 split
 ·exact .inl rfl
 ·exact .inr rfl
theorem same_int {k : Nat} {r : Int} (h0 : 0 ≤ r) : imgM (sameM k) r = r := by
 obtain ⟨i, rfl⟩ := Int.eq_ofNat_of_zero_le h0
 exact same_img
theorem then_int {k a b : Nat} (ha : a ≤ k) (hb : b ≤ k + 1) {r : Int} (h0 : 0 ≤ r) : imgM (thenM (insM k a) (insM (k + 1) b)) r = imgM (insM (k + 1) b) (imgM (insM k a) r) := by
 obtain ⟨i, rfl⟩ := Int.eq_ofNat_of_zero_le h0
 exact then_img ha hb i
theorem findS_one (s : ShD) (x : List UInt8) : findS [s] x = if s.sheet = x then some s else none := by
 unfold findS
 rw [List.find?_cons]
 by_cases h : s.sheet = x
 ·simp [h]
 ·simp [h]
/-- What a node's places are. -/
theorem node_at {n : NodeD} (hp : plainB n = true) (h : n.kind = 5 ∨ n.kind = 6) : 0 ≤ n.ref.col ∧ 0 ≤ n.ref.row ∧ 0 ≤ (lastN n).col ∧ (lastN n).col ≤ 701 ∧ 0 ≤ (lastN n).row ∧ (lastN n).row ≤ 998 ∧ (n.kind = 6 → lastN n = n.to) := by
 rcases h with h | h
 ·obtain ⟨h1, _⟩ := ref_plain hp h
  obtain ⟨b1, b2, b3, b4, _⟩ := mayB_parts h1
  rw [lastN, if_pos h]
  exact ⟨b1, b3, b1, b2, b3, b4, fun h6 => by omega⟩
 ·obtain ⟨h1, h2, _⟩ := range_plain hp h
  obtain ⟨b1, b2, b3, b4, _⟩ := mayB_parts h1
  obtain ⟨d1, d2, d3, d4, _⟩ := mayB_parts h2
  rw [lastN, if_neg (by omega)]
  exact ⟨b1, b3, d1, d2, d3, d4, fun _ => rfl⟩
/-- Where a reference, a range, goes. -/
theorem go_way {m : MapD} (hm : Keep m) {n : NodeD} (hp : plainB n = true) (h : n.kind = 5 ∨ n.kind = 6) :
  goN (wayS m) n = if 998 < imgM m (lastN n).row then deadN else shN n (imgM m) := by
 rw [goN_keep (s := wayS m) hm (same_keep (by omega)) rfl hp h]
 obtain ⟨c1, _, c2, c3, _, _, c4⟩ := node_at hp h
 have e2 : imgM (sameM 5) (lastN n).col = (lastN n).col := same_int c2
 have e1 : imgM (sameM 5) n.ref.col = n.ref.col := same_int c1
 show (if 998 < imgM m (lastN n).row ∨ 701 < imgM (sameM 5) (lastN n).col then deadN else (⟨n.kind, n.num, n.text, ⟨n.ref.sheet, imgM (sameM 5) n.ref.col, imgM m n.ref.row, n.ref.ac, n.ref.ar⟩, if n.kind = 6 then ⟨n.to.sheet, imgM (sameM 5) n.to.col, imgM m n.to.row, n.to.ac, n.to.ar⟩ else n.to, n.kids⟩ : NodeD)) = _
 rw [e1, e2]
 by_cases h9 : 998 < imgM m (lastN n).row
 ·rw [if_pos h9, if_pos (.inl h9)]
 ·rw [if_neg h9, if_neg (by omega)]
  unfold shN
  by_cases h6 : n.kind = 6
  ·have e3 : imgM (sameM 5) n.to.col = n.to.col := same_int (by rw [← c4 h6]; exact c2)
   rw [if_pos h6, if_pos h6, e3]
   rfl
  ·rw [if_neg h6, if_neg h6]
   rfl
/-- A leaf's text is at most twice as long. -/
theorem one_W {k a : Nat} (hk : k ≤ 1000) (ha : a ≤ k) {n : NodeD} (hp : plainB n = true) : W (leafK (moveBy goN [65] [oneS k a] n)) ≤ 2 * W (leafK n) := by
 by_cases h : n.kind = 5 ∨ n.kind = 6
 ·rw [is56 h, findS_one]
  by_cases hs : (oneS k a).sheet = ownN [65] n
  ·rw [if_pos hs]
   show W (leafK (goN (wayS (insM k a)) n)) ≤ _
   rw [go_way (ins_keep hk) hp h]
   rcases h with h | h
   ·obtain ⟨h1, _⟩ := ref_plain hp h
    obtain ⟨b1, b2, b3, b4, _⟩ := mayB_parts h1
    have hi := ins_int (k := k) ha b3
    have hl : lastN n = n.ref := by rw [lastN, if_pos h]
    rw [hl, leaf_ref h]
    by_cases h9 : 998 < imgM (insM k a) n.ref.row
    ·rw [if_pos h9, leaf_dead]
     have := textB_low h1 (by omega)
     omega
    ·rw [if_neg h9, leaf_ref (n := shN n _) h]
     exact textB_row h1 hi
   ·obtain ⟨h1, h2, _⟩ := range_plain hp h
    obtain ⟨b1, b2, b3, b4, _⟩ := mayB_parts h1
    obtain ⟨d1, d2, d3, d4, _⟩ := mayB_parts h2
    have hi := ins_int (k := k) ha b3
    have hj := ins_int (k := k) ha d3
    have hl : lastN n = n.to := by rw [lastN, if_neg (by omega)]
    rw [hl, leaf_range h]
    by_cases h9 : 998 < imgM (insM k a) n.to.row
    ·rw [if_pos h9, leaf_dead]
     have := textB_low h2 (by omega)
     omega
    ·rw [if_neg h9, leaf_range (n := shN n _) h, shN_to6 h]
     have e1 := textB_row h1 hi
     have e2 := textB_row h2 hj
     show (textB (shR n.ref (imgM (insM k a)))).length + 1 + _ ≤ _
     omega
  ·rw [if_neg hs]
   show W (leafK n) ≤ _
   omega
 ·rw [not56 (by omega) (by omega)]
  omega
/-- A node by one, then by the other, is by both. -/
theorem node_twice {k a b : Nat} (hk : k ≤ 1000) (ha : a ≤ k) (hb : b ≤ k + 1) {n : NodeD} (hp : plainB n = true) : moveBy goN [65] [wayS (insM (k + 1) b)] (moveBy goN [65] [oneS k a] n) = moveBy goN [65] [bothS k a b] n := by
 have hkb : Keep (insM (k + 1) b) := ⟨ins_may (by omega), ins_all⟩
 by_cases h : n.kind = 5 ∨ n.kind = 6
 ·by_cases hs : [65] = ownN [65] n
  ·have e1 : moveBy goN [65] [oneS k a] n = goN (wayS (insM k a)) n := by
    rw [is56 h, findS_one, if_pos (show (oneS k a).sheet = ownN [65] n from hs)]
    rfl
   have e2 : moveBy goN [65] [bothS k a b] n = goN (wayS (thenM (insM k a) (insM (k + 1) b))) n := by
    rw [is56 h, findS_one, if_pos (show (bothS k a b).sheet = ownN [65] n from hs)]
    rfl
   have hM : (wayS (insM k a)).May := ⟨ins_may (by omega), same_may (by omega)⟩
   obtain ⟨hp1, _⟩ := goN_ok hM hp h
   obtain ⟨_, c1, _, _, c2, _, c3⟩ := node_at hp h
   rw [e1, e2, go_way (then_keep hk hb) hp h, then_int ha hb c2]
   rw [go_way (ins_keep hk) hp h] at hp1 ⊢
   have hi := ins_int (k := k) ha c2
   have hj := ins_int (k := k + 1) (a := b) hb (show 0 ≤ imgM (insM k a) (lastN n).row by omega)
   by_cases h9 : 998 < imgM (insM k a) (lastN n).row
   ·rw [if_pos h9, not56 (by decide) (by decide), if_pos (by omega)]
   ·rw [if_neg h9] at hp1 ⊢
    rw [is56 (n := shN n _) h, findS_one, if_pos (show (wayS (insM (k + 1) b)).sheet = ownN [65] (shN n (imgM (insM k a))) from hs)]
    show goN (wayS (insM (k + 1) b)) (shN n (imgM (insM k a))) = _
    rw [go_way hkb hp1 h, shN_last h, shN_shN]
    have e : shN n (fun z => imgM (insM (k + 1) b) (imgM (insM k a) z)) = shN n (imgM (thenM (insM k a) (insM (k + 1) b))) := shN_congr (then_int ha hb c1).symm (fun h6 => (then_int ha hb (by rw [← c3 h6]; exact c2)).symm)
    rw [e]
    rfl
  ·rw [is56 (ss := [oneS k a]) h, findS_one, if_neg (show ¬ (oneS k a).sheet = ownN [65] n from hs), is56 (ss := [bothS k a b]) h, findS_one, if_neg (show ¬ (bothS k a b).sheet = ownN [65] n from hs)]
   show moveBy goN [65] [wayS (insM (k + 1) b)] n = n
   rw [is56 h, findS_one, if_neg (show ¬ (wayS (insM (k + 1) b)).sheet = ownN [65] n from hs)]
 ·rw [not56 (n := n) (by omega) (by omega), not56 (by omega) (by omega), not56 (by omega) (by omega)]
theorem one_may {k a : Nat} (hk : k ≤ 1000) : ∀ s ∈ [oneS k a], s.May := fun s hs => by
 simp only [List.mem_singleton] at hs
 subst hs
 exact ⟨ins_may (by omega), same_may (by omega)⟩
theorem both_may {k a b : Nat} (hk : k ≤ 1000) (hb : b ≤ k + 1) : ∀ s ∈ [bothS k a b], s.May := fun s hs => by
 simp only [List.mem_singleton] at hs
 subst hs
 exact ⟨then_may (by omega) hb, same_may (by omega)⟩
/-- A text by one, then by the other, is by both. -/
theorem text_twice {k a b : Nat} (hk : k ≤ 1000) (ha : a ≤ k) (hb : b ≤ k + 1) {t : List UInt8} (hm : mayC t = true) (hl : t.length ≤ 150) (h0 : t ≠ []) (h61 : byte t 0 = 61) :
  moveTx [65] [wayS (insM (k + 1) b)] (moveTx [65] [oneS k a] t) = moveTx [65] [bothS k a b] t ∧ (moveTx [65] [oneS k a] t).length ≤ 300 := by
 cases hp : parseT (t.drop 1) with
 | error e =>
  have hs : ∀ ss, moveTx [65] ss t = t := fun ss => by rw [moveTx, if_pos ⟨h0, h61, hm⟩, hp]
  rw [hs, hs, hs]
  exact ⟨rfl, by omega⟩
 | ok l =>
  obtain ⟨hpr, _⟩ := form_print h61 h0 hm hp
  obtain ⟨_, tr, hf, hn, rfl, hneed, _⟩ := parseT_ok hp
  obtain ⟨e, hf'⟩ := moved_tree (own := [65]) (one_may (k := k) (a := a) (by omega)) hf
  have hlf := moveBy_lf (own := [65]) (one_may (k := k) (a := a) (by omega))
  have hn' := mv_num hlf tr hf hn
  have hW := mv_len tr hf (fun n hn _ => one_W hk ha (fit_plain tr 0 hf n hn))
  have htx : (tr.text).length + 1 ≤ 150 := by
   rw [printT_of hf] at hpr
   rw [← hpr] at hl
   simpa using hl
  have hWl : (tr.mv (moveBy goN [65] [oneS k a])).text.length ≤ 2 * tr.text.length := hW
  have e1 : moveTx [65] [oneS k a] t = 61 :: (tr.mv (moveBy goN [65] [oneS k a])).text := by
   rw [moveTx_form h61 h0 hm hp, e, printT_of hf', if_neg (by omega)]
  have hp' : parseT (tr.mv (moveBy goN [65] [oneS k a])).text = .ok ((tr.mv (moveBy goN [65] [oneS k a])).flat 0) := by
   rw [parseT_text _ hf' hn', if_neg (by omega), mv_need, if_pos hneed]
  have hm' : mayC (61 :: (tr.mv (moveBy goN [65] [oneS k a])).text) = true := by
   rw [mayC, if_neg (by simp only [List.length_cons]; omega), if_neg (by rintro (h | h); cases h; cases h), if_pos (show byte (61 :: (tr.mv (moveBy goN [65] [oneS k a])).text) 0 = 61 from rfl)]
   show (match parseT (tr.mv (moveBy goN [65] [oneS k a])).text with | .error _ => false | .ok l => decide (printT l = (tr.mv (moveBy goN [65] [oneS k a])).text)) = true
   rw [hp']
   simp only
   rw [printT_of hf']
   simp
  have el : moveL goN [65] [wayS (insM (k + 1) b)] ((tr.mv (moveBy goN [65] [oneS k a])).flat 0) = moveL goN [65] [bothS k a b] (tr.flat 0) := by
   rw [moveL, if_pos (Tr.tree _ hf'), moveL, if_pos (Tr.tree _ hf), mv_flat hlf tr 0 hf, List.map_map]
   exact List.map_congr_left fun n hn => node_twice hk ha hb (fit_plain tr 0 hf n hn)
  rw [e1, moveTx_form rfl (by simp) hm' hp', moveTx_form h61 h0 hm hp, el]
  exact ⟨rfl, by simp only [List.length_cons]; omega⟩
end Go.Proofs.YtiaigmahdjhcoaaGreatDoor
