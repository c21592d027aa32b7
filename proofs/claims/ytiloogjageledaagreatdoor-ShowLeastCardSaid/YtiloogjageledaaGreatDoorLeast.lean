/-
  Plain: a formula's text has its brackets in pairs.
-/
import Derived.Test.YtiloogjageledaaGreatDoorMade
namespace Go.Proofs.YtiloogjageledaaGreatDoor
open Go Go.E

def dpt (s : List UInt8) : Int := s.foldl (fun d c => if c = 40 then d + 1 else if c = 41 then d - 1 else d) 0
theorem dpt_from (s : List UInt8) : ∀ d : Int, s.foldl (fun d c => if c = 40 then d + 1 else if c = 41 then d - 1 else d) d = d + dpt s := by
  induction s with
  | nil => intro d; simp [dpt]
  | cons c s ih =>
    intro d
    unfold dpt
    simp only [List.foldl_cons]
    rw [ih, ih (if c = 40 then 0 + 1 else if c = 41 then 0 - 1 else 0)]
    split
    · omega
    · split <;> omega
theorem dpt_app (a b : List UInt8) : dpt (a ++ b) = dpt a + dpt b := by
  unfold dpt
  rw [List.foldl_append, dpt_from]
  rfl
/-- In pairs. -/
def Bal (s : List UInt8) : Prop := dpt s = 0 ∧ ∀ i, 0 ≤ dpt (s.take i)
theorem Bal.nil : Bal [] := ⟨rfl, fun i => by simp [dpt]⟩
theorem Bal.app {a b : List UInt8} (ha : Bal a) (hb : Bal b) : Bal (a ++ b) := by
  refine ⟨by rw [dpt_app, ha.1, hb.1]; rfl, fun i => ?_⟩
  rw [List.take_append, dpt_app]
  have h1 := ha.2 i
  have h2 := hb.2 (i - a.length)
  by_cases h : i ≤ a.length
  · rw [show i - a.length = 0 by omega]; simp [dpt] at h1 ⊢; exact h1
  · omega
theorem dpt_no {s : List UInt8} (h : noP s = true) : dpt s = 0 := by
  induction s with
  | nil => rfl
  | cons c s ih =>
    simp only [noP, List.all_cons, Bool.and_eq_true, decide_eq_true_eq] at h
    rw [show c :: s = [c] ++ s from rfl, dpt_app, ih h.2]
    simp [dpt, h.1.1, h.1.2]
theorem Bal.no {s : List UInt8} (h : noP s = true) : Bal s := by
  refine ⟨dpt_no h, fun i => ?_⟩
  rw [dpt_no]
  · omega
  · simp only [noP, List.all_eq_true] at h ⊢
    exact fun c hc => h c (List.mem_of_mem_take hc)
theorem Bal.brk {s : List UInt8} (h : Bal s) : Bal ([40] ++ s ++ [41]) := by
  have h40 : dpt [40] = 1 := rfl
  have h41 : dpt [41] = -1 := rfl
  refine ⟨by rw [dpt_app, dpt_app, h40, h41, h.1]; rfl, fun i => ?_⟩
  cases i with
  | zero => simp [dpt]
  | succ i =>
    have e : ([40] ++ s ++ [41]).take (i + 1) = [40] ++ (s ++ [41]).take i := by simp
    rw [e, dpt_app, h40, List.take_append, dpt_app]
    have h1 := h.2 i
    have h2 : -1 ≤ dpt (([41] : List UInt8).take (i - s.length)) := by
      cases (i - s.length) with
      | zero => simp [dpt]
      | succ j => simp [dpt]
    omega
theorem wi_no {s : List UInt8} (h : ∀ c ∈ s, wiB (c.toNat : Int) = true) : noP s = true := by
  simp only [noP, List.all_eq_true, Bool.and_eq_true, decide_eq_true_eq]
  intro c hc
  have := h c hc
  refine ⟨?_, ?_⟩ <;>
  · rintro rfl
    exact absurd this (by decide)
theorem quote_no {s : List UInt8} (h : noP s = true) : noP (quoteT s) = true := by
  simp only [noP, List.all_eq_true, Bool.and_eq_true, decide_eq_true_eq] at h ⊢
  intro c hc
  rw [quoteT_esc] at hc
  simp only [List.cons_append, List.mem_cons, List.mem_append, List.mem_flatMap, List.not_mem_nil, or_false] at hc
  rcases hc with rfl | ⟨d, hd, hc⟩ | rfl
  · decide
  · unfold escC at hc
    split at hc
    · simp at hc; subst hc; decide
    · simp at hc; subst hc; exact h _ hd
  · decide
theorem sign_no : ∀ s ∈ opSigns, noP s = true := by decide
theorem signK_no {k : Int} (h0 : 9 ≤ k) (h1 : k ≤ 19) : noP (signK k) = true := by
  have : ∀ o, o < 11 → noP (opSigns.getD o []) = true := by decide
  exact this _ (by omega)
theorem textT_no {r : RefD} (h : mayB r = true) : noP (textT r) = true := by
  rw [textT, if_pos h]
  exact wi_no (ref_head h).1
theorem digits_no {z : Int} (h0 : 0 ≤ z) : noP (Lib.itoa z) = true := by
  rw [itoa_nat h0]
  simp only [noP, List.all_eq_true, Bool.and_eq_true, decide_eq_true_eq]
  intro c hc
  have := (dec_facts z.toNat z.toNat (Nat.le_refl _)).1 c hc
  simp only [digB, Bool.and_eq_true, decide_eq_true_eq] at this
  refine ⟨?_, ?_⟩ <;> rintro rfl <;> simp at this
theorem Bal.opd {s : List UInt8} (h : Bal s) (b : Bool) : Bal (brkT b s) := by
  unfold brkT
  split
  · exact h.brk
  · exact h
theorem noP_app {a b : List UInt8} (ha : noP a = true) (hb : noP b = true) : noP (a ++ b) = true := by
  unfold noP at *
  rw [List.all_append, ha, hb]
  rfl
theorem Tr.bal : ∀ {b : Bool} (t : Tr b) (o : Nat), t.Fit → (∀ n ∈ t.flat o, noP n.text = true) → Bal t.text
  | _, .leaf n, o, hf, hs => by
    have hx := hs n (by simp [Tr.flat])
    obtain ⟨h0, h1, hk, hp⟩ := hf
    have ho := plain_parts hp
    rw [leaf_text hp h0 h1]
    refine Bal.no ?_
    have : n.kind = 1 ∨ n.kind = 2 ∨ n.kind = 3 ∨ n.kind = 4 ∨ n.kind = 5 ∨ n.kind = 6 := by omega
    rcases this with h | h | h | h | h | h <;> simp only [okK, h, if_true, if_false, Int.reduceEq, Bool.and_eq_true, decide_eq_true_eq] at ho ⊢
    · exact digits_no ho
    · exact quote_no hx
    · split <;> decide
    · decide
    · exact textT_no ho
    · exact noP_app (noP_app (textT_no ho.1) (by decide)) (textT_no ho.2.1)
  | _, .neg a, o, hf, hs => by
    have ha := bal a o hf (fun n hm => hs n (by simp only [Tr.flat]; simp [hm]))
    rw [neg_text]
    exact (Bal.no (by decide)).app (ha.opd _)
  | _, .two k a b, o, hf, hs => by
    have ha := bal a o hf.2.2.1 (fun n hm => hs n (by simp only [Tr.flat]; simp [hm]))
    have hb := bal b (o + a.cnt) hf.2.2.2 (fun n hm => hs n (by simp only [Tr.flat]; simp [hm]))
    rw [two_text]
    exact ((ha.opd _).app (Bal.no (signK_no hf.1 hf.2.1))).app (hb.opd _)
  | _, .call x .nil, o, hf, hs => by
    have hx : noP x = true := hs { kind := 7, text := x, kids := Tr.nil.kids o } (by simp [Tr.flat])
    rw [call_text x o]
    simp only [Tr.row, rowS, List.append_assoc]
    exact (Bal.no hx).app Bal.nil.brk
  | _, .call x (.snoc rs a), o, hf, hs => by
    have hx : noP x = true := hs { kind := 7, text := x, kids := (Tr.snoc rs a).kids o } (by simp [Tr.flat])
    have hr := bal rs o hf.2.1 (fun n hm => hs n (by simp only [Tr.flat]; simp [hm]))
    have ha := bal a (o + rs.cnt) hf.2.2 (fun n hm => hs n (by simp only [Tr.flat]; simp [hm]))
    rw [call_snoc]
    have := (Bal.no hx).app (hr.app ha).brk
    simpa [List.append_assoc] using this
  | _, .nil, o, _, _ => Bal.nil
  | _, .snoc rs a, o, hf, hs => by
    have hr := bal rs o hf.1 (fun n hm => hs n (by simp only [Tr.flat]; simp [hm]))
    have ha := bal a (o + rs.cnt) hf.2 (fun n hm => hs n (by simp only [Tr.flat]; simp [hm]))
    rw [snoc_text]
    exact hr.app (ha.app (Bal.no (by decide)))
theorem dpt_step {s : List UInt8} {i k : Nat} (hik : i ≤ k) (hk : k < s.length) : dpt (cut s i (k + 1)) = dpt (cut s i k) + (if s[k] = 40 then 1 else if s[k] = 41 then -1 else 0) := by
  have e : cut s i (k + 1) = cut s i k ++ [s[k]] := by
    unfold cut
    have h1 : k - i < (s.drop i).length := by simp; omega
    rw [show k + 1 - i = (k - i) + 1 by omega, take_snoc' h1]
    simp only [List.getElem_drop, show i + (k - i) = k by omega]
  rw [e, dpt_app]
  congr 1
theorem bal_end {s : List UInt8} (h : Bal s) (i : Nat) : dpt (s.drop i) ≤ 0 := by
  have h1 := h.2 i
  have h2 := h.1
  rw [← List.take_append_drop i s, dpt_app] at h2
  omega
end Go.Proofs.YtiloogjageledaaGreatDoor
