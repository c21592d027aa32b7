/-
  Joined by program out of the texts ObjW Obj1 Obj2 Obj3 Obj4 Obj5 Obj6 Obj7 Obj8 Obj9 ObjA ObjB ObjC.
-/
import Derived.Test.YtgdohpcnpgjpaaaGreatDoorPkL
import Derived.Test.YtgdohpcnpgjpaaaGreatDoorPkE
import Derived.Test.YtgdohpcnpgjpaaaGreatDoorPkG
import Derived.Test.YtgdohpcnpgjpaaaGreatDoorPkH
namespace Go.Proofs.YtgdohpcnpgjpaaaGreatDoor
open Go Go.E
def ListW {α : Type} (R : World → Value → α → Prop) (w : World) (v : Value) (l : List α) : Prop :=
 l.length ≤ 9223372036854775807 ∧ (v = .slice none 0 0 ∧ l = [] ∨ ∃ a c, v = .slice (some a) l.length c ∧ ∀ i x, l[i]? = some x → ∃ u, w.cell? (a.add (i * 1)) = some u ∧ R w u x)
theorem ListW.slice {α : Type} {R : World → Value → α → Prop} {w : World} {v : Value} {l : List α} (h : ListW R w v l) : ∃ p c, v = .slice p l.length c := by
 obtain ⟨h0, ⟨rfl, rfl⟩ | ⟨a, c, e, h⟩⟩ := h
 ·exact ⟨_, _, rfl⟩
 ·exact ⟨_, _, e⟩
theorem ListW.at {α : Type} {R : World → Value → α → Prop} {w : World} {p : Option Addr} {c : Nat} {l : List α} (h : ListW R w (.slice p l.length c) l) {i : Nat} {x : α} (hi : l[i]? = some x) : ∃ a u, p = some a ∧ R w u x ∧ w.cell? (a.add (((i : Nat) : Int).toNat * 1)) = some u := by
 obtain ⟨h0, ⟨e, e2⟩ | ⟨a, cap, e, h⟩⟩ := h
 ·rw [e2] at hi; simp at hi
 ·simp only [Value.slice.injEq] at e; obtain ⟨u, h1, h2⟩ := h i x hi; exact ⟨a, u, e.1, h2, h1⟩
theorem ListW.ext {α : Type} {R : World → Value → α → Prop} {w w' : World} {v : Value} {l : List α} (h : ListW R w v l) (x : Ext w w') (hR : ∀ u y, R w u y → R w' u y) : ListW R w' v l := by
 obtain ⟨h0, h | ⟨a, c, e, h⟩⟩ := h
 ·exact ⟨h0, .inl h⟩
 ·exact ⟨h0, .inr ⟨a, c, e, fun i y hi => let ⟨u, h1, h2⟩ := h i y hi; ⟨u, cell_ext x h1, hR u y h2⟩⟩⟩
abbrev TextsW : World → Value → List (List UInt8) → Prop := ListW fun _ u s => u = str s ∧ s.length ≤ 9223372036854775807
abbrev RowsW : World → Value → List (List (List UInt8)) → Prop := ListW TextsW
theorem TextsW.ext {w w' : World} {v : Value} {l : List (List UInt8)} (h : TextsW w v l) (x : Ext w w') : TextsW w' v l := ListW.ext h x fun _ _ h => h
theorem RowsW.ext {w w' : World} {v : Value} {l : List (List (List UInt8))} (h : RowsW w v l) (x : Ext w w') : RowsW w' v l := ListW.ext h x fun _ _ h => TextsW.ext h x
theorem TextsW.row {w : World} {v : Value} {l : List (List UInt8)} (h : TextsW w v l) (hl : l.length ≤ 1000000) (hs : ∀ s ∈ l, s.length ≤ 1000000) : TextsR w v l := by
 obtain ⟨_, h | ⟨a, c, e, h⟩⟩ := h
 ·exact ⟨hl, .inl h⟩
 ·refine ⟨hl, .inr ⟨a, c, e, fun _ => trivial, fun i x hi => ?_⟩⟩; obtain ⟨u, h1, rfl, -⟩ := h i x hi; refine ⟨[str x], rfl, ⟨rfl, hs x (List.mem_of_getElem? hi)⟩, fun j u hj => ?_⟩; have hj0 : j = 0 := by have := (List.getElem?_eq_some_iff.1 hj).1; simp at this; exact this
  subst hj0; simp at hj; subst hj
  rwa [add_zero']
def objL (o : ObjD) (rv kv pv : Value) : List Value := [.int .i64 o.kind, rv, str o.name, .int .i64 o.cols, kv, pv, str o.note]
def ObjW (w : World) (cs : List Value) (o : ObjD) : Prop :=
 ∃ rv kv pv, cs = objL o rv kv pv ∧ RowsW w rv o.rows ∧ TextsW w kv o.kids ∧ TextsW w pv o.parents ∧ o.name.length ≤ 9223372036854775807 ∧ o.note.length ≤ 9223372036854775807 ∧ -9223372036854775808 ≤ o.kind ∧ o.kind ≤ 9223372036854775807 ∧ -9223372036854775808 ≤ o.cols ∧ o.cols ≤ 9223372036854775807
theorem ids_take {l : List (List UInt8)} {k : Nat} {s : List UInt8} (h : idsB (l.take k) = true) (hs : l[k]? = some s) (h32 : s.length = 32) : idsB (l.take (k + 1)) = true := by
 rw [idsB, List.take_add_one, hs, List.all_append]; rw [idsB] at h; simp [h, h32]
theorem ids_bad {l : List (List UInt8)} {k : Nat} {s : List UInt8} (hs : l[k]? = some s) (h32 : s.length ≠ 32) : idsB l = false := by
 rw [idsB, List.all_eq_false]; exact ⟨s, List.mem_of_getElem? hs, by simpa using h32⟩
theorem not_int32 {n : Nat} : (!decide ((n : Int) = 32)) = decide (n ≠ 32) := by
 by_cases h : n = 32
 ·subst h; rfl
 ·have : ¬ (n : Int) = 32 := by omega
  simp [h, this]
theorem idF_ret (s : List UInt8) (w : World) : Ret Tryz.prog 50 [str s] w (fun v w' => v = .bool (decide (s.length ≠ 32)) ∧ Ext w w') := by
 refine Rte Tryz.func50 Tryz.ntmps50 ?_; refine Su ?_; exact QW.body1 Tryz.results50 rfl ⟨by rw [not_int32], Chg.refl _ _⟩
theorem idIdx_ret (l : List (List UInt8)) (lv : Value) (w : World) (h : TextsW w lv l) : Ret Tryz.prog 67 [lv, .func (.func 50) ⟨[]⟩ ⟨[]⟩] w (fun v w' => (∃ z : Int, v = .int .i64 z ∧ decide (0 ≤ z) = !idsB l) ∧ Ext w w') := by
 obtain ⟨p, c, rfl⟩ := h.slice; have hl := h.1; refine Rte Tryz.func67 Tryz.ntmps67 ?_; refine Su ?_; refine CW.loop (ι := Nat) (fun k w' => k ≤ l.length ∧ Ext w w' ∧ idsB (l.take k) = true) (fun k => [(0, .slice p l.length c), (1, .func (.func 50) ⟨[]⟩ ⟨[]⟩), (7, .int .i64 l.length), (8, .int .i64 k)]) (fun k => l.length - k) 0 ⟨by omega, Chg.refl _ _, rfl⟩ Sub4 ?_; rintro k w1 ⟨hk, hx, hno⟩; replace h := h.ext hx; refine Su ?_; refine Cwc (fun h2 => ?_) fun h2 => ?_
 ·have h2 : k < l.length := by simp at h2; omega
  obtain ⟨s, hs⟩ : ∃ s, l[k]? = some s := ⟨_, List.getElem?_eq_getElem h2⟩; obtain ⟨a, u, rfl, ⟨rfl, hsl⟩, hc⟩ := h.at hs; refine Su ?_; refine LW.call (fs := []) (cs := []) rfl rfl rfl (idF_ret s w1) ?_; rintro v w2 ⟨rfl, hx2⟩; refine Su ?_; refine Cwc (fun h3 => ?_) fun h3 => ?_
  ·have h3 : s.length ≠ 32 := by simpa using h3
   refine Su ?_; exact QW.body1 Tryz.results67 rfl ⟨⟨(k : Int), rfl, by rw [ids_bad hs h3]; simp⟩, hx.trans hx2⟩
  ·have h3 : s.length = 32 := by simpa using h3
   refine Su ?_; exact QW.again (k + 1) ⟨by omega, hx.trans hx2, ids_take hno hs h3⟩ Sub4 (by omega)
 ·have h2 : k = l.length := by simp at h2; omega
  subst h2; rw [List.take_length] at hno; refine Su ?_; exact QW.body1 Tryz.results67 rfl ⟨⟨-1, rfl, by rw [hno]; rfl⟩, hx⟩
theorem idHas_ret (l : List (List UInt8)) (lv : Value) (w : World) (h : TextsW w lv l) : Ret Tryz.prog 49 [lv, .func (.func 50) ⟨[]⟩ ⟨[]⟩] w (fun v w' => v = .bool (!idsB l) ∧ Ext w w') := by
 obtain ⟨p, c, rfl⟩ := h.slice; refine Rte Tryz.func49 Tryz.ntmps49 ?_; refine Su ?_; refine Lc0 rfl rfl (idIdx_ret l _ w h) ?_; rintro v w1 ⟨⟨z, rfl, hz⟩, hx⟩; refine Su ?_; exact QW.body1 Tryz.results49 rfl ⟨by rw [← hz], hx⟩
theorem ids_ret (l : List (List UInt8)) (lv : Value) (w : World) (h : TextsW w lv l) : Ret Tryz.prog 23 [lv] w (fun v w' => v = .bool (idsB l) ∧ Ext w w') := by
 obtain ⟨p, c, rfl⟩ := h.slice; refine Rte Tryz.func23 Tryz.ntmps23 ?_; refine Su ?_; refine Lc0 rfl rfl (idHas_ret l _ w h) ?_; rintro v w1 ⟨rfl, hx⟩; refine Su ?_; exact QW.body1 Tryz.results23 rfl ⟨by rw [Bool.not_not], hx⟩
theorem rids_ret (l : List (List UInt8)) (lv : Value) (w : World) (h : TextsW w lv l) : Ret Tryz.prog 27 [lv] w (fun v w' => v = .bool (idsB l) ∧ Ext w w') := by
 obtain ⟨p, c, rfl⟩ := h.slice; have hl := h.1; refine Rte Tryz.func27 Tryz.ntmps27 ?_; refine Su ?_; refine CW.loop (ι := Nat) (fun k w' => k ≤ l.length ∧ Ext w w' ∧ idsB (l.take k) = true) (fun k => [(0, .slice p l.length c), (3, .int .i64 k)]) (fun k => l.length - k) 0 ⟨by omega, Chg.refl _ _, rfl⟩ Sub2 ?_; rintro k w1 ⟨hk, hx, hno⟩; replace h := h.ext hx; refine Su ?_; refine Cwc (fun h2 => ?_) fun h2 => ?_
 ·have h2 : k < l.length := by simp at h2; omega
  obtain ⟨s, hs⟩ : ∃ s, l[k]? = some s := ⟨_, List.getElem?_eq_getElem h2⟩; obtain ⟨a, u, rfl, ⟨rfl, hsl⟩, hc⟩ := h.at hs; refine Su ?_; refine Cwc (fun h3 => ?_) fun h3 => ?_
  ·have h3 : s.length ≠ 32 := by simp at h3; omega
   refine Su ?_; exact QW.body1 Tryz.results27 rfl ⟨by rw [ids_bad hs h3], hx⟩
  ·have h3 : s.length = 32 := by simp at h3; omega
   refine Su ?_; exact QW.again (k + 1) ⟨by omega, hx, ids_take hno hs h3⟩ Sub2 (by omega)
 ·have h2 : k = l.length := by simp at h2; omega
  subst h2; rw [List.take_length] at hno; refine Su ?_; exact QW.body1 Tryz.results27 rfl ⟨by rw [hno], hx⟩
theorem all_take {α : Type} {f : α → Bool} {l : List α} {k : Nat} {x : α} (h : (l.take k).all f = true) (hs : l[k]? = some x) (hx : f x = true) : (l.take (k + 1)).all f = true := by
 rw [List.take_add_one, hs, List.all_append]; simp [h, hx]
theorem all_bad {α : Type} {f : α → Bool} {l : List α} {k : Nat} {x : α} (hs : l[k]? = some x) (hx : f x = false) : l.all f = false := by
 rw [List.all_eq_false]; exact ⟨x, List.mem_of_getElem? hs, by rw [hx]; simp⟩
set_option maxRecDepth 8000 in
theorem rows_ret (l : List (List (List UInt8))) (lv : Value) (w : World) (g : Glob w) (h : RowsW w lv l) : Ret Tryz.prog 24 [lv] w (fun v w' => v = .bool (chunkB l) ∧ Ext w w') := by
 obtain ⟨p, c, rfl⟩ := h.slice; have hl := h.1; refine Rte Tryz.func24 Tryz.ntmps24 ?_; refine Su ?_; refine Lwp (fun h1 => ?_) fun h1 => ?_
 ·have h1 : l.length = 0 := by simp at h1; omega
  have e : chunkB l = false := by rw [chunkB, show decide (1 ≤ l.length) = false from decide_eq_false (by omega)]; rfl
  refine Su ?_; exact QW.body1 Tryz.results24 rfl ⟨by rw [e], Chg.refl _ _⟩
 have h1 : 1 ≤ l.length := by simp at h1; omega
 refine Su ?_; refine Lwp (fun h2 => ?_) fun h2 => ?_
 ·have h2 : 4 < l.length := by simp at h2; omega
  have e : chunkB l = false := by rw [chunkB, show decide (l.length ≤ 4) = false from decide_eq_false (by omega)]; simp
  refine Su ?_; exact QW.body1 Tryz.results24 rfl ⟨by rw [e], Chg.refl _ _⟩
 have h2 : l.length ≤ 4 := by simp at h2; omega
 obtain ⟨r0, hr0⟩ : ∃ r, l[0]? = some r := ⟨_, List.getElem?_eq_getElem (by omega)⟩; obtain ⟨a, u0, rfl, hu0, hc0⟩ := h.at hr0; have hh : l.headD [] = r0 := by
  cases l with
  | nil => simp at hr0
  | cons x r => simpa using hr0
 obtain ⟨p0, c0, rfl⟩ := hu0.slice; have hl0 := hu0.1; replace hc0 : w.cell? (a.add ((0 : Int).toNat * 1)) = some (.slice p0 r0.length c0) := hc0; refine Su ?_; refine Cwc (fun h3 => ?_) fun h3 => ?_
 ·have h3 : 12 < r0.length := by simp at h3; omega
  have e : chunkB l = false := by rw [chunkB, hh, show decide (r0.length ≤ 12) = false from decide_eq_false (by omega)]; simp
  refine Su ?_; exact QW.body1 Tryz.results24 rfl ⟨by rw [e], Chg.refl _ _⟩
 have h3 : r0.length ≤ 12 := by simp at h3; omega
 have hB : chunkB l = l.all fun r => decide (r.length = r0.length) && r.all mayC := by
  rw [chunkB, hh, show decide (1 ≤ l.length) = true from decide_eq_true (by omega), show decide (l.length ≤ 4) = true from decide_eq_true (by omega), show decide (r0.length ≤ 12) = true from decide_eq_true (by omega)]; rfl
 rw [hB]; refine Su ?_; refine CW.loop (ι := Nat) (fun k w' => k ≤ l.length ∧ Ext w w' ∧ ((l.take k).all fun r => decide (r.length = r0.length) && r.all mayC) = true) (fun k => [(0, .slice (some a) l.length c), (22, .slice (some a) l.length c), (23, .int .i64 l.length), (24, .int .i64 k)]) (fun k => l.length - k) 0 ⟨by omega, Chg.refl _ _, rfl⟩ Sub4 ?_; rintro k w1 ⟨hk, hx, hno⟩; replace h := h.ext hx; replace hc0 := cell_ext hx hc0; refine Su ?_; refine Cwc (fun h4 => ?_) fun h4 => ?_; rotate_left
 ·have h4 : k = l.length := by simp at h4; omega
  subst h4; rw [List.take_length] at hno; refine Su ?_; exact QW.body1 Tryz.results24 rfl ⟨by rw [hno], hx⟩
 have h4 : k < l.length := by simp at h4; omega
 obtain ⟨r, hr⟩ : ∃ r, l[k]? = some r := ⟨_, List.getElem?_eq_getElem h4⟩; obtain ⟨a', u, ea, hu, hc⟩ := h.at hr; obtain rfl := Option.some.inj ea; obtain ⟨q, cq, rfl⟩ := hu.slice; have hlr := hu.1; refine Su ?_; refine Cwc (fun h5 => ?_) fun h5 => ?_
 ·have h5 : r.length ≠ r0.length := by simp at h5; omega
  refine Su ?_; refine QW.body1 Tryz.results24 rfl ⟨?_, hx⟩; rw [all_bad hr (by simp [h5])]
 have h5 : r.length = r0.length := by simp at h5; omega
 refine Su ?_; refine CW.loop (ι := Nat) (fun j w' => j ≤ r.length ∧ Ext w1 w' ∧ (r.take j).all mayC = true) (fun j => [(0, .slice (some a) l.length c), (22, .slice (some a) l.length c), (23, .int .i64 l.length), (24, .int .i64 k), (35, .slice q r.length cq), (36, .int .i64 r.length), (37, .int .i64 j)]) (fun j => r.length - j) 0 ⟨by omega, Chg.refl _ _, rfl⟩ Sub7 ?_; rintro j w2 ⟨hj, hx2, hno2⟩; replace hu := TextsW.ext hu hx2; refine Su ?_; refine Cwc (fun h6 => ?_) fun h6 => ?_; rotate_left
 ·have h6 : j = r.length := by simp at h6; omega
  subst h6; rw [List.take_length] at hno2; refine Su ?_; exact QW.again (k + 1) ⟨by omega, hx.trans hx2, all_take hno hr (by simp [h5, hno2])⟩ Sub4 (by omega)
 have h6 : j < r.length := by simp at h6; omega
 obtain ⟨s, hs⟩ : ∃ s, r[j]? = some s := ⟨_, List.getElem?_eq_getElem h6⟩; obtain ⟨a2, u2, rfl, ⟨rfl, hsl⟩, hc2⟩ := hu.at hs; refine Su ?_; refine Lc0 rfl rfl (cMay_ret s hsl w2 (g.ext (hx.trans hx2))) ?_; rintro v w3 ⟨rfl, hx3⟩; refine Su ?_; refine Cwc (fun h7 => ?_) fun h7 => ?_
 ·have h7 : mayC s = false := by simpa using h7
  refine Su ?_; refine QW.body1 Tryz.results24 rfl ⟨?_, (hx.trans hx2).trans hx3⟩; rw [all_bad hr (by rw [all_bad hs h7]; simp)]
 have h7 : mayC s = true := by simpa using h7
 refine Su ?_; exact QW.again (j + 1) ⟨by omega, hx2.trans hx3, all_take hno2 hs h7⟩ Sub7 (by omega)
def bareB (o : ObjD) : Bool := decide (o.parents = []) && decide (o.note = [])
def noNameB (o : ObjD) : Bool := decide (o.name = []) && decide (o.cols = 0)
theorem mayO_eq (o : ObjD) : mayO o = (idsB o.kids && idsB o.parents &&
 (if o.kind = 1 then bareB o && noNameB o && decide ((o.kids.length : Int) = 0) && chunkB o.rows
 else if o.kind = 2 then bareB o && decide ((o.rows.length : Int) = 0) && nameB o.name && decide (0 ≤ o.cols) && decide (o.cols ≤ 12) && decide ((o.kids.length : Int) ≤ 6)
 else if o.kind = 3 then bareB o && decide ((o.rows.length : Int) = 0) && noNameB o && decide ((o.kids.length : Int) ≤ 5)
 else if o.kind = 4 then decide ((o.rows.length : Int) = 0) && noNameB o && decide ((o.kids.length : Int) = 1) && decide ((o.parents.length : Int) ≤ 2) && decide ((o.note.length : Int) ≤ 60)
 else false)) := by
 have e1 : decide ((o.kids.length : Int) = 0) = decide (o.kids = []) := by rw [decide_eq_decide, ← List.length_eq_zero_iff]; omega
 have e2 : decide ((o.rows.length : Int) = 0) = decide (o.rows = []) := by rw [decide_eq_decide, ← List.length_eq_zero_iff]; omega
 have e3 : decide ((o.kids.length : Int) ≤ 6) = decide (o.kids.length ≤ 6) := by rw [decide_eq_decide]; omega
 have e4 : decide ((o.kids.length : Int) ≤ 5) = decide (o.kids.length ≤ 5) := by rw [decide_eq_decide]; omega
 have e5 : decide ((o.kids.length : Int) = 1) = decide (o.kids.length = 1) := by rw [decide_eq_decide]; omega
 have e6 : decide ((o.parents.length : Int) ≤ 2) = decide (o.parents.length ≤ 2) := by rw [decide_eq_decide]; omega
 have e7 : decide ((o.note.length : Int) ≤ 60) = decide (o.note.length ≤ 60) := by rw [decide_eq_decide]; omega
 rw [mayO, e1, e2, e3, e4, e5, e6, e7, bareB, noNameB]
set_option maxRecDepth 8000 in
set_option maxHeartbeats 8000000 in
theorem oMay_ret (o : ObjD) (cs : List Value) (w : World) (g : Glob w) (h : ObjW w cs o) : Ret Tryz.prog 10 [.agg ⟨cs⟩] w (fun v w' => v = .bool (mayO o) ∧ Ext w w') := by
 obtain ⟨rv, kv, pv, rfl, hr, hk, hp, hn, ht, k1, k2, c1, c2⟩ := h; rw [mayO_eq]; obtain ⟨pr, cr, rfl⟩ := hr.slice; obtain ⟨pk, ck, rfl⟩ := hk.slice; obtain ⟨pp, cp, rfl⟩ := hp.slice; have hrl := hr.1; have hkl := hk.1; have hpl := hp.1; refine Rte Tryz.func10 Tryz.ntmps10 ?_; refine Su ?_; refine Lwb fun A w1 hbA hx1 hA => ?_; replace hA : Blk w1 A [.int .i64 o.kind, .slice pr o.rows.length cr, str o.name, .int .i64 o.cols, .slice pk o.kids.length ck, .slice pp o.parents.length cp, str o.note] 25 := hA; refine Su ?_; refine Lc0 rfl rfl (ids_ret o.kids _ w1 (hk.ext hx1)) ?_; rintro v w2 ⟨rfl, hx2'⟩; have hx2 := hx1.trans hx2'; replace hA := hA.ext hx2'; refine Su ?_; refine Lwp (fun h1 => ?_) fun h1 => ?_
 ·have h1 : idsB o.kids = false := by simpa using h1
  refine Su ?_; exact QW.body1 Tryz.results10 rfl ⟨by rw [h1]; rfl, hx2⟩
 have h1 : idsB o.kids = true := by simpa using h1
 refine Su ?_; refine Lc0 rfl rfl (ids_ret o.parents _ w2 (hp.ext hx2)) ?_; rintro v w3 ⟨rfl, hx3'⟩; have hx3 := hx2.trans hx3'; replace hA := hA.ext hx3'; refine Su ?_; refine Cwc (fun h2 => ?_) fun h2 => ?_
 ·have h2 : idsB o.parents = false := by simpa using h2
  refine Su ?_; exact QW.body1 Tryz.results10 rfl ⟨by rw [h1, h2]; rfl, hx3⟩
 have h2 : idsB o.parents = true := by simpa using h2
 rw [h1, h2, Bool.true_and, Bool.true_and]; refine Su ?_; refine Lwp (fun h3 => ?_) fun h3 => ?_
 all_goals
  refine Su ?_; refine LW.know (t := 3) (c := bareB o) rfl (by simp at h3; simp [bareB, h3]) ?_; refine Lwp (fun h4 => ?_) fun h4 => ?_
 all_goals
  refine Su ?_; refine Cwc (fun k1 => ?_) fun k1 => ?_
  ·have k1 : o.kind = 1 := by simpa using k1
   rw [if_pos k1]; refine Su ?_; refine LW.know (t := 5) (c := noNameB o) rfl (by simp at h4; simp [noNameB, h4]) ?_; cases hb : bareB o
   ·refine Su ?_; exact QW.body1 Tryz.results10 rfl ⟨rfl, hx3⟩
   cases hn : noNameB o
   ·refine Su ?_; exact QW.body1 Tryz.results10 rfl ⟨rfl, hx3⟩
   refine Su ?_; refine Lwp (fun h5 => ?_) fun h5 => ?_; rotate_left
   ·rw [h5]; refine Su ?_; exact QW.body1 Tryz.results10 rfl ⟨rfl, hx3⟩
   rw [h5]; refine Su ?_; refine Lc0 rfl rfl (rows_ret o.rows _ w3 (g.ext hx3) (hr.ext hx3)) ?_; rintro v w4 ⟨rfl, hx4⟩; refine Su ?_; exact QW.body1 Tryz.results10 rfl ⟨rfl, hx3.trans hx4⟩
  have k1 : o.kind ≠ 1 := by simpa using k1
  rw [if_neg k1]; refine Su ?_; refine Cwc (fun k2 => ?_) fun k2 => ?_
  ·have k2 : o.kind = 2 := by simpa using k2
   rw [if_pos k2]; refine Su ?_; cases hb : bareB o
   ·refine Su ?_; exact QW.body1 Tryz.results10 rfl ⟨rfl, hx3⟩
   cases hq : decide ((o.rows.length : Int) = 0)
   ·refine Su ?_; exact QW.body1 Tryz.results10 rfl ⟨rfl, hx3⟩
   refine Su ?_; refine Lc0 rfl rfl (Name_ret o.name w3 hn) ?_; rintro v w4 ⟨rfl, hx4'⟩; have hx4 : Ext w3 w4 := hx4'; replace hA := hA.ext hx4'; cases hm : nameB o.name
   ·refine Su ?_; exact QW.body1 Tryz.results10 rfl ⟨rfl, hx3.trans hx4⟩
   refine Su ?_; refine Lwp (fun h5 => ?_) fun h5 => ?_; rotate_left
   ·rw [h5]; refine Su ?_; exact QW.body1 Tryz.results10 rfl ⟨rfl, hx3.trans hx4⟩
   rw [h5]; refine Su ?_; refine Lwp (fun h6 => ?_) fun h6 => ?_; rotate_left
   ·rw [h6]; refine Su ?_; exact QW.body1 Tryz.results10 rfl ⟨rfl, hx3.trans hx4⟩
   rw [h6]; refine Su ?_; exact QW.body1 Tryz.results10 rfl ⟨rfl, hx3.trans hx4⟩
  have k2 : o.kind ≠ 2 := by simpa using k2
  rw [if_neg k2]; refine Su ?_; refine Cwc (fun k3 => ?_) fun k3 => ?_
  ·have k3 : o.kind = 3 := by simpa using k3
   rw [if_pos k3]; refine Su ?_; refine LW.know (t := 5) (c := noNameB o) rfl (by simp at h4; simp [noNameB, h4]) ?_; cases hb : bareB o
   ·refine Su ?_; exact QW.body1 Tryz.results10 rfl ⟨rfl, hx3⟩
   cases hq : decide ((o.rows.length : Int) = 0)
   ·refine Su ?_; exact QW.body1 Tryz.results10 rfl ⟨rfl, hx3⟩
   cases hm : noNameB o
   ·refine Su ?_; exact QW.body1 Tryz.results10 rfl ⟨rfl, hx3⟩
   refine Su ?_; exact QW.body1 Tryz.results10 rfl ⟨rfl, hx3⟩
  have k3 : o.kind ≠ 3 := by simpa using k3
  rw [if_neg k3]; refine Su ?_; refine Cwc (fun k4 => ?_) fun k4 => ?_
  ·have k4 : o.kind = 4 := by simpa using k4
   rw [if_pos k4]; refine Su ?_; refine LW.know (t := 5) (c := noNameB o) rfl (by simp at h4; simp [noNameB, h4]) ?_; cases hq : decide ((o.rows.length : Int) = 0)
   ·refine Su ?_; exact QW.body1 Tryz.results10 rfl ⟨rfl, hx3⟩
   cases hm : noNameB o
   ·refine Su ?_; exact QW.body1 Tryz.results10 rfl ⟨rfl, hx3⟩
   refine Su ?_; refine Lwp (fun h5 => ?_) fun h5 => ?_; rotate_left
   ·rw [h5]; refine Su ?_; exact QW.body1 Tryz.results10 rfl ⟨rfl, hx3⟩
   rw [h5]; refine Su ?_; refine Lwp (fun h6 => ?_) fun h6 => ?_; rotate_left
   ·rw [h6]; refine Su ?_; exact QW.body1 Tryz.results10 rfl ⟨rfl, hx3⟩
   rw [h6]; refine Su ?_; exact QW.body1 Tryz.results10 rfl ⟨rfl, hx3⟩
  have k4 : o.kind ≠ 4 := by simpa using k4
  rw [if_neg k4]; refine Su ?_; exact QW.body1 Tryz.results10 rfl ⟨rfl, hx3⟩
theorem putL_len12 {r : List (List UInt8)} (h : r.length ≤ 12) (hs : ∀ s ∈ r, s.length ≤ 1000000) : (putL r).length ≤ 20000000 := by
 have h1 := putN_len10 (n := r.length) (by omega); have h2 := texts_bound hs; rw [putL, List.length_append]; omega
theorem rows_bound : ∀ {l : List (List (List UInt8))}, (∀ r ∈ l, r.length ≤ 12 ∧ ∀ s ∈ r, s.length ≤ 1000000) → (l.flatMap putL).length ≤ l.length * 20000000
 | [], _ => by simp
 | r :: l, h => by
  have := rows_bound (l := l) fun u hu => h u (List.mem_cons_of_mem _ hu); have h1 := h r (List.mem_cons_self ..); have := putL_len12 h1.1 h1.2; rw [List.flatMap_cons, List.length_append, List.length_cons, Nat.add_mul]; omega
theorem putBook_ret (o : ObjD) (cs : List Value) (w : World) (h : ObjW w cs o) (h1 : o.kids.length ≤ 1000000) (h2 : ∀ s ∈ o.kids, s.length ≤ 1000000) : Ret Tryz.prog 61 [.agg ⟨cs⟩] w (fun v w' => BytesO w.heap.size w' v (putL o.kids) ∧ Ext w w') := by
 obtain ⟨rv, kv, pv, rfl, hr, hk, hp, hn, ht, k1, k2, c1, c2⟩ := h; obtain ⟨pr, cr, rfl⟩ := hr.slice; obtain ⟨pk, ck, rfl⟩ := hk.slice; obtain ⟨pp, cp, rfl⟩ := hp.slice; refine Rte Tryz.func61 Tryz.ntmps61 ?_; refine Su ?_; refine Lwb fun A w1 hbA hx1 hA => ?_; replace hA : Blk w1 A [.int .i64 o.kind, .slice pr o.rows.length cr, str o.name, .int .i64 o.cols, .slice pk o.kids.length ck, .slice pp o.parents.length cp, str o.note] 25 := hA; refine Su ?_; refine Lc0 rfl rfl (PutList_ret o.kids _ w1 ((hk.row h1 h2).ext hx1)) ?_; rintro v w2 ⟨hO, hx2⟩; refine Su ?_; exact QW.body1 Tryz.results61 rfl ⟨hO.low hx1.size, hx1.trans hx2⟩
theorem putChunk_ret (o : ObjD) (cs : List Value) (w : World) (h : ObjW w cs o) (h1 : o.rows.length ≤ 4) (h2 : ∀ r ∈ o.rows, r.length ≤ 12 ∧ ∀ s ∈ r, s.length ≤ 1000000) : Ret Tryz.prog 59 [.agg ⟨cs⟩] w (fun v w' => BytesO w.heap.size w' v (putN o.rows.length ++ o.rows.flatMap putL) ∧ Ext w w') := by
 obtain ⟨rv, kv, pv, rfl, hr, hk, hp, hn, ht, k1, k2, c1, c2⟩ := h; obtain ⟨pr, cr, rfl⟩ := hr.slice; obtain ⟨pk, ck, rfl⟩ := hk.slice; obtain ⟨pp, cp, rfl⟩ := hp.slice; generalize o.rows = l at *; refine Rte Tryz.func59 Tryz.ntmps59 ?_; refine Su ?_; refine Lwb fun A w1 hbA hx1 hA => ?_; replace hA : Blk w1 A [.int .i64 o.kind, .slice pr l.length cr, str o.name, .int .i64 o.cols, .slice pk o.kids.length ck, .slice pp o.parents.length cp, str o.note] 25 := hA; refine Su ?_; refine Lc0 rfl rfl (Put_ret l.length (by omega) w1) ?_; rintro v w2 ⟨hO, hx2⟩; replace hA := hA.ext hx2; refine Su ?_; refine CW.loop (ι := Nat × Value) (fun x w' => x.1 ≤ l.length ∧ Ext w w' ∧ BytesO w.heap.size w' x.2 (putN l.length ++ (l.take x.1).flatMap putL)) (fun x => [(3, x.2), (11, .slice pr l.length cr), (12, .int .i64 l.length), (13, .int .i64 x.1)]) (fun x => l.length - x.1) (0, v) ⟨by omega, hx1.trans hx2, by rw [List.take_zero, List.flatMap_nil, List.append_nil]; exact hO.low hx1.size⟩ Sub4 ?_; rintro ⟨k, ov⟩ w3 ⟨hk3, hx3, hO3⟩; dsimp only at hk3 hO3; show CW _ _ _ _ _ [(3, ov), (11, .slice pr l.length cr), (12, .int .i64 l.length), (13, .int .i64 (k : Int))] _; refine Su ?_; refine Cwc (fun h3 => ?_) fun h3 => ?_; rotate_left
 ·have h3 : k = l.length := by simp at h3; omega
  subst h3; refine Su ?_; refine QW.body1 Tryz.results59 rfl ⟨?_, hx3⟩; rw [List.take_length] at hO3; exact hO3
 have h3 : k < l.length := by simp at h3; omega
 obtain ⟨r, hrk⟩ : ∃ r, l[k]? = some r := ⟨_, List.getElem?_eq_getElem h3⟩; obtain ⟨a, u, rfl, hu, hc⟩ := (RowsW.ext hr hx3).at hrk; obtain ⟨g1, g2⟩ := h2 r (List.mem_of_getElem? hrk); obtain ⟨q, cq, rfl⟩ := hu.slice; refine Su ?_; refine Lc0 rfl rfl (PutList_ret r _ w3 (hu.row (by omega) g2)) ?_; rintro u w4 ⟨hO4, hx4⟩; obtain ⟨pu, cu, rfl⟩ := hO4.slice; have hb := rows_bound (l := l.take k) fun x hx => h2 x (List.mem_of_mem_take hx); have hb2 := putN_len10 (n := l.length) (by omega); have hb3 : (l.take k).length ≤ 4 := by rw [List.length_take]; omega
 have ht4 := putL_len12 g1 g2; have hq := (BytesO.bytes' hO4); refine Su ?_; refine LW.append_any (lo := w.heap.size) (k := (putN l.length ++ (l.take k).flatMap putL).length) (xs := bcells (putN l.length ++ (l.take k).flatMap putL)) (news := bcells (putL r)) rfl rfl rfl rfl rfl rfl (hO3.ext hx4) (by have := hx3.size; have := hx4.size; omega) (by rw [bcells_len']; show _ = _ * 1; omega) hq (bcells_one _) (by show (_ + (putL r).length) * 2 ≤ _; rw [List.length_append]; omega) rfl ?_; intro v5 w5 hc5 hO5 hv5; refine Su ?_; exact QW.again (k + 1, v5) ⟨h3, (hx3.trans hx4).step hc5 (fun b hb => by have := (hO3.lt hb).1; omega), by
  have := BytesO.app hO5; rw [List.append_assoc] at this; show BytesO _ _ v5 (putN l.length ++ (l.take (k + 1)).flatMap putL); rw [List.take_add_one, hrk, List.flatMap_append]
  simpa using this⟩ Sub4 (by show l.length - (k + 1) < l.length - k; omega)
theorem Grow_ret (n : Nat) (h0 : 0 < n) (hn : n ≤ 1000000000000) (w : World) : Ret Tryz.prog 106 [.slice none 0 0, .int .i64 (n : Int)] w (fun v w' => (∃ g cap, v = .slice (some ⟨g, 0, none⟩) 0 cap ∧ w.heap.size ≤ g ∧ Blk w' g (List.replicate cap (.int .u8 0)) 5) ∧ Ext w w') := by
 refine Rte Tryz.func106 Tryz.ntmps106 ?_; refine Su ?_; refine LW.cap rfl rfl rfl rfl ?_; refine Su ?_; refine Cwc (fun h1 => ?_) fun h1 => ?_; rotate_left
 ·exact absurd h1 (by simp; omega)
 refine Su ?_; refine LW.cap rfl rfl rfl rfl ?_; refine LW.slice_hi (j := 0) rfl rfl rfl rfl rfl (by omega) rfl ?_; refine Su ?_; refine LW.append_zeros (m := n) rfl (by show some (Value.int .i64 ((n : Int) - (((0 : Nat) : Int) - ((0 : Nat) : Int)))) = _; congr 2) rfl rfl rfl rfl rfl rfl rfl h0 (by show n * 2 ≤ _; omega) rfl fun g cap w1 hbg hx1 hcap hG => ?_; refine Su ?_; refine LW.slice_hi (j := 0) rfl rfl rfl rfl rfl (by omega) rfl ?_; refine Su ?_; exact QW.body1 Tryz.results106 rfl ⟨⟨g, cap, rfl, by omega, hG⟩, hx1⟩
def pieceR : Elem (List UInt8) := fun _ w cs l => ∃ p c, cs = [.slice p l.length c] ∧ (p = none ∧ l.length = 0 ∨ ∃ a, p = some a ∧ ∀ j u, (bcells l)[j]? = some u → w.cell? (a.add j) = some u)
theorem pieceR.ext {i : Nat} {w w' : World} {cs : List Value} {l : List UInt8} (h : pieceR i w cs l) (x : Ext w w') : pieceR i w' cs l := by
 obtain ⟨p, c, e, h | ⟨a, e2, h⟩⟩ := h
 ·exact ⟨p, c, e, .inl h⟩
 ·exact ⟨p, c, e, .inr ⟨a, e2, fun j u hj => cell_ext x (h j u hj)⟩⟩
theorem flat_part {L : List (List UInt8)} {k : Nat} : (L.take k).flatten.length ≤ L.flatten.length := by
 conv => rhs; rw [← List.take_append_drop k L, List.flatten_append, List.length_append]
 omega
theorem flat_step {L : List (List UInt8)} {k : Nat} {x : List UInt8} (h : L[k]? = some x) : (L.take (k + 1)).flatten = (L.take k).flatten ++ x := by
 rw [List.take_add_one, h, List.flatten_append]; simp
theorem Own.grown {w : World} {lo g cap : Nat} {z : Value} {e : TypeId} (h : Blk w g (List.replicate cap z) e) (hg : lo ≤ g) : Own w lo e 1 (.slice (some ⟨g, 0, none⟩) 0 cap) 0 [] := ⟨rfl, .inr ⟨g, cap, List.replicate cap z, rfl, h, by omega, by simp, hg⟩⟩
theorem Concat_ret (L : List (List UInt8)) (p : Option Addr) (c : Nat) (w : World) (h : ListR 1 (fun _ => True) pieceR w (.slice p L.length c) L) (h0 : 0 < L.flatten.length) (h1 : L.flatten.length ≤ 1000000000000) : Ret Tryz.prog 81 [.slice p L.length c] w (fun v w' => BytesO w.heap.size w' v L.flatten ∧ Ext w w') := by
 have hl := h.1; refine Rte Tryz.func81 Tryz.ntmps81 ?_; refine Su ?_; refine CW.loop (ι := Nat) (fun k w' => k ≤ L.length ∧ Ext w w') (fun k => [(0, .slice p L.length c), (3, .int .i64 (L.take k).flatten.length), (9, .slice p L.length c), (10, .int .i64 L.length), (11, .int .i64 k)]) (fun k => L.length - k) 0 ⟨by omega, Chg.refl _ _⟩ Sub5 ?_; rintro k w1 ⟨hk, hx1⟩; have hfp := flat_part (L := L) (k := k); refine Su ?_; refine Cwc (fun h2 => ?_) fun h2 => ?_
 ·have h2 : k < L.length := by simp at h2; omega
  obtain ⟨x, hxk⟩ : ∃ x, L[k]? = some x := ⟨_, List.getElem?_eq_getElem h2⟩; obtain ⟨a, u, rfl, -, ⟨q, cq, e, hq⟩, hc⟩ := (ListR.ext' h hx1 fun _ _ _ _ h => h.ext hx1).at1 hxk; simp only [List.cons.injEq, and_true] at e; subst e; have hfs := flat_step hxk; have hfp' := flat_part (L := L) (k := k + 1); have hfl : (L.take (k + 1)).flatten.length = (L.take k).flatten.length + x.length := by rw [hfs, List.length_append]
  refine Su ?_; exact QW.again (k + 1) ⟨h2, hx1⟩ (by rw [hfl]; exact (Sub.cons rfl (Sub.cons rfl (Sub.cons rfl (Sub.cons rfl (Sub.cons rfl (Sub.nil))))))) (by omega)
 have h2 : k = L.length := by simp at h2; omega
 subst h2; rw [List.take_length]; refine Su ?_; refine Lc0 rfl rfl (Grow_ret L.flatten.length h0 h1 w1) ?_; rintro v w2 ⟨⟨g, cap, rfl, hg, hG⟩, hx2⟩; have hx2 := hx1.trans hx2; refine Su ?_; refine CW.loop (ι := Nat × Value) (fun x w' => x.1 ≤ L.length ∧ Ext w w' ∧ BytesO w.heap.size w' x.2 (L.take x.1).flatten) (fun x => [(6, x.2), (25, .slice p L.length c), (26, .int .i64 L.length), (27, .int .i64 x.1)]) (fun x => L.length - x.1) (0, .slice (some ⟨g, 0, none⟩) 0 cap) ⟨by omega, hx2, Own.grown hG (by have := hx1.size; omega)⟩ Sub4 ?_; rintro ⟨k, ov⟩ w3 ⟨hk3, hx3, hO3⟩; dsimp only at hk3 hO3; show CW _ _ _ _ _ [(6, ov), (25, .slice p L.length c), (26, .int .i64 L.length), (27, .int .i64 (k : Int))] _; have hfp := flat_part (L := L) (k := k); refine Su ?_; refine Cwc (fun h3 => ?_) fun h3 => ?_; rotate_left
 ·have h3 : k = L.length := by simp at h3; omega
  subst h3; refine Su ?_; refine QW.body1 Tryz.results81 rfl ⟨?_, hx3⟩; rw [List.take_length] at hO3; exact hO3
 have h3 : k < L.length := by simp at h3; omega
 obtain ⟨x, hxk⟩ : ∃ x, L[k]? = some x := ⟨_, List.getElem?_eq_getElem h3⟩; obtain ⟨a, u, rfl, -, ⟨q, cq, e, hq⟩, hc⟩ := (ListR.ext' h hx3 fun _ _ _ _ h => h.ext hx3).at1 hxk; simp only [List.cons.injEq, and_true] at e; subst e; have hfs := flat_step hxk; have hfp' := flat_part (L := L) (k := k + 1); have hfl : (L.take (k + 1)).flatten.length = (L.take k).flatten.length + x.length := by rw [hfs, List.length_append]
 refine Su ?_; refine LW.append_any (lo := w.heap.size) (k := (L.take k).flatten.length) (xs := bcells (L.take k).flatten) (news := bcells x) rfl rfl rfl rfl rfl rfl hO3 (by have := hx3.size; omega) (by rw [bcells_len']; show _ = _ * 1; omega) hq (bcells_one _) (by show (_ + x.length) * 2 ≤ _; omega) rfl ?_; intro v5 w5 hc5 hO5 hv5; refine Su ?_; exact QW.again (k + 1, v5) ⟨h3, hx3.step hc5 (fun b hb => by have := (hO3.lt hb).1; omega), by
  have := BytesO.app hO5; show BytesO _ _ v5 (L.take (k + 1)).flatten; rw [hfs]; exact this⟩ Sub4 (by show L.length - (k + 1) < L.length - k; omega)
theorem BytesO.piece {lo i : Nat} {w : World} {v : Value} {l : List UInt8} (h : BytesO lo w v l) : pieceR i w [v] l := by
 obtain ⟨p, c, rfl⟩ := h.slice; exact ⟨p, c, rfl, BytesO.bytes' h⟩
theorem pieces3 {lo1 lo2 lo3 C : Nat} {w : World} {u1 u2 u3 : Value} {l1 l2 l3 : List UInt8} {T : TypeId} (hC : Blk w C [u1, u2, u3] T) (h1 : BytesO lo1 w u1 l1) (h2 : BytesO lo2 w u2 l2) (h3 : BytesO lo3 w u3 l3) : ListR 1 (fun _ => True) pieceR w (.slice (some ⟨C, 0, none⟩) [l1, l2, l3].length 3) [l1, l2, l3] := by
 refine ⟨by simp, .inr ⟨⟨C, 0, none⟩, 3, rfl, fun _ => trivial, fun i x hi => ?_⟩⟩; have key : ∀ (u : Value) (l : List UInt8) (lo : Nat), [u1, u2, u3][i]? = some u → BytesO lo w u l → x = l → ∃ cs : List Value, cs.length = 1 ∧ pieceR i w cs x ∧ ∀ j v, cs[j]? = some v → w.cell? (((⟨C, 0, none⟩ : Addr).add (i * 1)).add j) = some v := fun u l lo hu hb hx => by
  subst hx; refine ⟨[u], rfl, hb.piece, fun j v hj => ?_⟩; have hj0 : j = 0 := by have := (List.getElem?_eq_some_iff.1 hj).1; simp at this; exact this
  subst hj0; simp at hj; subst hj; rw [add_addr, add_addr]; refine hC.cell ?_
  simpa using hu
 match i, hi with
 | 0, hi => exact key u1 l1 lo1 rfl h1 (by simpa using hi.symm)
 | 1, hi => exact key u2 l2 lo2 rfl h2 (by simpa using hi.symm)
 | 2, hi => exact key u3 l3 lo3 rfl h3 (by simpa using hi.symm)
 | i + 3, hi => simp at hi
theorem putL_pos (l : List (List UInt8)) : 0 < (putL l).length := by rw [putL, List.length_append]; have := putN_pos (n := l.length); omega
theorem putL_len {l : List (List UInt8)} (h : l.length ≤ 1000) (hs : ∀ s ∈ l, s.length ≤ 1000000) : (putL l).length ≤ 2000000000 := by
 have h1 := putN_len10 (n := l.length) (by omega); have h2 := texts_bound hs; rw [putL, List.length_append]; omega
set_option maxRecDepth 8000 in
set_option maxHeartbeats 2000000 in
theorem putSheet_ret (o : ObjD) (cs : List Value) (w : World) (h : ObjW w cs o) (m : Nat) (hm : o.cols = (m : Int)) (hm2 : m ≤ 1000) (hnm : o.name.length ≤ 1000000) (h1 : o.kids.length ≤ 1000) (h2 : ∀ s ∈ o.kids, s.length ≤ 1000000) : Ret Tryz.prog 60 [.agg ⟨cs⟩] w (fun v w' => BytesO w.heap.size w' v (putT o.name ++ putN m ++ putL o.kids) ∧ Ext w w') := by
 obtain ⟨rv, kv, pv, rfl, hr, hk, hp, hn, ht, k1, k2, c1, c2⟩ := h; obtain ⟨pr, cr, rfl⟩ := hr.slice; obtain ⟨pk, ck, rfl⟩ := hk.slice; obtain ⟨pp, cp, rfl⟩ := hp.slice; have b0 := putT_pos o.name; have b1 := putT_len hnm; have b2 := putN_len10 (n := m) (by omega); have b3 := putL_len h1 h2; simp only [objL, hm]; refine Rte Tryz.func60 Tryz.ntmps60 ?_; refine Su ?_; refine Lwb fun A w1 hbA hx1 hA => ?_; replace hA : Blk w1 A [.int .i64 o.kind, .slice pr o.rows.length cr, str o.name, .int .i64 (m : Int), .slice pk o.kids.length ck, .slice pp o.parents.length cp, str o.note] 25 := hA; refine Su ?_; refine CW.drawG (Ext w1) 11 (fun w' h => h) (by kernel_rfl) fun wa hxa => ?_; refine Sgv ?_; refine Gko 2 fun hS => ?_; refine Lc0 rfl rfl (PutText_ret o.name hnm _) ?_; rintro v0 wb0 ⟨hO0, hy0⟩; obtain ⟨q0, d0, rfl⟩ := hO0.slice; apply LW.nil; refine QW.headed (hS.trans hy0) ?_; refine Sgv ?_; refine Gko 5 fun hS => ?_; refine Lc0 rfl rfl (Put_ret m (by omega) _) ?_; rintro v1 wb1 ⟨hO1, hy1⟩; obtain ⟨q1, d1, rfl⟩ := hO1.slice; replace hO0 := hO0.ext hy1; apply LW.nil; refine QW.headed (hS.trans hy1) ?_; refine Sgv ?_; refine Gko 8 fun hS => ?_; refine Lc0 rfl rfl (PutList_ret o.kids _ _ ((hk.row (by omega) h2).ext (hx1.trans hS))) ?_; rintro v2 wb2 ⟨hO2, hy2⟩; obtain ⟨q2, d2, rfl⟩ := hO2.slice; replace hO0 := hO0.ext hy2; replace hO1 := hO1.ext hy2; apply LW.nil; refine QW.headed (hS.trans hy2) ?_; refine Sgv ?_; refine Gko 9 fun hS => ?_; refine Lwl fun C wc hbC hxc hC => ?_; replace hO0 := hO0.ext hxc; replace hO1 := hO1.ext hxc; replace hO2 := hO2.ext hxc; apply LW.nil; refine QW.headed (hS.trans hxc) ?_; refine Sgv ?_; refine Gko 10 fun hS => ?_; refine Lc0 rfl rfl (Concat_ret [putT o.name, putN m, putL o.kids] (some ⟨C, 0, none⟩) 3 _ (pieces3 hC hO0 hO1 hO2) (by simp; omega) (by simp; omega)) ?_; rintro v wd ⟨hOd, hyd⟩; have hSd := hS.size; apply LW.nil; refine QW.headed (hS.trans hyd) ?_; refine GW.tail rfl (by kernel_rfl) (fun hS => ?_); refine Su ?_; refine QW.body1 Tryz.results60 rfl ⟨?_, hx1.trans hS⟩; have := hOd.low (lo' := w.heap.size) (by have := hx1.size; omega); rw [show [putT o.name, putN m, putL o.kids].flatten = putT o.name ++ putN m ++ putL o.kids by simp] at this; exact this
set_option maxRecDepth 8000 in
set_option maxHeartbeats 2000000 in
theorem putCommit_ret (o : ObjD) (cs : List Value) (w : World) (h : ObjW w cs o) (hnt : o.note.length ≤ 1000000) (h1 : o.kids.length ≤ 1000) (h2 : ∀ s ∈ o.kids, s.length ≤ 1000000) (h3 : o.parents.length ≤ 1000) (h4 : ∀ s ∈ o.parents, s.length ≤ 1000000) : Ret Tryz.prog 62 [.agg ⟨cs⟩] w (fun v w' => BytesO w.heap.size w' v (putL o.kids ++ putL o.parents ++ putT o.note) ∧ Ext w w') := by
 obtain ⟨rv, kv, pv, rfl, hr, hk, hp, hn, ht, k1, k2, c1, c2⟩ := h; obtain ⟨pr, cr, rfl⟩ := hr.slice; obtain ⟨pk, ck, rfl⟩ := hk.slice; obtain ⟨pp, cp, rfl⟩ := hp.slice; have b0 := putL_pos o.kids; have b1 := putT_len hnt; have b2 := putL_len h3 h4; have b3 := putL_len h1 h2; refine Rte Tryz.func62 Tryz.ntmps62 ?_; refine Su ?_; refine Lwb fun A w1 hbA hx1 hA => ?_; replace hA : Blk w1 A [.int .i64 o.kind, .slice pr o.rows.length cr, str o.name, .int .i64 o.cols, .slice pk o.kids.length ck, .slice pp o.parents.length cp, str o.note] 25 := hA; refine Su ?_; refine CW.drawG (Ext w1) 11 (fun w' h => h) (by kernel_rfl) fun wa hxa => ?_; refine Sgv ?_; refine Gko 2 fun hS => ?_; refine Lc0 rfl rfl (PutList_ret o.kids _ _ ((hk.row (by omega) h2).ext (hx1.trans hS))) ?_; rintro v0 wb0 ⟨hO0, hy0⟩; obtain ⟨q0, d0, rfl⟩ := hO0.slice; apply LW.nil; refine QW.headed (hS.trans hy0) ?_; refine Sgv ?_; refine Gko 5 fun hS => ?_; refine Lc0 rfl rfl (PutList_ret o.parents _ _ ((hp.row (by omega) h4).ext (hx1.trans hS))) ?_; rintro v1 wb1 ⟨hO1, hy1⟩; obtain ⟨q1, d1, rfl⟩ := hO1.slice; replace hO0 := hO0.ext hy1; apply LW.nil; refine QW.headed (hS.trans hy1) ?_; refine Sgv ?_; refine Gko 8 fun hS => ?_; refine Lc0 rfl rfl (PutText_ret o.note hnt _) ?_; rintro v2 wb2 ⟨hO2, hy2⟩; obtain ⟨q2, d2, rfl⟩ := hO2.slice; replace hO0 := hO0.ext hy2; replace hO1 := hO1.ext hy2; apply LW.nil; refine QW.headed (hS.trans hy2) ?_; refine Sgv ?_; refine Gko 9 fun hS => ?_; refine Lwl fun C wc hbC hxc hC => ?_; replace hO0 := hO0.ext hxc; replace hO1 := hO1.ext hxc; replace hO2 := hO2.ext hxc; apply LW.nil; refine QW.headed (hS.trans hxc) ?_; refine Sgv ?_; refine Gko 10 fun hS => ?_; refine Lc0 rfl rfl (Concat_ret [putL o.kids, putL o.parents, putT o.note] (some ⟨C, 0, none⟩) 3 _ (pieces3 hC hO0 hO1 hO2) (by simp; omega) (by simp; omega)) ?_; rintro v wd ⟨hOd, hyd⟩; have hSd := hS.size; apply LW.nil; refine QW.headed (hS.trans hyd) ?_; refine GW.tail rfl (by kernel_rfl) (fun hS => ?_); refine Su ?_; refine QW.body1 Tryz.results62 rfl ⟨?_, hx1.trans hS⟩; have := hOd.low (lo' := w.heap.size) (by have := hx1.size; omega); rw [show [putL o.kids, putL o.parents, putT o.note].flatten = putL o.kids ++ putL o.parents ++ putT o.note by simp] at this; exact this
def bodyF (k : Int) : FuncId := if k = 1 then 59 else if k = 2 then 60 else if k = 3 then 61 else 62
def bodyB (o : ObjD) : List UInt8 :=
 if o.kind = 1 then putN o.rows.length ++ o.rows.flatMap putL
 else if o.kind = 2 then putT o.name ++ putN o.cols.toNat ++ putL o.kids
 else if o.kind = 3 then putL o.kids
 else putL o.kids ++ putL o.parents ++ putT o.note
theorem bytesO_eq (o : ObjD) : bytesO o = putN o.kind.toNat ++ bodyB o := rfl
theorem bodies_ret (k : Int) (w : World) : Ret Tryz.prog 31 [.int .i64 k] w (fun v w' => v = .func (.func (bodyF k)) ⟨[]⟩ ⟨[]⟩ ∧ Ext w w') := by
 refine Rte Tryz.func31 Tryz.ntmps31 ?_; refine Su ?_; refine Cwc (fun h1 => ?_) fun h1 => ?_
 ·have h1 : k = 1 := by simpa using h1
  refine Su ?_; exact QW.body1 Tryz.results31 rfl ⟨by rw [bodyF, if_pos h1], Chg.refl _ _⟩
 have h1 : k ≠ 1 := by simpa using h1
 refine Su ?_; refine Cwc (fun h2 => ?_) fun h2 => ?_
 ·have h2 : k = 2 := by simpa using h2
  refine Su ?_; exact QW.body1 Tryz.results31 rfl ⟨by rw [bodyF, if_neg h1, if_pos h2], Chg.refl _ _⟩
 have h2 : k ≠ 2 := by simpa using h2
 refine Su ?_; refine Cwc (fun h3 => ?_) fun h3 => ?_
 ·have h3 : k = 3 := by simpa using h3
  refine Su ?_; exact QW.body1 Tryz.results31 rfl ⟨by rw [bodyF, if_neg h1, if_neg h2, if_pos h3], Chg.refl _ _⟩
 have h3 : k ≠ 3 := by simpa using h3
 refine Su ?_; exact QW.body1 Tryz.results31 rfl ⟨by rw [bodyF, if_neg h1, if_neg h2, if_neg h3], Chg.refl _ _⟩
theorem chunkB_bounds {l : List (List (List UInt8))} (h : chunkB l = true) : l.length ≤ 4 ∧ ∀ r ∈ l, r.length ≤ 12 ∧ ∀ s ∈ r, s.length ≤ 1000000 := by
 simp only [chunkB, Bool.and_eq_true, decide_eq_true_eq, List.all_eq_true] at h; obtain ⟨⟨⟨h1, h2⟩, h3⟩, h4⟩ := h; exact ⟨h2, fun r hr => ⟨by rw [(h4 r hr).1]; exact h3, fun s hs => by have := mayC_len300 ((h4 r hr).2 s hs); omega⟩⟩
theorem idsB_bounds {l : List (List UInt8)} (h : idsB l = true) : ∀ s ∈ l, s.length ≤ 1000000 := fun s hs => by
 have := List.all_eq_true.1 h s hs; simp at this; omega
theorem body_ret (o : ObjD) (cs : List Value) (w : World) (h : ObjW w cs o) (hm : mayO o = true) : Ret Tryz.prog (bodyF o.kind) [.agg ⟨cs⟩] w (fun v w' => BytesO w.heap.size w' v (bodyB o) ∧ (bodyB o).length ≤ 5000000000 ∧ Ext w w') := by
 have hm' := hm; rw [mayO] at hm; simp only [Bool.and_eq_true] at hm; obtain ⟨⟨hk, hp⟩, hm⟩ := hm; have hk := idsB_bounds hk; have hp := idsB_bounds hp; rcases may_kind hm' with e | e | e | e
 ·rw [e] at hm ⊢; simp only [if_pos, Bool.and_eq_true, decide_eq_true_eq] at hm; obtain ⟨-, hc⟩ := hm; obtain ⟨b1, b2⟩ := chunkB_bounds hc; have eb : bodyB o = putN o.rows.length ++ o.rows.flatMap putL := by rw [bodyB, if_pos e]
  rw [eb]; refine (putChunk_ret o cs w h b1 b2).mono fun v w' ⟨h1, h2⟩ => ⟨h1, ?_, h2⟩; have := rows_bound b2; have := putN_len10 (n := o.rows.length) (by omega); rw [List.length_append]; omega
 ·rw [e] at hm ⊢; simp only [if_neg (show ¬ (2 : Int) = 1 by decide), if_pos, Bool.and_eq_true, decide_eq_true_eq] at hm; obtain ⟨⟨⟨⟨-, hn⟩, c1⟩, c2⟩, hl⟩ := hm; obtain ⟨m, hmm⟩ : ∃ c : Nat, o.cols = c := ⟨o.cols.toNat, by omega⟩; have hn12 := (name_parts hn).2.1; have eb : bodyB o = putT o.name ++ putN m ++ putL o.kids := by rw [bodyB, if_neg (by rw [e]; decide), if_pos e, hmm]; rfl
  rw [eb]; refine (putSheet_ret o cs w h m hmm (by omega) (by omega) (by omega) hk).mono fun v w' ⟨h1, h2⟩ => ⟨h1, ?_, h2⟩; have := putT_len (s := o.name) (by omega); have := putN_len10 (n := m) (by omega); have := putL_len (l := o.kids) (by omega) hk; rw [List.length_append, List.length_append]; omega
 ·rw [e] at hm ⊢; simp only [if_neg (show ¬ (3 : Int) = 1 by decide), if_neg (show ¬ (3 : Int) = 2 by decide), if_pos, Bool.and_eq_true, decide_eq_true_eq] at hm; obtain ⟨-, hl⟩ := hm; have eb : bodyB o = putL o.kids := by rw [bodyB, if_neg (by rw [e]; decide), if_neg (by rw [e]; decide), if_pos e]
  rw [eb]; refine (putBook_ret o cs w h (by omega) hk).mono fun v w' ⟨h1, h2⟩ => ⟨h1, ?_, h2⟩; have := putL_len (l := o.kids) (by omega) hk; omega
 ·rw [e] at hm ⊢; simp only [if_neg (show ¬ (4 : Int) = 1 by decide), if_neg (show ¬ (4 : Int) = 2 by decide), if_neg (show ¬ (4 : Int) = 3 by decide), if_pos, Bool.and_eq_true, decide_eq_true_eq] at hm; obtain ⟨⟨⟨-, hl⟩, hl2⟩, hnt⟩ := hm; have eb : bodyB o = putL o.kids ++ putL o.parents ++ putT o.note := by rw [bodyB, if_neg (by rw [e]; decide), if_neg (by rw [e]; decide), if_neg (by rw [e]; decide)]
  rw [eb]; refine (putCommit_ret o cs w h (by omega) (by omega) hk (by omega) hp).mono fun v w' ⟨h1, h2⟩ => ⟨h1, ?_, h2⟩; have := putT_len (s := o.note) (by omega); have := putL_len (l := o.parents) (by omega) hp; have := putL_len (l := o.kids) (by omega) hk; rw [List.length_append, List.length_append]; omega
set_option maxRecDepth 8000 in
set_option maxHeartbeats 2000000 in
theorem oPut_ret (o : ObjD) (cs : List Value) (w : World) (g : Glob w) (h : ObjW w cs o) : Ret Tryz.prog 12 [.agg ⟨cs⟩] w (fun v w' => BytesO w.heap.size w' v (putO o) ∧ Ext w w') := by
 have hW := h; obtain ⟨rv, kv, pv, rfl, hr, hk, hp, hn, ht, k1, k2, c1, c2⟩ := h; obtain ⟨pr, cr, rfl⟩ := hr.slice; obtain ⟨pk, ck, rfl⟩ := hk.slice; obtain ⟨pp, cp, rfl⟩ := hp.slice; have hWx : ∀ w', Ext w w' → ObjW w' [.int .i64 o.kind, .slice pr o.rows.length cr, str o.name, .int .i64 o.cols, .slice pk o.kids.length ck, .slice pp o.parents.length cp, str o.note] o := fun w' x => ⟨_, _, _, rfl, RowsW.ext hr x, TextsW.ext hk x, TextsW.ext hp x, hn, ht, k1, k2, c1, c2⟩; refine Rte Tryz.func12 Tryz.ntmps12 ?_; refine Su ?_; refine Lwb fun A w1 hbA hx1 hA => ?_; replace hA : Blk w1 A [.int .i64 o.kind, .slice pr o.rows.length cr, str o.name, .int .i64 o.cols, .slice pk o.kids.length ck, .slice pp o.parents.length cp, str o.note] 25 := hA; refine Su ?_; refine Lc0 rfl rfl (oMay_ret o _ w1 (g.ext hx1) (hWx w1 hx1)) ?_; rintro v w2 ⟨rfl, hx2'⟩; have hx2 := hx1.trans hx2'; replace hA := hA.ext hx2'; refine Su ?_; refine Cwc (fun hm => ?_) fun hm => ?_
 ·have hm : mayO o = false := by simpa using hm
  refine Su ?_; refine QW.body1 Tryz.results12 rfl ⟨?_, hx2⟩; rw [putO, hm]; exact Own.nil _ _ _ _
 have hm : mayO o = true := by simpa using hm
 obtain ⟨m, hkm, hm4⟩ : ∃ m : Nat, o.kind = (m : Int) ∧ m ≤ 4 := by
  rcases may_kind hm with e | e | e | e
  ·exact ⟨1, e, by omega⟩
  ·exact ⟨2, e, by omega⟩
  ·exact ⟨3, e, by omega⟩
  ·exact ⟨4, e, by omega⟩
 have ep : putO o = putN m ++ bodyB o := by rw [putO, if_pos hm, bytesO_eq, hkm]; rfl
 have hb := fun w' x => body_ret o _ w' (hWx w' x) hm; rw [hkm] at hA hb; rw [ep]; have hp10 := putN_len10 (n := m) (by omega); refine Su ?_; refine CW.drawG (Ext w2) 8 (fun w' h => h) (by kernel_rfl) fun wa hxa => ?_; refine Sgv ?_; refine Gko 2 fun hS => ?_; refine Lc0 rfl rfl (Put_ret m (by omega) _) ?_; rintro v0 wb0 ⟨hO0, hy0⟩; obtain ⟨q0, d0, rfl⟩ := hO0.slice; apply LW.nil; refine QW.headed (hS.trans hy0) ?_; refine Sgv ?_; refine Gko 5 fun hS => ?_; refine Lc0 rfl rfl (bodies_ret (m : Int) _) ?_; rintro v1 wb1 ⟨rfl, hy1⟩; replace hO0 := hO0.ext hy1; apply LW.nil; refine QW.headed (hS.trans hy1) ?_; refine Gko 7 fun hS => ?_; refine LW.call (fs := []) (cs := []) rfl rfl rfl (by simpa using hb _ (hx2.trans hS)) ?_; rintro v2 wb2 ⟨hO2, hlen, hy2⟩; replace hO0 := hO0.ext hy2; obtain ⟨q2, d2, rfl⟩ := hO2.slice; have hq := BytesO.bytes' hO2; apply LW.nil; refine QW.headed (hS.trans hy2) ?_; refine GW.tail rfl (by kernel_rfl) (fun hS => ?_); refine LW.append_any (lo := wa.heap.size) (k := (putN m).length) (xs := bcells (putN m)) (news := bcells (bodyB o)) rfl rfl rfl rfl rfl rfl hO0 (by have := hy0.size; have := hy1.size; have := hy2.size; omega) (by rw [bcells_len']; show _ = _ * 1; omega) hq (bcells_one _) (by show (_ + (bodyB o).length) * 2 ≤ _; omega) rfl ?_; intro v3 w3 hc3 hO3 hv3; refine Su ?_; exact QW.body1 Tryz.results12 rfl ⟨(BytesO.app hO3).low (by have := hx2.size; have := hxa.size; omega), (hx2.trans hS).step hc3 (fun b hb => by have := (hO0.lt hb).1; have := hx2.size; have := hxa.size; omega)⟩
def rbareB (o : ObjD) : Bool := (decide (o.kind = 1) || decide ((o.rows.length : Int) = 0)) && (decide (o.kind = 2) || noNameB o) && (decide (o.kind ≠ 1) || decide ((o.kids.length : Int) = 0)) && (decide (o.kind = 4) || bareB o)
set_option maxRecDepth 8000 in
set_option maxHeartbeats 4000000 in
theorem rbare_ret (o : ObjD) (cs : List Value) (w : World) (h : ObjW w cs o) : Ret Tryz.prog 26 [.agg ⟨cs⟩] w (fun v w' => v = .bool (rbareB o) ∧ Ext w w') := by
 obtain ⟨rv, kv, pv, rfl, hr, hk, hp, hn, ht, k1, k2, c1, c2⟩ := h; obtain ⟨pr, cr, rfl⟩ := hr.slice; obtain ⟨pk, ck, rfl⟩ := hk.slice; obtain ⟨pp, cp, rfl⟩ := hp.slice; refine Rte Tryz.func26 Tryz.ntmps26 ?_; refine Su ?_; refine Lwb fun A w1 hbA hx1 hA => ?_; replace hA : Blk w1 A [.int .i64 o.kind, .slice pr o.rows.length cr, str o.name, .int .i64 o.cols, .slice pk o.kids.length ck, .slice pp o.parents.length cp, str o.note] 25 := hA; refine Su ?_
 repeat' (first | (refine QW.body1 Tryz.results26 rfl ⟨?_, hx1⟩) | (refine Lwp (fun hh => ?_) fun hh => ?_ <;> refine Su ?_))
 all_goals
  congr 1
  clear hA hr hk hp hx1; simp_all [rbareB, noNameB, bareB]
theorem mayO_doc (o : ObjD) : mayO o = (rbareB o && idsB o.kids && idsB o.parents &&
 (if o.kind = 1 then chunkB o.rows
 else if o.kind = 2 then nameB o.name && decide (0 ≤ o.cols) && decide (o.cols ≤ 12) && decide ((o.kids.length : Int) ≤ 6)
 else if o.kind = 3 then decide ((o.kids.length : Int) ≤ 5)
 else if o.kind = 4 then decide ((o.kids.length : Int) = 1) && decide ((o.parents.length : Int) ≤ 2) && decide ((o.note.length : Int) ≤ 60)
 else false)) := by
 rw [mayO_eq, rbareB]; cases idsB o.kids <;> cases idsB o.parents <;> cases bareB o <;> cases noNameB o <;> cases decide ((o.rows.length : Int) = 0) <;> cases decide ((o.kids.length : Int) = 0) <;> by_cases h1 : o.kind = 1 <;> by_cases h2 : o.kind = 2 <;> by_cases h3 : o.kind = 3 <;> by_cases h4 : o.kind = 4 <;> simp [h1, h2, h3, h4]
noncomputable def rowF (n : Nat) (r : List (List UInt8)) : Bool := decide (r.length = n) && decide (r.length ≤ 12) && r.all mayC
theorem chunk_doc (l : List (List (List UInt8))) : chunkB l = (l.all (rowF (l.headD []).length) && (decide (1 ≤ (l.length : Int)) && decide ((l.length : Int) ≤ 4))) := by
 rw [Bool.eq_iff_iff]; simp only [chunkB, rowF, Bool.and_eq_true, decide_eq_true_eq, List.all_eq_true]; constructor
 ·rintro ⟨⟨⟨h1, h2⟩, h3⟩, h4⟩; exact ⟨fun r hr => ⟨⟨(h4 r hr).1, by rw [(h4 r hr).1]; exact h3⟩, (h4 r hr).2⟩, by omega, by omega⟩
 ·rintro ⟨h4, h1, h2⟩; refine ⟨⟨⟨by omega, by omega⟩, ?_⟩, fun r hr => ⟨(h4 r hr).1.1, (h4 r hr).2⟩⟩
  cases l with
  | nil => simp at h1
  | cons x t => exact (h4 x (by simp)).1.2
set_option maxRecDepth 8000 in
set_option maxHeartbeats 8000000 in
theorem roMay_ret (o : ObjD) (cs : List Value) (w : World) (h : ObjW w cs o) : Ret Tryz.prog 11 [.agg ⟨cs⟩] w (fun v w' => v = .bool (mayO o) ∧ Ext w w') := by
 obtain ⟨rv, kv, pv, rfl, hr, hk, hp, hn, ht, k1, k2, c1, c2⟩ := h; obtain ⟨pr, cr, rfl⟩ := hr.slice; obtain ⟨pk, ck, rfl⟩ := hk.slice; obtain ⟨pp, cp, rfl⟩ := hp.slice; have hrl := hr.1; have hWx : ∀ w', Ext w w' → ObjW w' [.int .i64 o.kind, .slice pr o.rows.length cr, str o.name, .int .i64 o.cols, .slice pk o.kids.length ck, .slice pp o.parents.length cp, str o.note] o := fun w' x => ⟨_, _, _, rfl, RowsW.ext hr x, TextsW.ext hk x, TextsW.ext hp x, hn, ht, k1, k2, c1, c2⟩; rw [mayO_doc]; refine Rte Tryz.func11 Tryz.ntmps11 ?_; refine Su ?_; refine Lwb fun A w1 hbA hx1 hA => ?_; replace hA : Blk w1 A [.int .i64 o.kind, .slice pr o.rows.length cr, str o.name, .int .i64 o.cols, .slice pk o.kids.length ck, .slice pp o.parents.length cp, str o.note] 25 := hA; refine Su ?_; refine Lc0 rfl rfl (rbare_ret o _ w1 (hWx w1 hx1)) ?_; rintro v w2 ⟨rfl, hx2'⟩; have hx2 := hx1.trans hx2'; replace hA := hA.ext hx2'; refine Su ?_; refine Lwp (fun h1 => ?_) fun h1 => ?_
 ·have h1 : rbareB o = false := by simpa using h1
  refine Su ?_; exact QW.body1 Tryz.results11 rfl ⟨by rw [h1]; rfl, hx2⟩
 have h1 : rbareB o = true := by simpa using h1
 refine Su ?_; refine Lc0 rfl rfl (rids_ret o.kids _ w2 (hk.ext hx2)) ?_; rintro v w3 ⟨rfl, hx3'⟩; have hx3 := hx2.trans hx3'; replace hA := hA.ext hx3'; refine Su ?_; refine Lwp (fun h2 => ?_) fun h2 => ?_
 ·have h2 : idsB o.kids = false := by simpa using h2
  refine Su ?_; exact QW.body1 Tryz.results11 rfl ⟨by rw [h1, h2]; rfl, hx3⟩
 have h2 : idsB o.kids = true := by simpa using h2
 refine Su ?_; refine Lc0 rfl rfl (rids_ret o.parents _ w3 (hp.ext hx3)) ?_; rintro v w4 ⟨rfl, hx4'⟩; have hx4 := hx3.trans hx4'; replace hA := hA.ext hx4'; refine Su ?_; refine Cwc (fun h3 => ?_) fun h3 => ?_
 ·have h3 : idsB o.parents = false := by simpa using h3
  refine Su ?_; exact QW.body1 Tryz.results11 rfl ⟨by rw [h1, h2, h3]; rfl, hx4⟩
 have h3 : idsB o.parents = true := by simpa using h3
 rw [h1, h2, h3, Bool.true_and, Bool.true_and, Bool.true_and]; refine Su ?_; refine Cwc (fun e1 => ?_) fun e1 => ?_
 ·have e1 : o.kind = 1 := by simpa using e1
  rw [if_pos e1, chunk_doc]; refine Su ?_; refine CW.loop (ι := Nat) (fun k w' => k ≤ o.rows.length ∧ Ext w4 w' ∧ (o.rows.take k).all (rowF (o.rows.headD []).length) = true) (fun k => [(1, .pointer (some ⟨A, 0, none⟩)), (3, .int .i64 k)]) (fun k => o.rows.length - k) 0 ⟨by omega, Chg.refl _ _, rfl⟩ Sub2 ?_; rintro k w5 ⟨hk5, hx5, hno⟩; replace hA := hA.ext hx5; have hr5 := RowsW.ext hr (hx4.trans hx5); refine Su ?_; refine Cwc (fun h5 => ?_) fun h5 => ?_; rotate_left
  ·have h5 : o.rows.length ≤ k := by simp at h5; omega
   rw [List.take_of_length_le h5] at hno; rw [hno, Bool.true_and]; refine Su ?_
   repeat' (first | (refine QW.body1 Tryz.results11 rfl ⟨?_, hx4.trans hx5⟩) | (refine Lwp (fun hh => ?_) fun hh => ?_ <;> refine Su ?_))
   all_goals
    congr 1
    clear hA hWx hr hk hp hr5; simp_all <;> omega
  have h5 : k < o.rows.length := by simp at h5; omega
  obtain ⟨r, hrk⟩ : ∃ r, o.rows[k]? = some r := ⟨_, List.getElem?_eq_getElem h5⟩; obtain ⟨r0, hr0⟩ : ∃ r, o.rows[0]? = some r := ⟨_, List.getElem?_eq_getElem (by omega)⟩; have hh : o.rows.headD [] = r0 := by
   cases hl : o.rows with
   | nil => rw [hl] at hr0; simp at hr0
   | cons x t => rw [hl] at hr0; simpa using hr0
  rw [hh] at hno ⊢; obtain ⟨a, u0, rfl, hu0, hc0⟩ := hr5.at hr0; obtain ⟨a', u, ea, hu, hc⟩ := hr5.at hrk; obtain rfl := Option.some.inj ea; obtain ⟨p0, c0, rfl⟩ := hu0.slice; obtain ⟨q, cq, rfl⟩ := hu.slice; have hl0 := hu0.1; have hlr := hu.1; replace hc0 : w5.cell? (a.add ((0 : Int).toNat * 1)) = some (.slice p0 r0.length c0) := hc0; refine Su ?_; refine Cwd ?_; refine Squ ?_; refine Qlp (fun h6 => ?_) fun h6 => ?_
  ·have h6 : r.length ≠ r0.length := by simp at h6; omega
   refine Squ ?_; refine QL.nil fun w6 hx6 => ?_; refine Su ?_; refine QW.body1 Tryz.results11 rfl ⟨?_, (hx4.trans hx5).trans hx6⟩; rw [all_bad hrk (by simp [rowF, h6])]; rfl
  have h6 : r.length = r0.length := by simp at h6; omega
  refine Squ ?_; refine QL.nil fun w6 hx6 => ?_; replace hA := hA.ext hx6; refine Su ?_; refine Cwc (fun h7 => ?_) fun h7 => ?_
  ·have h7 : 12 < r.length := by simp at h7; omega
   refine Su ?_; refine QW.body1 Tryz.results11 rfl ⟨?_, (hx4.trans hx5).trans hx6⟩; rw [all_bad hrk (by simp [rowF]; omega)]; rfl
  have h7 : r.length ≤ 12 := by simp at h7; omega
  refine Su ?_; refine CW.loop (ι := Nat) (fun j w' => j ≤ r.length ∧ Ext w6 w' ∧ (r.take j).all mayC = true) (fun j => [(1, .pointer (some ⟨A, 0, none⟩)), (3, .int .i64 k), (4, .int .i64 j)]) (fun j => r.length - j) 0 ⟨by omega, Chg.refl _ _, rfl⟩ Sub3 ?_; rintro j w7 ⟨hj, hx7, hno2⟩; replace hA := hA.ext hx7; replace hc := cell_ext (hx6.trans hx7) hc; replace hu := TextsW.ext hu (hx6.trans hx7); have hxs := (hx4.trans hx5).trans (hx6.trans hx7); refine Su ?_; refine Cwc (fun h8 => ?_) fun h8 => ?_; rotate_left
  ·have h8 : r.length ≤ j := by simp at h8; omega
   rw [List.take_of_length_le h8] at hno2; refine Su ?_; exact QW.again (k + 1) ⟨by omega, hx5.trans (hx6.trans hx7), by
    exact all_take hno hrk (by simp [rowF, h6, hno2]; omega)⟩ Sub2 (by omega)
  have h8 : j < r.length := by simp at h8; omega
  obtain ⟨s, hs⟩ : ∃ s, r[j]? = some s := ⟨_, List.getElem?_eq_getElem h8⟩; obtain ⟨a2, u2, rfl, ⟨rfl, hsl⟩, hc2⟩ := hu.at hs; refine Su ?_; refine Lc0 rfl rfl (rMayCell_ret s hsl w7) ?_; rintro v w8 ⟨rfl, hx8⟩; refine Su ?_; refine Cwc (fun h9 => ?_) fun h9 => ?_
  ·have h9 : mayC s = false := by simpa using h9
   refine Su ?_; refine QW.body1 Tryz.results11 rfl ⟨?_, hxs.trans hx8⟩; rw [all_bad hrk (by rw [rowF, all_bad hs h9]; simp)]; rfl
  have h9 : mayC s = true := by simpa using h9
  refine Su ?_; exact QW.again (j + 1) ⟨by omega, hx7.trans hx8, all_take hno2 hs h9⟩ Sub3 (by omega)
 have e1 : o.kind ≠ 1 := by simpa using e1
 rw [if_neg e1]; refine Su ?_; refine Cwc (fun e2 => ?_) fun e2 => ?_
 ·have e2 : o.kind = 2 := by simpa using e2
  rw [if_pos e2]; refine Su ?_; refine Lc0 rfl rfl (rName_ret o.name hn w4) ?_; rintro v w5 ⟨rfl, hx5'⟩; have hx5 := hx4.trans hx5'; replace hA := hA.ext hx5'; refine Su ?_
  repeat' (first | (refine QW.body1 Tryz.results11 rfl ⟨?_, hx5⟩) | (refine Lwp (fun hh => ?_) fun hh => ?_ <;> refine Su ?_))
  all_goals
   congr 1
   clear hA hWx hr hk hp; simp_all <;> omega
 have e2 : o.kind ≠ 2 := by simpa using e2
 rw [if_neg e2]; refine Su ?_; refine Cwc (fun e3 => ?_) fun e3 => ?_
 ·have e3 : o.kind = 3 := by simpa using e3
  rw [if_pos e3]; refine Su ?_; exact QW.body1 Tryz.results11 rfl ⟨rfl, hx4⟩
 have e3 : o.kind ≠ 3 := by simpa using e3
 rw [if_neg e3]; refine Su ?_; refine Cwc (fun e4 => ?_) fun e4 => ?_
 ·have e4 : o.kind = 4 := by simpa using e4
  rw [if_pos e4]; refine Su ?_
  repeat' (first | (refine QW.body1 Tryz.results11 rfl ⟨?_, hx4⟩) | (refine Lwp (fun hh => ?_) fun hh => ?_ <;> refine Su ?_))
  all_goals
   congr 1
   clear hA hWx hr hk hp; simp_all <;> omega
 have e4 : o.kind ≠ 4 := by simpa using e4
 rw [if_neg e4]; refine Su ?_; exact QW.body1 Tryz.results11 rfl ⟨rfl, hx4⟩
set_option maxRecDepth 8000 in
set_option maxHeartbeats 4000000 in
theorem roPut_ret (o : ObjD) (cs : List Value) (w : World) (h : ObjW w cs o) : Ret Tryz.prog 13 [.agg ⟨cs⟩] w (fun v w' => BytesO w.heap.size w' v (putO o) ∧ Ext w w') := by
 have hW := h; obtain ⟨rv, kv, pv, rfl, hr, hk, hp, hn, ht, k1, k2, c1, c2⟩ := h; obtain ⟨pr, cr, rfl⟩ := hr.slice; obtain ⟨pk, ck, rfl⟩ := hk.slice; obtain ⟨pp, cp, rfl⟩ := hp.slice; have hWx : ∀ w', Ext w w' → ObjW w' [.int .i64 o.kind, .slice pr o.rows.length cr, str o.name, .int .i64 o.cols, .slice pk o.kids.length ck, .slice pp o.parents.length cp, str o.note] o := fun w' x => ⟨_, _, _, rfl, RowsW.ext hr x, TextsW.ext hk x, TextsW.ext hp x, hn, ht, k1, k2, c1, c2⟩; refine Rte Tryz.func13 Tryz.ntmps13 ?_; refine Su ?_; refine Lwb fun A w1 hbA hx1 hA => ?_; replace hA : Blk w1 A [.int .i64 o.kind, .slice pr o.rows.length cr, str o.name, .int .i64 o.cols, .slice pk o.kids.length ck, .slice pp o.parents.length cp, str o.note] 25 := hA; have hAw : A < w1.heap.size := hA.lt; refine Su ?_; refine Lc0 rfl rfl (roMay_ret o _ w1 (hWx w1 hx1)) ?_; rintro v w2 ⟨rfl, hx2'⟩; have hx2 := hx1.trans hx2'; replace hA := hA.ext hx2'; refine Su ?_; refine Cwc (fun hm => ?_) fun hm => ?_
 ·have hm : mayO o = false := by simpa using hm
  refine Su ?_; refine QW.body1 Tryz.results13 rfl ⟨?_, hx2⟩; rw [putO, hm]; exact Own.nil _ _ _ _
 have hm : mayO o = true := by simpa using hm
 have ep : putO o = bytesO o := by rw [putO, if_pos hm]
 rw [ep]; have hm' := hm; rw [mayO] at hm'; simp only [Bool.and_eq_true] at hm'; obtain ⟨⟨hks, hps⟩, hm'⟩ := hm'; have hks := idsB_bounds hks; have hps := idsB_bounds hps; have hsz2 := hx2'.size; rcases may_kind hm with hkk | hkk | hkk | hkk
 ·rw [hkk] at hA hm'; have hA0 := hA; simp only [if_pos, Bool.and_eq_true, decide_eq_true_eq] at hm'; obtain ⟨-, hc⟩ := hm'; obtain ⟨b1, b2⟩ := chunkB_bounds hc; have hb1 := putN_len10 (n := o.rows.length) (by omega); have hrb := rows_bound b2; refine Su ?_; refine Lc0 rfl rfl (rPut_ret 1 (by omega) _) ?_; rintro v0 w3 ⟨hO, hx3'⟩; obtain ⟨p0, c0, rfl⟩ := hO.slice; have hx3 := hx2.trans hx3'; replace hA := hA.ext hx3'; have hAO : ∀ {w' : World} {v : Value} {k : Nat} {l : List Value} {b : Nat}, Own w' w2.heap.size 5 1 v k l → b ∈ vblk v → A < b := fun hO hb => by have := (hO.lt hb).1; omega
  refine Su ?_; have hb0 : (putN 1).length ≤ 10 := putN_len10 (by omega); refine Lc0 rfl rfl (rPut_ret o.rows.length (by omega) w3) ?_; rintro u1 wu1 ⟨hOu1, hxu1⟩; obtain ⟨pu1, cu1, rfl⟩ := hOu1.slice; have hq1 := BytesO.bytes' hOu1; replace hA := hA.ext hxu1; replace hO := hO.ext hxu1; refine Su ?_; refine LW.append_any (lo := w2.heap.size) (k := (putN 1).length) (xs := bcells (putN 1)) (news := bcells (putN o.rows.length)) rfl rfl rfl rfl rfl rfl hO (by have := Chg.size hx3'; have := hxu1.size; omega) (by rw [bcells_len']; show _ = _ * 1; omega) hq1 (bcells_one _) (by show ((putN 1).length + (putN o.rows.length).length) * 2 ≤ _; (try simp only [List.length_append]); omega) rfl ?_; intro v1 wv1 hc1 hO1 hv1; have hy1 := (hx3'.trans hxu1).step hc1 (fun b hb => by have := (hO.lt hb).1; omega); replace hA := hA.chg hc1 (fun hb => by have := hAO hO hb; omega); clear hO; have hO := BytesO.app hO1; clear hO1; refine Su ?_; have e : bytesO o = putN 1 ++ putN o.rows.length ++ o.rows.flatMap putL := by simp [bytesO, hkk]
  rw [e]; refine CW.loop (ι := Nat × Value) (fun x w' => x.1 ≤ o.rows.length ∧ Ext w2 w' ∧ BytesO w2.heap.size w' x.2 (putN 1 ++ putN o.rows.length ++ (o.rows.take x.1).flatMap putL)) (fun x => [(1, .pointer (some ⟨A, 0, none⟩)), (3, x.2), (4, .int .i64 x.1)]) (fun x => o.rows.length - x.1) (0, v1) ⟨by omega, hy1, by rw [List.take_zero, List.flatMap_nil, List.append_nil]; exact hO⟩ Sub3 ?_; rintro ⟨k, ov⟩ w5 ⟨hk5, hx5, hO5⟩; dsimp only at hk5 hO5; have hA5 : Blk w5 A _ _ := hA0.ext hx5; have hr5 := RowsW.ext hr (hx2.trans hx5); show CW _ _ _ _ _ [(1, .pointer (some ⟨A, 0, none⟩)), (3, ov), (4, .int .i64 (k : Int))] _; refine Su ?_; refine Cwc (fun h5 => ?_) fun h5 => ?_; rotate_left
  ·have h5 : k = o.rows.length := by simp at h5; omega
   subst h5; refine Su ?_; refine QW.body1 Tryz.results13 rfl ⟨?_, hx2.trans hx5⟩; rw [List.take_length] at hO5; exact hO5.low hx2.size
  have h5 : k < o.rows.length := by simp at h5; omega
  obtain ⟨r, hrk⟩ : ∃ r, o.rows[k]? = some r := ⟨_, List.getElem?_eq_getElem h5⟩; obtain ⟨a, u, rfl, hu, hc⟩ := hr5.at hrk; obtain ⟨g1, g2⟩ := b2 r (List.mem_of_getElem? hrk); obtain ⟨q, cq, rfl⟩ := hu.slice; have hb := rows_bound (l := o.rows.take k) fun x hx => b2 x (List.mem_of_mem_take hx); have hb3 : (o.rows.take k).length ≤ 4 := by rw [List.length_take]; omega
  have ht4 := putL_len12 g1 g2; refine Su ?_; refine Lc0 rfl rfl (rPutList_ret r _ w5 (hu.row (by omega) g2)) ?_; rintro u w6 ⟨hO6, hx6⟩; obtain ⟨pu, cu, rfl⟩ := hO6.slice; have hq := BytesO.bytes' hO6; replace hO5 := hO5.ext hx6; refine Su ?_; refine LW.append_any (lo := w2.heap.size) (k := (putN 1 ++ putN o.rows.length ++ (o.rows.take k).flatMap putL).length) (xs := bcells (putN 1 ++ putN o.rows.length ++ (o.rows.take k).flatMap putL)) (news := bcells (putL r)) rfl rfl rfl rfl rfl rfl hO5 (by have := hx5.size; have := hx6.size; omega) (by rw [bcells_len']; show _ = _ * 1; omega) hq (bcells_one _) (by show (_ + (putL r).length) * 2 ≤ _; simp only [List.length_append]; omega) rfl ?_; intro v7 w7 hc7 hO7 hv7; refine Su ?_; exact QW.again (k + 1, v7) ⟨h5, (hx5.trans hx6).step hc7 (fun b hb => by have := (hO5.lt hb).1; omega), by
   have := BytesO.app hO7; rw [List.append_assoc] at this; show BytesO _ _ v7 (putN 1 ++ putN o.rows.length ++ (o.rows.take (k + 1)).flatMap putL); rw [List.take_add_one, hrk, List.flatMap_append]
   simpa using this⟩ Sub3 (by show o.rows.length - (k + 1) < o.rows.length - k; omega)
 ·rw [hkk] at hA hm'; simp only [if_neg (show ¬ (2 : Int) = 1 by decide), if_pos, Bool.and_eq_true, decide_eq_true_eq] at hm'; obtain ⟨⟨⟨⟨-, hnm⟩, d1⟩, d2⟩, hl⟩ := hm'; obtain ⟨m, hmm⟩ : ∃ c : Nat, o.cols = c := ⟨o.cols.toNat, by omega⟩; rw [hmm] at hA; have hn12 := (name_parts hnm).2.1; have hb1 := putT_len (s := o.name) (by omega); have hb2 := putN_len10 (n := m) (by omega); have hb3 := putL_len (l := o.kids) (by omega) hks; refine Su ?_; refine Lc0 rfl rfl (rPut_ret 2 (by omega) _) ?_; rintro v0 w3 ⟨hO, hx3'⟩; obtain ⟨p0, c0, rfl⟩ := hO.slice; have hx3 := hx2.trans hx3'; replace hA := hA.ext hx3'; have hAO : ∀ {w' : World} {v : Value} {k : Nat} {l : List Value} {b : Nat}, Own w' w2.heap.size 5 1 v k l → b ∈ vblk v → A < b := fun hO hb => by have := (hO.lt hb).1; omega
  refine Su ?_; have hb0 : (putN 2).length ≤ 10 := putN_len10 (by omega); refine Lc0 rfl rfl (rPutText_ret o.name (by omega) w3) ?_; rintro u2 wu2 ⟨hOu2, hxu2⟩; obtain ⟨pu2, cu2, rfl⟩ := hOu2.slice; have hq2 := BytesO.bytes' hOu2; replace hA := hA.ext hxu2; replace hO := hO.ext hxu2; refine Su ?_; refine LW.append_any (lo := w2.heap.size) (k := (putN 2).length) (xs := bcells (putN 2)) (news := bcells (putT o.name)) rfl rfl rfl rfl rfl rfl hO (by have := Chg.size hx3'; have := hxu2.size; omega) (by rw [bcells_len']; show _ = _ * 1; omega) hq2 (bcells_one _) (by show ((putN 2).length + (putT o.name).length) * 2 ≤ _; (try simp only [List.length_append]); omega) rfl ?_; intro v2 wv2 hc2 hO2 hv2; have hy2 := (hx3'.trans hxu2).step hc2 (fun b hb => by have := (hO.lt hb).1; omega); replace hA := hA.chg hc2 (fun hb => by have := hAO hO hb; omega); clear hO; have hO := BytesO.app hO2; clear hO2; refine Su ?_; refine Lc0 rfl rfl (rPut_ret m (by omega) wv2) ?_; rintro u3 wu3 ⟨hOu3, hxu3⟩; obtain ⟨pu3, cu3, rfl⟩ := hOu3.slice; have hq3 := BytesO.bytes' hOu3; replace hA := hA.ext hxu3; replace hO := hO.ext hxu3; refine Su ?_; refine LW.append_any (lo := w2.heap.size) (k := (putN 2 ++ putT o.name).length) (xs := bcells (putN 2 ++ putT o.name)) (news := bcells (putN m)) rfl rfl rfl rfl rfl rfl hO (by have := Chg.size hy2; have := hxu3.size; omega) (by rw [bcells_len']; show _ = _ * 1; omega) hq3 (bcells_one _) (by show ((putN 2 ++ putT o.name).length + (putN m).length) * 2 ≤ _; (try simp only [List.length_append]); omega) rfl ?_; intro v3 wv3 hc3 hO3 hv3; have hy3 := (hy2.trans hxu3).step hc3 (fun b hb => by have := (hO.lt hb).1; omega); replace hA := hA.chg hc3 (fun hb => by have := hAO hO hb; omega); clear hO; have hO := BytesO.app hO3; clear hO3; refine Su ?_; refine Lc0 rfl rfl (rPutList_ret o.kids _ wv3 ((hk.row (by omega) hks).ext (hx2.trans hy3))) ?_; rintro u4 wu4 ⟨hOu4, hxu4⟩; obtain ⟨pu4, cu4, rfl⟩ := hOu4.slice; have hq4 := BytesO.bytes' hOu4; replace hA := hA.ext hxu4; replace hO := hO.ext hxu4; refine Su ?_; refine LW.append_any (lo := w2.heap.size) (k := (putN 2 ++ putT o.name ++ putN m).length) (xs := bcells (putN 2 ++ putT o.name ++ putN m)) (news := bcells (putL o.kids)) rfl rfl rfl rfl rfl rfl hO (by have := Chg.size hy3; have := hxu4.size; omega) (by rw [bcells_len']; show _ = _ * 1; omega) hq4 (bcells_one _) (by show ((putN 2 ++ putT o.name ++ putN m).length + (putL o.kids).length) * 2 ≤ _; (try simp only [List.length_append]); omega) rfl ?_; intro v4 wv4 hc4 hO4 hv4
  have hy4 := (hy3.trans hxu4).step hc4 (fun b hb => by have := (hO.lt hb).1; omega); replace hA := hA.chg hc4 (fun hb => by have := hAO hO hb; omega); clear hO; have hO := BytesO.app hO4; clear hO4; refine Su ?_; refine QW.body1 Tryz.results13 rfl ⟨?_, hx2.trans hy4⟩; have e : bytesO o = putN 2 ++ putT o.name ++ putN m ++ putL o.kids := by simp [bytesO, hkk, hmm]
  rw [e]; exact hO.low hx2.size
 ·rw [hkk] at hA hm'; simp only [if_neg (show ¬ (3 : Int) = 1 by decide), if_neg (show ¬ (3 : Int) = 2 by decide), if_pos, Bool.and_eq_true, decide_eq_true_eq] at hm'; obtain ⟨-, hl⟩ := hm'; have hb3 := putL_len (l := o.kids) (by omega) hks; refine Su ?_; refine Lc0 rfl rfl (rPut_ret 3 (by omega) _) ?_; rintro v0 w3 ⟨hO, hx3'⟩; obtain ⟨p0, c0, rfl⟩ := hO.slice; have hx3 := hx2.trans hx3'; replace hA := hA.ext hx3'; have hAO : ∀ {w' : World} {v : Value} {k : Nat} {l : List Value} {b : Nat}, Own w' w2.heap.size 5 1 v k l → b ∈ vblk v → A < b := fun hO hb => by have := (hO.lt hb).1; omega
  refine Su ?_; have hb0 : (putN 3).length ≤ 10 := putN_len10 (by omega); refine Lc0 rfl rfl (rPutList_ret o.kids _ w3 ((hk.row (by omega) hks).ext (hx2.trans hx3'))) ?_; rintro u5 wu5 ⟨hOu5, hxu5⟩; obtain ⟨pu5, cu5, rfl⟩ := hOu5.slice; have hq5 := BytesO.bytes' hOu5; replace hA := hA.ext hxu5; replace hO := hO.ext hxu5; refine Su ?_; refine LW.append_any (lo := w2.heap.size) (k := (putN 3).length) (xs := bcells (putN 3)) (news := bcells (putL o.kids)) rfl rfl rfl rfl rfl rfl hO (by have := Chg.size hx3'; have := hxu5.size; omega) (by rw [bcells_len']; show _ = _ * 1; omega) hq5 (bcells_one _) (by show ((putN 3).length + (putL o.kids).length) * 2 ≤ _; (try simp only [List.length_append]); omega) rfl ?_; intro v5 wv5 hc5 hO5 hv5; have hy5 := (hx3'.trans hxu5).step hc5 (fun b hb => by have := (hO.lt hb).1; omega); replace hA := hA.chg hc5 (fun hb => by have := hAO hO hb; omega); clear hO; have hO := BytesO.app hO5; clear hO5; refine Su ?_; refine QW.body1 Tryz.results13 rfl ⟨?_, hx2.trans hy5⟩; have e : bytesO o = putN 3 ++ putL o.kids := by simp [bytesO, hkk]
  rw [e]; exact hO.low hx2.size
 ·rw [hkk] at hA hm'; simp only [if_neg (show ¬ (4 : Int) = 1 by decide), if_neg (show ¬ (4 : Int) = 2 by decide), if_neg (show ¬ (4 : Int) = 3 by decide), if_pos, Bool.and_eq_true, decide_eq_true_eq] at hm'; obtain ⟨⟨⟨-, hl⟩, hl2⟩, hnt⟩ := hm'; have hb1 := putT_len (s := o.note) (by omega); have hb2 := putL_len (l := o.parents) (by omega) hps; have hb3 := putL_len (l := o.kids) (by omega) hks; refine Su ?_; refine Lc0 rfl rfl (rPut_ret 4 (by omega) _) ?_; rintro v0 w3 ⟨hO, hx3'⟩; obtain ⟨p0, c0, rfl⟩ := hO.slice; have hx3 := hx2.trans hx3'; replace hA := hA.ext hx3'; have hAO : ∀ {w' : World} {v : Value} {k : Nat} {l : List Value} {b : Nat}, Own w' w2.heap.size 5 1 v k l → b ∈ vblk v → A < b := fun hO hb => by have := (hO.lt hb).1; omega
  refine Su ?_; have hb0 : (putN 4).length ≤ 10 := putN_len10 (by omega); refine Lc0 rfl rfl (rPutList_ret o.kids _ w3 ((hk.row (by omega) hks).ext (hx2.trans hx3'))) ?_; rintro u6 wu6 ⟨hOu6, hxu6⟩; obtain ⟨pu6, cu6, rfl⟩ := hOu6.slice; have hq6 := BytesO.bytes' hOu6; replace hA := hA.ext hxu6; replace hO := hO.ext hxu6; refine Su ?_; refine LW.append_any (lo := w2.heap.size) (k := (putN 4).length) (xs := bcells (putN 4)) (news := bcells (putL o.kids)) rfl rfl rfl rfl rfl rfl hO (by have := Chg.size hx3'; have := hxu6.size; omega) (by rw [bcells_len']; show _ = _ * 1; omega) hq6 (bcells_one _) (by show ((putN 4).length + (putL o.kids).length) * 2 ≤ _; (try simp only [List.length_append]); omega) rfl ?_; intro v6 wv6 hc6 hO6 hv6; have hy6 := (hx3'.trans hxu6).step hc6 (fun b hb => by have := (hO.lt hb).1; omega); replace hA := hA.chg hc6 (fun hb => by have := hAO hO hb; omega); clear hO; have hO := BytesO.app hO6; clear hO6; refine Su ?_; refine Lc0 rfl rfl (rPutList_ret o.parents _ wv6 ((hp.row (by omega) hps).ext (hx2.trans hy6))) ?_; rintro u7 wu7 ⟨hOu7, hxu7⟩; obtain ⟨pu7, cu7, rfl⟩ := hOu7.slice; have hq7 := BytesO.bytes' hOu7; replace hA := hA.ext hxu7; replace hO := hO.ext hxu7; refine Su ?_; refine LW.append_any (lo := w2.heap.size) (k := (putN 4 ++ putL o.kids).length) (xs := bcells (putN 4 ++ putL o.kids)) (news := bcells (putL o.parents)) rfl rfl rfl rfl rfl rfl hO (by have := Chg.size hy6; have := hxu7.size; omega) (by rw [bcells_len']; show _ = _ * 1; omega) hq7 (bcells_one _) (by show ((putN 4 ++ putL o.kids).length + (putL o.parents).length) * 2 ≤ _; (try simp only [List.length_append]); omega) rfl ?_; intro v7 wv7 hc7 hO7 hv7; have hy7 := (hy6.trans hxu7).step hc7 (fun b hb => by have := (hO.lt hb).1; omega); replace hA := hA.chg hc7 (fun hb => by have := hAO hO hb; omega); clear hO; have hO := BytesO.app hO7; clear hO7; refine Su ?_; refine Lc0 rfl rfl (rPutText_ret o.note (by omega) wv7) ?_; rintro u8 wu8 ⟨hOu8, hxu8⟩; obtain ⟨pu8, cu8, rfl⟩ := hOu8.slice; have hq8 := BytesO.bytes' hOu8; replace hA := hA.ext hxu8; replace hO := hO.ext hxu8; refine Su ?_; refine LW.append_any (lo := w2.heap.size) (k := (putN 4 ++ putL o.kids ++ putL o.parents).length) (xs := bcells (putN 4 ++ putL o.kids ++ putL o.parents)) (news := bcells (putT o.note)) rfl rfl rfl rfl rfl rfl hO (by have := Chg.size hy7; have := hxu8.size; omega) (by rw [bcells_len']; show _ = _ * 1; omega) hq8 (bcells_one _) (by show ((putN 4 ++ putL o.kids ++ putL o.parents).length + (putT o.note).length) * 2 ≤ _; (try simp only [List.length_append]); omega) rfl ?_
  intro v8 wv8 hc8 hO8 hv8; have hy8 := (hy7.trans hxu8).step hc8 (fun b hb => by have := (hO.lt hb).1; omega); replace hA := hA.chg hc8 (fun hb => by have := hAO hO hb; omega); clear hO; have hO := BytesO.app hO8; clear hO8; refine Su ?_; refine QW.body1 Tryz.results13 rfl ⟨?_, hx2.trans hy8⟩; have e : bytesO o = putN 4 ++ putL o.kids ++ putL o.parents ++ putT o.note := by simp [bytesO, hkk]
  rw [e]; exact hO.low hx2.size
end Go.Proofs.YtgdohpcnpgjpaaaGreatDoor
