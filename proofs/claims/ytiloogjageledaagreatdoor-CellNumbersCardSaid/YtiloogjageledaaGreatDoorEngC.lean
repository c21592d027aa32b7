/-
  The engine, more: calls that may panic, panics, regions whose order is open and that write.
-/
import Derived.Test.YtiloogjageledaaGreatDoorEngB
import Derived.StillTail
import Derived.Orders
import Derived.WalkSmall
import Derived.Recover
namespace Go.E
open Go

variable {P : Program}

/-! ### Contracts of functions that may panic -/

def EndR (Φ Ψ : Value → World → Prop) : Ending → World → Prop
  | .returned v, w' => Φ v w'
  | .panicked c, w' => ∃ v, c = [{ v, recovered := false }] ∧ Ψ v w'
  | .outgrown, _ => False
def RetP (P : Program) (f : FuncId) (args : List Value) (w : World) (Φ Ψ : Value → World → Prop) : Prop := callable P f = true ∧ Calls P f ⟨args⟩ w (EndR Φ Ψ)

theorem RetP.mono {f : FuncId} {args : List Value} {w : World} {Φ Ψ Φ' Ψ' : Value → World → Prop} (h : RetP P f args w Φ Ψ) (h1 : ∀ v w', Φ v w' → Φ' v w') (h2 : ∀ v w', Ψ v w' → Ψ' v w') : RetP P f args w Φ' Ψ' :=
  ⟨h.1, h.2.mono fun e w' he => by
    cases e with
    | returned v => exact h1 _ _ he
    | panicked c => obtain ⟨v, rfl, hv⟩ := he; exact ⟨v, rfl, h2 _ _ hv⟩
    | outgrown => exact he⟩
theorem Ret.retP {f : FuncId} {args : List Value} {w : World} {Φ Ψ : Value → World → Prop} (h : Ret P f args w Φ) : RetP P f args w Φ Ψ :=
  ⟨h.1, h.2.mono fun _ _ ⟨_, e, p⟩ => by subst e; exact p⟩

section
variable {Q : Exit → Act → World → Prop} {D : List Deferred} {n : Nat} {E : Env} {w : World} {l rest : List Oper} {x y : Code} {id : Nat}

theorem RetP.enter {f : FuncId} {fn : Func} {c : Code} {args : List Value} {Φ Ψ : Value → World → Prop} (hf : P.funcs[f]? = some fn) (hb : fn.body = some c) (hn : fn.ntmps = n) (hc : callable P f = true) (hl : Nat.ble args.length n = true)
    (h : CW P c (bodyPost P fn (EndR Φ Ψ)) [] n (argEnv 0 args) w) : RetP P f args w Φ Ψ :=
  ⟨hc, calls_of_wp hf hb (by rw [hn]; unfold CW at h; exact h _ (holds_enter args n (Nat.le_of_ble_eq_true hl)))⟩

theorem QW.bodyP {fn : Func} {Φ Ψ : Value → World → Prop} {rs : List ResultVar} {vs : List Value} {v : Value} (hf : fn.results = ⟨rs⟩) (hv : RV P E w rs vs) (hp : packV vs = v) (h : Φ v w) :
    QW (bodyPost P fn (EndR Φ Ψ)) .ret [] n E w := by unfold QW; exact fun _ ha => ⟨ha.defers, _, results_run hf ha hv, by rw [hp]; exact h⟩
theorem QW.bodyP_n {fn : Func} {Φ Ψ : Value → World → Prop} {rs : List ResultVar} {vs : List Value} {v : Value} (hf : fn.results = ⟨rs⟩) (hv : RV P E w rs vs) (hp : packV vs = v) (h : Φ v w) :
    QW (bodyPost P fn (EndR Φ Ψ)) .normal [] n E w := by unfold QW; exact fun _ ha => ⟨ha.defers, _, results_run hf ha hv, by rw [hp]; exact h⟩
theorem QW.bodyP0 {fn : Func} {Φ Ψ : Value → World → Prop} (hf : fn.results = #[]) (h : Φ (.tuple #[]) w) : QW (bodyPost P fn (EndR Φ Ψ)) .ret [] n E w := QW.bodyP (rs := []) (vs := []) hf trivial rfl h
theorem QW.bodyP0n {fn : Func} {Φ Ψ : Value → World → Prop} (hf : fn.results = #[]) (h : Φ (.tuple #[]) w) : QW (bodyPost P fn (EndR Φ Ψ)) .normal [] n E w := QW.bodyP_n (rs := []) (vs := []) hf trivial rfl h
theorem QW.bodyP1 {fn : Func} {Φ Ψ : Value → World → Prop} {s : Nat} {v : Value} (hf : fn.results = #[.tmp s]) (hv : look E s = some v) (h : Φ v w) :
    QW (bodyPost P fn (EndR Φ Ψ)) .ret [] n E w := QW.bodyP (rs := [.tmp s]) (vs := [v]) hf ⟨hv, trivial⟩ rfl h
theorem QW.panicP {fn : Func} {Φ Ψ : Value → World → Prop} {v : Value} (h : Ψ v w) : QW (bodyPost P fn (EndR Φ Ψ)) (.panic [{ v, recovered := false }]) [] n E w := by
  unfold QW; exact fun _ ha => ⟨ha.defers, v, rfl, h⟩

/-- A panic goes through whatever stands round it. -/
def Thru (Q Q' : Exit → Act → World → Prop) : Prop := ∀ c a w, Q' (.panic c) a w → Q (.panic c) a w
theorem Thru.refl : Thru Q Q := fun _ _ _ h => h
theorem Thru.next {K : Act → World → Prop} {Q' : Exit → Act → World → Prop} (h : Thru Q Q') : Thru (Exit.then K Q) Q' := fun c a w hq => h c a w hq
theorem Thru.block {Q' : Exit → Act → World → Prop} (h : Thru Q Q') : Thru (Exit.inBlock id Q) Q' := fun c a w hq => h c a w hq
theorem QW.thru {Q' : Exit → Act → World → Prop} {c : List PanicEntry} (ht : Thru Q Q') (h : QW Q' (.panic c) D n E w) : QW Q (.panic c) D n E w := by
  unfold QW at *; exact fun a ha => ht _ _ _ (h a ha)

theorem LW.callP {fop : Operand} {f : FuncId} {as : List Operand} {fs vs cs : List Value} {d : Nat} {T : TypeId} {pos : String} {af : Array Edge} {ts : Array TypeId} {Φ Ψ : Value → World → Prop}
    (hf : ev E fop = some (.func (.func f) ⟨fs⟩ ⟨cs⟩)) (ha : evs E as = some vs) (hn : Nat.blt d n = true) (hc : RetP P f (fs ++ (vs ++ cs)) w Φ Ψ)
    (hp : ∀ v w', Ψ v w' → QW Q (.panic [{ v, recovered := false }]) D n E w')
    (h : ∀ v w', Φ v w' → LW P l Q rest D n ((d, v) :: E) w') :
    LW P l Q ({ dst := some d, op := .call { callee := .value fop, args := ⟨as⟩, argTypes := ts }, type := T, pos, after := af, guard := none } :: rest) D n E w := by
  unfold LW QW at *
  intro a hh
  refine wpList_plain rfl fun K hK => ?_
  have e1 := hh.eval hf
  have e2 := hh.evals ha
  unfold Oper.wp
  simp only [execOp, resolve, List.map_toArray, e2, e1, Deferred.ofValue, Sem.run_bind, Sem.run_pure, Result.andThen_ok, invoke, run_callFunc hc.1, Oper.upon]
  refine (show Calls P f _ w _ from ?_)
  have : ((⟨fs⟩ : Array Value) ++ (⟨vs⟩ : Array Value) ++ (⟨cs⟩ : Array Value)) = ⟨fs ++ (vs ++ cs)⟩ := by simp
  rw [this]
  refine hc.2.mono ?_
  intro e w' he
  cases e with
  | returned v => exact hK _ _ (h v w' he _ (hh.put d v hn))
  | panicked c => obtain ⟨v, rfl, hv⟩ := he; exact hp v w' hv a hh
  | outgrown => exact he.elim
theorem LW.callP0 {f : FuncId} {as : List Operand} {vs : List Value} {d : Nat} {T : TypeId} {pos : String} {af : Array Edge} {ts : Array TypeId} {Φ Ψ : Value → World → Prop}
    (ha : evs E as = some vs) (hn : Nat.blt d n = true) (hc : RetP P f vs w Φ Ψ)
    (hp : ∀ v w', Ψ v w' → QW Q (.panic [{ v, recovered := false }]) D n E w')
    (h : ∀ v w', Φ v w' → LW P l Q rest D n ((d, v) :: E) w') :
    LW P l Q ({ dst := some d, op := .call { callee := .value (.func f), args := ⟨as⟩, argTypes := ts }, type := T, pos, after := af, guard := none } :: rest) D n E w :=
  LW.callP (f := f) (fs := []) (cs := []) rfl ha hn (by simpa using hc) hp h
theorem LW.panic {x : Operand} {t : TypeId} {v : Value} {dd : Option Tmp} {T : TypeId} {pos : String} {af : Array Edge} (hx : ev E x = some (.iface t v)) (h : QW Q (.panic [{ v := .iface t v, recovered := false }]) D n E w) :
    LW P l Q ({ dst := dd, op := .panic x, type := T, pos, after := af, guard := none } :: rest) D n E w := by
  unfold LW QW at *
  intro a hh
  refine wpList_plain rfl fun K hK => ?_
  unfold Oper.wp
  simp only [execOp, hh.eval hx, Sem.run_bind, run_panic_iface, Result.andThen]
  exact h a hh
end

section
variable {Q : Exit → Act → World → Prop} {D : List Deferred} {n : Nat} {E : Env} {w : World} {l rest : List Oper} [Tab P] {x : Operand} {t T : TypeId} {r : TRow} {d : Nat} {pos : String} {af : Array Edge} {v : Value}
def isIfaceD : TypeDesc → Bool
  | .interface _ => true
  | _ => false
theorem LW.mkIface (hx : ev E x = some v) (ht : Tab.row P t = some r) (hr : isIfaceD r.desc = false) (hn : Nat.blt d n = true) (h : LW P l Q rest D n ((d, .iface t v) :: E) w) :
    LW P l Q ({ dst := some d, op := .makeInterface t x, type := T, pos, after := af, guard := none } :: rest) D n E w :=
  LW.val rfl rfl hn (fun a ha => by
    obtain ⟨dd, _, hb, hu⟩ := run_under ht
    have e : (Instr.makeInterface t v).run P w = .ok (.iface t v) w := by
      unfold Instr.makeInterface
      rw [Sem.run_bind, hu]
      simp only [Result.andThen_ok]
      cases dd <;> first | rfl | (rw [← hb] at hr; cases hr)
    simp only [execOp, ha.eval hx, Sem.run_bind, e, Result.andThen_ok, Sem.run_pure]) h
/-- A field of one cell of a struct at hand. -/
theorem LW.field1 {fs : Array Field} {fl : Field} {r' : TRow} {cs : List Value} {k : Nat} (hx : ev E x = some (.agg ⟨cs⟩)) (ht : Tab.row P t = some r) (hr : r.desc = .struct fs) (hf : fs.toList[k]? = some fl) (hf' : Tab.row P fl.type = some r') (hg : isAggD r'.desc = false) (hv : cs[fl.offset]? = some v) (hn : Nat.blt d n = true)
    (h : LW P l Q rest D n ((d, v) :: E) w) : LW P l Q ({ dst := some d, op := .field t x k, type := T, pos, after := af, guard := none } :: rest) D n E w :=
  LW.val rfl rfl hn (fun a ha => by
    obtain ⟨gs, hgs, hgf⟩ := under_struct ht hr
    obtain ⟨g, hg1, hg2⟩ : ∃ g, gs[k]? = some g ∧ bareF g = fl := by
      rw [← hgf] at hf
      simpa using hf
    subst hg2
    have e : (Instr.field t (.agg ⟨cs⟩) k).run P w = .ok v w := by
      unfold Instr.field
      rw [Sem.run_bind, run_underlying hgs]
      simp only [Result.andThen_ok, hg1]
      have h2 : Tab.row P g.type = some r' := hf'
      have := run_part_one (P := P) (L := cs) (off := g.offset) h2 hg hv w
      simp [asAgg, this]
    simp only [execOp, ha.eval hx, Sem.run_bind, e, Result.andThen_ok, Sem.run_pure]) h
end

/-! ### A region whose order is open: what only reads, and then a row of operations that wait for one another -/

def TL (P : Program) (l : List Oper) (m : Nat) (Q : Exit → Act → World → Prop) (rest : List Oper) (D : List Deferred) (n : Nat) (E : Env) (w : World) : Prop :=
  ∀ a, Holds a D n E → wpStill P l.toArray w (fun a' => wpList P l.toArray Q (l.drop m) a' w) rest a

section
variable {Q : Exit → Act → World → Prop} {D : List Deferred} {n m : Nat} {E : Env} {w : World} {l rest : List Oper}
theorem CW.drawTail {t : Nat} (m : Nat) (hm : P.follows .mixedOrders = true) (hB : Region.lexTailB .any l.toArray m = true) (h : ∀ w', Ext w w' → TL P l m Q (l.take m) D n E w') : CW P (.region t l.toArray true) Q D n E w := by
  unfold CW
  exact fun a ha => wp_region_still_tail m hm hB (h _ (Ext.drew w) a ha)
theorem TL.nil (h : LW P l Q (l.drop m) D n E w) : TL P l m Q [] D n E w := by
  unfold LW at h; exact fun a ha => wpStill_nil (h a ha)
theorem TL.yields {o : Oper} {v : Value} {d : Nat} (hg : o.guard = none) (hd : o.dst = some d) (hn : Nat.blt d n = true) (hy : Y P D n E w o v) (h : TL P l m Q rest D n ((d, v) :: E) w) : TL P l m Q (o :: rest) D n E w := fun a ha => by
  refine wpStill_step fun K hK => ?_
  rw [if_pos (by simp [Region.wanted, hg])]
  unfold Oper.still
  rw [hy a ha]
  refine ⟨rfl, hK _ ?_⟩
  rw [hd]
  exact h _ (ha.put d v hn)

variable [Tab P] {op : Op} {v : Value} {C : Prop} {d : Nat} {T : TypeId} {pos : String} {af : Array Edge} {x : Operand} {t i k : Nat} {L : List Value} {T' : TypeId} {r : TRow}
theorem Ta (h : TL P l m Q rest D n ((d, v) :: E) w) (hv : pureOp P E op = some v := by exact rfl) (hn : Nat.blt d n = true := by exact rfl) : TL P l m Q ({ dst := some d, op, type := T, pos, after := af, guard := none } :: rest) D n E w := TL.yields rfl rfl hn (Y.pure hv) h
theorem Te (h : TL P l m Q rest D n ((d, v) :: E) w) (hv : opC P E op = some (v, C) := by exact rfl) (hn : Nat.blt d n = true := by exact rfl) (hC : C := by first | omega | exact ⟨by omega, by omega⟩ | exact ⟨by omega, by omega, by omega⟩ | (simp <;> omega)) : TL P l m Q ({ dst := some d, op, type := T, pos, after := af, guard := none } :: rest) D n E w := TL.yields rfl rfl hn (Y.go hv hC) h
theorem Tf (h : TL P l m Q rest D n ((d, v) :: E) w) (hx : ev E x = some (.pointer (some ⟨k, i, none⟩)) := by exact rfl) (hB : Blk w k L T' := by assumption) (hi : L[i]? = some v := by exact rfl) (ht : Tab.row P t = some r := by exact rfl) (hr : isAggD r.desc = false := by exact rfl) (hn : Nat.blt d n = true := by exact rfl) : TL P l m Q ({ dst := some d, op := .load t x, type := T, pos, after := af, guard := none } :: rest) D n E w := TL.yields rfl rfl hn (Y.load hx hB hi ht hr) h
theorem Tg (h : TL P l m Q rest D n ((d, .agg ⟨L⟩) :: E) w) (hx : ev E x = some (.pointer (some ⟨k, 0, none⟩)) := by exact rfl) (hB : Blk w k L T' := by assumption) (ht : Tab.row P t = some r := by exact rfl) (hr : isAggD r.desc = true := by exact rfl) (hs : Nat.beq r.size L.length = true := by exact rfl) (hn : Nat.blt d n = true := by exact rfl) : TL P l m Q ({ dst := some d, op := .load t x, type := T, pos, after := af, guard := none } :: rest) D n E w := TL.yields rfl rfl hn (Y.load_all hx hB ht hr hs) h
theorem Tm (h : TL P l m Q rest D n ((d, v) :: E) w) (hv : opS P E op = some (v, C) := by exact rfl) (hn : Nat.blt d n = true := by exact rfl) (hC : C := by first | omega | exact ⟨by omega, by omega⟩ | exact ⟨by omega, by omega, by omega⟩ | (simp <;> omega)) : TL P l m Q ({ dst := some d, op, type := T, pos, after := af, guard := none } :: rest) D n E w := TL.yields rfl rfl hn (Y.gs hv hC) h
end

/-! ### A region whose order is open, order by order -/

def AW (P : Program) (l : List Oper) (Q : Exit → Act → World → Prop) (f : Nat) (listed : List Bool) (D : List Deferred) (n : Nat) (E : Env) (w : World) : Prop :=
  ∀ a, Holds a D n E → wpAny P .any l.toArray Q f ⟨listed⟩ a w

section
variable {Q : Exit → Act → World → Prop} {D : List Deferred} {n f : Nat} {E : Env} {w : World} {l : List Oper} {ls : List Bool}
theorem wp_then {o : Oper} {a : Act} {ops : Array Oper} {K : Act → World → Prop} (h : o.wp P a w (wpList P ops (Exit.then K Q) []) (Exit.then K Q)) : o.wp P a w K Q := by
  have hk : ∀ a w, wpList P ops (Exit.then K Q) [] a w → K a w := fun a w h => by unfold wpList at h; exact h
  unfold Oper.wp at *
  generalize (execOp a.eval o).run P w = r at *
  cases r with
  | ok nx w' =>
    cases nx <;> simp only [Oper.upon] at h ⊢
    case value u => exact hk _ _ h
    case skip => exact hk _ _ h
    case defer d => exact hk _ _ h
    case enter f args =>
      refine Calls.mono h fun e w'' he => ?_
      cases e with
      | returned u => exact hk _ _ he
      | panicked c => exact he
      | outgrown => exact he
    case row row args => exact Rows.mono h fun u w'' he => hk _ _ he
  | halt x w' =>
    cases x <;> simp only [Oper.upon] at h ⊢
    case panic u => exact h
theorem CW.drawAny {t : Nat} (hm : P.follows .mixedOrders = true) (h : ∀ w', Ext w w' → AW P l Q l.length (List.replicate l.length false) D n E w') : CW P (.region t l.toArray true) Q D n E w := by
  unfold CW
  exact fun a ha => wp_region_any hm (by
    have := h _ (Ext.drew w) a ha
    have e : (⟨List.replicate l.length false⟩ : Array Bool) = Array.replicate l.toArray.size false := by simp
    rw [e] at this
    simpa using this)
theorem AW.take (i : Nat) {o : Oper} {v : Value} {d : Nat} {E' : Env} {ls' : List Bool} (hi : l[i]? = some o) (hg : o.guard = none) (hd : o.dst = some d) (hn : Nat.blt d n = true) (hy : ∀ w, Y P D n E w o v) (hE : E' = (d, v) :: E) (hl : ls.set i true = ls') (hs : Region.noSelect l.toArray = true)
    (hf : Region.free .any l.toArray ⟨ls⟩ i = true) (hr : (Region.ready .any l.toArray ⟨ls⟩).contains i = true) (ht : ∀ c a w, Q (.panic c) (a.put o.dst v) w → Q (.panic c) a w)
    (h : AW P l Q f ls' D n E' w) : AW P l Q (f + 1) ls D n E w := fun a ha => by
  subst hE
  subst hl
  refine wpAny_take (oi := o) (v := v) (by simpa using hi) hs hf hr ht (.inl ⟨by simp [Region.wanted, hg], fun w => hy w a ha⟩) ?_
  have e : (⟨ls⟩ : Array Bool).setIfInBounds i true = ⟨ls.set i true⟩ := by apply Array.ext'; simp
  rw [e, hd]
  exact h _ (ha.put d v hn)
theorem AW.one (i : Nat) {o : Oper} {ls' : List Bool} (hr : Region.ready .any l.toArray ⟨ls⟩ = [i]) (hi : l[i]? = some o) (hl : ls.set i true = ls') (h : LW P l (Exit.then (wpAny P .any l.toArray Q f ⟨ls'⟩) Q) [o] D n E w) : AW P l Q (f + 1) ls D n E w := fun a ha => by
  subst hl
  refine wpAny_all hr (by simp) fun j hj => ?_
  simp only [List.mem_singleton] at hj
  subst hj
  unfold LW at h
  have h1 := h a ha
  have e : (⟨ls⟩ : Array Bool).setIfInBounds j true = ⟨ls.set j true⟩ := by apply Array.ext'; simp
  rw [e]
  have hi' : l.toArray[j]? = some o := by simpa using hi
  unfold wpOp
  simp only [hi']
  unfold wpList at h1
  split
  · rename_i hw
    rw [if_pos hw] at h1
    exact h1.imp wp_then (fun hh => hh)
  · rename_i hw
    rw [if_neg hw] at h1
    unfold wpList at h1
    exact h1
theorem AW.two (i j : Nat) {o o' : Oper} {ls' ls'' : List Bool} (hr : Region.ready .any l.toArray ⟨ls⟩ = [i, j]) (hi : l[i]? = some o) (hj : l[j]? = some o') (hl : ls.set i true = ls') (hl' : ls.set j true = ls'')
    (h : LW P l (Exit.then (wpAny P .any l.toArray Q f ⟨ls'⟩) Q) [o] D n E w) (h' : LW P l (Exit.then (wpAny P .any l.toArray Q f ⟨ls''⟩) Q) [o'] D n E w) : AW P l Q (f + 1) ls D n E w := fun a ha => by
  subst hl
  subst hl'
  have key : ∀ (k : Nat) (o : Oper), l[k]? = some o → LW P l (Exit.then (wpAny P .any l.toArray Q f ⟨ls.set k true⟩) Q) [o] D n E w → wpOp P l.toArray Q k (wpAny P .any l.toArray Q f ((⟨ls⟩ : Array Bool).setIfInBounds k true)) a w := by
    intro k o hk h
    unfold LW at h
    have h1 := h a ha
    have e : (⟨ls⟩ : Array Bool).setIfInBounds k true = ⟨ls.set k true⟩ := by apply Array.ext'; simp
    rw [e]
    have hi' : l.toArray[k]? = some o := by simpa using hk
    unfold wpOp
    simp only [hi']
    unfold wpList at h1
    split
    · rename_i hw
      rw [if_pos hw] at h1
      exact h1.imp wp_then (fun hh => hh)
    · rename_i hw
      rw [if_neg hw] at h1
      unfold wpList at h1
      exact h1
  refine wpAny_all hr (by simp) fun k hk => ?_
  simp only [List.mem_cons, List.not_mem_nil, or_false] at hk
  rcases hk with rfl | rfl
  · exact key _ _ hi h
  · exact key _ _ hj h'
theorem QW.any {Q' : Exit → Act → World → Prop} (h : AW P l Q f ls D n E w) : QW (Exit.then (wpAny P .any l.toArray Q f ⟨ls⟩) Q') .normal D n E w := by
  unfold QW; exact fun a ha => h a ha
theorem AW.done (hr : Region.ready .any l.toArray ⟨ls⟩ = []) (h : QW Q .normal D n E w) : AW P l Q f ls D n E w := by
  unfold QW at h; exact fun a ha => wpAny_done hr (h a ha) f
end
attribute [irreducible] TL AW
theorem Stz {G G' : Prop} (h : G') (hi : Hd G' → G := by intro h; (repeat (first | refine Ta ?_ | refine Te ?_ | refine Tf ?_ | refine Tg ?_ | refine Tm ?_)); exact h.h) : G := hi ⟨h⟩
end Go.E
