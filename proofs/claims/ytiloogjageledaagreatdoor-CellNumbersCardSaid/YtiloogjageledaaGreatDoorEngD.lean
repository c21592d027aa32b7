/-
  The engine, more: a deferred closure that recovers.
-/
import Derived.Test.YtiloogjageledaaGreatDoorEngC
namespace Go.E
open Go

variable {P : Program}

section
variable {Q : Exit → Act → World → Prop} {D : List Deferred} {n : Nat} {E : Env} {w : World} {l rest : List Oper} {x y : Code} {id : Nat}

theorem Ret.enterD {f : FuncId} {fn : Func} {c : Code} {args : List Value} {Φ : Value → World → Prop} (hf : P.funcs[f]? = some fn) (hb : fn.body = some c) (hn : fn.ntmps = n) (hc : callable P f = true) (hl : Nat.ble args.length n = true)
    (h : CW P c (bodyPostD P fn (RetR Φ)) [] n (argEnv 0 args) w) : Ret P f args w Φ :=
  ⟨hc, calls_of_wp_defers hf hb (by rw [hn]; unfold CW at h; exact h _ (holds_enter args n (Nat.le_of_ble_eq_true hl)))⟩

theorem LW.defer {fop : Operand} {f : FuncId} {as : List Operand} {fs vs cs : List Value} {T : TypeId} {pos : String} {af : Array Edge} {ts : Array TypeId}
    (hf : ev E fop = some (.func (.func f) ⟨fs⟩ ⟨cs⟩)) (ha : evs E as = some vs) (h : LW P l Q rest ({ target := .fn (.func f) ⟨cs⟩, args := ⟨fs ++ vs⟩ } :: D) n E w) :
    LW P l Q ({ dst := none, op := .defer { callee := .value fop, args := ⟨as⟩, argTypes := ts }, type := T, pos, after := af, guard := none } :: rest) D n E w := by
  unfold LW at *
  intro a hh
  refine wpList_plain rfl fun K hK => ?_
  have e1 := hh.eval hf
  have e2 := hh.evals ha
  unfold Oper.wp
  simp only [execOp, resolve, List.map_toArray, e2, e1, Deferred.ofValue, Sem.run_bind, Sem.run_pure, Result.andThen_ok, Oper.upon]
  have : ((⟨fs⟩ : Array Value) ++ (⟨vs⟩ : Array Value)) = ⟨fs ++ vs⟩ := by simp
  rw [this]
  refine hK _ _ (h _ ⟨by simp [Act.put, hh.defers], by simpa [Act.put] using hh.size, fun t v hv => by simpa [Act.put] using hh.val t v hv⟩)

/-- A body without a deferred call. -/
theorem QW.bodyD0 {fn : Func} {Φ : Value → World → Prop} {rs : List ResultVar} {vs : List Value} {v : Value} (hf : fn.results = ⟨rs⟩) (hv : RV P E w rs vs) (hp : packV vs = v) (h : Φ v w) :
    QW (bodyPostD P fn (RetR Φ)) .ret [] n E w := by
  unfold QW
  intro a ha
  show Leaves P fn a.tmps (RetR Φ) a.defers .returning w
  rw [ha.defers]
  exact ⟨_, results_run hf ha hv, v, by rw [hp], h⟩
/-- A body behind which a deferred function runs. -/
theorem QW.bodyD1 {fn : Func} {Φ : Value → World → Prop} {rs : List ResultVar} {f : FuncId} {vs cs : List Value} (hf : fn.results = ⟨rs⟩) (hc : callable P f = true)
    (h : CallsD P f ⟨vs ++ cs⟩ .returning w fun e u' w' => e = .returned (.tuple #[]) ∧ u' = .returning ∧ ∃ us, RV P E w' rs us ∧ Φ (packV us) w') :
    QW (bodyPostD P fn (RetR Φ)) .ret [{ target := .fn (.func f) ⟨cs⟩, args := ⟨vs⟩ }] n E w := by
  unfold QW
  intro a ha
  show Leaves P fn a.tmps (RetR Φ) a.defers .returning w
  rw [ha.defers]
  refine leaves_cons (f := f) (args := ⟨vs ++ cs⟩) (by simp) (by
    have : ((⟨vs⟩ : Array Value) ++ (⟨cs⟩ : Array Value)) = ⟨vs ++ cs⟩ := by simp
    simp only [invoke, this, run_callFunc hc]) ?_
  intro c₀ k hu
  obtain ⟨e, u', w', fr, ⟨rfl, rfl, us, hv, hp⟩, hs⟩ := h c₀ k hu
  exact ⟨.returned (.tuple #[]), .returning, w', fr, ⟨_, results_run hf ha hv, _, rfl, hp⟩, hs⟩
theorem QW.panicD1 {fn : Func} {Φ : Value → World → Prop} {rs : List ResultVar} {f : FuncId} {vs cs : List Value} {v : Value} (hf : fn.results = ⟨rs⟩) (hc : callable P f = true)
    (h : CallsD P f ⟨vs ++ cs⟩ (.panicking [{ v, recovered := false }]) w fun e u' w' => e = .returned (.tuple #[]) ∧ u' = .panicking [{ v, recovered := true }] ∧ ∃ us, RV P E w' rs us ∧ Φ (packV us) w') :
    QW (bodyPostD P fn (RetR Φ)) (.panic [{ v, recovered := false }]) [{ target := .fn (.func f) ⟨cs⟩, args := ⟨vs⟩ }] n E w := by
  unfold QW
  intro a ha
  show Leaves P fn a.tmps (RetR Φ) a.defers (.panicking [{ v, recovered := false }]) w
  rw [ha.defers]
  refine leaves_cons (f := f) (args := ⟨vs ++ cs⟩) (by simp) (by
    have : ((⟨vs⟩ : Array Value) ++ (⟨cs⟩ : Array Value)) = ⟨vs ++ cs⟩ := by simp
    simp only [invoke, this, run_callFunc hc]) ?_
  intro c₀ k hu
  obtain ⟨e, u', w', fr, ⟨rfl, rfl, us, hv, hp⟩, hs⟩ := h c₀ k hu
  exact ⟨.returned (.tuple #[]), .panicking [{ v, recovered := true }], w', fr, ⟨_, results_run hf ha hv, _, rfl, hp⟩, hs⟩

/-- What a deferred function leaves, seen from its body. -/
def PostS (P : Program) (fn : Func) (c₀ : Frame) (cs : List Frame) (u : FrameMode) (R : Ending → FrameMode → World → Prop) : Exit → Act → World → Prop := fun e a w => bodyPostS P fn c₀ cs R e a ({ c₀ with mode := u } :: cs) w
theorem QW.bodyS {fn : Func} {c₀ : Frame} {cs : List Frame} {u : FrameMode} {R : Ending → FrameMode → World → Prop} (hf : fn.results = #[]) (h : R (.returned (.tuple #[])) u w) : QW (PostS P fn c₀ cs u R) .normal [] n E w := by
  unfold QW
  exact fun a ha => ⟨ha.defers, u, rfl, _, results_run (rs := []) (vs := []) (w := w) hf ha trivial, h⟩

theorem run_recover_op {a : Act} {d : Option Tmp} {T : TypeId} {pos : String} {af : Array Edge} : (execOp a.eval { dst := d, op := .call { callee := .builtin .recover, args := #[], argTypes := #[] }, type := T, pos, after := af, guard := none }).run P w = .ok .recover w := by
  simp [execOp, resolve, invoke, builtin]

theorem recover_calls {f : FuncId} {fn : Func} {args : List Value} {u u' : FrameMode} {v : Value} {R : Ending → FrameMode → World → Prop} {d1 d2 T1 T2 : Nat} {p1 p2 : String} {a1 a2 : Array Edge}
    (hf : P.funcs[f]? = some fn) (hb : fn.body = some (.seq (.region id #[{ dst := some d1, op := .call { callee := .builtin .recover, args := #[], argTypes := #[] }, type := T1, pos := p1, after := a1, guard := none }, { dst := some d2, op := .assign (.tmp d1), type := T2, pos := p2, after := a2, guard := none }] false) y))
    (hn : fn.ntmps = n) (hl : Nat.ble args.length n = true) (h1 : Nat.blt d1 n = true) (h2 : Nat.blt d2 n = true)
    (hrec : ∀ (c₀ : Frame) (cs : List Frame), c₀.mode = u → (match recoverD (c₀ :: cs) with | some (x, cs') => (x, cs') | none => (.nilIface, c₀ :: cs)) = (v, { c₀ with mode := u' } :: cs))
    (h : ∀ c₀ cs, CW P y (PostS P fn c₀ cs u' R) [] n ((d2, v) :: (d1, v) :: argEnv 0 args) w) : CallsD P f ⟨args⟩ u w R := by
  subst hn
  refine callsD_of_wpS hf hb fun c₀ cs hu => ?_
  have hh' := holds_enter args fn.ntmps (Nat.le_of_ble_eq_true hl)
  have hr := hrec c₀ cs hu
  refine wpS_seq (wpS_region ?_)
  have hold : ∀ a : Act, Holds a [] fn.ntmps ((d2, v) :: (d1, v) :: argEnv 0 args) → Exit.thenS (y.wpS P (bodyPostS P fn c₀ cs R)) (bodyPostS P fn c₀ cs R) .normal a ({ c₀ with mode := u' } :: cs) w := fun a ha => by
    have hc := h c₀ cs
    unfold CW at hc
    exact wpS_of_wp (hc a ha)
  have step2 : ∀ a : Act, Holds a [] fn.ntmps ((d1, v) :: argEnv 0 args) → wpOpsS P #[{ dst := some d1, op := .call { callee := .builtin .recover, args := #[], argTypes := #[] }, type := T1, pos := p1, after := a1, guard := none }, { dst := some d2, op := .assign (.tmp d1), type := T2, pos := p2, after := a2, guard := none }] (Exit.thenS (y.wpS P (bodyPostS P fn c₀ cs R)) (bodyPostS P fn c₀ cs R)) [1] a ({ c₀ with mode := u' } :: cs) w := fun a ha => by
    have hv : a.eval (.tmp d1) = v := ha.eval (x := .tmp d1) (by simp [ev, look])
    have e : (execOp a.eval { dst := some d2, op := .assign (.tmp d1), type := T2, pos := p2, after := a2, guard := none }).run P w = .ok (.value v) w := by simp [execOp, hv]
    simp only [wpOpsS, List.getElem?_toArray, List.getElem?_cons_succ, List.getElem?_cons_zero, Region.wanted, if_true, e, Oper.upon]
    exact hold _ (ha.put d2 v h2)
  rw [show List.range (#[{ dst := some d1, op := .call { callee := .builtin .recover, args := #[], argTypes := #[] }, type := T1, pos := p1, after := a1, guard := none }, { dst := some d2, op := .assign (.tmp d1), type := T2, pos := p2, after := a2, guard := none }] : Array Oper).size = [0, 1] from rfl]
  unfold wpOpsS
  simp only [List.getElem?_toArray, List.getElem?_cons_zero, Region.wanted, if_true, run_recover_op]
  cases hq : recoverD (c₀ :: cs) with
  | none =>
    rw [hq] at hr
    simp only [Prod.mk.injEq] at hr
    obtain ⟨rfl, e⟩ := hr
    simp only
    rw [e]
    exact step2 _ (hh'.put d1 _ h1)
  | some z =>
    obtain ⟨z1, z2⟩ := z
    rw [hq] at hr
    simp only [Prod.mk.injEq] at hr
    obtain ⟨rfl, rfl⟩ := hr
    exact step2 _ (hh'.put d1 _ h1)
end

section
variable {Q : Exit → Act → World → Prop} {D : List Deferred} {n : Nat} {E : Env} {w : World} {l rest : List Oper} [Tab P] {x : Operand} {t T s : TypeId} {r : TRow} {d : Nat} {pos : String} {af : Array Edge} {v : Value}
theorem LW.typeAssert (hx : ev E x = some (.iface t v)) (ht : Tab.row P t = some r) (hr : isIfaceD r.desc = false) (hn : Nat.blt d n = true) (h : LW P l Q rest D n ((d, .tuple #[v, .bool true]) :: E) w) :
    LW P l Q ({ dst := some d, op := .typeAssert x s t true, type := T, pos, after := af, guard := none } :: rest) D n E w :=
  LW.val rfl rfl hn (fun a ha => by
    obtain ⟨dd, _, hb, hu⟩ := run_under ht
    have e : (Instr.typeAssert (.iface t v) s t true).run P w = .ok (.tuple #[v, .bool true]) w := by
      unfold Instr.typeAssert
      rw [Sem.run_bind, hu]
      simp only [Result.andThen_ok]
      cases dd <;> first | (simp; done) | (rw [← hb] at hr; cases hr)
    simp only [execOp, ha.eval hx, Sem.run_bind, e, Result.andThen_ok, Sem.run_pure]) h
end
end Go.E
