/-
  Joined by program out of the texts EngO EngP EngQ EngR EngS EngT EngU.
-/
import Derived.Test.YtgdohpcnpgjpaaaGreatDoorPkE
import Derived.Laws.Entries
import Derived.Laws.Unary
import Derived.Laws.Pointers
import Derived.Lib.AppendZeros
namespace Go.E
open Go
def opB : BinOp → BitVec 32 → BitVec 32 → Option (BitVec 32)
 | .add, p, q => some (p + q)
 | .and, p, q => some (p &&& q)
 | .or, p, q => some (p ||| q)
 | .xor, p, q => some (p ^^^ q)
 | _, _, _ => none
theorem wrap32 (p : BitVec 32) : IntKind.u32.wrap (p.toNat : Int) = (p.toNat : Int) := by
 have := p.isLt; simp [IntKind.wrap, IntKind.bits, IntKind.signed]; omega
theorem of32 (p : BitVec 32) : BitVec.ofInt 32 (p.toNat : Int) = p := by
 apply BitVec.eq_of_toNat_eq; simp
theorem bits32 (op : BinOp) (p q : BitVec 32) : bits op .u32 (p.toNat : Int) (q.toNat : Int) = (((match op with | .and => p &&& q | .or => p ||| q | .xor => p ^^^ q | _ => p &&& ~~~q) : BitVec 32).toNat : Int) := by
 unfold bits; show IntKind.u32.wrap (((match op with | .and => BitVec.ofInt 32 (p.toNat : Int) &&& BitVec.ofInt 32 (q.toNat : Int) | .or => BitVec.ofInt 32 (p.toNat : Int) ||| BitVec.ofInt 32 (q.toNat : Int) | .xor => BitVec.ofInt 32 (p.toNat : Int) ^^^ BitVec.ofInt 32 (q.toNat : Int) | _ => BitVec.ofInt 32 (p.toNat : Int) &&& ~~~(BitVec.ofInt 32 (q.toNat : Int))) : BitVec 32).toNat : Int) = _; rw [of32, of32, wrap32]
section
variable {P : Program} [Tab P] {w : World} {t s : TypeId} {r r' : TRow} {Q : Exit → Act → World → Prop} {D : List Deferred} {n : Nat} {E : Env} {l rest : List Oper} {x y : Operand} {d T : Nat} {pos : String} {af : Array Edge} {p q z : BitVec 32} {bop : BinOp} {ty u : TypeId} {j : IntKind} {i : Int}
omit [Tab P] in
theorem Y.b32 (hx : ev E x = some (.int .u32 (p.toNat : Int))) (hy : ev E y = some (.int .u32 (q.toNat : Int))) (hr : opB bop p q = some z) : Y P D n E w { dst := some d, op := .binOp bop t x y ty, type := T, pos, after := af, guard := none } (.int .u32 (z.toNat : Int)) := fun a ha => by
 cases bop <;> simp only [opB, Option.some.injEq, reduceCtorEq] at hr <;> subst hr <;> rw [run_bin ha hx hy rfl]
 ·simp only [binOp, ne_eq, not_true_eq_false, if_false, Op.intArith, Sem.run_pure, Result.andThen_ok]; rw [show IntKind.u32.wrap ((p.toNat : Int) + (q.toNat : Int)) = ((p + q).toNat : Int) by simp [IntKind.wrap, IntKind.bits, IntKind.signed, BitVec.toNat_add]]
 ·simp [binOp, intBits_and, bits32]
 ·simp [binOp, intBits_or, bits32]
 ·simp [binOp, intBits_xor, bits32]
omit [Tab P] in
theorem Y.shl32 (hx : ev E x = some (.int .u32 (p.toNat : Int))) (hy : ev E y = some (.int j i)) (h0 : 0 ≤ i) (h1 : i ≤ 32) : Y P D n E w { dst := some d, op := .binOp .shl t x y ty, type := T, pos, after := af, guard := none } (.int .u32 ((p <<< i.toNat).toNat : Int)) := fun a ha => by
 have hg : (eqGuard .shl t x y (.int .u32 (p.toNat : Int)) (.int j i)).run P w = .ok () w := rfl; have hneg : ¬ (i < 0) := by omega
 have hmin : min i.toNat 32 = i.toNat := by omega
 have hmin' : min i.toNat IntKind.u32.bits = i.toNat := hmin; have e : IntKind.u32.wrap ((p.toNat : Int) * 2 ^ i.toNat) = ((p <<< i.toNat).toNat : Int) := by
  rw [BitVec.toNat_shiftLeft, Nat.shiftLeft_eq]; simp [IntKind.wrap, IntKind.bits, IntKind.signed]
 simp only [execOp, ha.eval hx, ha.eval hy, Sem.run_bind, hg, Result.andThen_ok, binOp, Op.shift, hneg, if_false, hmin', e, Sem.run_pure]
omit [Tab P] in
theorem Y.shr32 (hx : ev E x = some (.int .u32 (p.toNat : Int))) (hy : ev E y = some (.int j i)) (h0 : 0 ≤ i) (h1 : i ≤ 32) : Y P D n E w { dst := some d, op := .binOp .shr t x y ty, type := T, pos, after := af, guard := none } (.int .u32 ((p >>> i.toNat).toNat : Int)) := fun a ha => by
 have hg : (eqGuard .shr t x y (.int .u32 (p.toNat : Int)) (.int j i)).run P w = .ok () w := rfl; have hneg : ¬ (i < 0) := by omega
 have hmin' : min i.toNat IntKind.u32.bits = i.toNat := by
  have : IntKind.u32.bits = 32 := rfl; omega
 have e : ((p.toNat : Int)).fdiv (2 ^ i.toNat) = ((p >>> i.toNat).toNat : Int) := by
  rw [Int.fdiv_eq_ediv_of_nonneg _ (Int.le_of_lt (Int.pow_pos (by decide))), BitVec.toNat_ushiftRight, Nat.shiftRight_eq_div_pow]; simp
 simp only [execOp, ha.eval hx, ha.eval hy, Sem.run_bind, hg, Result.andThen_ok, binOp, Op.shift, hneg, if_false, hmin', e, Sem.run_pure]
omit [Tab P] in
theorem Y.not32 (hx : ev E x = some (.int .u32 (p.toNat : Int))) : Y P D n E w { dst := some d, op := .unOp .xor t x, type := T, pos, after := af, guard := none } (.int .u32 ((~~~p).toNat : Int)) := fun a ha => by
 have e : bits .xor .u32 4294967295 (p.toNat : Int) = ((~~~p).toNat : Int) := by
  have := bits32 .xor (BitVec.allOnes 32) p; rw [show ((BitVec.allOnes 32).toNat : Int) = 4294967295 by decide] at this; rw [this]; simp only [BitVec.allOnes_xor]
 have e2 : (IntKind.u32.signed = false) := rfl; have e3 : IntKind.u32.max = 4294967295 := rfl; simp [execOp, ha.eval hx, unary_xor, e2, e3, intBits_xor, e]
theorem Y.up32 {b : UInt8} (hx : ev E x = some (.int .u8 (b.toNat : Int))) (hs : Tab.row P s = some r) (hsd : r.desc = .int .u8) (ht : Tab.row P t = some r') (htd : r'.desc = .int .u32) : Y P D n E w { dst := some d, op := .convert s t x, type := T, pos, after := af, guard := none } (.int .u32 ((BitVec.ofNat 32 b.toNat).toNat : Int)) := by
 refine Y.conv hx hs hsd ht htd ?_; have := b.toNat_lt; simp [IntKind.wrap, IntKind.bits, IntKind.signed]; omega
theorem Y.low {m : Nat} (hx : ev E x = some (.int j (m : Int))) (hs : Tab.row P s = some r) (hsd : r.desc = .int j) (ht : Tab.row P t = some r') (htd : r'.desc = .int .u8) : Y P D n E w { dst := some d, op := .convert s t x, type := T, pos, after := af, guard := none } (.int .u8 ((UInt8.ofNat m).toNat : Int)) := by
 refine Y.conv hx hs hsd ht htd ?_; simp [IntKind.wrap, IntKind.bits, IntKind.signed]
omit [Tab P] in
theorem La32 (h : LW P l Q rest D n ((d, .int .u32 (z.toNat : Int)) :: E) w) (hx : ev E x = some (.int .u32 (p.toNat : Int)) := by exact rfl) (hy : ev E y = some (.int .u32 (q.toNat : Int)) := by exact rfl) (hr : opB bop p q = some z := by exact rfl) (hn : Nat.blt d n = true := by exact rfl) : LW P l Q ({ dst := some d, op := .binOp bop t x y ty, type := T, pos, after := af, guard := none } :: rest) D n E w := LW.val rfl rfl hn (Y.b32 hx hy hr) h
omit [Tab P] in
theorem Lb32 (h : LW P l Q rest D n ((d, .int .u32 ((p <<< i.toNat).toNat : Int)) :: E) w) (hx : ev E x = some (.int .u32 (p.toNat : Int)) := by exact rfl) (hy : ev E y = some (.int j i) := by exact rfl) (h0 : 0 ≤ i := by omega) (h1 : i ≤ 32 := by omega) (hn : Nat.blt d n = true := by exact rfl) : LW P l Q ({ dst := some d, op := .binOp .shl t x y ty, type := T, pos, after := af, guard := none } :: rest) D n E w := LW.val rfl rfl hn (Y.shl32 hx hy h0 h1) h
omit [Tab P] in
theorem Lc32 (h : LW P l Q rest D n ((d, .int .u32 ((p >>> i.toNat).toNat : Int)) :: E) w) (hx : ev E x = some (.int .u32 (p.toNat : Int)) := by exact rfl) (hy : ev E y = some (.int j i) := by exact rfl) (h0 : 0 ≤ i := by omega) (h1 : i ≤ 32 := by omega) (hn : Nat.blt d n = true := by exact rfl) : LW P l Q ({ dst := some d, op := .binOp .shr t x y ty, type := T, pos, after := af, guard := none } :: rest) D n E w := LW.val rfl rfl hn (Y.shr32 hx hy h0 h1) h
omit [Tab P] in
theorem Ld32 (h : LW P l Q rest D n ((d, .int .u32 ((~~~p).toNat : Int)) :: E) w) (hx : ev E x = some (.int .u32 (p.toNat : Int)) := by exact rfl) (hn : Nat.blt d n = true := by exact rfl) : LW P l Q ({ dst := some d, op := .unOp .xor t x, type := T, pos, after := af, guard := none } :: rest) D n E w := LW.val rfl rfl hn (Y.not32 hx) h
theorem Le32 {b : UInt8} (h : LW P l Q rest D n ((d, .int .u32 ((BitVec.ofNat 32 b.toNat).toNat : Int)) :: E) w) (hx : ev E x = some (.int .u8 (b.toNat : Int)) := by exact rfl) (hs : Tab.row P s = some r := by exact rfl) (hsd : r.desc = .int .u8 := by exact rfl) (ht : Tab.row P t = some r' := by exact rfl) (htd : r'.desc = .int .u32 := by exact rfl) (hn : Nat.blt d n = true := by exact rfl) : LW P l Q ({ dst := some d, op := .convert s t x, type := T, pos, after := af, guard := none } :: rest) D n E w := LW.val rfl rfl hn (Y.up32 hx hs hsd ht htd) h
omit [Tab P] in
theorem Qa32 (h : QL P l Q rest D n ((d, .int .u32 (z.toNat : Int)) :: E) w) (hx : ev E x = some (.int .u32 (p.toNat : Int)) := by exact rfl) (hy : ev E y = some (.int .u32 (q.toNat : Int)) := by exact rfl) (hr : opB bop p q = some z := by exact rfl) (hn : Nat.blt d n = true := by exact rfl) : QL P l Q ({ dst := some d, op := .binOp bop t x y ty, type := T, pos, after := af, guard := none } :: rest) D n E w := QL.yields rfl rfl hn (fun _ _ => Y.b32 hx hy hr) h
omit [Tab P] in
theorem Qb32 (h : QL P l Q rest D n ((d, .int .u32 ((p <<< i.toNat).toNat : Int)) :: E) w) (hx : ev E x = some (.int .u32 (p.toNat : Int)) := by exact rfl) (hy : ev E y = some (.int j i) := by exact rfl) (h0 : 0 ≤ i := by omega) (h1 : i ≤ 32 := by omega) (hn : Nat.blt d n = true := by exact rfl) : QL P l Q ({ dst := some d, op := .binOp .shl t x y ty, type := T, pos, after := af, guard := none } :: rest) D n E w := QL.yields rfl rfl hn (fun _ _ => Y.shl32 hx hy h0 h1) h
omit [Tab P] in
theorem Qc32 (h : QL P l Q rest D n ((d, .int .u32 ((p >>> i.toNat).toNat : Int)) :: E) w) (hx : ev E x = some (.int .u32 (p.toNat : Int)) := by exact rfl) (hy : ev E y = some (.int j i) := by exact rfl) (h0 : 0 ≤ i := by omega) (h1 : i ≤ 32 := by omega) (hn : Nat.blt d n = true := by exact rfl) : QL P l Q ({ dst := some d, op := .binOp .shr t x y ty, type := T, pos, after := af, guard := none } :: rest) D n E w := QL.yields rfl rfl hn (fun _ _ => Y.shr32 hx hy h0 h1) h
omit [Tab P] in
theorem Qd32 (h : QL P l Q rest D n ((d, .int .u32 ((~~~p).toNat : Int)) :: E) w) (hx : ev E x = some (.int .u32 (p.toNat : Int)) := by exact rfl) (hn : Nat.blt d n = true := by exact rfl) : QL P l Q ({ dst := some d, op := .unOp .xor t x, type := T, pos, after := af, guard := none } :: rest) D n E w := QL.yields rfl rfl hn (fun _ _ => Y.not32 hx) h
theorem Qe32 {b : UInt8} (h : QL P l Q rest D n ((d, .int .u32 ((BitVec.ofNat 32 b.toNat).toNat : Int)) :: E) w) (hx : ev E x = some (.int .u8 (b.toNat : Int)) := by exact rfl) (hs : Tab.row P s = some r := by exact rfl) (hsd : r.desc = .int .u8 := by exact rfl) (ht : Tab.row P t = some r' := by exact rfl) (htd : r'.desc = .int .u32 := by exact rfl) (hn : Nat.blt d n = true := by exact rfl) : QL P l Q ({ dst := some d, op := .convert s t x, type := T, pos, after := af, guard := none } :: rest) D n E w := QL.yields rfl rfl hn (fun _ _ => Y.up32 hx hs hsd ht htd) h
end
end Go.E
namespace Go.E
open Go
section
variable {P : Program} [Tab P] {w : World} {t e : TypeId} {r r' : TRow} {Q : Exit → Act → World → Prop} {D : List Deferred} {n : Nat} {E : Env} {l rest : List Oper} {x y : Operand} {d T : Nat} {pos : String} {af : Array Edge} {k : IntKind} {i : Int} {m : Nat} {a0 : Addr} {cs : List Value} {v : Value}
theorem under_array (h : Tab.row P t = some r) (hr : r.desc = .array m e) : P.underlying t = some (.array m e) := by
 obtain ⟨d, hu, hb, _⟩ := run_under h; cases d <;> simp [bare, hr] at hb; rw [hu, hb.1, hb.2]
theorem Y.arr_addr (hx : ev E x = some (.pointer (some a0))) (hi : ev E y = some (.int k i)) (ht : Tab.row P t = some r) (hr : r.desc = .array m e) (he : Tab.row P e = some r') (h0 : 0 ≤ i) (h1 : i < m) :
  Y P D n E w { dst := some d, op := .indexAddr t x y, type := T, pos, after := af, guard := none } (.pointer (some (a0.add (i.toNat * r'.size)))) := fun a ha => by
 have hw : ∀ w : World, (underlying t).run P w = .ok (.array m e) w := fun w => run_underlying (under_array ht hr) w; simp only [execOp, ha.eval hx, ha.eval hi, Instr.indexAt, asIntOf, Instr.sureAddr, Sem.run_bind, Sem.run_pure, Result.andThen_ok, hw, h0, h1, and_self, if_true, run_size he]
theorem Y.arr_idx (hx : ev E x = some (.agg ⟨cs⟩)) (hi : ev E y = some (.int k i)) (ht : Tab.row P t = some r) (hr : r.desc = .array m e) (he : Tab.row P e = some r') (hs : Nat.beq r'.size 1 = true) (hd : isAggD r'.desc = false) (h0 : 0 ≤ i) (h1 : i < m) (hv : cs[i.toNat]? = some v) :
  Y P D n E w { dst := some d, op := .index t x y, type := T, pos, after := af, guard := none } v := fun a ha => by
 have hw : ∀ w : World, (underlying t).run P w = .ok (.array m e) w := fun w => run_underlying (under_array ht hr) w; have hs1 : r'.size = 1 := Nat.eq_of_beq_eq_true hs; have hp := run_part_one (P := P) (off := i.toNat * r'.size) (L := cs) (v := v) he hd (by rw [hs1, Nat.mul_one]; exact hv) w; simp only [execOp, ha.eval hx, ha.eval hi, Instr.index, asIntOf, Sem.run_bind, Sem.run_pure, Result.andThen_ok, hw, h0, h1, and_self, if_true, run_size he, hp]
theorem Lq (h : LW P l Q rest D n ((d, .pointer (some (a0.add (i.toNat * r'.size)))) :: E) w) (hx : ev E x = some (.pointer (some a0)) := by exact rfl) (hi : ev E y = some (.int k i) := by exact rfl) (ht : Tab.row P t = some r := by exact rfl) (hr : r.desc = .array m e := by exact rfl) (he : Tab.row P e = some r' := by exact rfl) (h0 : 0 ≤ i := by omega) (h1 : i < m := by omega) (hn : Nat.blt d n = true := by exact rfl) : LW P l Q ({ dst := some d, op := .indexAddr t x y, type := T, pos, after := af, guard := none } :: rest) D n E w := LW.val rfl rfl hn (Y.arr_addr hx hi ht hr he h0 h1) h
theorem Qq (h : QL P l Q rest D n ((d, .pointer (some (a0.add (i.toNat * r'.size)))) :: E) w) (hx : ev E x = some (.pointer (some a0)) := by exact rfl) (hi : ev E y = some (.int k i) := by exact rfl) (ht : Tab.row P t = some r := by exact rfl) (hr : r.desc = .array m e := by exact rfl) (he : Tab.row P e = some r' := by exact rfl) (h0 : 0 ≤ i := by omega) (h1 : i < m := by omega) (hn : Nat.blt d n = true := by exact rfl) : QL P l Q ({ dst := some d, op := .indexAddr t x y, type := T, pos, after := af, guard := none } :: rest) D n E w := QL.yields rfl rfl hn (fun _ _ => Y.arr_addr hx hi ht hr he h0 h1) h
theorem LW.arr_idx (hv : cs[i.toNat]? = some v) (h : LW P l Q rest D n ((d, v) :: E) w) (hx : ev E x = some (.agg ⟨cs⟩) := by exact rfl) (hi : ev E y = some (.int k i) := by exact rfl) (ht : Tab.row P t = some r := by exact rfl) (hr : r.desc = .array m e := by exact rfl) (he : Tab.row P e = some r' := by exact rfl) (hs : Nat.beq r'.size 1 = true := by exact rfl) (hd : isAggD r'.desc = false := by exact rfl) (h0 : 0 ≤ i := by omega) (h1 : i < m := by omega) (hn : Nat.blt d n = true := by exact rfl) : LW P l Q ({ dst := some d, op := .index t x y, type := T, pos, after := af, guard := none } :: rest) D n E w := LW.val rfl rfl hn (Y.arr_idx hx hi ht hr he hs hd h0 h1 hv) h
end
section
variable {P : Program} [Tab P] {w : World} {t e : TypeId} {r r' : TRow} {Q : Exit → Act → World → Prop} {D : List Deferred} {n : Nat} {E : Env} {l rest : List Oper} {d T : Nat} {pos : String} {af : Array Edge} {m : Nat} {cs : List Value}
theorem LW.buildArr {parts : List (Nat × Operand)} {vs : List (Nat × Value)} (hp : evp E parts = some vs) (ht : Tab.row P t = some r) (hr : r.desc = .array m e) (he : Tab.row P e = some r') (hc : fillG (fun i => some (i * r'.size, r'.size)) r.zero.cells.toList vs = some cs) (hn : Nat.blt d n = true)
  (h : LW P l Q rest D n ((d, .agg ⟨cs⟩) :: E) w) : LW P l Q ({ dst := some d, op := .build t ⟨parts⟩, type := T, pos, after := af, guard := none } :: rest) D n E w := by
 have hfill := fillG_eq _ vs _ hc; have e3 : (Instr.build t ⟨vs⟩).run P w = .ok (.agg ⟨cs⟩) w := by
  unfold Instr.build; simp only [Sem.run_bind, run_zero ht, Result.andThen_ok, run_underlying (under_array ht hr), run_size he]; rw [show r.zero.cells = ⟨r.zero.cells.toList⟩ from rfl, hfill]; rfl
 refine LW.val rfl rfl hn (fun a ha => ?_) h; have e0 := ha.evp hp; have e2 : (⟨parts⟩ : Array (Nat × Operand)).map (fun x => (x.1, a.eval x.2)) = ⟨vs⟩ := by rw [← e0]; simp
 simp only [execOp, e2, Sem.run_bind, e3, Result.andThen_ok, Sem.run_pure]
theorem Lha {parts : List (Nat × Operand)} {vs : List (Nat × Value)} (h : LW P l Q rest D n ((d, .agg ⟨cs⟩) :: E) w) (hp : evp E parts = some vs := by exact rfl) (ht : Tab.row P t = some r := by exact rfl) (hr : r.desc = .array m e := by exact rfl) (he : Tab.row P e = some r' := by exact rfl) (hc : fillG (fun i => some (i * r'.size, r'.size)) r.zero.cells.toList vs = some cs := by exact rfl) (hn : Nat.blt d n = true := by exact rfl) : LW P l Q ({ dst := some d, op := .build t ⟨parts⟩, type := T, pos, after := af, guard := none } :: rest) D n E w := LW.buildArr hp ht hr he hc hn h
end
theorem Su {G G' : Prop} (h : G') (hi : Hd G' → G := by intro h; (repeat (first | refine La ?_ | refine Lb ?_ | refine Lc ?_ | refine Ld ?_ | refine La32 ?_ | refine Lb32 ?_ | refine Lc32 ?_ | refine Ld32 ?_ | refine Le32 ?_ | refine Le ?_ | refine Lf ?_ | refine Lg ?_ | apply LW.nil | apply QW.then_n | apply QW.round | apply RW.succ | apply CW.seq | apply CW.region | apply CW.skip | apply CW.block | apply CW.ret | apply CW.exit | apply QW.then_ret | apply QW.then_exit | apply QW.blk_n | apply QW.blk_ret | apply QW.blk_exit | refine Ca ?_ | refine Cb ?_ | refine Cc ?_ | refine Lh ?_ | refine Lha ?_ | refine Lo ?_ | refine Lq ?_ | refine Ln ?_ | refine Lu ?_ | refine Lv ?_)); exact h.h) : G := hi ⟨h⟩
theorem Squ {G G' : Prop} (h : G') (hi : Hd G' → G := by intro h; (repeat (first | refine Qa ?_ | refine Qb ?_ | refine Qc ?_ | refine Qd ?_ | refine Qa32 ?_ | refine Qb32 ?_ | refine Qc32 ?_ | refine Qd32 ?_ | refine Qe32 ?_ | refine Qe ?_ | refine Qf ?_ | refine Qg ?_ | refine Qo ?_ | refine Qq ?_ | refine Qn ?_ | refine Qu ?_ | refine Qv ?_)); exact h.h) : G := hi ⟨h⟩
end Go.E
namespace Go.E
open Go
section
variable {P : Program} [Tab P] {w : World} {t s e : TypeId} {r r' : TRow} {Q : Exit → Act → World → Prop} {D : List Deferred} {n : Nat} {E : Env} {l rest : List Oper} {x y : Operand} {d T : Nat} {pos : String} {af : Array Edge} {p q z : BitVec 32} {bop : BinOp} {ty : TypeId} {j k : IntKind} {i : Int} {m mm : Nat} {a0 : Addr}
omit [Tab P] in
theorem Ta32 (h : TL P l mm Q rest D n ((d, .int .u32 (z.toNat : Int)) :: E) w) (hx : ev E x = some (.int .u32 (p.toNat : Int)) := by exact rfl) (hy : ev E y = some (.int .u32 (q.toNat : Int)) := by exact rfl) (hr : opB bop p q = some z := by exact rfl) (hn : Nat.blt d n = true := by exact rfl) : TL P l mm Q ({ dst := some d, op := .binOp bop t x y ty, type := T, pos, after := af, guard := none } :: rest) D n E w := TL.yields rfl rfl hn (Y.b32 hx hy hr) h
omit [Tab P] in
theorem Tb32 (h : TL P l mm Q rest D n ((d, .int .u32 ((p <<< i.toNat).toNat : Int)) :: E) w) (hx : ev E x = some (.int .u32 (p.toNat : Int)) := by exact rfl) (hy : ev E y = some (.int j i) := by exact rfl) (h0 : 0 ≤ i := by omega) (h1 : i ≤ 32 := by omega) (hn : Nat.blt d n = true := by exact rfl) : TL P l mm Q ({ dst := some d, op := .binOp .shl t x y ty, type := T, pos, after := af, guard := none } :: rest) D n E w := TL.yields rfl rfl hn (Y.shl32 hx hy h0 h1) h
omit [Tab P] in
theorem Tc32 (h : TL P l mm Q rest D n ((d, .int .u32 ((p >>> i.toNat).toNat : Int)) :: E) w) (hx : ev E x = some (.int .u32 (p.toNat : Int)) := by exact rfl) (hy : ev E y = some (.int j i) := by exact rfl) (h0 : 0 ≤ i := by omega) (h1 : i ≤ 32 := by omega) (hn : Nat.blt d n = true := by exact rfl) : TL P l mm Q ({ dst := some d, op := .binOp .shr t x y ty, type := T, pos, after := af, guard := none } :: rest) D n E w := TL.yields rfl rfl hn (Y.shr32 hx hy h0 h1) h
theorem Te32 {b : UInt8} (h : TL P l mm Q rest D n ((d, .int .u32 ((BitVec.ofNat 32 b.toNat).toNat : Int)) :: E) w) (hx : ev E x = some (.int .u8 (b.toNat : Int)) := by exact rfl) (hs : Tab.row P s = some r := by exact rfl) (hsd : r.desc = .int .u8 := by exact rfl) (ht : Tab.row P t = some r' := by exact rfl) (htd : r'.desc = .int .u32 := by exact rfl) (hn : Nat.blt d n = true := by exact rfl) : TL P l mm Q ({ dst := some d, op := .convert s t x, type := T, pos, after := af, guard := none } :: rest) D n E w := TL.yields rfl rfl hn (Y.up32 hx hs hsd ht htd) h
theorem Tq (h : TL P l mm Q rest D n ((d, .pointer (some (a0.add (i.toNat * r'.size)))) :: E) w) (hx : ev E x = some (.pointer (some a0)) := by exact rfl) (hi : ev E y = some (.int k i) := by exact rfl) (ht : Tab.row P t = some r := by exact rfl) (hr : r.desc = .array m e := by exact rfl) (he : Tab.row P e = some r' := by exact rfl) (h0 : 0 ≤ i := by omega) (h1 : i < m := by omega) (hn : Nat.blt d n = true := by exact rfl) : TL P l mm Q ({ dst := some d, op := .indexAddr t x y, type := T, pos, after := af, guard := none } :: rest) D n E w := TL.yields rfl rfl hn (Y.arr_addr hx hi ht hr he h0 h1) h
end
theorem Stu {G G' : Prop} (h : G') (hi : Hd G' → G := by intro h; (repeat (first | refine Ta ?_ | refine Ta32 ?_ | refine Tb32 ?_ | refine Tc32 ?_ | refine Te32 ?_ | refine Te ?_ | refine Tf ?_ | refine Tg ?_ | refine To ?_ | refine Tq ?_ | refine Tn ?_ | refine Tu ?_ | refine Tv ?_)); exact h.h) : G := hi ⟨h⟩
section
variable {P : Program} {S : World → Prop} {Q : Exit → Act → World → Prop} {D : List Deferred} {n m f d : Nat} {E : Env} {w : World} {l : List Oper} {ls ls' : List Bool} {v : Value} {op : Op} {T : TypeId} {pos : String} {af : Array Edge}
theorem Gu (h : GW P S l n Q f ls' D m ((d, v) :: E) w) [Tab P] (hi : l[nextP ls l ls]? = some { dst := some d, op, type := T, pos, after := af, guard := none } := by exact rfl) (hm : Nat.blt d m = true := by exact rfl)
  (hy : ∀ w, S w → Y P D m E w { dst := some d, op, type := T, pos, after := af, guard := none } v := by first | exact fun _ _ => Y.pure (by exact rfl) | exact fun _ _ => Y.b32 (by exact rfl) (by exact rfl) (by exact rfl) | exact fun _ _ => Y.field_addr (by exact rfl) (by exact rfl) | exact fun _ _ => Y.arr_addr (by exact rfl) (by exact rfl) (by exact rfl) (by exact rfl) (by exact rfl) (by omega) (by omega) | exact fun _ hw => Y.load_cell (by exact rfl) (cell_keep hw (by assumption)) (by exact rfl) (by exact rfl) | exact fun _ hw => Y.load (by exact rfl) (Blk.ext (by assumption) hw) (by exact rfl) (by exact rfl) (by exact rfl) | exact fun _ hw => Y.load_all (by exact rfl) (Blk.ext (by assumption) hw) (by exact rfl) (by exact rfl) (by exact rfl) | exact fun _ _ => Y.go (by exact rfl) (by first | omega | exact ⟨by omega, by omega⟩ | exact ⟨by omega, by omega, by omega⟩ | (simp <;> omega)))
  (hl : ls.set (nextP ls l ls) true = ls' := by exact rfl) (hin : Nat.blt (nextP ls l ls) n = true := by kernel_rfl) (hk : tailOk l n = true := by kernel_rfl) (hf : Region.free .any l.toArray ⟨ls⟩ (nextP ls l ls) = true := by kernel_rfl) (hr : (Region.ready .any l.toArray ⟨ls⟩).contains (nextP ls l ls) = true := by kernel_rfl) (ht : ∀ c a w, Q (.panic c) (a.put (some d) v) w → Q (.panic c) a w := by exact fun _ _ _ h => h) : GW P S l n Q (f + 1) ls D m E w := GW.take _ hi rfl rfl hm hy hl hin hk hf hr ht h
end
theorem Sgu {G G' : Prop} (h : G') (hi : Hd G' → G := by intro h; (repeat (refine Gu ?_)); exact h.h) : G := hi ⟨h⟩
section
variable {P : Program} {w : World} {t : TypeId} {Q : Exit → Act → World → Prop} {D : List Deferred} {n : Nat} {E : Env} {l rest : List Oper} {x : Operand} {d T : Nat} {pos : String} {af : Array Edge}
theorem Y.neg {k : IntKind} {p z : Int} (hx : ev E x = some (.int k p)) (hz : k.wrap (0 - p) = z) : Y P D n E w { dst := some d, op := .unOp .neg t x, type := T, pos, after := af, guard := none } (.int k z) := fun a ha => by
 rw [show (0 : Int) - p = -p by omega] at hz; simp [execOp, ha.eval hx, Op.unary, Op.intArith, hz]
theorem QL.neg {k : IntKind} {p z : Int} (hx : ev E x = some (.int k p)) (hz : k.wrap (0 - p) = z) (hn : Nat.blt d n = true) (h : QL P l Q rest D n ((d, .int k z) :: E) w) :
  QL P l Q ({ dst := some d, op := .unOp .neg t x, type := T, pos, after := af, guard := none } :: rest) D n E w := QL.yields rfl rfl hn (fun _ _ => Y.neg hx hz) h
theorem Y.bits {bop : BinOp} {k : IntKind} {y : Operand} {p q z : Int} {ty : TypeId} (hx : ev E x = some (.int k p)) (hy : ev E y = some (.int k q)) (hb : (match bop with | .and | .or | .xor => true | _ => false) = true) (hz : bits bop k p q = z) : Y P D n E w { dst := some d, op := .binOp bop t x y ty, type := T, pos, after := af, guard := none } (.int k z) := fun a ha => by
 subst hz; cases bop <;> simp only [Bool.false_eq_true] at hb <;> rw [run_bin ha hx hy rfl]
 ·simp [binOp, intBits_and]
 ·simp [binOp, intBits_or]
 ·simp [binOp, intBits_xor]
theorem LW.bits {bop : BinOp} {k : IntKind} {y : Operand} {p q z : Int} {ty : TypeId} (hx : ev E x = some (.int k p)) (hy : ev E y = some (.int k q)) (hb : (match bop with | .and | .or | .xor => true | _ => false) = true) (hz : bits bop k p q = z) (hn : Nat.blt d n = true) (h : LW P l Q rest D n ((d, .int k z) :: E) w) :
  LW P l Q ({ dst := some d, op := .binOp bop t x y ty, type := T, pos, after := af, guard := none } :: rest) D n E w := LW.val rfl rfl hn (Y.bits hx hy hb hz) h
theorem Y.shl {k j : IntKind} {y : Operand} {p z : Int} {m : Nat} {ty : TypeId} (hx : ev E x = some (.int k p)) (hy : ev E y = some (.int j (m : Int))) (hm : m ≤ k.bits) (hz : k.wrap (p * 2 ^ m) = z) : Y P D n E w { dst := some d, op := .binOp .shl t x y ty, type := T, pos, after := af, guard := none } (.int k z) := fun a ha => by
 have hg : (eqGuard .shl t x y (.int k p) (.int j (m : Int))).run P w = .ok () w := rfl; have hneg : ¬ ((m : Int) < 0) := by omega
 have hmin : min m k.bits = m := by omega
 simp only [execOp, ha.eval hx, ha.eval hy, Sem.run_bind, hg, Result.andThen_ok, binOp, Op.shift, hneg, if_false, Int.toNat_natCast, hmin, hz, Sem.run_pure]
theorem LW.shl {k j : IntKind} {y : Operand} {p z : Int} {m : Nat} {ty : TypeId} (hx : ev E x = some (.int k p)) (hy : ev E y = some (.int j (m : Int))) (hm : m ≤ k.bits) (hz : k.wrap (p * 2 ^ m) = z) (hn : Nat.blt d n = true) (h : LW P l Q rest D n ((d, .int k z) :: E) w) :
  LW P l Q ({ dst := some d, op := .binOp .shl t x y ty, type := T, pos, after := af, guard := none } :: rest) D n E w := LW.val rfl rfl hn (Y.shl hx hy hm hz) h
end
section
variable {P : Program} [Tab P] {w : World} {t e ty : TypeId} {r : TRow} {Q : Exit → Act → World → Prop} {D : List Deferred} {n : Nat} {E : Env} {l rest : List Oper} {x : Operand} {d T : Nat} {pos : String} {af : Array Edge}
theorem under_pointee (h : Tab.row P t = some r) (hr : r.desc = .pointer e) : P.underlying t = some (.pointer (P.pointee t)) := by
 obtain ⟨d, hu, hb, _⟩ := run_under h; cases d <;> simp [bare, hr] at hb; simp [Program.pointee, hu]
theorem Y.eql_pn {p : Option Addr} (hx : ev E x = some (.pointer p)) (ht : Tab.row P t = some r) (hr : r.desc = .pointer e) (dst : Option Tmp) :
  Y P D n E w { dst, op := .binOp .eql t x (.const (.pointer none)) ty, type := T, pos, after := af, guard := none } (.bool p.isNone) := fun a ha => by
 have hg : (eqGuard .eql t x (.const (.pointer none)) (.pointer p) (.pointer none)).run P w = .ok () w := rfl; have e2 : a.eval (.const (.pointer none)) = .pointer none := rfl; simp only [execOp, ha.eval hx, e2, Sem.run_bind, hg, Result.andThen_ok, binOp, run_equal_pointer_nil w t p (under_pointee ht hr), Sem.run_pure]
theorem LW.eql_pn {p : Option Addr} (hx : ev E x = some (.pointer p)) (ht : Tab.row P t = some r) (hr : r.desc = .pointer e) (hn : Nat.blt d n = true) (h : LW P l Q rest D n ((d, .bool p.isNone) :: E) w) :
  LW P l Q ({ dst := some d, op := .binOp .eql t x (.const (.pointer none)) ty, type := T, pos, after := af, guard := none } :: rest) D n E w := LW.val rfl rfl hn (Y.eql_pn hx ht hr _) h
end
end Go.E
namespace Go.E
open Go
def pureL : Op → Bool
 | .nilCheck _ => true
 | o => pureK o
def nextL (all : List Bool) : List Oper → List Bool → Nat
 | o :: r, b :: bs => bif b then nextL all r bs + 1 else bif pureL o.op && o.after.toList.all (fun e => bif bindG e.ground then all.getD e.on false else true) then 0 else nextL all r bs + 1
 | _, _ => 0
section
variable {P : Program} {S : World → Prop} {Q : Exit → Act → World → Prop} {D : List Deferred} {n m f d : Nat} {E : Env} {w : World} {l : List Oper} {ls ls' : List Bool} {v : Value} {op : Op} {T : TypeId} {pos : String} {af : Array Edge}
theorem Gv [Tab P] (h : GW P S l n Q f ls' D m ((d, v) :: E) w) (hi : l[nextL ls l ls]? = some { dst := some d, op, type := T, pos, after := af, guard := none } := by exact rfl) (hm : Nat.blt d m = true := by exact rfl)
  (hy : ∀ w, S w → Y P D m E w { dst := some d, op, type := T, pos, after := af, guard := none } v := by first | exact fun _ _ => Y.pure (by exact rfl) | exact fun _ _ => Y.b32 (by exact rfl) (by exact rfl) (by exact rfl) | exact fun _ _ => Y.shr32 (by exact rfl) (by exact rfl) (by omega) (by omega) | exact fun _ _ => Y.shl32 (by exact rfl) (by exact rfl) (by omega) (by omega) | exact fun _ _ => Y.not32 (by exact rfl) | exact fun _ _ => Y.field_addr (by exact rfl) (by exact rfl) | exact fun _ _ => Y.arr_addr (by exact rfl) (by exact rfl) (by exact rfl) (by exact rfl) (by exact rfl) (by omega) (by omega) | exact fun _ _ => Y.idx_addr (by exact rfl) (by exact rfl) (by exact rfl) (by exact rfl) (by exact rfl) (by omega) (by omega) | exact fun _ hw => Y.load_cell (by exact rfl) (cell_keep hw (by assumption)) (by exact rfl) (by exact rfl) | exact fun _ hw => Y.load (by exact rfl) (Blk.ext (by assumption) hw) (by exact rfl) (by exact rfl) (by exact rfl) | exact fun _ hw => Y.load_all (by exact rfl) (Blk.ext (by assumption) hw) (by exact rfl) (by exact rfl) (by exact rfl) | exact fun _ hw => Y.load_cells (by exact rfl) (fun j u hj => cell_keep hw (by apply_assumption; exact hj)) (by exact rfl) (by exact rfl) (by exact rfl) | exact fun _ _ => Y.low (by exact rfl) (by exact rfl) (by exact rfl) (by exact rfl) (by exact rfl) | exact fun _ _ => Y.go (by exact rfl) (by first | omega | exact ⟨by omega, by omega⟩ | exact ⟨by omega, by omega, by omega⟩ | (simp <;> omega)))
  (hl : ls.set (nextL ls l ls) true = ls' := by exact rfl) (hin : Nat.blt (nextL ls l ls) n = true := by kernel_rfl) (hk : tailOk l n = true := by kernel_rfl) (hf : Region.free .any l.toArray ⟨ls⟩ (nextL ls l ls) = true := by kernel_rfl) (hr : (Region.ready .any l.toArray ⟨ls⟩).contains (nextL ls l ls) = true := by kernel_rfl) (ht : ∀ c a w, Q (.panic c) (a.put (some d) v) w → Q (.panic c) a w := by exact fun _ _ _ h => h) : GW P S l n Q (f + 1) ls D m E w := GW.take _ hi rfl rfl hm hy hl hin hk hf hr ht h
end
theorem Sgv {G G' : Prop} (h : G') (hi : Hd G' → G := by intro h; (repeat (refine Gv ?_)); exact h.h) : G := hi ⟨h⟩
section
variable {P : Program} [Tab P] {w : World} {t s e : TypeId} {r r' : TRow} {Q : Exit → Act → World → Prop} {D : List Deferred} {n : Nat} {E : Env} {l rest : List Oper} {x y : Operand} {d T : Nat} {pos : String} {af : Array Edge} {p q z : BitVec 32} {j k : IntKind} {i : Int} {m mm : Nat}
omit [Tab P] in
theorem Td32 (h : TL P l mm Q rest D n ((d, .int .u32 ((~~~p).toNat : Int)) :: E) w) (hx : ev E x = some (.int .u32 (p.toNat : Int)) := by exact rfl) (hn : Nat.blt d n = true := by exact rfl) : TL P l mm Q ({ dst := some d, op := .unOp .xor t x, type := T, pos, after := af, guard := none } :: rest) D n E w := TL.yields rfl rfl hn (Y.not32 hx) h
theorem Tf32 (h : TL P l mm Q rest D n ((d, .int .u8 ((UInt8.ofNat m).toNat : Int)) :: E) w) (hx : ev E x = some (.int j (m : Int)) := by exact rfl) (hs : Tab.row P s = some r := by exact rfl) (hsd : r.desc = .int j := by exact rfl) (ht : Tab.row P t = some r' := by exact rfl) (htd : r'.desc = .int .u8 := by exact rfl) (hn : Nat.blt d n = true := by exact rfl) : TL P l mm Q ({ dst := some d, op := .convert s t x, type := T, pos, after := af, guard := none } :: rest) D n E w := TL.yields rfl rfl hn (Y.low hx hs hsd ht htd) h
end
theorem Stv {G G' : Prop} (h : G') (hi : Hd G' → G := by intro h; (repeat (first | refine Ta ?_ | refine Ta32 ?_ | refine Tb32 ?_ | refine Tc32 ?_ | refine Td32 ?_ | refine Te32 ?_ | refine Tf32 ?_ | refine Te ?_ | refine Tf ?_ | refine Tg ?_ | refine To ?_ | refine Tq ?_ | refine Tn ?_ | refine Tu ?_ | refine Tv ?_)); exact h.h) : G := hi ⟨h⟩
end Go.E
namespace Go.E
open Go
section
variable {P : Program} [Tab P] {w : World} {t s u : TypeId} {r r' r'' : TRow} {Q : Exit → Act → World → Prop} {D : List Deferred} {n : Nat} {E : Env} {l rest : List Oper} {x : Operand} {d : Nat} {pos : String} {af : Array Edge} {p : Option Addr} {len cap : Nat}
theorem Y.string_any {bs : List UInt8} (hx : ev E x = some (.slice p len cap)) (hl : bs.length = len) (hc : p = none ∧ bs.length = 0 ∨ ∃ a, p = some a ∧ ∀ j u, (bcells bs)[j]? = some u → w.cell? (a.add j) = some u)
  (hs : Tab.row P s = some r) (hsd : r.desc = .slice u) (hu : Tab.row P u = some r') (hud : r'.desc = .int .u8) (ht : Tab.row P t = some r'') (htd : r''.desc = .string) (dst : Option Tmp) (T' : TypeId) :
  Y P D n E w { dst, op := .convert s t x, type := T', pos, after := af, guard := none } (str bs) := fun a ha => by
 have hco := run_convert_bytes_string (P := P) w s t u p len cap (under_slice hs hsd) (under_int hu hud) (by
  obtain ⟨dd, hh, hb, _⟩ := run_under ht; cases dd <;> simp [bare, htd] at hb; exact hh)
 have hb : (Conv.bytesToString (.slice p len cap)).run P w = .ok (str bs) w := by
  obtain ⟨rfl, h0⟩ | ⟨a0, rfl, hc⟩ := hc
  ·have : bs = [] := List.eq_nil_of_length_eq_zero h0; subst this; rfl
  ·have hlo : (loadCells a0 len).run P w = .ok ((bs.map fun c => (c.toNat : Int)).map (Value.int .u8)).toArray w := by
    have := run_loadCells_list (P := P) (w := w) a0 ((bs.map fun c => (c.toNat : Int)).map (Value.int .u8)) (fun j v hv => hc j v (by
     rw [← hv, List.map_map]; rfl))
    simpa [hl] using this
   have hb := run_bytesToString (P := P) w a0 len cap _ hlo; have hf := foldl_push bs []; simp only [List.nil_append] at hf; rw [show ByteArray.empty = (⟨⟨[]⟩⟩ : ByteArray) from rfl, hf] at hb; exact hb
 simp only [execOp, ha.eval hx, Sem.run_bind, hco, hb, Result.andThen_ok, Sem.run_pure]
theorem LW.string_any {bs : List UInt8} {T' : TypeId} (hx : ev E x = some (.slice p len cap)) (hl : bs.length = len) (hc : p = none ∧ bs.length = 0 ∨ ∃ a, p = some a ∧ ∀ j u, (bcells bs)[j]? = some u → w.cell? (a.add j) = some u)
  (hs : Tab.row P s = some r) (hsd : r.desc = .slice u) (hu : Tab.row P u = some r') (hud : r'.desc = .int .u8) (ht : Tab.row P t = some r'') (htd : r''.desc = .string) (hn : Nat.blt d n = true) (h : LW P l Q rest D n ((d, str bs) :: E) w) :
  LW P l Q ({ dst := some d, op := .convert s t x, type := T', pos, after := af, guard := none } :: rest) D n E w := LW.val rfl rfl hn (Y.string_any hx hl hc hs hsd hu hud ht htd _ _) h
end
end Go.E
namespace Go.E
open Go
theorem zeroCells_one {z : Value} (q : Nat) : Builtin.zeroCells #[z] q = (List.replicate q z).toArray := by
 apply Array.ext'; simp only [Builtin.zeroCells]; refine List.eq_replicate_iff.2 ⟨by simp, fun b hb => ?_⟩; simp only [Array.toList_map, List.mem_map] at hb; obtain ⟨i, _, rfl⟩ := hb; simp [Nat.mod_one]
section
variable {P : Program} [Tab P] {w : World} {t tn e : TypeId} {r r' r'' : TRow} {Q : Exit → Act → World → Prop} {D : List Deferred} {n : Nat} {E : Env} {l rest : List Oper} {x y : Operand} {d T : Nat} {pos : String} {af : Array Edge}
theorem LW.append_zeros {k kn : IntKind} {m : Nat} {z : Value} (hx : ev E x = some (.slice none 0 0)) (hy : ev E y = some (.int k (m : Int))) (ht : Tab.row P t = some r) (hr : r.desc = .slice e) (he : Tab.row P e = some r') (hz : r'.zero.cells = #[z]) (hs : Nat.beq r'.size 1 = true) (htn : Tab.row P tn = some r'') (hrn : r''.desc = .int kn)
  (hm : 0 < m) (hby : m * (r'.bytes + 1) ≤ 140737488355328) (hn : Nat.blt d n = true)
  (h : ∀ b cap w', b = w.heap.size → Ext w w' → m ≤ cap → Blk w' b (List.replicate cap z) e → LW P l Q rest D n ((d, .slice (some ⟨b, 0, none⟩) m cap) :: E) w') :
  LW P l Q ({ dst := some d, op := .call { callee := .builtin .append, args := #[x, y], argTypes := #[t, tn] }, type := T, pos, after := af, guard := none } :: rest) D n E w := by
 obtain ⟨dd, hd, hb, i, hi, hiz, his, hib⟩ := Tab.ok e r' he; have hs1 : r'.size = 1 := Nat.eq_of_beq_eq_true hs; have h2 : m * (r'.bytes + 1) = m * r'.bytes + m := by rw [Nat.mul_add, Nat.mul_one]
 have hrun := Go.Lib.run_append_nil_zeros (P := P) w t tn T e i r'.zero k kn (under_slice ht hr) (under_int htn hrn) hi hiz m hm (by omega) (by omega) (by rw [hib]; omega); have hg := grownCap_ge w m 0 e; have hrep : ∀ q, Builtin.zeroCells r'.zero.cells q = (List.replicate q z).toArray := fun q => by
  rw [hz]; exact zeroCells_one q
 have ea : Builtin.zeroCells r'.zero.cells m ++ Builtin.zeroCells r'.zero.cells (grownCap w m 0 e - m) = (⟨List.replicate (grownCap w m 0 e) z⟩ : Array Value) := by
  rw [hrep, hrep]; apply Array.ext'; simp only [Array.toList_append, List.replicate_append_replicate]
  congr 1
  omega
 rw [ea] at hrun; refine LW.val rfl rfl hn (fun a ha => ?_) (h w.heap.size (grownCap w m 0 e) _ rfl ((Ext.drew w).trans (Ext.alloc _ _)) (by omega) (Blk.alloc w.drew (List.replicate (grownCap w m 0 e) z) e)); unfold execOp; simp only [resolve, invoke, builtin, Sem.run_bind, Sem.run_pure, Result.andThen_ok, List.map_toArray, List.map_cons, List.map_nil, ha.eval hx, ha.eval hy, hrun]; rfl
theorem LW.cap {p : Option Addr} {m c : Nat} (hx : ev E x = some (.slice p m c)) (ht : Tab.row P t = some r) (hr : r.desc = .slice e) (hn : Nat.blt d n = true) (h : LW P l Q rest D n ((d, .int .i64 (c : Int)) :: E) w) :
  LW P l Q ({ dst := some d, op := .call { callee := .builtin .cap, args := #[x], argTypes := #[t] }, type := T, pos, after := af, guard := none } :: rest) D n E w := by
 refine LW.val rfl rfl hn (fun a ha => ?_) h; have hu := under_slice (P := P) ht hr; have hu' : P.underlying t = some (.slice (P.elem t)) := by rw [elem_of hu]; exact hu
 have hc := run_cap_slice (P := P) (w := w) t T p m c hu'; unfold execOp; simp only [resolve, invoke, builtin, Sem.run_bind, Sem.run_pure, Result.andThen_ok, List.map_toArray, List.map_cons, List.map_nil, ha.eval hx, hc]; rfl
end
end Go.E
namespace Go.E
open Go
section
variable {P : Program} {Q K : Exit → Act → World → Prop} {D : List Deferred} {n : Nat} {E : Env} {w : World} {x y : Code} {id : Nat}
theorem CW.cutB {ι : Type} (I : ι → World → Prop) (EI : ι → Env) (hx : CW P x (Exit.inBlock id (Exit.then (Head D n I EI) Q)) D n E w)
  (hy : ∀ i w', I i w' → CW P y K D n (EI i) w') : CW P x (Exit.inBlock id (Exit.then (y.wp P K) Q)) D n E w := by
 unfold CW at hx hy ⊢; intro a ha; refine Code.wp_mono ?_ (hx a ha); intro e a' w' hq
 cases e with
 | normal => obtain ⟨i, hI, hH⟩ := hq; exact hy i w' hI a' hH
 | exit j =>
  by_cases hj : j = id
  ·subst hj; have h1 : (if j = j then Exit.then (Head D n I EI) Q .normal a' w' else Exit.then (Head D n I EI) Q (.exit j) a' w') := hq; rw [if_pos rfl] at h1; show (if j = j then _ else _); rw [if_pos rfl]; obtain ⟨i, hI, hH⟩ := h1; exact hy i w' hI a' hH
  ·have h1 : (if j = id then Exit.then (Head D n I EI) Q .normal a' w' else Exit.then (Head D n I EI) Q (.exit j) a' w') := hq; rw [if_neg hj] at h1; show (if j = id then _ else _); rw [if_neg hj]
   exact h1
 | _ => exact hq
end
section
variable {P : Program} {ops : Array Oper} {Q : Exit → Act → World → Prop} {md : Region.Mode} {S S' : World → Prop} {n : Nat}
theorem wpAnyE_weak (hS : ∀ w, S' w → S w) : ∀ (f : Nat) (listed : Array Bool) (a : Act) (w : World), wpAnyE P md ops Q S' n f listed a w → wpAnyE P md ops Q S n f listed a w
 | 0, _, _, _, h => h
 | f + 1, _, _, _, h => ⟨h.1, fun i hi => wpOp_mono (fun a' w' k => ⟨fun hin => hS w' (k.1 hin), wpAnyE_weak hS f _ a' w' k.2⟩) (h.2 i hi)⟩
end
theorem GW.rebase {P : Program} {S : World → Prop} {Q : Exit → Act → World → Prop} {D : List Deferred} {n m f : Nat} {E : Env} {w : World} {l : List Oper} {ls : List Bool} (S' : World → Prop) (hS : ∀ w, S' w → S w) (h0 : S' w) (h : GW P S' l n Q f ls D m E w) : GW P S l n Q f ls D m E w := by
 unfold GW at *; exact fun a ha _ inv => wpAnyE_weak hS f _ a w (h a ha h0 inv)
theorem QW.rebased {P : Program} {Q : Exit → Act → World → Prop} {D : List Deferred} {n m f : Nat} {E : Env} {w0 w : World} {l : List Oper} {ls : List Bool} {Q' : Exit → Act → World → Prop} (hx : Ext w0 w) (h : GW P (Ext w) l n Q f ls D m E w) : QW (Exit.then (Gp P (Ext w0) l n Q f ls) Q') .normal D m E w :=
 QW.headed hx (GW.rebase (Ext w) (fun _ h => hx.trans h) (Chg.refl _ _) h)
end Go.E
