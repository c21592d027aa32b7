/-
  Joined by program out of the texts EngO EngP EngQ EngR EngS EngT EngU EngV EngW EngX EngY EngZ EngAA EngAB.
-/
import Derived.Test.YtabjahlbcoigcaaPkE
import Derived.Laws.Entries
import Derived.Laws.Unary
import Derived.Laws.Pointers
import Derived.Lib.AppendZeros
import Derived.RangeFuncNested
import Derived.RangeFuncBound
import Derived.RangeFuncCalls
import Derived.RangeFuncLeaves
import Derived.Sort.LoopGhostIn
import Derived.Laws.CopyRow
import Derived.Laws.IdiomCopy
import Derived.Lib.MinMax
import Derived.Laws.IdiomStrings
import Derived.OrdersIn
namespace Go.E
open Go
def opB:BinOp→BitVec 32→BitVec 32→Option (BitVec 32)
 | .add,p,q=>some (p+q)
 | .and,p,q=>some (p&&& q)
 | .or,p,q=>some (p||| q)
 | .xor,p,q=>some (p ^^^ q)
 | _,_,_=>none
theorem wrap32 (p:BitVec 32):IntKind.u32.wrap (p.toNat:Int)=(p.toNat:Int):=by
 have:=p.isLt;simp [IntKind.wrap,IntKind.bits,IntKind.signed];omega
theorem of32 (p:BitVec 32):BitVec.ofInt 32 (p.toNat:Int)=p:=by
 apply BitVec.eq_of_toNat_eq;simp
theorem bits32 (op:BinOp) (p q:BitVec 32):bits op .u32 (p.toNat:Int) (q.toNat:Int)=(((match op with | .and=>p&&& q | .or=>p||| q | .xor=>p ^^^ q | _=>p&&& ~~~q):BitVec 32).toNat:Int):=by
 unfold bits;show IntKind.u32.wrap (((match op with | .and=>BitVec.ofInt 32 (p.toNat:Int)&&& BitVec.ofInt 32 (q.toNat:Int) | .or=>BitVec.ofInt 32 (p.toNat:Int)||| BitVec.ofInt 32 (q.toNat:Int) | .xor=>BitVec.ofInt 32 (p.toNat:Int) ^^^ BitVec.ofInt 32 (q.toNat:Int) | _=>BitVec.ofInt 32 (p.toNat:Int)&&& ~~~(BitVec.ofInt 32 (q.toNat:Int))):BitVec 32).toNat:Int)=_;rw [of32,of32,wrap32]
section
variable {P:Program} [Tab P] {w:World} {t s:TypeId} {r r':TRow} {Q:Exit→Act→World→Prop} {D:List Deferred} {n:Nat} {E:Env} {l rest:List Oper} {x y:Operand} {d T:Nat} {pos:String} {af:Array Edge} {p q z:BitVec 32} {bop:BinOp} {ty u:TypeId} {j:IntKind} {i:Int}
omit [Tab P] in
theorem Y.b32 (hx:ev E x=some (.int .u32 (p.toNat:Int))) (hy:ev E y=some (.int .u32 (q.toNat:Int))) (hr:opB bop p q=some z):Y P D n E w {dst:=some d,op:=.binOp bop t x y ty,type:=T,pos,after:=af,guard:=none} (.int .u32 (z.toNat:Int)):=fun a ha=>by
 cases bop<;>simp only [opB,Option.some.injEq,reduceCtorEq] at hr<;>subst hr<;>rw [run_bin ha hx hy rfl]
 ·simp only [binOp,ne_eq,not_true_eq_false,if_false,Op.intArith,Sem.run_pure,Result.andThen_ok];rw [show IntKind.u32.wrap ((p.toNat:Int)+(q.toNat:Int))=((p+q).toNat:Int) by simp [IntKind.wrap,IntKind.bits,IntKind.signed,BitVec.toNat_add]]
 ·simp [binOp,intBits_and,bits32]
 ·simp [binOp,intBits_or,bits32]
 ·simp [binOp,intBits_xor,bits32]
omit [Tab P] in
theorem Y.shl32 (hx:ev E x=some (.int .u32 (p.toNat:Int))) (hy:ev E y=some (.int j i)) (h0:0≤i) (h1:i≤32):Y P D n E w {dst:=some d,op:=.binOp .shl t x y ty,type:=T,pos,after:=af,guard:=none} (.int .u32 ((p <<< i.toNat).toNat:Int)):=fun a ha=>by
 have hg:(eqGuard .shl t x y (.int .u32 (p.toNat:Int)) (.int j i)).run P w=.ok () w:=rfl;have hneg:¬(i<0):=by omega
 have hmin:min i.toNat 32=i.toNat:=by omega
 have hmin':min i.toNat IntKind.u32.bits=i.toNat:=hmin;have e:IntKind.u32.wrap ((p.toNat:Int)*2 ^ i.toNat)=((p <<< i.toNat).toNat:Int):=by
  rw [BitVec.toNat_shiftLeft,Nat.shiftLeft_eq];simp [IntKind.wrap,IntKind.bits,IntKind.signed]
 simp only [execOp,ha.eval hx,ha.eval hy,Sem.run_bind,hg,Result.andThen_ok,binOp,Op.shift,hneg,if_false,hmin',e,Sem.run_pure]
omit [Tab P] in
theorem Y.shr32 (hx:ev E x=some (.int .u32 (p.toNat:Int))) (hy:ev E y=some (.int j i)) (h0:0≤i) (h1:i≤32):Y P D n E w {dst:=some d,op:=.binOp .shr t x y ty,type:=T,pos,after:=af,guard:=none} (.int .u32 ((p >>> i.toNat).toNat:Int)):=fun a ha=>by
 have hg:(eqGuard .shr t x y (.int .u32 (p.toNat:Int)) (.int j i)).run P w=.ok () w:=rfl;have hneg:¬(i<0):=by omega
 have hmin':min i.toNat IntKind.u32.bits=i.toNat:=by
  have:IntKind.u32.bits=32:=rfl;omega
 have e:((p.toNat:Int)).fdiv (2 ^ i.toNat)=((p >>> i.toNat).toNat:Int):=by
  rw [Int.fdiv_eq_ediv_of_nonneg _ (Int.le_of_lt (Int.pow_pos (by decide))),BitVec.toNat_ushiftRight,Nat.shiftRight_eq_div_pow];simp
 simp only [execOp,ha.eval hx,ha.eval hy,Sem.run_bind,hg,Result.andThen_ok,binOp,Op.shift,hneg,if_false,hmin',e,Sem.run_pure]
omit [Tab P] in
theorem Y.not32 (hx:ev E x=some (.int .u32 (p.toNat:Int))):Y P D n E w {dst:=some d,op:=.unOp .xor t x,type:=T,pos,after:=af,guard:=none} (.int .u32 ((~~~p).toNat:Int)):=fun a ha=>by
 have e:bits .xor .u32 4294967295 (p.toNat:Int)=((~~~p).toNat:Int):=by
  have:=bits32 .xor (BitVec.allOnes 32) p;rw [show ((BitVec.allOnes 32).toNat:Int)=4294967295 by decide] at this;rw [this];simp only [BitVec.allOnes_xor]
 have e2:(IntKind.u32.signed=false):=rfl;have e3:IntKind.u32.max=4294967295:=rfl;simp [execOp,ha.eval hx,unary_xor,e2,e3,intBits_xor,e]
theorem Y.up32 {b:UInt8} (hx:ev E x=some (.int .u8 (b.toNat:Int))) (hs:Tab.row P s=some r) (hsd:r.desc=.int .u8) (ht:Tab.row P t=some r') (htd:r'.desc=.int .u32):Y P D n E w {dst:=some d,op:=.convert s t x,type:=T,pos,after:=af,guard:=none} (.int .u32 ((BitVec.ofNat 32 b.toNat).toNat:Int)):=by
 refine Y.conv hx hs hsd ht htd ?_;have:=b.toNat_lt;simp [IntKind.wrap,IntKind.bits,IntKind.signed];omega
theorem Y.low {m:Nat} (hx:ev E x=some (.int j (m:Int))) (hs:Tab.row P s=some r) (hsd:r.desc=.int j) (ht:Tab.row P t=some r') (htd:r'.desc=.int .u8):Y P D n E w {dst:=some d,op:=.convert s t x,type:=T,pos,after:=af,guard:=none} (.int .u8 ((UInt8.ofNat m).toNat:Int)):=by
 refine Y.conv hx hs hsd ht htd ?_;simp [IntKind.wrap,IntKind.bits,IntKind.signed]
omit [Tab P] in
theorem La32 (h:LW P l Q rest D n ((d,.int .u32 (z.toNat:Int))::E) w) (hx:ev E x=some (.int .u32 (p.toNat:Int)):=by exact rfl) (hy:ev E y=some (.int .u32 (q.toNat:Int)):=by exact rfl) (hr:opB bop p q=some z:=by exact rfl) (hn:Nat.blt d n=true:=by exact rfl):LW P l Q ({dst:=some d,op:=.binOp bop t x y ty,type:=T,pos,after:=af,guard:=none}::rest) D n E w:=LW.val rfl rfl hn (Y.b32 hx hy hr) h
omit [Tab P] in
theorem Lb32 (h:LW P l Q rest D n ((d,.int .u32 ((p <<< i.toNat).toNat:Int))::E) w) (hx:ev E x=some (.int .u32 (p.toNat:Int)):=by exact rfl) (hy:ev E y=some (.int j i):=by exact rfl) (h0:0≤i:=by omega) (h1:i≤32:=by omega) (hn:Nat.blt d n=true:=by exact rfl):LW P l Q ({dst:=some d,op:=.binOp .shl t x y ty,type:=T,pos,after:=af,guard:=none}::rest) D n E w:=LW.val rfl rfl hn (Y.shl32 hx hy h0 h1) h
omit [Tab P] in
theorem Lc32 (h:LW P l Q rest D n ((d,.int .u32 ((p >>> i.toNat).toNat:Int))::E) w) (hx:ev E x=some (.int .u32 (p.toNat:Int)):=by exact rfl) (hy:ev E y=some (.int j i):=by exact rfl) (h0:0≤i:=by omega) (h1:i≤32:=by omega) (hn:Nat.blt d n=true:=by exact rfl):LW P l Q ({dst:=some d,op:=.binOp .shr t x y ty,type:=T,pos,after:=af,guard:=none}::rest) D n E w:=LW.val rfl rfl hn (Y.shr32 hx hy h0 h1) h
omit [Tab P] in
theorem Ld32 (h:LW P l Q rest D n ((d,.int .u32 ((~~~p).toNat:Int))::E) w) (hx:ev E x=some (.int .u32 (p.toNat:Int)):=by exact rfl) (hn:Nat.blt d n=true:=by exact rfl):LW P l Q ({dst:=some d,op:=.unOp .xor t x,type:=T,pos,after:=af,guard:=none}::rest) D n E w:=LW.val rfl rfl hn (Y.not32 hx) h
theorem Le32 {b:UInt8} (h:LW P l Q rest D n ((d,.int .u32 ((BitVec.ofNat 32 b.toNat).toNat:Int))::E) w) (hx:ev E x=some (.int .u8 (b.toNat:Int)):=by exact rfl) (hs:Tab.row P s=some r:=by exact rfl) (hsd:r.desc=.int .u8:=by exact rfl) (ht:Tab.row P t=some r':=by exact rfl) (htd:r'.desc=.int .u32:=by exact rfl) (hn:Nat.blt d n=true:=by exact rfl):LW P l Q ({dst:=some d,op:=.convert s t x,type:=T,pos,after:=af,guard:=none}::rest) D n E w:=LW.val rfl rfl hn (Y.up32 hx hs hsd ht htd) h
omit [Tab P] in
theorem Qa32 (h:QL P l Q rest D n ((d,.int .u32 (z.toNat:Int))::E) w) (hx:ev E x=some (.int .u32 (p.toNat:Int)):=by exact rfl) (hy:ev E y=some (.int .u32 (q.toNat:Int)):=by exact rfl) (hr:opB bop p q=some z:=by exact rfl) (hn:Nat.blt d n=true:=by exact rfl):QL P l Q ({dst:=some d,op:=.binOp bop t x y ty,type:=T,pos,after:=af,guard:=none}::rest) D n E w:=QL.yields rfl rfl hn (fun _ _=>Y.b32 hx hy hr) h
omit [Tab P] in
theorem Qb32 (h:QL P l Q rest D n ((d,.int .u32 ((p <<< i.toNat).toNat:Int))::E) w) (hx:ev E x=some (.int .u32 (p.toNat:Int)):=by exact rfl) (hy:ev E y=some (.int j i):=by exact rfl) (h0:0≤i:=by omega) (h1:i≤32:=by omega) (hn:Nat.blt d n=true:=by exact rfl):QL P l Q ({dst:=some d,op:=.binOp .shl t x y ty,type:=T,pos,after:=af,guard:=none}::rest) D n E w:=QL.yields rfl rfl hn (fun _ _=>Y.shl32 hx hy h0 h1) h
omit [Tab P] in
theorem Qc32 (h:QL P l Q rest D n ((d,.int .u32 ((p >>> i.toNat).toNat:Int))::E) w) (hx:ev E x=some (.int .u32 (p.toNat:Int)):=by exact rfl) (hy:ev E y=some (.int j i):=by exact rfl) (h0:0≤i:=by omega) (h1:i≤32:=by omega) (hn:Nat.blt d n=true:=by exact rfl):QL P l Q ({dst:=some d,op:=.binOp .shr t x y ty,type:=T,pos,after:=af,guard:=none}::rest) D n E w:=QL.yields rfl rfl hn (fun _ _=>Y.shr32 hx hy h0 h1) h
omit [Tab P] in
theorem Qd32 (h:QL P l Q rest D n ((d,.int .u32 ((~~~p).toNat:Int))::E) w) (hx:ev E x=some (.int .u32 (p.toNat:Int)):=by exact rfl) (hn:Nat.blt d n=true:=by exact rfl):QL P l Q ({dst:=some d,op:=.unOp .xor t x,type:=T,pos,after:=af,guard:=none}::rest) D n E w:=QL.yields rfl rfl hn (fun _ _=>Y.not32 hx) h
theorem Qe32 {b:UInt8} (h:QL P l Q rest D n ((d,.int .u32 ((BitVec.ofNat 32 b.toNat).toNat:Int))::E) w) (hx:ev E x=some (.int .u8 (b.toNat:Int)):=by exact rfl) (hs:Tab.row P s=some r:=by exact rfl) (hsd:r.desc=.int .u8:=by exact rfl) (ht:Tab.row P t=some r':=by exact rfl) (htd:r'.desc=.int .u32:=by exact rfl) (hn:Nat.blt d n=true:=by exact rfl):QL P l Q ({dst:=some d,op:=.convert s t x,type:=T,pos,after:=af,guard:=none}::rest) D n E w:=QL.yields rfl rfl hn (fun _ _=>Y.up32 hx hs hsd ht htd) h
end
end Go.E
namespace Go.E
open Go
section
variable {P:Program} [Tab P] {w:World} {t e:TypeId} {r r':TRow} {Q:Exit→Act→World→Prop} {D:List Deferred} {n:Nat} {E:Env} {l rest:List Oper} {x y:Operand} {d T:Nat} {pos:String} {af:Array Edge} {k:IntKind} {i:Int} {m:Nat} {a0:Addr} {cs:List Value} {v:Value}
theorem under_array (h:Tab.row P t=some r) (hr:r.desc=.array m e):P.underlying t=some (.array m e):=by
 obtain ⟨d,hu,hb,_⟩:=run_under h;cases d<;>simp [bare,hr] at hb;rw [hu,hb.1,hb.2]
theorem Y.arr_addr (hx:ev E x=some (.pointer (some a0))) (hi:ev E y=some (.int k i)) (ht:Tab.row P t=some r) (hr:r.desc=.array m e) (he:Tab.row P e=some r') (h0:0≤i) (h1:i<m) :
  Y P D n E w {dst:=some d,op:=.indexAddr t x y,type:=T,pos,after:=af,guard:=none} (.pointer (some (a0.add (i.toNat*r'.size)))):=fun a ha=>by
 have hw:∀w:World,(underlying t).run P w=.ok (.array m e) w:=fun w=>run_underlying (under_array ht hr) w;simp only [execOp,ha.eval hx,ha.eval hi,Instr.indexAt,asIntOf,Instr.sureAddr,Sem.run_bind,Sem.run_pure,Result.andThen_ok,hw,h0,h1,and_self,if_true,run_size he]
theorem Y.arr_idx (hx:ev E x=some (.agg ⟨cs⟩)) (hi:ev E y=some (.int k i)) (ht:Tab.row P t=some r) (hr:r.desc=.array m e) (he:Tab.row P e=some r') (hs:Nat.beq r'.size 1=true) (hd:isAggD r'.desc=false) (h0:0≤i) (h1:i<m) (hv:cs[i.toNat]?=some v) :
  Y P D n E w {dst:=some d,op:=.index t x y,type:=T,pos,after:=af,guard:=none} v:=fun a ha=>by
 have hw:∀w:World,(underlying t).run P w=.ok (.array m e) w:=fun w=>run_underlying (under_array ht hr) w;have hs1:r'.size=1:=Nat.eq_of_beq_eq_true hs;have hp:=run_part_one (P:=P) (off:=i.toNat*r'.size) (L:=cs) (v:=v) he hd (by rw [hs1,Nat.mul_one];exact hv) w;simp only [execOp,ha.eval hx,ha.eval hi,Instr.index,asIntOf,Sem.run_bind,Sem.run_pure,Result.andThen_ok,hw,h0,h1,and_self,if_true,run_size he,hp]
theorem Lq (h:LW P l Q rest D n ((d,.pointer (some (a0.add (i.toNat*r'.size))))::E) w) (hx:ev E x=some (.pointer (some a0)):=by exact rfl) (hi:ev E y=some (.int k i):=by exact rfl) (ht:Tab.row P t=some r:=by exact rfl) (hr:r.desc=.array m e:=by exact rfl) (he:Tab.row P e=some r':=by exact rfl) (h0:0≤i:=by omega) (h1:i<m:=by omega) (hn:Nat.blt d n=true:=by exact rfl):LW P l Q ({dst:=some d,op:=.indexAddr t x y,type:=T,pos,after:=af,guard:=none}::rest) D n E w:=LW.val rfl rfl hn (Y.arr_addr hx hi ht hr he h0 h1) h
theorem Qq (h:QL P l Q rest D n ((d,.pointer (some (a0.add (i.toNat*r'.size))))::E) w) (hx:ev E x=some (.pointer (some a0)):=by exact rfl) (hi:ev E y=some (.int k i):=by exact rfl) (ht:Tab.row P t=some r:=by exact rfl) (hr:r.desc=.array m e:=by exact rfl) (he:Tab.row P e=some r':=by exact rfl) (h0:0≤i:=by omega) (h1:i<m:=by omega) (hn:Nat.blt d n=true:=by exact rfl):QL P l Q ({dst:=some d,op:=.indexAddr t x y,type:=T,pos,after:=af,guard:=none}::rest) D n E w:=QL.yields rfl rfl hn (fun _ _=>Y.arr_addr hx hi ht hr he h0 h1) h
theorem LW.arr_idx (hv:cs[i.toNat]?=some v) (h:LW P l Q rest D n ((d,v)::E) w) (hx:ev E x=some (.agg ⟨cs⟩):=by exact rfl) (hi:ev E y=some (.int k i):=by exact rfl) (ht:Tab.row P t=some r:=by exact rfl) (hr:r.desc=.array m e:=by exact rfl) (he:Tab.row P e=some r':=by exact rfl) (hs:Nat.beq r'.size 1=true:=by exact rfl) (hd:isAggD r'.desc=false:=by exact rfl) (h0:0≤i:=by omega) (h1:i<m:=by omega) (hn:Nat.blt d n=true:=by exact rfl):LW P l Q ({dst:=some d,op:=.index t x y,type:=T,pos,after:=af,guard:=none}::rest) D n E w:=LW.val rfl rfl hn (Y.arr_idx hx hi ht hr he hs hd h0 h1 hv) h
end
section
variable {P:Program} [Tab P] {w:World} {t e:TypeId} {r r':TRow} {Q:Exit→Act→World→Prop} {D:List Deferred} {n:Nat} {E:Env} {l rest:List Oper} {d T:Nat} {pos:String} {af:Array Edge} {m:Nat} {cs:List Value}
theorem LW.buildArr {parts:List (Nat×Operand)} {vs:List (Nat×Value)} (hp:evp E parts=some vs) (ht:Tab.row P t=some r) (hr:r.desc=.array m e) (he:Tab.row P e=some r') (hc:fillG (fun i=>some (i*r'.size,r'.size)) r.zero.cells.toList vs=some cs) (hn:Nat.blt d n=true)
  (h:LW P l Q rest D n ((d,.agg ⟨cs⟩)::E) w):LW P l Q ({dst:=some d,op:=.build t ⟨parts⟩,type:=T,pos,after:=af,guard:=none}::rest) D n E w:=by
 have hfill:=fillG_eq _ vs _ hc;have e3:(Instr.build t ⟨vs⟩).run P w=.ok (.agg ⟨cs⟩) w:=by
  unfold Instr.build;simp only [Sem.run_bind,run_zero ht,Result.andThen_ok,run_underlying (under_array ht hr),run_size he];rw [show r.zero.cells=⟨r.zero.cells.toList⟩ from rfl,hfill];rfl
 refine LW.val rfl rfl hn (fun a ha=>?_) h;have e0:=ha.evp hp;have e2:(⟨parts⟩:Array (Nat×Operand)).map (fun x=>(x.1,a.eval x.2))=⟨vs⟩:=by rw [←e0];simp
 simp only [execOp,e2,Sem.run_bind,e3,Result.andThen_ok,Sem.run_pure]
theorem Lha {parts:List (Nat×Operand)} {vs:List (Nat×Value)} (h:LW P l Q rest D n ((d,.agg ⟨cs⟩)::E) w) (hp:evp E parts=some vs:=by exact rfl) (ht:Tab.row P t=some r:=by exact rfl) (hr:r.desc=.array m e:=by exact rfl) (he:Tab.row P e=some r':=by exact rfl) (hc:fillG (fun i=>some (i*r'.size,r'.size)) r.zero.cells.toList vs=some cs:=by exact rfl) (hn:Nat.blt d n=true:=by exact rfl):LW P l Q ({dst:=some d,op:=.build t ⟨parts⟩,type:=T,pos,after:=af,guard:=none}::rest) D n E w:=LW.buildArr hp ht hr he hc hn h
end
theorem Su {G G':Prop} (h:G') (hi:Hd G'→G:=by intro h;(repeat (first | refine La ?_ | refine Lb ?_ | refine Lc ?_ | refine Ld ?_ | refine La32 ?_ | refine Lb32 ?_ | refine Lc32 ?_ | refine Ld32 ?_ | refine Le32 ?_ | refine Le ?_ | refine Lf ?_ | refine Lg ?_ | apply LW.nil | apply QW.then_n | apply QW.round | apply RW.succ | apply CW.seq | apply CW.region | apply CW.skip | apply CW.block | apply CW.ret | apply CW.exit | apply QW.then_ret | apply QW.then_exit | apply QW.blk_n | apply QW.blk_ret | apply QW.blk_exit | refine Ca ?_ | refine Cb ?_ | refine Cc ?_ | refine Lh ?_ | refine Lha ?_ | refine Lo ?_ | refine Lq ?_ | refine Ln ?_ | refine Lu ?_ | refine Lv ?_));exact h.h):G:=hi ⟨h⟩
theorem Squ {G G':Prop} (h:G') (hi:Hd G'→G:=by intro h;(repeat (first | refine Qa ?_ | refine Qb ?_ | refine Qc ?_ | refine Qd ?_ | refine Qa32 ?_ | refine Qb32 ?_ | refine Qc32 ?_ | refine Qd32 ?_ | refine Qe32 ?_ | refine Qe ?_ | refine Qf ?_ | refine Qg ?_ | refine Qo ?_ | refine Qq ?_ | refine Qn ?_ | refine Qu ?_ | refine Qv ?_));exact h.h):G:=hi ⟨h⟩
end Go.E
namespace Go.E
open Go
section
variable {P:Program} [Tab P] {w:World} {t s e:TypeId} {r r':TRow} {Q:Exit→Act→World→Prop} {D:List Deferred} {n:Nat} {E:Env} {l rest:List Oper} {x y:Operand} {d T:Nat} {pos:String} {af:Array Edge} {p q z:BitVec 32} {bop:BinOp} {ty:TypeId} {j k:IntKind} {i:Int} {m mm:Nat} {a0:Addr}
omit [Tab P] in
theorem Ta32 (h:TL P l mm Q rest D n ((d,.int .u32 (z.toNat:Int))::E) w) (hx:ev E x=some (.int .u32 (p.toNat:Int)):=by exact rfl) (hy:ev E y=some (.int .u32 (q.toNat:Int)):=by exact rfl) (hr:opB bop p q=some z:=by exact rfl) (hn:Nat.blt d n=true:=by exact rfl):TL P l mm Q ({dst:=some d,op:=.binOp bop t x y ty,type:=T,pos,after:=af,guard:=none}::rest) D n E w:=TL.yields rfl rfl hn (Y.b32 hx hy hr) h
omit [Tab P] in
theorem Tb32 (h:TL P l mm Q rest D n ((d,.int .u32 ((p <<< i.toNat).toNat:Int))::E) w) (hx:ev E x=some (.int .u32 (p.toNat:Int)):=by exact rfl) (hy:ev E y=some (.int j i):=by exact rfl) (h0:0≤i:=by omega) (h1:i≤32:=by omega) (hn:Nat.blt d n=true:=by exact rfl):TL P l mm Q ({dst:=some d,op:=.binOp .shl t x y ty,type:=T,pos,after:=af,guard:=none}::rest) D n E w:=TL.yields rfl rfl hn (Y.shl32 hx hy h0 h1) h
omit [Tab P] in
theorem Tc32 (h:TL P l mm Q rest D n ((d,.int .u32 ((p >>> i.toNat).toNat:Int))::E) w) (hx:ev E x=some (.int .u32 (p.toNat:Int)):=by exact rfl) (hy:ev E y=some (.int j i):=by exact rfl) (h0:0≤i:=by omega) (h1:i≤32:=by omega) (hn:Nat.blt d n=true:=by exact rfl):TL P l mm Q ({dst:=some d,op:=.binOp .shr t x y ty,type:=T,pos,after:=af,guard:=none}::rest) D n E w:=TL.yields rfl rfl hn (Y.shr32 hx hy h0 h1) h
theorem Te32 {b:UInt8} (h:TL P l mm Q rest D n ((d,.int .u32 ((BitVec.ofNat 32 b.toNat).toNat:Int))::E) w) (hx:ev E x=some (.int .u8 (b.toNat:Int)):=by exact rfl) (hs:Tab.row P s=some r:=by exact rfl) (hsd:r.desc=.int .u8:=by exact rfl) (ht:Tab.row P t=some r':=by exact rfl) (htd:r'.desc=.int .u32:=by exact rfl) (hn:Nat.blt d n=true:=by exact rfl):TL P l mm Q ({dst:=some d,op:=.convert s t x,type:=T,pos,after:=af,guard:=none}::rest) D n E w:=TL.yields rfl rfl hn (Y.up32 hx hs hsd ht htd) h
theorem Tq (h:TL P l mm Q rest D n ((d,.pointer (some (a0.add (i.toNat*r'.size))))::E) w) (hx:ev E x=some (.pointer (some a0)):=by exact rfl) (hi:ev E y=some (.int k i):=by exact rfl) (ht:Tab.row P t=some r:=by exact rfl) (hr:r.desc=.array m e:=by exact rfl) (he:Tab.row P e=some r':=by exact rfl) (h0:0≤i:=by omega) (h1:i<m:=by omega) (hn:Nat.blt d n=true:=by exact rfl):TL P l mm Q ({dst:=some d,op:=.indexAddr t x y,type:=T,pos,after:=af,guard:=none}::rest) D n E w:=TL.yields rfl rfl hn (Y.arr_addr hx hi ht hr he h0 h1) h
end
theorem Stu {G G':Prop} (h:G') (hi:Hd G'→G:=by intro h;(repeat (first | refine Ta ?_ | refine Ta32 ?_ | refine Tb32 ?_ | refine Tc32 ?_ | refine Te32 ?_ | refine Te ?_ | refine Tf ?_ | refine Tg ?_ | refine To ?_ | refine Tq ?_ | refine Tn ?_ | refine Tu ?_ | refine Tv ?_));exact h.h):G:=hi ⟨h⟩
section
variable {P:Program} {S:World→Prop} {Q:Exit→Act→World→Prop} {D:List Deferred} {n m f d:Nat} {E:Env} {w:World} {l:List Oper} {ls ls':List Bool} {v:Value} {op:Op} {T:TypeId} {pos:String} {af:Array Edge}
theorem Gu (h:GW P S l n Q f ls' D m ((d,v)::E) w) [Tab P] (hi:l[nextP ls l ls]?=some {dst:=some d,op,type:=T,pos,after:=af,guard:=none}:=by exact rfl) (hm:Nat.blt d m=true:=by exact rfl)
  (hy:∀w,S w→Y P D m E w {dst:=some d,op,type:=T,pos,after:=af,guard:=none} v:=by first | exact fun _ _=>Y.pure (by exact rfl) | exact fun _ _=>Y.b32 (by exact rfl) (by exact rfl) (by exact rfl) | exact fun _ _=>Y.field_addr (by exact rfl) (by exact rfl) | exact fun _ _=>Y.arr_addr (by exact rfl) (by exact rfl) (by exact rfl) (by exact rfl) (by exact rfl) (by omega) (by omega) | exact fun _ hw=>Y.load_cell (by exact rfl) (cell_keep hw (by assumption)) (by exact rfl) (by exact rfl) | exact fun _ hw=>Y.load (by exact rfl) (Blk.ext (by assumption) hw) (by exact rfl) (by exact rfl) (by exact rfl) | exact fun _ hw=>Y.load_all (by exact rfl) (Blk.ext (by assumption) hw) (by exact rfl) (by exact rfl) (by exact rfl) | exact fun _ _=>Y.go (by exact rfl) (by first | omega | exact ⟨by omega,by omega⟩ | exact ⟨by omega,by omega,by omega⟩ | (simp<;>omega)))
  (hl:ls.set (nextP ls l ls) true=ls':=by exact rfl) (hin:Nat.blt (nextP ls l ls) n=true:=by kernel_rfl) (hk:tailOk l n=true:=by kernel_rfl) (hf:Region.free .any l.toArray ⟨ls⟩ (nextP ls l ls)=true:=by kernel_rfl) (hr:(Region.ready .any l.toArray ⟨ls⟩).contains (nextP ls l ls)=true:=by kernel_rfl) (ht:∀c a w,Q (.panic c) (a.put (some d) v) w→Q (.panic c) a w:=by exact fun _ _ _ h=>h):GW P S l n Q (f+1) ls D m E w:=GW.take _ hi rfl rfl hm hy hl hin hk hf hr ht h
end
theorem Sgu {G G':Prop} (h:G') (hi:Hd G'→G:=by intro h;(repeat (refine Gu ?_));exact h.h):G:=hi ⟨h⟩
section
variable {P:Program} {w:World} {t:TypeId} {Q:Exit→Act→World→Prop} {D:List Deferred} {n:Nat} {E:Env} {l rest:List Oper} {x:Operand} {d T:Nat} {pos:String} {af:Array Edge}
theorem Y.neg {k:IntKind} {p z:Int} (hx:ev E x=some (.int k p)) (hz:k.wrap (0 - p)=z):Y P D n E w {dst:=some d,op:=.unOp .neg t x,type:=T,pos,after:=af,guard:=none} (.int k z):=fun a ha=>by
 rw [show (0:Int) - p=-p by omega] at hz;simp [execOp,ha.eval hx,Op.unary,Op.intArith,hz]
theorem QL.neg {k:IntKind} {p z:Int} (hx:ev E x=some (.int k p)) (hz:k.wrap (0 - p)=z) (hn:Nat.blt d n=true) (h:QL P l Q rest D n ((d,.int k z)::E) w) :
  QL P l Q ({dst:=some d,op:=.unOp .neg t x,type:=T,pos,after:=af,guard:=none}::rest) D n E w:=QL.yields rfl rfl hn (fun _ _=>Y.neg hx hz) h
theorem Y.bits {bop:BinOp} {k:IntKind} {y:Operand} {p q z:Int} {ty:TypeId} (hx:ev E x=some (.int k p)) (hy:ev E y=some (.int k q)) (hb:(match bop with | .and | .or | .xor=>true | _=>false)=true) (hz:bits bop k p q=z):Y P D n E w {dst:=some d,op:=.binOp bop t x y ty,type:=T,pos,after:=af,guard:=none} (.int k z):=fun a ha=>by
 subst hz;cases bop<;>simp only [Bool.false_eq_true] at hb<;>rw [run_bin ha hx hy rfl]
 ·simp [binOp,intBits_and]
 ·simp [binOp,intBits_or]
 ·simp [binOp,intBits_xor]
theorem LW.bits {bop:BinOp} {k:IntKind} {y:Operand} {p q z:Int} {ty:TypeId} (hx:ev E x=some (.int k p)) (hy:ev E y=some (.int k q)) (hb:(match bop with | .and | .or | .xor=>true | _=>false)=true) (hz:bits bop k p q=z) (hn:Nat.blt d n=true) (h:LW P l Q rest D n ((d,.int k z)::E) w) :
  LW P l Q ({dst:=some d,op:=.binOp bop t x y ty,type:=T,pos,after:=af,guard:=none}::rest) D n E w:=LW.val rfl rfl hn (Y.bits hx hy hb hz) h
theorem Y.shl {k j:IntKind} {y:Operand} {p z:Int} {m:Nat} {ty:TypeId} (hx:ev E x=some (.int k p)) (hy:ev E y=some (.int j (m:Int))) (hm:m≤k.bits) (hz:k.wrap (p*2 ^ m)=z):Y P D n E w {dst:=some d,op:=.binOp .shl t x y ty,type:=T,pos,after:=af,guard:=none} (.int k z):=fun a ha=>by
 have hg:(eqGuard .shl t x y (.int k p) (.int j (m:Int))).run P w=.ok () w:=rfl;have hneg:¬((m:Int)<0):=by omega
 have hmin:min m k.bits=m:=by omega
 simp only [execOp,ha.eval hx,ha.eval hy,Sem.run_bind,hg,Result.andThen_ok,binOp,Op.shift,hneg,if_false,Int.toNat_natCast,hmin,hz,Sem.run_pure]
theorem LW.shl {k j:IntKind} {y:Operand} {p z:Int} {m:Nat} {ty:TypeId} (hx:ev E x=some (.int k p)) (hy:ev E y=some (.int j (m:Int))) (hm:m≤k.bits) (hz:k.wrap (p*2 ^ m)=z) (hn:Nat.blt d n=true) (h:LW P l Q rest D n ((d,.int k z)::E) w) :
  LW P l Q ({dst:=some d,op:=.binOp .shl t x y ty,type:=T,pos,after:=af,guard:=none}::rest) D n E w:=LW.val rfl rfl hn (Y.shl hx hy hm hz) h
end
section
variable {P:Program} [Tab P] {w:World} {t e ty:TypeId} {r:TRow} {Q:Exit→Act→World→Prop} {D:List Deferred} {n:Nat} {E:Env} {l rest:List Oper} {x:Operand} {d T:Nat} {pos:String} {af:Array Edge}
theorem under_pointee (h:Tab.row P t=some r) (hr:r.desc=.pointer e):P.underlying t=some (.pointer (P.pointee t)):=by
 obtain ⟨d,hu,hb,_⟩:=run_under h;cases d<;>simp [bare,hr] at hb;simp [Program.pointee,hu]
theorem Y.eql_pn {p:Option Addr} (hx:ev E x=some (.pointer p)) (ht:Tab.row P t=some r) (hr:r.desc=.pointer e) (dst:Option Tmp) :
  Y P D n E w {dst,op:=.binOp .eql t x (.const (.pointer none)) ty,type:=T,pos,after:=af,guard:=none} (.bool p.isNone):=fun a ha=>by
 have hg:(eqGuard .eql t x (.const (.pointer none)) (.pointer p) (.pointer none)).run P w=.ok () w:=rfl;have e2:a.eval (.const (.pointer none))=.pointer none:=rfl;simp only [execOp,ha.eval hx,e2,Sem.run_bind,hg,Result.andThen_ok,binOp,run_equal_pointer_nil w t p (under_pointee ht hr),Sem.run_pure]
theorem LW.eql_pn {p:Option Addr} (hx:ev E x=some (.pointer p)) (ht:Tab.row P t=some r) (hr:r.desc=.pointer e) (hn:Nat.blt d n=true) (h:LW P l Q rest D n ((d,.bool p.isNone)::E) w) :
  LW P l Q ({dst:=some d,op:=.binOp .eql t x (.const (.pointer none)) ty,type:=T,pos,after:=af,guard:=none}::rest) D n E w:=LW.val rfl rfl hn (Y.eql_pn hx ht hr _) h
end
end Go.E
namespace Go.E
open Go
def pureL:Op→Bool
 | .nilCheck _=>true
 | o=>pureK o
def nextL (all:List Bool):List Oper→List Bool→Nat
 | o::r,b::bs=>bif b then nextL all r bs+1 else bif pureL o.op&&o.after.toList.all (fun e=>bif bindG e.ground then all.getD e.on false else true) then 0 else nextL all r bs+1
 | _,_=>0
section
variable {P:Program} {S:World→Prop} {Q:Exit→Act→World→Prop} {D:List Deferred} {n m f d:Nat} {E:Env} {w:World} {l:List Oper} {ls ls':List Bool} {v:Value} {op:Op} {T:TypeId} {pos:String} {af:Array Edge}
theorem Gv [Tab P] (h:GW P S l n Q f ls' D m ((d,v)::E) w) (hi:l[nextL ls l ls]?=some {dst:=some d,op,type:=T,pos,after:=af,guard:=none}:=by exact rfl) (hm:Nat.blt d m=true:=by exact rfl)
  (hy:∀w,S w→Y P D m E w {dst:=some d,op,type:=T,pos,after:=af,guard:=none} v:=by first | exact fun _ _=>Y.pure (by exact rfl) | exact fun _ _=>Y.b32 (by exact rfl) (by exact rfl) (by exact rfl) | exact fun _ _=>Y.shr32 (by exact rfl) (by exact rfl) (by omega) (by omega) | exact fun _ _=>Y.shl32 (by exact rfl) (by exact rfl) (by omega) (by omega) | exact fun _ _=>Y.not32 (by exact rfl) | exact fun _ _=>Y.field_addr (by exact rfl) (by exact rfl) | exact fun _ _=>Y.arr_addr (by exact rfl) (by exact rfl) (by exact rfl) (by exact rfl) (by exact rfl) (by omega) (by omega) | exact fun _ _=>Y.idx_addr (by exact rfl) (by exact rfl) (by exact rfl) (by exact rfl) (by exact rfl) (by omega) (by omega) | exact fun _ hw=>Y.load_cell (by exact rfl) (cell_keep hw (by assumption)) (by exact rfl) (by exact rfl) | exact fun _ hw=>Y.load (by exact rfl) (Blk.ext (by assumption) hw) (by exact rfl) (by exact rfl) (by exact rfl) | exact fun _ hw=>Y.load_all (by exact rfl) (Blk.ext (by assumption) hw) (by exact rfl) (by exact rfl) (by exact rfl) | exact fun _ hw=>Y.load_cells (by exact rfl) (fun j u hj=>cell_keep hw (by apply_assumption;exact hj)) (by exact rfl) (by exact rfl) (by exact rfl) | exact fun _ _=>Y.low (by exact rfl) (by exact rfl) (by exact rfl) (by exact rfl) (by exact rfl) | exact fun _ _=>Y.go (by exact rfl) (by first | omega | exact ⟨by omega,by omega⟩ | exact ⟨by omega,by omega,by omega⟩ | (simp<;>omega)))
  (hl:ls.set (nextL ls l ls) true=ls':=by exact rfl) (hin:Nat.blt (nextL ls l ls) n=true:=by kernel_rfl) (hk:tailOk l n=true:=by kernel_rfl) (hf:Region.free .any l.toArray ⟨ls⟩ (nextL ls l ls)=true:=by kernel_rfl) (hr:(Region.ready .any l.toArray ⟨ls⟩).contains (nextL ls l ls)=true:=by kernel_rfl) (ht:∀c a w,Q (.panic c) (a.put (some d) v) w→Q (.panic c) a w:=by exact fun _ _ _ h=>h):GW P S l n Q (f+1) ls D m E w:=GW.take _ hi rfl rfl hm hy hl hin hk hf hr ht h
end
theorem Sgv {G G':Prop} (h:G') (hi:Hd G'→G:=by intro h;(repeat (refine Gv ?_));exact h.h):G:=hi ⟨h⟩
end Go.E
namespace Go.E
open Go
section
variable {P:Program} [Tab P] {w:World} {t s u:TypeId} {r r' r'':TRow} {Q:Exit→Act→World→Prop} {D:List Deferred} {n:Nat} {E:Env} {l rest:List Oper} {x:Operand} {d:Nat} {pos:String} {af:Array Edge} {p:Option Addr} {len cap:Nat}
theorem Y.string_any {bs:List UInt8} (hx:ev E x=some (.slice p len cap)) (hl:bs.length=len) (hc:p=none∧bs.length=0∨∃a,p=some a∧∀j u,(bcells bs)[j]?=some u→w.cell? (a.add j)=some u)
  (hs:Tab.row P s=some r) (hsd:r.desc=.slice u) (hu:Tab.row P u=some r') (hud:r'.desc=.int .u8) (ht:Tab.row P t=some r'') (htd:r''.desc=.string) (dst:Option Tmp) (T':TypeId) :
  Y P D n E w {dst,op:=.convert s t x,type:=T',pos,after:=af,guard:=none} (str bs):=fun a ha=>by
 have hco:=run_convert_bytes_string (P:=P) w s t u p len cap (under_slice hs hsd) (under_int hu hud) (by
  obtain ⟨dd,hh,hb,_⟩:=run_under ht;cases dd<;>simp [bare,htd] at hb;exact hh)
 have hb:(Conv.bytesToString (.slice p len cap)).run P w=.ok (str bs) w:=by
  obtain ⟨rfl,h0⟩ | ⟨a0,rfl,hc⟩:=hc
  ·have:bs=[]:=List.eq_nil_of_length_eq_zero h0;subst this;rfl
  ·have hlo:(loadCells a0 len).run P w=.ok ((bs.map fun c=>(c.toNat:Int)).map (Value.int .u8)).toArray w:=by
    have:=run_loadCells_list (P:=P) (w:=w) a0 ((bs.map fun c=>(c.toNat:Int)).map (Value.int .u8)) (fun j v hv=>hc j v (by
     rw [←hv,List.map_map];rfl))
    simpa [hl] using this
   have hb:=run_bytesToString (P:=P) w a0 len cap _ hlo;have hf:=foldl_push bs [];simp only [List.nil_append] at hf;rw [show ByteArray.empty=(⟨⟨[]⟩⟩:ByteArray) from rfl,hf] at hb;exact hb
 simp only [execOp,ha.eval hx,Sem.run_bind,hco,hb,Result.andThen_ok,Sem.run_pure]
theorem LW.string_any {bs:List UInt8} {T':TypeId} (hx:ev E x=some (.slice p len cap)) (hl:bs.length=len) (hc:p=none∧bs.length=0∨∃a,p=some a∧∀j u,(bcells bs)[j]?=some u→w.cell? (a.add j)=some u)
  (hs:Tab.row P s=some r) (hsd:r.desc=.slice u) (hu:Tab.row P u=some r') (hud:r'.desc=.int .u8) (ht:Tab.row P t=some r'') (htd:r''.desc=.string) (hn:Nat.blt d n=true) (h:LW P l Q rest D n ((d,str bs)::E) w) :
  LW P l Q ({dst:=some d,op:=.convert s t x,type:=T',pos,after:=af,guard:=none}::rest) D n E w:=LW.val rfl rfl hn (Y.string_any hx hl hc hs hsd hu hud ht htd _ _) h
end
end Go.E
namespace Go.E
open Go
theorem zeroCells_one {z:Value} (q:Nat):Builtin.zeroCells #[z] q=(List.replicate q z).toArray:=by
 apply Array.ext';simp only [Builtin.zeroCells];refine List.eq_replicate_iff.2 ⟨by simp,fun b hb=>?_⟩;simp only [Array.toList_map,List.mem_map] at hb;obtain ⟨i,_,rfl⟩:=hb;simp [Nat.mod_one]
section
variable {P:Program} [Tab P] {w:World} {t tn e:TypeId} {r r' r'':TRow} {Q:Exit→Act→World→Prop} {D:List Deferred} {n:Nat} {E:Env} {l rest:List Oper} {x y:Operand} {d T:Nat} {pos:String} {af:Array Edge}
theorem LW.cap {p:Option Addr} {m c:Nat} (hx:ev E x=some (.slice p m c)) (ht:Tab.row P t=some r) (hr:r.desc=.slice e) (hn:Nat.blt d n=true) (h:LW P l Q rest D n ((d,.int .i64 (c:Int))::E) w) :
  LW P l Q ({dst:=some d,op:=.call {callee:=.builtin .cap,args:=#[x],argTypes:=#[t]},type:=T,pos,after:=af,guard:=none}::rest) D n E w:=by
 refine LW.val rfl rfl hn (fun a ha=>?_) h;have hu:=under_slice (P:=P) ht hr;have hu':P.underlying t=some (.slice (P.elem t)):=by rw [elem_of hu];exact hu
 have hc:=run_cap_slice (P:=P) (w:=w) t T p m c hu';unfold execOp;simp only [resolve,invoke,builtin,Sem.run_bind,Sem.run_pure,Result.andThen_ok,List.map_toArray,List.map_cons,List.map_nil,ha.eval hx,hc];rfl
end
end Go.E
namespace Go.E
open Go
end Go.E
namespace Go.E
open Go
variable {α:Type}
end Go.E
namespace Go.E
open Go
section
variable {P:Program} {D:List Deferred} {n d T:Nat} {E:Env} {w:World} {x y:Operand} {pos:String} {af:Array Edge}
theorem Y.max2 {k k':IntKind} {p q:Int} {ts:Array TypeId} (hx:ev E x=some (.int k p)) (hy:ev E y=some (.int k' q)) :
  Y P D n E w {dst:=some d,op:=.call {callee:=.builtin .max,args:=#[x,y],argTypes:=ts},type:=T,pos,after:=af,guard:=none} (.int k (if p<q then q else p)):=fun a ha=>by
 unfold execOp;simp [resolve,invoke,builtin,ha.eval hx,ha.eval hy,Builtin.max_,Builtin.max2]
variable [Tab P] {t:TypeId} {cs:List Value}
theorem Y.build {parts:List (Nat×Operand)} {vs:List (Nat×Value)} (hp:evp E parts=some vs) (hc:buildC P t vs=some cs) :
  Y P D n E w {dst:=some d,op:=.build t ⟨parts⟩,type:=T,pos,after:=af,guard:=none} (.agg ⟨cs⟩):=by
 unfold buildC at hc
 split at hc<;>try cases hc
 rename_i r hr
 split at hc<;>try cases hc
 rename_i fs hfs
 split at hc<;>try cases hc
 rename_i ps hps;obtain ⟨gs,hgs,hgf⟩:=under_struct hr hfs;have hps':placesOf P (gs.toList.map bareF)=some ps:=by rw [←hps,←hgf];simp
 have hpl:=places_run (w:=w) hps';have hpa:(gs.mapM (m:=Sem) fun f=>do Pure.pure (f.offset,←sizeOf f.type)).run P w=.ok ⟨ps⟩ w:=by
  rw [show gs=gs.toList.toArray from rfl,List.mapM_toArray,Sem.run_map,hpl];rfl
 intro a ha;have e:=ha.evp hp;have e2:(⟨parts⟩:Array (Nat×Operand)).map (fun x=>(x.1,a.eval x.2))=⟨vs⟩:=by rw [←e];simp
 have hfill:=fill_eq ps vs r.zero.cells.toList hc;have e3:(Instr.build t ⟨vs⟩).run P w=.ok (.agg ⟨cs⟩) w:=by
  unfold Instr.build;simp only [Sem.run_bind,run_zero hr,Result.andThen_ok,run_underlying hgs,hpa];rw [show r.zero.cells=⟨r.zero.cells.toList⟩ from rfl,hfill];rfl
 have e4:(execOp a.eval {dst:=some d,op:=.build t ⟨parts⟩,type:=T,pos,after:=af,guard:=none})=(do Pure.pure (Next.value (←Instr.build t ((⟨parts⟩:Array (Nat×Operand)).map (fun x=>(x.1,a.eval x.2)))))):=rfl;rw [e4,e2,Sem.run_bind,e3];rfl
end
def pureX:Op→Bool
 | .call {callee:=.builtin .max,..}=>true
 | .slice ..=>true
 | .pick ..=>true
 | o=>pureL o
def nextX (n:Nat) (l:List Oper) (ls:List Bool):Nat:=go n ls l ls
where go:Nat→List Bool→List Oper→List Bool→Nat
 | n+1,all,o::r,b::bs=>bif b then go n all r bs+1 else bif pureX o.op&&o.after.toList.all (fun e=>bif bindG e.ground then all.getD e.on false else true)&&(match o.guard with | some (j,_)=>all.getD j false | none=>true) then 0 else go n all r bs+1
 | 0,_,l,_=>l.length
 | _,_,_,_=>0
section
variable {P:Program} {S:World→Prop} {Q:Exit→Act→World→Prop} {D:List Deferred} {n m f d j t:Nat} {E:Env} {w:World} {l:List Oper} {ls ls':List Bool} {v:Value} {op:Op} {T:TypeId} {pos:String} {af:Array Edge} {b c:Bool} {o:Oper}
theorem GW.skip_u (i:Nat) (hi:l[i]?=some o) (hg:o.guard=some (j,b)) (hd:o.dst=some d) (hm:Nat.blt d m=true) (hj:dstAt l j=some t) (hb:look E t=some undef) (hl:ls.set i true=ls') (hin:Nat.blt i n=true) (hk:tailOk l n=true)
  (hf:Region.free .any l.toArray ⟨ls⟩ i=true) (hr:(Region.ready .any l.toArray ⟨ls⟩).contains i=true) (ht:∀c a w,Q (.panic c) (a.put o.dst undef) w→Q (.panic c) a w)
  (h:GW P S l n Q f ls' D m ((d,undef)::E) w):GW P S l n Q (f+1) ls D m E w:=by
 unfold GW at h ⊢;intro a ha hS inv;subst hl;simp only [tailOk,Bool.and_eq_true,decide_eq_true_eq] at hk;have hin':i<n:=Nat.le_of_ble_eq_true hin;have hr':i∈Region.ready .any l.toArray ⟨ls⟩:=by simpa using hr
 have hyy:=yielded_undef (l:=l) ha hj hb;have hw:Region.wanted o (yielded l.toArray a.tmps)=false:=by
  simp only [Region.wanted,hg,hyy];rfl
 have hi':l.toArray[i]?=some o:=by simpa using hi
 refine wpAnyE_first (v:=undef) hi' (Region.noSelect_spec hk.1.1.1) hk.1.2 hk.2 (by simpa using hk.1.1.2) hin' ht f _ a w inv (Region.free_spec hi' hf) hr' (.inr ⟨hw,rfl⟩) hS ?_;have inv':=inv.set hr' hin';rw [set_list] at inv' ⊢;rw [hd];exact h _ (ha.put d _ hm) hS inv'
theorem Gxa [Tab P] (h:GW P S l n Q f ls' D m ((d,v)::E) w) (hi:l[nextX n l ls]?=some {dst:=some d,op,type:=T,pos,after:=af,guard:=none}:=by exact rfl) (hm:Nat.blt d m=true:=by exact rfl) (hin:Nat.blt (nextX n l ls) n=true:=by exact rfl)
  (hy:∀w,S w→Y P D m E w {dst:=some d,op,type:=T,pos,after:=af,guard:=none} v:=by first | exact fun _ _=>Y.pure (by exact rfl) | exact fun _ _=>Y.field_addr (by exact rfl) (by exact rfl) | exact fun _ _=>Y.idx_addr (by exact rfl) (by exact rfl) (by exact rfl) (by exact rfl) (by exact rfl) (by omega) (by omega) | exact fun _ hw=>Y.load (by exact rfl) (Blk.ext (by assumption) hw) (by exact rfl) (by exact rfl) (by exact rfl) | exact fun _ hw=>Y.load_all (by exact rfl) (Blk.ext (by assumption) hw) (by exact rfl) (by exact rfl) (by exact rfl) | exact fun _ hw=>Y.load_cell (by exact rfl) (cell_keep hw (by assumption)) (by exact rfl) (by exact rfl) | exact fun _ hw=>Y.load_cells (by exact rfl) (fun j u hj=>cell_keep hw (by apply_assumption;exact hj)) (by exact rfl) (by exact rfl) (by exact rfl) | exact fun _ _=>Y.go (by exact rfl) (by first | omega | exact ⟨by omega,by omega⟩ | exact ⟨by omega,by omega,by omega⟩ | (simp<;>omega)) | exact fun _ _=>Y.max2 (by exact rfl) (by exact rfl) | exact fun _ _=>Y.slice_hi (by exact rfl) (by exact rfl) (by exact rfl) (by exact rfl) (by exact rfl) (by omega) | exact fun _ _=>Y.arr_addr (by exact rfl) (by exact rfl) (by exact rfl) (by exact rfl) (by exact rfl) (by omega) (by omega) | exact fun _ _=>Y.build (by exact rfl) (by exact rfl))
  (hl:ls.set (nextX n l ls) true=ls':=by exact rfl) (hk:tailOk l n=true:=by kernel_rfl) (hf:Region.free .any l.toArray ⟨ls⟩ (nextX n l ls)=true:=by kernel_rfl) (hr:(Region.ready .any l.toArray ⟨ls⟩).contains (nextX n l ls)=true:=by kernel_rfl) (ht:∀c a w,Q (.panic c) (a.put (some d) v) w→Q (.panic c) a w:=by exact fun _ _ _ h=>h):GW P S l n Q (f+1) ls D m E w:=GW.take _ hi rfl rfl hm hy hl hin hk hf hr ht h
theorem Gxb [Tab P] (h:GW P S l n Q f ls' D m ((d,v)::E) w) (hi:l[nextX n l ls]?=some {dst:=some d,op,type:=T,pos,after:=af,guard:=some (j,b)}:=by exact rfl) (hm:Nat.blt d m=true:=by exact rfl) (hin:Nat.blt (nextX n l ls) n=true:=by exact rfl) (hj:dstAt l j=some t:=by exact rfl) (hb:look E t=some (.bool b):=by exact rfl)
  (hy:∀w,S w→Y P D m E w {dst:=some d,op,type:=T,pos,after:=af,guard:=none} v:=by first | exact fun _ _=>Y.pure (by exact rfl) | exact fun _ _=>Y.field_addr (by exact rfl) (by exact rfl) | exact fun _ _=>Y.idx_addr (by exact rfl) (by exact rfl) (by exact rfl) (by exact rfl) (by exact rfl) (by omega) (by omega) | exact fun _ hw=>Y.load (by exact rfl) (Blk.ext (by assumption) hw) (by exact rfl) (by exact rfl) (by exact rfl) | exact fun _ hw=>Y.load_all (by exact rfl) (Blk.ext (by assumption) hw) (by exact rfl) (by exact rfl) (by exact rfl) | exact fun _ hw=>Y.load_cell (by exact rfl) (cell_keep hw (by assumption)) (by exact rfl) (by exact rfl) | exact fun _ hw=>Y.load_cells (by exact rfl) (fun j u hj=>cell_keep hw (by apply_assumption;exact hj)) (by exact rfl) (by exact rfl) (by exact rfl) | exact fun _ _=>Y.go (by exact rfl) (by first | omega | exact ⟨by omega,by omega⟩ | exact ⟨by omega,by omega,by omega⟩ | (simp<;>omega)) | exact fun _ _=>Y.max2 (by exact rfl) (by exact rfl) | exact fun _ _=>Y.slice_hi (by exact rfl) (by exact rfl) (by exact rfl) (by exact rfl) (by exact rfl) (by omega) | exact fun _ _=>Y.arr_addr (by exact rfl) (by exact rfl) (by exact rfl) (by exact rfl) (by exact rfl) (by omega) (by omega) | exact fun _ _=>Y.build (by exact rfl) (by exact rfl))
  (hl:ls.set (nextX n l ls) true=ls':=by exact rfl) (hk:tailOk l n=true:=by kernel_rfl) (hf:Region.free .any l.toArray ⟨ls⟩ (nextX n l ls)=true:=by kernel_rfl) (hr:(Region.ready .any l.toArray ⟨ls⟩).contains (nextX n l ls)=true:=by kernel_rfl) (ht:∀c a w,Q (.panic c) (a.put (some d) v) w→Q (.panic c) a w:=by exact fun _ _ _ h=>h):GW P S l n Q (f+1) ls D m E w:=GW.takeW _ hi hm hj hb hy hl hin hk hf hr ht h
theorem Gxc (h:GW P S l n Q f ls' D m ((d,undef)::E) w) (hi:l[nextX n l ls]?=some o:=by exact rfl) (hg:o.guard=some (j,b):=by exact rfl) (hd:o.dst=some d:=by exact rfl) (hm:Nat.blt d m=true:=by exact rfl) (hin:Nat.blt (nextX n l ls) n=true:=by exact rfl) (hj:dstAt l j=some t:=by exact rfl) (hb:look E t=some (.bool c):=by exact rfl) (hne:(c == b)=false:=by exact rfl)
  (hl:ls.set (nextX n l ls) true=ls':=by exact rfl) (hk:tailOk l n=true:=by kernel_rfl) (hf:Region.free .any l.toArray ⟨ls⟩ (nextX n l ls)=true:=by kernel_rfl) (hr:(Region.ready .any l.toArray ⟨ls⟩).contains (nextX n l ls)=true:=by kernel_rfl) (ht:∀c a w,Q (.panic c) (a.put o.dst undef) w→Q (.panic c) a w:=by exact fun _ _ _ h=>h):GW P S l n Q (f+1) ls D m E w:=GW.skip _ hi hg hd hm hj hb hne hl hin hk hf hr ht h
theorem Gxd (h:GW P S l n Q f ls' D m ((d,undef)::E) w) (hi:l[nextX n l ls]?=some o:=by exact rfl) (hg:o.guard=some (j,b):=by exact rfl) (hd:o.dst=some d:=by exact rfl) (hm:Nat.blt d m=true:=by exact rfl) (hin:Nat.blt (nextX n l ls) n=true:=by exact rfl) (hj:dstAt l j=some t:=by exact rfl) (hb:look E t=some undef:=by exact rfl)
  (hl:ls.set (nextX n l ls) true=ls':=by exact rfl) (hk:tailOk l n=true:=by kernel_rfl) (hf:Region.free .any l.toArray ⟨ls⟩ (nextX n l ls)=true:=by kernel_rfl) (hr:(Region.ready .any l.toArray ⟨ls⟩).contains (nextX n l ls)=true:=by kernel_rfl) (ht:∀c a w,Q (.panic c) (a.put o.dst undef) w→Q (.panic c) a w:=by exact fun _ _ _ h=>h):GW P S l n Q (f+1) ls D m E w:=GW.skip_u _ hi hg hd hm hj hb hl hin hk hf hr ht h
end
theorem Sgx {G G':Prop} (h:G') (hi:Hd G'→G:=by intro h;(repeat (first | refine Gxa ?_ | refine Gxb ?_ | refine Gxc ?_ | refine Gxd ?_));exact h.h):G:=hi ⟨h⟩
end Go.E
namespace Go.E
open Go Go.RowKit
structure Wide (F:Fence):Prop where
 fn:∀f,F.fn f
 depth:F.depth=none
theorem wide_w:Wide Fence.wide:=⟨fun _=>trivial,rfl⟩
theorem Wide.inRound {F:Fence} (h:Wide F) (l:Nat):Wide (F.inRound l):=⟨h.fn,h.depth⟩
def CI (F:Fence) (m:Nat) (P:Program) (c:Code) (Q:Exit→Act→World→Prop) (D:List Deferred) (n:Nat) (E:Env) (w:World):Prop:=∀a,Holds a D n E→c.wpIn F m P Q a w
def LI (F:Fence) (m:Nat) (P:Program) (l:List Oper) (Q:Exit→Act→World→Prop) (rest:List Oper) (D:List Deferred) (n:Nat) (E:Env) (w:World):Prop:=∀a,Holds a D n E→wpListIn F m P l.toArray Q rest a w
section
variable {F:Fence} {m:Nat} {P:Program} {Q:Exit→Act→World→Prop} {D:List Deferred} {n:Nat} {E:Env} {w:World} {l rest:List Oper} {x y:Code} {id:Nat}
theorem CI.seq (h:CI F m P x (Exit.then (y.wpIn F m P Q) Q) D n E w):CI F m P (.seq x y) Q D n E w:=fun a ha=>wpIn_seq (h a ha)
theorem CI.region (h:LI F m P l Q l D n E w):CI F m P (.region id l.toArray false) Q D n E w:=fun a ha=>wpIn_region_lit (h a ha)
theorem CI.skip (h:QW Q .normal D n E w):CI F m P .skip Q D n E w:=fun a ha=>wpIn_skip (by unfold QW at h;exact h a ha)
theorem CI.ret (h:QW Q .ret D n E w):CI F m P .ret Q D n E w:=fun a ha=>wpIn_ret (by unfold QW at h;exact h a ha)
theorem CI.exit (h:QW Q (.exit id) D n E w):CI F m P (.exit id) Q D n E w:=fun a ha=>wpIn_exit (by unfold QW at h;exact h a ha)
theorem CI.block (h:CI F m P x (Exit.inBlock id Q) D n E w):CI F m P (.block id x) Q D n E w:=fun a ha=>wpIn_block (h a ha)
theorem CI.cond {c:Operand} {b:Bool} (hc:ev E c=some (.bool b)) (ht:b=true→CI F m P x Q D n E w) (hf:b=false→CI F m P y Q D n E w):CI F m P (.cond c x y) Q D n E w:=fun a ha=>by
 cases b
 ·exact wpIn_cond_false (ha.eval hc) (hf rfl a ha)
 ·exact wpIn_cond_true (ha.eval hc) (ht rfl a ha)
theorem LI.nil (h:QW Q .normal D n E w):LI F m P l Q [] D n E w:=fun a ha=>wpListIn_nil (by unfold QW at h;exact h a ha)
theorem QW.then_i {K:Exit→Act→World→Prop} (h:CI F m P y K D n E w):QW (Exit.then (y.wpIn F m P K) Q) .normal D n E w:=by unfold QW;exact h
theorem CI.loop {ι:Type} (I:ι→World→Prop) (EI:ι→Env) (μ:ι→Nat) (i0:ι) (h0:I i0 w) (hs:Sub (EI i0) E)
  (round:∀i w',I i w'→CI F m P x (Exit.then (Again D n I EI μ (μ i)) Q) D n (EI i) w'):CI F m P (.loop x) Q D n E w:=fun a ha=>by
 refine wpIn_loop_ghost (fun k a w=>∃i,μ i=k∧I i w∧Holds a D n (EI i)) (μ i0) ⟨i0,rfl,h0,ha.sub hs⟩ ?_;rintro k a w ⟨i,rfl,hI,hH⟩;refine wpIn_mono (round i w hI a hH) ?_;intro e a' w' hq
 cases e with
 | normal=>obtain ⟨i',hI',hH',hlt⟩:=hq;exact ⟨μ i',hlt,i',rfl,hI',hH'⟩
 | _=>exact hq
theorem semAt_run {o:Oper} (a:Act) (hdf:∀c,o.op≠.defer c):o.semAt F.round a.eval=execOp a.eval o:=by
 cases F.round with
 | none=>exact Oper.semAt_none _ _
 | some l=>exact Oper.semAt_some l _ _ hdf
theorem LI.val {o:Oper} {v:Value} {d:Nat} (hF:Wide F) (hg:o.guard=none) (hd:o.dst=some d) (hdf:∀c,o.op≠.defer c) (hn:Nat.blt d n=true) (hy:Y P D n E w o v) (h:LI F m P l Q rest D n ((d,v)::E) w):LI F m P l Q (o::rest) D n E w:=fun a ha=>by
 refine wpListIn_plain hg fun K hK=>⟨fun f _=>hF.fn f,?_⟩;rw [semAt_run a hdf,hy a ha,Oper.uponIn_value,hd];exact hK _ _ (h _ (ha.put d v hn))
theorem LI.unit {o:Oper} {w':World} (hF:Wide F) (hg:o.guard=none) (hd:o.dst=none) (hdf:∀c,o.op≠.defer c)
  (hr:∀a,Holds a D n E→(execOp a.eval o).run P w=.ok .skip w') (h:LI F m P l Q rest D n E w'):LI F m P l Q (o::rest) D n E w:=fun a ha=>by
 refine wpListIn_plain hg fun K hK=>⟨fun f _=>hF.fn f,?_⟩;rw [semAt_run a hdf,hr a ha,Oper.uponIn_skip,hd];exact hK _ _ (h _ ha)
theorem LI.yield {fop:Operand} {as:List Operand} {vs:List Value} {d lk:Nat} {T:TypeId} {pos:String} {af:Array Edge} {ts:Array TypeId} {R:Ending→World→Prop} (hF:Wide F)
  (hf:ev E fop=some (.func (.yield lk) #[] #[])) (ha:evs E as=some vs) (hn:Nat.blt d n=true) (hy:YieldAt F (m - 1) P lk ⟨vs⟩ w R)
  (h:∀e w',R e w'→∃v,e=.returned v∧LI F m P l Q rest D n ((d,v)::E) w') :
  LI F m P l Q ({dst:=some d,op:=.call {callee:=.value fop,args:=⟨as⟩,argTypes:=ts},type:=T,pos,after:=af,guard:=none}::rest) D n E w:=by
 intro a hh;refine wpListIn_plain rfl fun K hK=>⟨fun f _=>hF.fn f,?_⟩;obtain ⟨fn,tmps,assign,body,hrun,hR⟩:=hy;have e1:=hh.eval hf;have e2:=hh.evals ha;rw [semAt_run a (fun c h=>by cases h)];have e:(execOp a.eval {dst:=some d,op:=.call {callee:=.value fop,args:=⟨as⟩,argTypes:=ts},type:=T,pos,after:=af,guard:=none}).run P w=.ok (.round lk fn tmps assign body) w:=by
  simp only [execOp,resolve,List.map_toArray,e2,e1,Deferred.ofValue,Sem.run_bind,Sem.run_pure,Result.andThen_ok,invoke]
  simpa using hrun
 rw [e,Oper.uponIn_round];refine ⟨fun h=>(by rw [hF.depth] at h;cases h),hR.mono fun e w' he=>?_⟩;obtain ⟨v,rfl,hl⟩:=h e w' he;exact hK _ _ (hl _ (hh.put d v hn))
variable [Tab P] {a0:Addr} {b i d T:Nat} {t:TypeId} {r:TRow} {L:List Value} {T':TypeId} {v:Value} {xo yo:Operand} {pos:String} {af:Array Edge} {op:Op}
theorem LI.store (hF:Wide F) (hx:ev E xo=some (.pointer (some ⟨b,i,none⟩))) (hy:ev E yo=some v) (h1:v.oneCell'=true) (hB:Blk w b L T') (hi:Nat.blt i L.length=true) (ht:Tab.row P t=some r) (hs:Nat.beq r.size 1=true)
  (h:∀w',Chg [b] w w'→Blk w' b (L.set i v) T'→LI F m P l Q rest D n E w'):LI F m P l Q ({dst:=none,op:=.store t xo yo,type:=T,pos,after:=af,guard:=none}::rest) D n E w:=by
 have hi':i<L.length:=Nat.le_of_ble_eq_true hi;have hc:v.cells.toList=[v]:=by cases v<;>first | rfl | cases h1
 have hst:=run_store_blk (P:=P) ht (w:=w) (b:=b) (i:=i) (v:=v) hB (by rw [hc];exact Nat.eq_of_beq_eq_true hs) (by rw [hc];show i+1≤L.length;omega) (by rw [hc];simpa using h1);rw [hc] at hst;have he:L.take i++[v]++L.drop (i+[v].length)=L.set i v:=by
  rw [List.set_eq_take_append_cons_drop,if_pos hi'];simp
 rw [he] at hst;exact LI.unit hF rfl rfl (fun c h=>by cases h) (fun _ ha=>by
  simp only [execOp,ha.eval hx,ha.eval hy,Instr.storeAt,Instr.sureAddr,Sem.run_bind,Sem.run_pure,Result.andThen_ok,hst]) (h _ (Chg.setRow ..) (hB.setRow _))
def noDefer:Op→Bool
 | .defer _=>false
 | _=>true
end
section
variable {F:Fence} {m:Nat} {P:Program} {Q:Exit→Act→World→Prop} {D:List Deferred} {n:Nat} {E:Env} {w:World} {l rest:List Oper} {d T:Nat} {v:Value} {pos:String} {af:Array Edge} {op:Op}
theorem Iu (h:LI F m P l Q rest D n ((d,v)::E) w) (hF:Wide F:=by assumption) (hdf:noDefer op=true:=by exact rfl) (hn:Nat.blt d n=true:=by exact rfl)
  (hy:Y P D n E w {dst:=some d,op,type:=T,pos,after:=af,guard:=none} v:=by first | exact Y.pure (by exact rfl) | exact Y.field_addr (by exact rfl) (by exact rfl) | exact Y.idx_addr (by exact rfl) (by exact rfl) (by exact rfl) (by exact rfl) (by exact rfl) (by omega) (by omega) | exact Y.load (by exact rfl) (by assumption) (by exact rfl) (by exact rfl) (by exact rfl) | exact Y.load_all (by exact rfl) (by assumption) (by exact rfl) (by exact rfl) (by exact rfl) | exact Y.load_cell (by exact rfl) (by assumption) (by exact rfl) (by exact rfl) | exact Y.go (by exact rfl) (by first | omega | exact ⟨by omega,by omega⟩ | exact ⟨by omega,by omega,by omega⟩ | (simp<;>omega))) :
  LI F m P l Q ({dst:=some d,op,type:=T,pos,after:=af,guard:=none}::rest) D n E w:=LI.val hF rfl rfl (fun c h=>by subst h;cases hdf) hn hy h
end
attribute [irreducible] CI LI
theorem Sgi {G G':Prop} (h:G') (hi:Hd G'→G:=by intro h;(repeat (first | refine Iu ?_ | apply LI.nil | apply QW.then_i | apply CI.seq | apply CI.region | apply CI.skip | apply CI.block | apply CI.ret | apply CI.exit | apply QW.then_ret | apply QW.then_exit | apply QW.blk_n | apply QW.blk_ret | apply QW.blk_exit | refine Ca ?_));exact h.h):G:=hi ⟨h⟩
theorem Blk.grown {w w':World} {b:Nat} {l:List Value} {T:TypeId} {row:Option Nat} (h:Blk w b l T) (hg:w.grownBy w' row) (hr:∀r,row=some r→∃o:Obj,w.heap[r]?=some o∧o.isCells=false):Blk w' b l T:=
 (grownBy_keeps_cells hg hr h rfl).trans h
theorem Blk.put {w:World} {b D:Nat} {l:List Value} {T:TypeId} {o o':Obj} (h:Blk w b l T) (hD:w.heap[D]?=some o) (hc:o.isCells=false):Blk (w.putObj D o') b l T:=
 h.grown (grownBy_putObj' w D o') fun r e=>by cases e;exact ⟨o,hD,hc⟩
theorem KeepsFrom.chg {B:Nat} {S:List Nat} {w w':World} (h:Chg S w w') (hS:∀b∈S,∃L T,Blk w b L T):KeepsFrom B w w':=
 ⟨h.size,fun k o _ hk ho=>by
  have hlt:k<w.heap.size:=(Array.getElem?_eq_some_iff.1 hk).1;refine (h.block k hlt fun hm=>?_).trans hk;obtain ⟨L,T,hB⟩:=hS k hm;unfold Blk at hB;rw [hk] at hB;simp only [Option.some.injEq] at hB;subst hB;cases ho⟩
def KeptOn (ok:Nat→Prop) (W W':World):Prop:=∀b,ok b→W'.heap[b]?=W.heap[b]?
theorem KeptOn.refl (ok:Nat→Prop) (W:World):KeptOn ok W W:=fun _ _=>rfl
theorem KeptOn.trans {ok:Nat→Prop} {A B C:World} (h:KeptOn ok A B) (k:KeptOn ok B C):KeptOn ok A C:=fun b hb=>(k b hb).trans (h b hb)
theorem KeptOn.put {ok:Nat→Prop} (W:World) {l:Nat} (o:Obj) (h:¬ok l):KeptOn ok W (W.putObj l o):=fun b hb=>by
 have hne:l≠b:=fun e=>h (e ▸ hb);show (Array.setIfInBounds W.heap l o)[b]?=_;exact Array.getElem?_setIfInBounds_ne hne
theorem KeptOn.chg {ok:Nat→Prop} {S:List Nat} {W W':World} (h:Chg S W W') (hs:∀b,ok b→b<W.heap.size∧b∉S):KeptOn ok W W':=fun b hb=>h.block b (hs b hb).1 (hs b hb).2
theorem KeptOn.blk {ok:Nat→Prop} {W W':World} {b:Nat} {l:List Value} {T:TypeId} (h:KeptOn ok W W') (hb:ok b) (hB:Blk W b l T):Blk W' b l T:=(h b hb).trans hB
theorem CallsIn.enterI {F:Fence} {m n:Nat} {P:Program} {f:FuncId} {fn:Func} {c:Code} {args:List Value} {w:World} {R:Ending→World→Prop} (hf:P.funcs[f]?=some fn) (hb:fn.body=some c) (hn:fn.ntmps=n) (hF:Wide F) (hro:F.round=none) (hl:Nat.ble args.length n=true)
  (h:CI F m P c (bodyPost P fn R) [] n (argEnv 0 args) w):CallsIn F m P f ⟨args⟩ w R:=
 callsIn_of_wp hf hb (hF.fn _) (by subst hn;unfold CI at h;exact h _ (holds_enter args fn.ntmps (Nat.le_of_ble_eq_true hl))) hro
theorem QW.bodyI {P:Program} {fn:Func} {R:Ending→World→Prop} {n:Nat} {E:Env} {w:World} {e:Exit} (he:e=.ret∨e=.normal) (hf:fn.results=#[]) (h:R (.returned (.tuple #[])) w):QW (bodyPost P fn R) e [] n E w:=by
 unfold QW;rcases he with rfl | rfl
 ·exact fun _ ha=>⟨ha.defers,_,results_run (rs:=[]) (vs:=[]) hf ha trivial,h⟩
 ·exact fun _ ha=>⟨ha.defers,_,results_run (rs:=[]) (vs:=[]) hf ha trivial,h⟩
section
variable {P:Program} {Q:Exit→Act→World→Prop} {D:List Deferred} {n:Nat} {E:Env} {w:World}
def noP (Q:Exit→Act→World→Prop):Exit→Act→World→Prop:=fun e a w=>match e with
 | .panic _=>False
 | e=>Q e a w
theorem CW.noP {c:Code} (h:CW P c (noP Q) D n E w):CW P c Q D n E w:=by
 unfold CW at h ⊢;exact fun a ha=>Code.wp_mono (fun e a' w' hq=>by cases e<;>first | exact hq | exact hq.elim) (h a ha)
theorem QW.noP_n (h:QW Q .normal D n E w):QW (noP Q) .normal D n E w:=by unfold QW at h ⊢;exact h
theorem Ret.enterM {f:FuncId} {fn:Func} {c:Code} {args:List Value} {Φ:Value→World→Prop} (hf:P.funcs[f]?=some fn) (hb:fn.body=some c) (hn:fn.ntmps=n) (hc:callable P f=true) (hl:Nat.ble args.length n=true)
  (h:CW P c (bodyPostM Fence.wide 4 P fn (RetR Φ)) [] n (argEnv 0 args) w):Ret P f args w Φ:=
 ⟨hc,callsIn_wide.1 (callsIn_of_wp_marks (n:=4) hf hb trivial (wpIn_wide.2 (by subst hn;unfold CW at h;exact h _ (holds_enter args fn.ntmps (Nat.le_of_ble_eq_true hl)))))⟩
theorem QW.bodyM {fn:Func} {Φ:Value→World→Prop} {rs:List ResultVar} {vs:List Value} {v:Value} {Dd:Nat} {e:Exit} (he:e=.ret∨e=.normal) (hf:fn.results=⟨rs⟩) (hD:w.heap[Dd]?=some (.deferred (some []))) (hv:RV P E (w.putObj Dd (.deferred none)) rs vs) (hp:packV vs=v) (h:Φ v (w.putObj Dd (.deferred none))) :
  QW (bodyPostM Fence.wide 4 P fn (RetR Φ)) e [{target:=.collected Dd,args:=#[]}] n E w:=by
 unfold QW;intro a ha;have key:LeavesInM Fence.wide 4 P fn a.tmps (RetR Φ) a.defers .returning w:=by
  rw [ha.defers];exact ⟨by simp,.inl ⟨_,_,rfl,run_takeDeferred hD,_,results_run hf ha hv,v,by rw [hp],h⟩⟩
 rcases he with rfl | rfl
 ·exact key
 ·exact key
end
end Go.E
namespace Go.E
open Go
section
variable {P:Program} [Tab P] {w:World} {t t2 e:TypeId} {r r':TRow} {Q:Exit→Act→World→Prop} {D:List Deferred} {n:Nat} {E:Env} {l rest:List Oper} {x y:Operand} {d T:Nat} {pos:String} {af:Array Edge}
theorem LW.copy {dp sp:Option Addr} {dLen dCap sLen sCap g off:Nat} {cur cs:List Value} {T':TypeId} (hx:ev E x=some (.slice dp dLen dCap)) (hy:ev E y=some (.slice sp sLen sCap)) (ht:Tab.row P t=some r) (hr:r.desc=.slice e) (he:Tab.row P e=some r') (hs:Nat.beq r'.size 1=true) (hn:Nat.blt d n=true)
  (hB:Blk w g cur T') (hl:cs.length=min sLen dLen) (hpos:0<cs.length→dp=some ⟨g,off,none⟩∧∃ad,sp=some ad∧∀j v,cs[j]?=some v→w.cell? (ad.add j)=some v) (hfit:off+cs.length≤cur.length) (h1:∀v∈cs,v.oneCell'=true)
  (h:∀w',Chg [g] w w'→Blk w' g (cur.take off++cs++cur.drop (off+cs.length)) T'→LW P l Q rest D n ((d,.int .i64 (cs.length:Int))::E) w') :
  LW P l Q ({dst:=some d,op:=.call {callee:=.builtin .copy,args:=#[x,y],argTypes:=#[t,t2]},type:=T,pos,after:=af,guard:=none}::rest) D n E w:=by
 obtain ⟨dd,hd,hb,i,hi,hiz,his,hib⟩:=Tab.ok e r' he;have hs1:r'.size=1:=Nat.eq_of_beq_eq_true hs;have hu:=under_slice (P:=P) ht hr;have hsz:(P.info? e).map (·.size)=some 1:=by rw [hi];simp [his,hs1]
 by_cases h0:cs.length=0
 ·obtain rfl:cs=[]:=List.eq_nil_of_length_eq_zero h0;have hrun:=run_copy_none (P:=P) w t t2 T e dp sp dLen dCap sLen sCap hu hsz (by simpa using hl.symm);refine LW.val (w':=w) rfl rfl hn (fun a ha=>?_) (h w (Chg.refl _ _) (by simpa using hB));unfold execOp;simp only [resolve,invoke,builtin,Sem.run_bind,Sem.run_pure,Result.andThen_ok,List.map_toArray,List.map_cons,List.map_nil,ha.eval hx,ha.eval hy,hrun];rfl
 ·obtain ⟨rfl,ad,rfl,hsrc⟩:=hpos (by omega);have hrun:=run_copy_row (P:=P) w t t2 T e g off dLen dCap ad sLen sCap ⟨cur⟩ T' cs hu hsz hB hl hsrc (by simpa using hfit) h1;refine LW.val (w':=w.setRow g (cur.take off++cs++cur.drop (off+cs.length)).toArray) rfl rfl hn (fun a ha=>?_) (h _ (Chg.setRow _ _ _) (setRow_heap w g _ _ T' _ hB));unfold execOp;simp only [resolve,invoke,builtin,Sem.run_bind,Sem.run_pure,Result.andThen_ok,List.map_toArray,List.map_cons,List.map_nil,ha.eval hx,ha.eval hy,hrun];rfl
end
end Go.E
namespace Go.E
open Go
section
variable {P:Program} {w:World} {t t':TypeId} {Q:Exit→Act→World→Prop} {D:List Deferred} {n:Nat} {E:Env} {l rest:List Oper} {x y:Operand} {d T:Nat} {pos:String} {af:Array Edge}
theorem Y.min {k k':IntKind} {p q c:Int} (hx:ev E x=some (.int k p)) (hy:ev E y=some (.int k' q)) (hc:Min.min p q=c):Y P D n E w {dst:=some d,op:=.call {callee:=.builtin .min,args:=#[x,y],argTypes:=#[t,t']},type:=T,pos,after:=af,guard:=none} (.int k c):=fun a ha=>by
 subst hc;unfold execOp;simp only [resolve,invoke,builtin,Sem.run_bind,Sem.run_pure,Result.andThen_ok,List.map_toArray,List.map_cons,List.map_nil,ha.eval hx,ha.eval hy,Go.Lib.run_min_ints]
end
end Go.E
namespace Go.E
open Go
theorem madeCells_many {z:List Value} (m:Nat):madeCells ⟨z⟩ (m*z.length)=⟨(List.replicate m z).flatten⟩:=by
 have hl:∀cs∈List.replicate m z,cs.length=z.length:=fun cs hc=>by rw [List.eq_of_mem_replicate hc]
 apply Array.ext';unfold madeCells;apply List.ext_getElem?;intro i;simp only [Array.toList_map,Array.toList_range,List.getElem?_map];by_cases h:i<m*z.length
 ·have hz:0<z.length:=by
   rcases Nat.eq_zero_or_pos z.length with e | e
   ·rw [e] at h;simp at h
   ·exact e
  have hk:i / z.length<m:=(Nat.div_lt_iff_lt_mul hz).2 h;have hm:i % z.length<z.length:=Nat.mod_lt _ hz;have e:=flatten_get (sp:=[]) (i:=i / z.length) (cs:=z) (j:=i % z.length) hl (by rw [List.getElem?_replicate,if_pos hk]) hm;rw [List.append_nil,Nat.div_add_mod'] at e;rw [e,List.getElem?_range h];simp [hm]
 ·rw [List.getElem?_eq_none (by simp;omega),List.getElem?_eq_none (by rw [flatten_len hl,List.length_replicate];omega)];rfl
section
variable {P:Program} [Tab P] {w:World} {t e:TypeId} {r r':TRow} {Q:Exit→Act→World→Prop} {D:List Deferred} {n:Nat} {E:Env} {l rest:List Oper} {x y:Operand} {d T:Nat} {pos:String} {af:Array Edge} {a0:Addr}
theorem LW.makeSliceN {k k':IntKind} {m:Nat} {z:List Value} (hx:ev E x=some (.int k (m:Int))) (hy:ev E y=some (.int k' (m:Int))) (ht:Tab.row P t=some r) (hr:r.desc=.slice e) (he:Tab.row P e=some r') (hz:r'.zero.cells=⟨z⟩) (hs:r'.size=z.length) (hm:m≤16777216) (hmz:m*z.length≤16777216) (hbb:Nat.ble r'.bytes 1000000=true) (hn:Nat.blt d n=true)
  (h:∀b w',b=w.heap.size→Ext w w'→Blk w' b (List.replicate m z).flatten e→LW P l Q rest D n ((d,.slice (some ⟨b,0,none⟩) m m)::E) w') :
  LW P l Q ({dst:=some d,op:=.makeSlice t x y,type:=T,pos,after:=af,guard:=none}::rest) D n E w:=by
 obtain ⟨d0,hd,hb,i,hi,hiz,his,hib⟩:=Tab.ok e r' he;have hm2:m*r'.bytes≤16777216*1000000:=Nat.mul_le_mul hm (Nat.le_of_ble_eq_true hbb);have hbm:(r'.bytes:Int)*(m:Int)=((m*r'.bytes:Nat):Int):=by rw [Int.natCast_mul,Int.mul_comm]
 have hrun:=run_makeSlice (P:=P) (w:=w) t e i r'.zero (under_slice ht hr) hi hiz k k' (m:Int) (m:Int) (by omega) (Int.le_refl _) (by rw [his,hs,Int.toNat_natCast];omega) (by rw [hib,hbm];omega) (by omega);rw [his,hs,Int.toNat_natCast,hz,madeCells_many] at hrun;refine LW.val (w':=w.alloc (.cells ⟨(List.replicate m z).flatten⟩ e)) rfl rfl hn (fun a ha=>?_) (h _ _ rfl (Ext.alloc ..) (Blk.alloc ..));have e1:(execOp a.eval {dst:=some d,op:=.makeSlice t x y,type:=T,pos,after:=af,guard:=none})=(do Pure.pure (Next.value (←Instr.makeSlice t (a.eval x) (a.eval y)))):=rfl;rw [e1,ha.eval hx,ha.eval hy,Sem.run_bind,hrun];rfl
theorem Y.slice_array {m:Nat} (hx:ev E x=some (.pointer (some a0))) (ht:Tab.row P t=some r) (hr:r.desc=.array m e) (he:Tab.row P e=some r') :
  Y P D n E w {dst:=some d,op:=.slice t x none none none,type:=T,pos,after:=af,guard:=none} (.slice (some a0) m m):=fun a ha=>by
 have hu:=under_array ht hr;have hl:P.arrayLen t=m:=by simp [Program.arrayLen,hu]
 have hel:P.elem t=e:=by simp [Program.elem,hu]
 have e1:(Instr.sliceAt t (.pointer (some a0)) none none none).run P w=.ok (.slice (some a0) m m) w:=by
  rw [run_sliceAt_array_all w t a0 (by rw [hl,hel];exact hu),hel,run_size he];simp only [Result.andThen_ok,slicedAt,hl,Nat.zero_mul,add_zero',ite_self,Nat.sub_zero]
 simp only [execOp,ha.eval hx,Option.map_none,Sem.run_bind,e1,Result.andThen_ok,Sem.run_pure]
omit [Tab P] in
theorem Y.max {t2:TypeId} {k k':IntKind} {p q c:Int} (hx:ev E x=some (.int k p)) (hy:ev E y=some (.int k' q)) (hc:(if p<q then q else p)=c):Y P D n E w {dst:=some d,op:=.call {callee:=.builtin .max,args:=#[x,y],argTypes:=#[t,t2]},type:=T,pos,after:=af,guard:=none} (.int k c):=by
 subst hc;exact Y.max2 hx hy
theorem Y.slice_three {lo hi mx:Operand} {k k' k2:IntKind} {p:Option Addr} {m c i j q:Nat} (hx:ev E x=some (.slice p m c)) (hl:ev E lo=some (.int k (i:Int))) (hh:ev E hi=some (.int k' (j:Int))) (hm:ev E mx=some (.int k2 (q:Int))) (ht:Tab.row P t=some r) (hr:r.desc=.slice e) (he:Tab.row P e=some r') (hij:i≤j) (hjq:j≤q) (hq:q≤c) :
  Y P D n E w {dst:=some d,op:=.slice t x (some lo) (some hi) (some mx),type:=T,pos,after:=af,guard:=none} (.slice (if q=i then p else p.map (·.add (i*r'.size))) (j - i) (q - i)):=fun a ha=>by
 have hu:=under_slice ht hr;have hu':P.underlying t=some (.slice (P.elem t)):=by rw [elem_of hu];exact hu
 have e1:(Instr.sliceAt t (.slice p m c) (some (.int k (i:Int))) (some (.int k' (j:Int))) (some (.int k2 (q:Int)))).run P w=.ok (.slice (if q=i then p else p.map (·.add (i*r'.size))) (j - i) (q - i)) w:=by
  rw [run_sliceAt_slice w t _ _ _ _ hu',run_slice_any w t p m c hu'];have hb:(Instr.sliceBounds true m c (some (.int k (i:Int))) (some (.int k' (j:Int))) (some (.int k2 (q:Int)))).run P w=.ok (i,j,q) w:=by
   simp [Instr.sliceBounds,Instr.sliceBound,asIntOf,hij,hjq,hq]
  rw [hb,elem_of hu];simp only [Result.andThen_ok,run_size he,sliced]
 simp only [execOp,ha.eval hx,ha.eval hl,ha.eval hh,ha.eval hm,Option.map_some,Sem.run_bind,e1,Result.andThen_ok,Sem.run_pure]
theorem Y.neq_pn {p:Option Addr} {ty:TypeId} (hx:ev E x=some (.pointer p)) (ht:Tab.row P t=some r) (hr:r.desc=.pointer e) :
  Y P D n E w {dst:=some d,op:=.binOp .neq t x (.const (.pointer none)) ty,type:=T,pos,after:=af,guard:=none} (.bool p.isSome):=fun a ha=>by
 have hg:(eqGuard .neq t x (.const (.pointer none)) (.pointer p) (.pointer none)).run P w=.ok () w:=rfl;have e2:a.eval (.const (.pointer none))=.pointer none:=rfl;simp only [execOp,ha.eval hx,e2,Sem.run_bind,hg,Result.andThen_ok,binOp,run_equal_pointer_nil w t p (under_pointee ht hr),Sem.run_pure];cases p<;>rfl
end
section
variable {P:Program} [Tab P] {w:World} {lo:Nat} {t tn e:TypeId} {r r' r'':TRow} {k kn:IntKind} {z:Value}
theorem run_app_zeros (ht:Tab.row P t=some r) (hr:r.desc=.slice e) (he:Tab.row P e=some r') (hz:r'.zero.cells=#[z]) (hs1:r'.size=1) (htn:Tab.row P tn=some r'') (hrn:r''.desc=.int kn)
  {v:Value} {n m:Nat} {xs:List Value} (hown:Own w lo e 1 v n xs) (hlo:lo≤w.heap.size) (h63:n+m≤9223372036854775807) (hby:(n+m)*r'.bytes≤140737488355328) (hz1:z.oneCell'=true) (ty:TypeId) :
  ∃v' w',(Builtin.append_ #[t,tn] ty #[v,.int k (m:Int)]).run P w=.ok v' w'∧Chg (vblk v) w w'∧Own w' lo e 1 v' (n+m) (xs++List.replicate m z)∧(∀k,k∈vblk v'→k∈vblk v∨w.heap.size≤k):=by
 obtain ⟨d,hd,hb,i,hi,hiz,his,hib⟩:=Tab.ok e r' he;have hu:=under_slice (P:=P) ht hr;have hun:=under_int (P:=P) htn hrn;have hw:IntKind.i64.wrap (m:Int)=m:=by rw [IntKind.wrap_i64];omega
 have hneg:¬((m:Int)<0):=by omega
 have hmb:m*r'.bytes≤(n+m)*r'.bytes:=Nat.mul_le_mul_right _ (by omega);have h48i:¬(281474976710656<(m:Int)*(i.bytes:Int)):=by
  rw [←Int.natCast_mul,hib];omega
 have hsz:i.size=1:=his.trans hs1;have hrep:∀q,Builtin.zeroCells r'.zero.cells q=(List.replicate q z).toArray:=fun q=>by
  rw [hz];exact zeroCells_one q
 have hnl:(List.replicate m z).length=m:=List.length_replicate;have hw0:IntKind.i64.wrap 0=0:=by decide
 rcases Nat.eq_zero_or_pos m with rfl | hm
 ·obtain ⟨hxl,⟨rfl,rfl⟩ | ⟨g,cap,sp,rfl,hG,h2,h3,h4⟩⟩:=hown
  ·have hx:xs=[]:=List.eq_nil_of_length_eq_zero (by omega);subst hx;refine ⟨.slice none 0 0,w,?_,Chg.refl _ _,Own.nil _ _ _ _,fun k hk=>.inl hk⟩;simp [Builtin.append_,run_underlying hu,run_underlying hun,sizeOf,typeInfo,hi,asInt,asIntOf,hw0]
  ·refine ⟨.slice (some ⟨g,0,none⟩) n cap,w,?_,Chg.refl _ _,⟨by simpa using hxl,.inr ⟨g,cap,sp,rfl,by simpa using hG,by simpa using h2,by simpa using h3,h4⟩⟩,fun k hk=>.inl hk⟩;simp [Builtin.append_,run_underlying hu,run_underlying hun,sizeOf,typeInfo,hi,asInt,asIntOf,hw0,h2,storeCells]
 have hm0:m≠0:=by omega
 obtain ⟨hxl,⟨rfl,rfl⟩ | ⟨g,cap,sp,rfl,hG,h2,h3,h4⟩⟩:=hown
 ·have hx:xs=[]:=List.eq_nil_of_length_eq_zero (by omega);subst hx;have hrun:=Go.Lib.run_append_nil_zeros (P:=P) w t tn ty e i r'.zero k kn hu hun hi hiz m hm (by omega) (by omega) (by rw [hib];omega);rw [hrep,hrep] at hrun;have hg:=grownCap_ge w m 0 e;refine ⟨_,_,hrun,(Ext.drew w).trans (Ext.alloc _ _),⟨by simp,.inr ⟨w.heap.size,_,List.replicate (grownCap w m 0 e - m) z,by rw [Nat.zero_add],?_,by omega,by simp,hlo⟩⟩,fun k hk=>?_⟩
  ·have:=Blk.alloc w.drew (List.replicate m z++List.replicate (grownCap w m 0 e - m) z) e;have ea:(List.replicate m z).toArray++(List.replicate (grownCap w m 0 e - m) z).toArray=(⟨List.replicate m z++List.replicate (grownCap w m 0 e - m) z⟩:Array Value):=by
    apply Array.ext';simp
   rw [ea,List.nil_append];exact this
  ·simp [vblk] at hk;exact .inr (by omega)
 ·by_cases hroom:n+m≤cap
  ·have hfit:n*1+(List.replicate m z).length≤(⟨xs++sp⟩:Array Value).size:=by
    simp only [List.size_toArray,List.length_append,hnl];omega
   have hst:=run_storeCells_at P g (n*1) e (List.replicate m z) 0 ⟨xs++sp⟩ w hG (by simpa using hfit) (fun u hu=>by rw [List.eq_of_mem_replicate hu];exact hz1);simp only [Nat.add_zero] at hst;have e1:((⟨xs++sp⟩:Array Value).toList.take (n*1)++List.replicate m z++(⟨xs++sp⟩:Array Value).toList.drop (n*1+(List.replicate m z).length))=xs++List.replicate m z++sp.drop m:=by
    rw [hnl,show n*1=xs.length by omega];simp
   rw [e1] at hst;have hrun:(Builtin.append_ #[t,tn] ty #[.slice (some ⟨g,0,none⟩) n cap,.int k (m:Int)]).run P w=.ok (.slice (some ⟨g,0,none⟩) (n+m) cap) (w.setRow g (xs++List.replicate m z++sp.drop m).toArray):=by
    rw [Nat.mul_one] at hst;simp [Builtin.append_,run_underlying hu,run_underlying hun,sizeOf,typeInfo,zeroValue,hi,hiz,hsz,asInt,asIntOf,hw,hneg,h48i,hm0,hroom,hrep,Addr.add_lit,hst]
   refine ⟨_,_,hrun,Chg.setRow _ _ _,⟨by simp;omega,.inr ⟨g,cap,sp.drop m,rfl,hG.setRow _,hroom,by rw [List.length_drop,h3];omega,h4⟩⟩,fun k hk=>.inl hk⟩
  ·have hg:cap<n+m:=by omega
   have hold:=run_firstCells_some (P:=P) w.drew 1 n ⟨g,0,none⟩ n cap xs hxl (fun j u hj=>by
     have:=hG.getElem j u (by rw [List.getElem?_append_left (List.getElem?_eq_some_iff.1 hj).1];exact hj)
     simpa using this)
   have hfit:=growslice_fits hg hby;rw [←hib] at hfit;have h48':¬(281474976710656<Builtin.nextslicecap (n+m) cap*i.bytes):=by omega
   have h63':¬(9223372036854775807<((n:Int)+(m:Int))):=by omega
   have hrun:(Builtin.append_ #[t,tn] ty #[.slice (some ⟨g,0,none⟩) n cap,.int k (m:Int)]).run P w=.ok (.slice (some ⟨w.heap.size,0,none⟩) (n+m) (grownCap w (n+m) cap e)) (w.drew.alloc (.cells ((xs++List.replicate m z).toArray++(List.replicate (grownCap w (n+m) cap e - (n+m)) z).toArray) e)):=by
    simp [Builtin.append_,run_underlying hu,run_underlying hun,sizeOf,typeInfo,zeroValue,hi,hiz,hsz,asInt,asIntOf,hw,hneg,h48i,hm0,hroom,h63',h48',Question.forced,hrep,hold,newRow,grownCap]
    congr 2
    apply Array.ext';simp [List.append_assoc]
   refine ⟨_,_,hrun,((Ext.drew w).trans (Ext.alloc _ _)).mono (by simp),⟨by simp;omega,.inr ⟨w.heap.size,_,List.replicate (grownCap w (n+m) cap e - (n+m)) z,rfl,?_,grownCap_ge w (n+m) cap e,by simp,hlo⟩⟩,fun k hk=>?_⟩
   ·have:=Blk.alloc w.drew (xs++List.replicate m z++List.replicate (grownCap w (n+m) cap e - (n+m)) z) e;have ea:(xs++List.replicate m z).toArray++(List.replicate (grownCap w (n+m) cap e - (n+m)) z).toArray=(⟨xs++List.replicate m z++List.replicate (grownCap w (n+m) cap e - (n+m)) z⟩:Array Value):=by
     apply Array.ext';simp
    rw [ea];exact this
   ·simp [vblk] at hk;exact .inr (by omega)
variable {Q:Exit→Act→World→Prop} {D:List Deferred} {q:Nat} {E:Env} {l rest:List Oper} {x y:Operand} {d T:Nat} {pos:String} {af:Array Edge}
theorem LW.append_make {v:Value} {n m:Nat} {xs:List Value} (hx:ev E x=some v) (hy:ev E y=some (.int k (m:Int))) (ht:Tab.row P t=some r) (hr:r.desc=.slice e) (he:Tab.row P e=some r') (hz:r'.zero.cells=#[z]) (hs1:r'.size=1) (htn:Tab.row P tn=some r'') (hrn:r''.desc=.int kn)
  (hown:Own w lo e 1 v n xs) (hlo:lo≤w.heap.size) (hby:(n+m)*(r'.bytes+1)≤140737488355328) (hz1:z.oneCell'=true) (hn:Nat.blt d q=true)
  (h:∀v' w',Chg (vblk v) w w'→Own w' lo e 1 v' (n+m) (xs++List.replicate m z)→(∀j,j∈vblk v'→j∈vblk v∨w.heap.size≤j)→LW P l Q rest D q ((d,v')::E) w') :
  LW P l Q ({dst:=some d,op:=.call {callee:=.builtin .append,args:=#[x,y],argTypes:=#[t,tn]},type:=T,pos,after:=af,guard:=none}::rest) D q E w:=by
 have h2:(n+m)*(r'.bytes+1)=(n+m)*r'.bytes+(n+m):=by rw [Nat.mul_add,Nat.mul_one]
 obtain ⟨v',w',hrun,hc,ho,hv⟩:=run_app_zeros (k:=k) (n:=n) (m:=m) ht hr he hz hs1 htn hrn hown hlo (by omega) (by omega) hz1 T;refine LW.val (w':=w') (v:=v') rfl rfl hn (fun a ha=>?_) (h v' w' hc ho hv);unfold execOp;simp only [resolve,invoke,builtin,Sem.run_bind,Sem.run_pure,Result.andThen_ok,List.map_toArray,List.map_cons,List.map_nil,ha.eval hx,ha.eval hy,hrun]
end
section
variable {P:Program} [Tab P] {w:World} {t s u:TypeId} {r r' r'':TRow} {Q:Exit→Act→World→Prop} {D:List Deferred} {n:Nat} {E:Env} {l rest:List Oper} {x:Operand} {d T:Nat} {pos:String} {af:Array Edge}
theorem LW.bytes_str {bs:List UInt8} (hx:ev E x=some (str bs)) (hs:Tab.row P s=some r) (hsd:r.desc=.string) (ht:Tab.row P t=some r') (htd:r'.desc=.slice u) (hu:Tab.row P u=some r'') (hud:r''.desc=.int .u8) (hn:Nat.blt d n=true)
  (h:∀g cap w',g=w.heap.size→Ext w w'→bs.length≤cap→g<w'.heap.size→(∀j b,bs[j]?=some b→w'.cell? ⟨g,j,none⟩=some (.int .u8 (b.toNat:Int)))→LW P l Q rest D n ((d,.slice (some ⟨g,0,none⟩) bs.length cap)::E) w') :
  LW P l Q ({dst:=some d,op:=.convert s t x,type:=T,pos,after:=af,guard:=none}::rest) D n E w:=by
 have hrun:=run_bytes_of_string (P:=P) w s t u ⟨⟨bs⟩⟩ (by
  obtain ⟨dd,hh,hb,_⟩:=run_under hs;cases dd<;>simp [bare,hsd] at hb;exact hh) (under_slice ht htd) (under_int hu hud)
 have hsz:(⟨⟨bs⟩⟩:ByteArray).size=bs.length:=rfl;rw [hsz] at hrun;have hg:=grownCap_ge w bs.length 0 u;obtain ⟨O,hO⟩:∃O,Obj.cells (bytesRow ⟨⟨bs⟩⟩ (grownCap w bs.length 0 u)) u ((bytesRow ⟨⟨bs⟩⟩ (grownCap w bs.length 0 u)).size,(bytesRow ⟨⟨bs⟩⟩ (grownCap w bs.length 0 u)).size+1)=O:=⟨_,rfl⟩;rw [hO] at hrun;refine LW.val (w':=w.drew.alloc O) rfl rfl hn (fun a ha=>?_) (h w.heap.size (grownCap w bs.length 0 u) (w.drew.alloc O) rfl ((Ext.drew w).trans (Ext.alloc _ _)) hg (by show w.heap.size<(w.heap.push _).size;simp) fun j b hj=>?_)
 ·simp only [execOp,ha.eval hx,Sem.run_bind,hrun,Result.andThen_ok,Sem.run_pure]
 ·have hh:(w.drew.alloc O).heap[w.heap.size]?=some O:=by
   show (w.heap.push _)[w.heap.size]?=_;simp
  rw [←hO] at hh ⊢;unfold World.cell?;simp only [hh];have hjl:=(List.getElem?_eq_some_iff.1 hj).1;simp only [bytesRow];rw [Array.getElem?_append_left (by simpa using hjl)];simp [hj]
end
section
variable {P:Program} [Tab P] {w:World} {t u e:TypeId} {r r':TRow} {Q:Exit→Act→World→Prop} {D:List Deferred} {n lo:Nat} {E:Env} {l rest:List Oper} {x y:Operand} {d T:Nat} {pos:String} {af:Array Edge}
theorem LW.mark {b len cap:Nat} {L:List Value} {T':TypeId} (hx:ev E x=some (.slice (some ⟨b,0,none⟩) len cap)) (hB:Blk w b L T') (hs:Tab.row P t=some r) (hsd:r.desc=.slice u) (hu:Tab.row P u=some r') (hud:r'.desc=.int .u8) (hn:Nat.blt d n=true)
  (h:∀w',Chg [b] w w'→(∀j v,L[j]?=some v→w'.cell? ⟨b,j,none⟩=some v)→LW P l Q rest D n ((d,.slice (some ⟨b,0,none⟩) len cap)::E) w') :
  LW P l Q ({dst:=some d,op:=.convert t t x,type:=T,pos,after:=af,guard:=none}::rest) D n E w:=by
 have hsh:w.shape? b=some (T',L.length):=by
  unfold World.shape?;rw [show w.heap[b]?=some (.cells ⟨L⟩ T' (0,0)) from hB];rfl
 have hrun:(convert t t (.slice (some ⟨b,0,none⟩) len cap)).run P w=.ok (.slice (some ⟨b,0,none⟩) len cap) (w.freeze ⟨b,L.length,none⟩ 1):=by
  simp [convert,run_underlying (under_slice hs hsd),run_underlying (under_int hu hud),markStringish,hsh]
 have hfz:w.freeze ⟨b,L.length,none⟩ 1={w with heap:=w.heap.modify b fun
   | .cells c elem (lo,hi)=>.cells c elem (if lo == hi then (L.length,L.length+1) else (Min.min lo L.length,Max.max hi (L.length+1)))
   | o=>o}:=by
  unfold World.freeze;rw [if_neg (by decide)];rfl
 refine LW.val (w':=w.freeze ⟨b,L.length,none⟩ 1) rfl rfl hn (fun a ha=>?_) (h _ ?_ fun j v hj=>?_)
 ·simp only [execOp,ha.eval hx,Sem.run_bind,hrun,Result.andThen_ok,Sem.run_pure]
 ·rw [hfz];exact ⟨rfl,rfl,rfl,by simp,fun k _ hk=>by
   have:¬b=k:=fun e=>hk (by simp [e]);simp [Array.getElem?_modify,this]⟩
 ·rw [hfz];unfold World.cell?;have hb:w.heap[b]?=some (.cells ⟨L⟩ T' (0,0)):=hB;simp only [Array.getElem?_modify,if_true,hb,Option.map_some]
  simpa using hj
theorem LW.append_from {p q:Option Addr} {k m c:Nat} {xs news:List Value} (hx:ev E x=some (.slice p k k)) (hy:ev E y=some (.slice q m c)) (ht:Tab.row P t=some r) (hr:r.desc=.slice e) (he:Tab.row P e=some r') (hz:Nat.beq r'.zero.cells.size r'.size=true)
  (hxl:xs.length=k*r'.size) (hp:p=none∧k=0∨∃a,p=some a∧∀j u,xs[j]?=some u→w.cell? (a.add j)=some u) (hlo:lo≤w.heap.size) (hl:news.length=m*r'.size) (hq:q=none∧m=0∨∃a,q=some a∧∀j u,news[j]?=some u→w.cell? (a.add j)=some u) (h1:∀u∈news,u.oneCell'=true) (hm:0<m) (hby:(k+m)*(r'.bytes+1)≤140737488355328) (hn:Nat.blt d n=true)
  (h:∀v' w',Ext w w'→Own w' lo e r'.size v' (k+m) (xs++news)→(∀j,j∈vblk v'→w.heap.size≤j)→LW P l Q rest D n ((d,v')::E) w') :
  LW P l Q ({dst:=some d,op:=.call {callee:=.builtin .append,args:=#[x,y],argTypes:=#[t,t]},type:=T,pos,after:=af,guard:=none}::rest) D n E w:=by
 have h2:(k+m)*(r'.bytes+1)=(k+m)*r'.bytes+(k+m):=by rw [Nat.mul_add,Nat.mul_one]
 obtain ⟨d0,hd,hb,i,hi,hiz,his,hib⟩:=Tab.ok e r' he;have hu:=under_slice (P:=P) ht hr;have hzs:r'.zero.cells.size=r'.size:=Nat.eq_of_beq_eq_true hz;have hsrc:Src P r'.size t (.slice q m c) m news w:=by
  rcases hq with ⟨rfl,rfl⟩ | ⟨a,rfl,hc⟩
  ·omega
  ·exact Src.ofSlice w hu a m c news hl hc h1
 have key:∃v' w',(Builtin.append_ #[t,t] T #[.slice p k k,.slice q m c]).run P w=.ok v' w'∧Ext w w'∧Own w' lo e r'.size v' (k+m) (xs++news)∧(∀j,j∈vblk v'→w.heap.size≤j):=by
  rcases hp with ⟨rfl,rfl⟩ | ⟨a,rfl,hc⟩
  ·have hx0:xs=[]:=by cases xs with
    | nil=>rfl
    | cons a b=>simp at hxl
   subst hx0;obtain ⟨v',w',e1,e2,e3,e4⟩:=run_app_src ht hr he hz (Own.nil w lo e r'.size) hlo hsrc (by omega) (by omega) T;exact ⟨v',w',e1,e2.mono (by simp [vblk]),e3,fun j hj=>(e4 j hj).resolve_left (by simp [vblk])⟩
  ·have hs':Src P i.size t (.slice q m c) m news w:=by rw [his];exact hsrc
   have hrun:=run_append_grow_src (P:=P) w t t T e i r'.zero hu hi hiz (some a) k k xs (run_firstCells_some w.drew i.size k a k k xs (by rw [his];exact hxl) hc) (.slice q m c) m news hs' (by omega) (by omega) (by rw [hib];exact growslice_fits (by omega) (by omega));refine ⟨_,_,hrun,((Ext.drew w).trans (Ext.alloc _ _)).mono (by simp),⟨by simp [hxl,hl,Nat.add_mul],.inr ⟨w.heap.size,_,(Builtin.zeroCells r'.zero.cells (grownCap w (k+m) k e - (k+m))).toList,rfl,?_,grownCap_ge w (k+m) k e,?_,hlo⟩⟩,?_⟩
   ·have:=Blk.alloc w.drew (xs++news++(Builtin.zeroCells r'.zero.cells (grownCap w (k+m) k e - (k+m))).toList) e;have ea:(xs++news).toArray++Builtin.zeroCells r'.zero.cells (grownCap w (k+m) k e - (k+m))=(⟨xs++news++(Builtin.zeroCells r'.zero.cells (grownCap w (k+m) k e - (k+m))).toList⟩:Array Value):=by
     apply Array.ext';simp
    rw [ea];exact this
   ·rw [zeroCells_length,hzs]
   ·intro j hj;simp [vblk] at hj;omega
 obtain ⟨v',w',hrun,hc,ho,hv⟩:=key;refine LW.val (w':=w') (v:=v') rfl rfl hn (fun a ha=>?_) (h v' w' hc ho hv);unfold execOp;simp only [resolve,invoke,builtin,Sem.run_bind,Sem.run_pure,Result.andThen_ok,List.map_toArray,List.map_cons,List.map_nil,ha.eval hx,ha.eval hy,hrun]
end
end Go.E
namespace Go.E
open Go Go.RowKit
theorem noOut_then {K:Act→World→Prop} {Q:Exit→Act→World→Prop} (h:¬LetsOut Q):¬LetsOut (Exit.then K Q):=fun ⟨a,w,x⟩=>h ⟨a,w,x⟩
theorem noOut_block {id:Nat} {Q:Exit→Act→World→Prop} (h:¬LetsOut Q):¬LetsOut (Exit.inBlock id Q):=fun ⟨a,w,x⟩=>h ⟨a,w,x⟩
theorem noOut_own {α:Type} {B:Nat} {Kp:World→World→Prop} {I:List α→World→Prop} {Ix:Code→List α→World→Prop} {xs:List α} {W:World}:¬LetsOut (ownPostG B Kp I Ix xs W):=fun ⟨_,_,x⟩=>x
theorem noDefer_ne {op:Op} (h:noDefer op=true):∀c,op≠.defer c:=fun c e=>by subst e;cases h
def noDefers (l:List Oper):Bool:=l.all fun o=>noDefer o.op
section
variable {P:Program} {Q:Exit→Act→World→Prop} {lr m:Nat}
theorem op_in {o:Oper} {a:Act} {w:World} {K:Act→World→Prop} (hdf:∀c,o.op≠.defer c) (h:o.wp P a w K Q):o.wpIn (Fence.wide.inRound lr) m P a w K Q:=by
 unfold Oper.wp at h;unfold Oper.wpIn;refine ⟨fun _ _=>trivial,?_⟩;rw [semAt_run a hdf];generalize (execOp a.eval o).run P w=r at *
 cases r with
 | ok x w'=>
  cases x<;>simp only [Oper.upon,Oper.uponIn] at h ⊢<;>
   first
    | exact h
    | exact ⟨fun h=>(by cases h),callsIn_wide.2 h⟩
    | exact ⟨fun h=>(by cases h),fun c cs _=>let ⟨v,w',r,s⟩:=h c cs;⟨v,w',r,stepsIn_wide.2 s⟩⟩
    | exact h.elim
 | halt x w'=>cases x<;>simp only [Oper.upon,Oper.uponIn] at h ⊢<;>exact h
theorem list_in {ops:Array Oper} (hno:¬LetsOut Q):∀(rest:List Oper),noDefers rest=true→∀(a:Act) (w:World),wpList P ops Q rest a w→wpListIn (Fence.wide.inRound lr) m P ops Q rest a w
 | [],_,_,_,h=>h
 | o::rest,hd,a,w,h=>by
  simp only [noDefers,List.all_cons,Bool.and_eq_true] at hd;unfold wpList at h;unfold wpListIn
  split at h
  ·rename_i hw;rw [if_pos hw];rcases h with h | ⟨_,h⟩
   ·exact op_in (noDefer_ne hd.1) (Oper.wp_mono (fun a w hk=>list_in hno rest hd.2 a w hk) h)
   ·exact absurd h hno
  ·rename_i hw;rw [if_neg hw];exact ⟨fun _ _=>trivial,list_in hno rest hd.2 _ _ h⟩
theorem any_in {md:Region.Mode} {ops:Array Oper} (hno:¬LetsOut Q) (hd:noDefers ops.toList=true):∀(fuel:Nat) (listed:Array Bool) (a:Act) (w:World),wpAny P md ops Q fuel listed a w→wpAnyIn (Fence.wide.inRound lr) m P md ops Q fuel listed a w
 | 0,_,_,_,h=>h
 | fuel+1,listed,a,w,h=>⟨h.1,fun i hi=>by
  have h2:=h.2 i hi;unfold wpOp at h2;unfold wpOpIn
  cases e:ops[i]? with
  | none=>
   simp only [e] at h2 ⊢
   exact any_in hno hd _ _ _ _ h2
  | some o=>
   simp only [e] at h2 ⊢;have ho:noDefer o.op=true:=List.all_eq_true.1 hd o (Array.mem_toList_iff.2 (Array.mem_of_getElem? e))
   split at h2
   ·rename_i hw;rw [if_pos hw];rcases h2 with h2 | ⟨_,h2⟩
    ·exact op_in (noDefer_ne ho) (Oper.wp_mono (fun a w hk=>any_in hno hd _ _ _ _ hk) h2)
    ·exact absurd h2 hno
   ·rename_i hw;rw [if_neg hw];exact ⟨fun _ _=>trivial,any_in hno hd _ _ _ _ h2⟩⟩
variable {D:List Deferred} {n:Nat} {E:Env} {w:World} {l:List Oper} {id:Nat}
theorem CI.regionP (hno:¬LetsOut Q) (hd:noDefers l=true) (h:LW P l Q l D n E w):CI (Fence.wide.inRound lr) m P (.region id l.toArray false) Q D n E w:=by
 unfold LW at h;unfold CI;exact fun a ha=>wpIn_region_lit (list_in hno l hd a w (h a ha))
theorem CI.drawG (S:World→Prop) (k:Nat) (hno:¬LetsOut Q) (hd:noDefers l=true) (hS:∀w',Ext w w'→S w') (hm:P.follows .mixedOrders=true) (h:∀w',Ext w w'→GW P S l k Q l.length (List.replicate l.length false) D n E w'):CI (Fence.wide.inRound lr) m P (.region id l.toArray true) Q D n E w:=by
 unfold CI;refine fun a ha=>wpIn_region_any hm (any_in hno hd _ _ _ _ (wpAny_of_early (S:=S) (n:=k) _ _ _ _ ?_));have inv0:HeadInv .any l.toArray k (Array.replicate l.toArray.size false):=
  ⟨by simp,fun j oj _ hl=>(by rw [getD_replicate_false] at hl;cases hl),fun t _ ht=>getD_in (by simpa using ht) (getD_replicate_false _ _)⟩
 have e:(⟨List.replicate l.length false⟩:Array Bool)=Array.replicate l.toArray.size false:=by simp
 have h1:=h _ (Ext.drew w);unfold GW at h1;have:=h1 a ha (hS _ (Ext.drew w)) (by rw [e];exact inv0);rw [e] at this
 simpa using this
end
section
variable {P:Program} {Q:Exit→Act→World→Prop} {D:List Deferred} {n:Nat} {E:Env} {w:World}
theorem CW.rangeFuncR {α:Type} {g:Operand} {ps:List Tmp} {assign body:Code} {gf:Nat} {lb:List Value} {encs:α→List Value} {S Sp:List α→Prop} {N:Nat} {w0:World} {ok:Nat→Prop}
  (hg:ev E g=some (.func (.func gf) ⟨[]⟩ ⟨lb⟩)) (hc:callable P gf=true) (hseq:SeqStopsK Fence.wide 3 P gf ⟨lb⟩ (fun x=>⟨encs x⟩) (KeptOn ok) S Sp N w0) (hb0:Below w0.heap.size w0 w) (hn0:∀b,ok b→b<w.heap.size) (hps:∀x,(encs x).length=ps.length) (hpn:ps.all (fun p=>Nat.blt p n)=true)
  (I:List α→World→Prop) (Ix:Code→List α→World→Prop) (hI:OwnFrom w.heap.size I) (hIx:∀c,OwnFrom w.heap.size (Ix c)) (h0:I [] w) (EA:α→Env)
  (hassign:∀(l:Nat) (pre:List α) (x:α) (W:World) (K:Act→World→Prop),I pre W→(∀a',Holds a' [] n (EA x)→K a' W)→CI (Fence.wide.inRound l) 2 P assign (Exit.then K (fun _ _ _=>False)) [] n ((ps.zip (encs x)).reverse++E) W)
  (hbody:∀(l:Nat) (pre:List α) (x:α) (W:World),I pre W→pre.length<N→CI (Fence.wide.inRound l) 2 P body (ownPostG w.heap.size (KeptOn ok) I Ix (pre++[x]) W) [] n (EA x) W)
  (hdone:∀(Dd:Nat) (xs:List α) (W:World),w.heap.size≤Dd→S xs→I xs W→W.heap[Dd]?=some (.deferred (some []))→QW Q .normal ({target:=.collected Dd,args:=#[]}::D) n E W)
  (hstop:∀(Dd:Nat) (c:Code) (pre:List α) (W:World),w.heap.size≤Dd→Sp pre→Ix c pre W→W.heap[Dd]?=some (.deferred (some []))→CW P c Q ({target:=.collected Dd,args:=#[]}::D) n E W) :
  CW P (.rangeFunc g ⟨ps⟩ assign body) Q D n E w:=by
 unfold CW;intro a ha;refine (wpIn_wide (n:=4)).1 ?_;refine wpIn_rangeFunc_ownH rfl (by decide) (gf:=gf) (lb:=⟨lb⟩) (ha.eval hg) trivial (run_callFunc hc) hseq KeptOn.trans (fun W l o o' hl _ _ _=>KeptOn.put W o' fun h=>by have:=hn0 l h;omega) hb0 (fun x=>by simpa using hps x) I Ix hI hIx h0 (fun x a' _=>Holds a' [] n (EA x)) (fun x a'=>fun _ _ _ _ h _ _=>h) ?_ ?_ ?_ ?_
 ·intro l pre x W K hi hK;have h1:=hassign l pre x W K hi fun a' h=>hK a' W (KeepsFrom.refl _ _) (KeptOn.refl _ _) hi h;unfold CI at h1;refine h1 _ ?_;have key:∀(zs:List (Tmp×Value)) (ts:Array Value) (E':Env),Holds {tmps:=ts,defers:=[]} [] n E'→(∀z∈zs,Nat.blt z.1 n=true)→Holds {tmps:=zs.foldl (fun t z=>t.setIfInBounds z.1 z.2) ts,defers:=[]} [] n (zs.reverse++E'):=by
   intro zs
   induction zs with
   | nil=>intro ts E' h _;simpa using h
   | cons z zs ih=>
    intro ts E' h hz;have h2:=ih (ts.setIfInBounds z.1 z.2) ((z.1,z.2)::E') (h.put z.1 z.2 (hz z (List.mem_cons_self ..))) fun y hy=>hz y (List.mem_cons_of_mem _ hy)
    simpa using h2
  have e:((⟨ps⟩:Array Tmp).zip (⟨encs x⟩:Array Value))=⟨ps.zip (encs x)⟩:=by simp
  rw [e];have h3:=key (ps.zip (encs x)) a.tmps E ⟨rfl,ha.size,ha.val⟩ fun z hz=>List.all_eq_true.1 hpn z.1 (List.of_mem_zip hz).1
  simpa using h3
 ·intro l pre x a' W hl hr hi hA hlen;have h1:=hbody l pre x W hi hlen;unfold CI at h1;exact h1 a' hA
 ·intro Dd xs W hD hS hi hK;have h1:=hdone Dd xs W hD hS hi hK;unfold QW at h1;exact h1 _ ⟨by simp [ha.defers],ha.size,ha.val⟩
 ·intro Dd c pre W hD hp hi hK;have h1:=hstop Dd c pre W hD hp hi hK;unfold CW at h1;exact wpIn_wide.2 (h1 _ ⟨by simp [ha.defers],ha.size,ha.val⟩)
end
end Go.E
