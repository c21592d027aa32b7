/-
  Joined by program out of the texts EngO EngP EngQ EngR EngS EngT EngU EngV EngW EngX EngY EngZ.
-/
import Derived.Test.YtcjjcnecopnpcaaGreatDoorMxE
import Derived.Laws.Entries
import Derived.Laws.Unary
import Derived.Laws.Pointers
import Derived.Lib.AppendZeros
import Derived.RangeFuncNested
import Derived.RangeFuncBound
import Derived.RangeFuncCalls
import Derived.RangeFuncLeaves
import Derived.Sort.LoopGhostIn
import Derived.Laws.CopyRow
import Derived.Laws.IdiomCopy
import Derived.Lib.MinMax
namespace Go.E
open Go
def opB:BinOp→BitVec 32→BitVec 32→Option (BitVec 32)
 | .add,p,q=>some (p+q)
 | .and,p,q=>some (p&&& q)
 | .or,p,q=>some (p||| q)
 | .xor,p,q=>some (p ^^^ q)
 | _,_,_=>none
theorem Aao(p:BitVec 32):IntKind.u32.wrap (p.toNat:Int)=(p.toNat:Int):=by
 have:=p.isLt;simp[IntKind.wrap,IntKind.bits,IntKind.signed];omega
theorem Aa9(p:BitVec 32):BitVec.ofInt 32 (p.toNat:Int)=p:=by
 apply BitVec.eq_of_toNat_eq;simp
theorem Ph(op:BinOp)(p q:BitVec 32):bits op .u32 (p.toNat:Int) (q.toNat:Int)=(((match op with | .and=>p&&& q | .or=>p||| q | .xor=>p ^^^ q | _=>p&&& ~~~q):BitVec 32).toNat:Int):=by
 unfold bits;show IntKind.u32.wrap (((match op with | .and=>BitVec.ofInt 32 (p.toNat:Int)&&& BitVec.ofInt 32 (q.toNat:Int) | .or=>BitVec.ofInt 32 (p.toNat:Int)||| BitVec.ofInt 32 (q.toNat:Int) | .xor=>BitVec.ofInt 32 (p.toNat:Int) ^^^ BitVec.ofInt 32 (q.toNat:Int) | _=>BitVec.ofInt 32 (p.toNat:Int)&&& ~~~(BitVec.ofInt 32 (q.toNat:Int))):BitVec 32).toNat:Int)=_;rw[Aa9,Aa9,Aao]
section
variable {P:Program} [Tab P] {w:World} {t s:TypeId} {r r':TRow} {Q:Exit→Act→World→Prop} {D:List Deferred} {n:Nat} {E:BW} {l rest:List Oper} {x y:Operand} {d T:Nat} {pos:String} {af:Array Edge} {p q z:BitVec 32} {bop:BinOp} {ty u:TypeId} {j:IntKind} {i:Int}
omit [Tab P] in
theorem Y.b32(hx:ev E x=some (.int .u32 (p.toNat:Int)))(hy:ev E y=some (.int .u32 (q.toNat:Int)))(hr:opB bop p q=some z):Y P D n E w ⟨some d,.binOp bop t x y ty,T,pos,af,none⟩ (.int .u32 (z.toNat:Int)):=λa ha=>by
 cases bop<;>simp only[opB,Aar,reduceCtorEq] at hr<;>subst hr<;>rw[Kj ha hx hy rfl]
 ·simp only[binOp,ne_eq,not_true_eq_false,if_false,Op.intArith,Abp,AaG];rw[show IntKind.u32.wrap ((p.toNat:Int)+(q.toNat:Int))=((p+q).toNat:Int) by simp[IntKind.wrap,IntKind.bits,IntKind.signed,BitVec.toNat_add]]
 ·simp[binOp,intBits_and,Ph]
 ·simp[binOp,intBits_or,Ph]
 ·simp[binOp,intBits_xor,Ph]
omit [Tab P] in
theorem Y.shl32(hx:ev E x=some (.int .u32 (p.toNat:Int)))(hy:ev E y=some (.int j i))(h0:0≤i)(h1:i≤32):Y P D n E w ⟨some d,.binOp .shl t x y ty,T,pos,af,none⟩ (.int .u32 ((p <<< i.toNat).toNat:Int)):=λa ha=>by
 have hg:(eqGuard .shl t x y (.int .u32 (p.toNat:Int)) (.int j i)).run P w=.ok () w:=rfl;have hneg:¬(i<0):=AdE
 have a1:min i.toNat 32=i.toNat:=AdE
 have a0:min i.toNat IntKind.u32.bits=i.toNat:=a1;have e:IntKind.u32.wrap ((p.toNat:Int)*2 ^ i.toNat)=((p <<< i.toNat).toNat:Int):=by
  rw[BitVec.toNat_shiftLeft,Nat.shiftLeft_eq];simp[IntKind.wrap,IntKind.bits,IntKind.signed]
 simp only[execOp,ha.eval hx,ha.eval hy,AaU,hg,AaG,binOp,Op.shift,hneg,if_false,a0,e,Abp]
omit [Tab P] in
theorem Y.shr32(hx:ev E x=some (.int .u32 (p.toNat:Int)))(hy:ev E y=some (.int j i))(h0:0≤i)(h1:i≤32):Y P D n E w ⟨some d,.binOp .shr t x y ty,T,pos,af,none⟩ (.int .u32 ((p >>> i.toNat).toNat:Int)):=λa ha=>by
 have hg:(eqGuard .shr t x y (.int .u32 (p.toNat:Int)) (.int j i)).run P w=.ok () w:=rfl;have hneg:¬(i<0):=AdE
 have a0:min i.toNat IntKind.u32.bits=i.toNat:=by
  have:IntKind.u32.bits=32:=rfl;omega
 have e:((p.toNat:Int)).fdiv (2 ^ i.toNat)=((p >>> i.toNat).toNat:Int):=by
  rw[Adu _ (Int.le_of_lt (Int.pow_pos AdH)),BitVec.toNat_ushiftRight,Nat.shiftRight_eq_div_pow];simp
 simp only[execOp,ha.eval hx,ha.eval hy,AaU,hg,AaG,binOp,Op.shift,hneg,if_false,a0,e,Abp]
omit [Tab P] in
theorem Y.not32(hx:ev E x=some (.int .u32 (p.toNat:Int))):Y P D n E w ⟨some d,.unOp .xor t x,T,pos,af,none⟩ (.int .u32 ((~~~p).toNat:Int)):=λa ha=>by
 have e:bits .xor .u32 4294967295 (p.toNat:Int)=((~~~p).toNat:Int):=by
  have:=Ph .xor (BitVec.allOnes 32) p;rw[show((BitVec.allOnes 32).toNat:Int)=4294967295 by decide] at this;rw[this];simp only[BitVec.allOnes_xor]
 have e2:(IntKind.u32.signed=false):=rfl;have e3:IntKind.u32.max=4294967295:=rfl;simp[execOp,ha.eval hx,unary_xor,e2,e3,intBits_xor,e]
theorem Y.up32{b:UInt8}(hx:ev E x=some (.int .u8 (b.toNat:Int)))(hs:Tab.row P s=some r)(hsd:r.desc=.int .u8)(ht:Tab.row P t=some r')(htd:r'.desc=.int .u32):Y P D n E w ⟨some d,.convert s t x,T,pos,af,none⟩ (.int .u32 ((BitVec.ofNat 32 b.toNat).toNat:Int)):=by
 refine Y.conv hx hs hsd ht htd ?_;have:=b.toNat_lt;simp[IntKind.wrap,IntKind.bits,IntKind.signed];omega
theorem Y.low{m:Nat}(hx:ev E x=some (.int j (m:Int)))(hs:Tab.row P s=some r)(hsd:r.desc=.int j)(ht:Tab.row P t=some r')(htd:r'.desc=.int .u8):Y P D n E w ⟨some d,.convert s t x,T,pos,af,none⟩ (.int .u8 ((UInt8.ofNat m).toNat:Int)):=by
 refine Y.conv hx hs hsd ht htd ?_;simp[IntKind.wrap,IntKind.bits,IntKind.signed]
omit [Tab P] in
theorem AaM(h:LW P l Q rest D n ((d,.int .u32 (z.toNat:Int))::E) w)(hx:ev E x=some (.int .u32 (p.toNat:Int)):=by exact rfl)(hy:ev E y=some (.int .u32 (q.toNat:Int)):=by exact rfl)(hr:opB bop p q=some z:=by exact rfl)(hn:Nat.blt d n=true:=by exact rfl):LW P l Q (⟨some d,.binOp bop t x y ty,T,pos,af,none⟩::rest) D n E w:=LW.val rfl rfl hn (Y.b32 hx hy hr) h
omit [Tab P] in
theorem AaN(h:LW P l Q rest D n ((d,.int .u32 ((p <<< i.toNat).toNat:Int))::E) w)(hx:ev E x=some (.int .u32 (p.toNat:Int)):=by exact rfl)(hy:ev E y=some (.int j i):=by exact rfl)(h0:0≤i:=by omega)(h1:i≤32:=by omega)(hn:Nat.blt d n=true:=by exact rfl):LW P l Q (⟨some d,.binOp .shl t x y ty,T,pos,af,none⟩::rest) D n E w:=LW.val rfl rfl hn (Y.shl32 hx hy h0 h1) h
omit [Tab P] in
theorem AaO(h:LW P l Q rest D n ((d,.int .u32 ((p >>> i.toNat).toNat:Int))::E) w)(hx:ev E x=some (.int .u32 (p.toNat:Int)):=by exact rfl)(hy:ev E y=some (.int j i):=by exact rfl)(h0:0≤i:=by omega)(h1:i≤32:=by omega)(hn:Nat.blt d n=true:=by exact rfl):LW P l Q (⟨some d,.binOp .shr t x y ty,T,pos,af,none⟩::rest) D n E w:=LW.val rfl rfl hn (Y.shr32 hx hy h0 h1) h
omit [Tab P] in
theorem AaP(h:LW P l Q rest D n ((d,.int .u32 ((~~~p).toNat:Int))::E) w)(hx:ev E x=some (.int .u32 (p.toNat:Int)):=by exact rfl)(hn:Nat.blt d n=true:=by exact rfl):LW P l Q (⟨some d,.unOp .xor t x,T,pos,af,none⟩::rest) D n E w:=LW.val rfl rfl hn (Y.not32 hx) h
theorem AaQ{b:UInt8}(h:LW P l Q rest D n ((d,.int .u32 ((BitVec.ofNat 32 b.toNat).toNat:Int))::E) w)(hx:ev E x=some (.int .u8 (b.toNat:Int)):=by exact rfl)(hs:Tab.row P s=some r:=by exact rfl)(hsd:r.desc=.int .u8:=by exact rfl)(ht:Tab.row P t=some r':=by exact rfl)(htd:r'.desc=.int .u32:=by exact rfl)(hn:Nat.blt d n=true:=by exact rfl):LW P l Q (⟨some d,.convert s t x,T,pos,af,none⟩::rest) D n E w:=LW.val rfl rfl hn (Y.up32 hx hs hsd ht htd) h
end
end Go.E
namespace Go.E
open Go
section
variable {P:Program} [Tab P] {w:World} {t e:TypeId} {r r':TRow} {Q:Exit→Act→World→Prop} {D:List Deferred} {n:Nat} {E:BW} {l rest:List Oper} {x y:Operand} {d T:Nat} {pos:String} {af:Array Edge} {k:IntKind} {i:Int} {m:Nat} {a0:Addr} {cs:List Value} {v:Value}
theorem LK(h:Tab.row P t=some r)(hr:r.desc=.array m e):P.underlying t=some (.array m e):=by
 obtain⟨d,hu,hb,_⟩:=B4 h;cases d<;>simp[bare,hr] at hb;rw[hu,hb.1,hb.2]
theorem Y.arr_addr(hx:ev E x=some (.pointer (some a0)))(hi:ev E y=some (.int k i))(ht:Tab.row P t=some r)(hr:r.desc=.array m e)(he:Tab.row P e=some r')(h0:0≤i)(h1:i<m) :
  Y P D n E w ⟨some d,.indexAddr t x y,T,pos,af,none⟩ (.pointer (some (a0.add (i.toNat*r'.size)))):=λa ha=>by
 have hw:∀w:World,(underlying t).run P w=.ok (.array m e) w:=λw=>run_underlying (LK ht hr) w;simp only[execOp,ha.eval hx,ha.eval hi,Instr.indexAt,asIntOf,Instr.sureAddr,AaU,Abp,AaG,hw,h0,h1,and_self,if_true,Co he]
theorem Lq(h:LW P l Q rest D n ((d,.pointer (some (a0.add (i.toNat*r'.size))))::E) w)(hx:ev E x=some (.pointer (some a0)):=by exact rfl)(hi:ev E y=some (.int k i):=by exact rfl)(ht:Tab.row P t=some r:=by exact rfl)(hr:r.desc=.array m e:=by exact rfl)(he:Tab.row P e=some r':=by exact rfl)(h0:0≤i:=by omega)(h1:i<m:=by omega)(hn:Nat.blt d n=true:=by exact rfl):LW P l Q (⟨some d,.indexAddr t x y,T,pos,af,none⟩::rest) D n E w:=LW.val rfl rfl hn (Y.arr_addr hx hi ht hr he h0 h1) h
end
section
variable {P:Program} [Tab P] {w:World} {t e:TypeId} {r r':TRow} {Q:Exit→Act→World→Prop} {D:List Deferred} {n:Nat} {E:BW} {l rest:List Oper} {d T:Nat} {pos:String} {af:Array Edge} {m:Nat} {cs:List Value}
theorem LW.buildArr{parts:List (Nat×Operand)}{vs:List (Nat×Value)}(hp:evp E parts=some vs)(ht:Tab.row P t=some r)(hr:r.desc=.array m e)(he:Tab.row P e=some r')(hc:L1 (λi=>some (i*r'.size,r'.size)) r.zero.cells.toList vs=some cs)(hn:Nat.blt d n=true)
  (h:LW P l Q rest D n ((d,.agg ⟨cs⟩)::E) w):LW P l Q (⟨some d,.build t ⟨parts⟩,T,pos,af,none⟩::rest) D n E w:=by
 have a0:=M1 _ vs _ hc;have e3:(Instr.build t ⟨vs⟩).run P w=.ok (.agg ⟨cs⟩) w:=by
  unfold Instr.build;simp only[AaU,Ih ht,AaG,run_underlying (LK ht hr),Co he];rw[show r.zero.cells=⟨r.zero.cells.toList⟩ from rfl,a0];rfl
 refine LW.val rfl rfl hn (λa ha=>?_) h;have e0:=ha.evp hp;have e2:(⟨parts⟩:Array (Nat×Operand)).map (λx=>(x.1,a.eval x.2))=⟨vs⟩:=by rw[←e0];simp
 simp only[execOp,e2,AaU,e3,AaG,Abp]
theorem Lha{parts:List (Nat×Operand)}{vs:List (Nat×Value)}(h:LW P l Q rest D n ((d,.agg ⟨cs⟩)::E) w)(hp:evp E parts=some vs:=by exact rfl)(ht:Tab.row P t=some r:=by exact rfl)(hr:r.desc=.array m e:=by exact rfl)(he:Tab.row P e=some r':=by exact rfl)(hc:L1 (λi=>some (i*r'.size,r'.size)) r.zero.cells.toList vs=some cs:=by exact rfl)(hn:Nat.blt d n=true:=by exact rfl):LW P l Q (⟨some d,.build t ⟨parts⟩,T,pos,af,none⟩::rest) D n E w:=LW.buildArr hp ht hr he hc hn h
end
theorem Su{G G':Prop}(h:G')(hi:Hd G'→G:=by intro h;(repeat (first | refine La ?_ | refine Lb ?_ | refine Lc ?_ | refine Ld ?_ | refine AaM ?_ | refine AaN ?_ | refine AaO ?_ | refine AaP ?_ | refine AaQ ?_ | refine Le ?_ | refine Lf ?_ | refine Lg ?_ | apply LW.nil | apply QW.then_n | apply QW.round | apply RW.succ | apply CW.seq | apply CW.region | apply CW.skip | apply CW.block | apply CW.ret | apply CW.exit | apply QW.then_ret | apply QW.then_exit | apply QW.blk_n | apply QW.blk_ret | apply QW.blk_exit | refine Ca ?_ | refine Cb ?_ | refine Cc ?_ | refine Lh ?_ | refine Lha ?_ | refine Lo ?_ | refine Lq ?_ | refine Ln ?_ | refine Lu ?_ | refine Lv ?_));exact h.h):G:=hi ⟨h⟩
end Go.E
namespace Go.E
open Go
section
variable {P:Program} {w:World} {t:TypeId} {Q:Exit→Act→World→Prop} {D:List Deferred} {n:Nat} {E:BW} {l rest:List Oper} {x:Operand} {d T:Nat} {pos:String} {af:Array Edge}
theorem Y.bits{bop:BinOp}{k:IntKind}{y:Operand}{p q z:Int}{ty:TypeId}(hx:ev E x=some (.int k p))(hy:ev E y=some (.int k q))(hb:(match bop with | .and | .or | .xor=>true | _=>false)=true)(hz:bits bop k p q=z):Y P D n E w ⟨some d,.binOp bop t x y ty,T,pos,af,none⟩ (.int k z):=λa ha=>by
 subst hz;cases bop<;>simp only[Ab9] at hb<;>rw[Kj ha hx hy rfl]
 ·simp[binOp,intBits_and]
 ·simp[binOp,intBits_or]
 ·simp[binOp,intBits_xor]
theorem LW.bits{bop:BinOp}{k:IntKind}{y:Operand}{p q z:Int}{ty:TypeId}(hx:ev E x=some (.int k p))(hy:ev E y=some (.int k q))(hb:(match bop with | .and | .or | .xor=>true | _=>false)=true)(hz:bits bop k p q=z)(hn:Nat.blt d n=true)(h:LW P l Q rest D n ((d,.int k z)::E) w) :
  LW P l Q (⟨some d,.binOp bop t x y ty,T,pos,af,none⟩::rest) D n E w:=LW.val rfl rfl hn (Y.bits hx hy hb hz) h
end
end Go.E
namespace Go.E
open Go
def AaC:Op→Bool
 | .nilCheck _=>true
 | o=>ZF o
end Go.E
namespace Go.E
open Go
section
variable {P:Program} [Tab P] {w:World} {t s u:TypeId} {r r' r'':TRow} {Q:Exit→Act→World→Prop} {D:List Deferred} {n:Nat} {E:BW} {l rest:List Oper} {x:Operand} {d:Nat} {pos:String} {af:Array Edge} {p:Option Addr} {len cap:Nat}
theorem Y.string_any{bs:List UInt8}(hx:ev E x=some (.slice p len cap))(hl:bs.length=len)(hc:p=none∧bs.length=0∨∃a,p=some a∧∀j u,(AK bs)[j]?=some u→w.cell? (a.add j)=some u)
  (hs:Tab.row P s=some r) (hsd:r.desc=.slice u) (hu:Tab.row P u=some r') (hud:r'.desc=.int .u8) (ht:Tab.row P t=some r'') (htd:r''.desc=.string) (dst:Option Tmp) (T':TypeId) :
  Y P D n E w {dst,op:=.convert s t x,type:=T',pos,after:=af,guard:=none} (Ao bs):=λa ha=>by
 have hco:=run_convert_bytes_string (P:=P) w s t u p len cap (AR hs hsd) (E7 hu hud) (by
  obtain⟨dd,hh,hb,_⟩:=B4 ht;cases dd<;>simp[bare,htd] at hb;exact hh)
 have hb:(Conv.bytesToString (.slice p len cap)).run P w=.ok (Ao bs) w:=by
  obtain⟨rfl,h0⟩ | ⟨a0,rfl,hc⟩:=hc
  ·have:bs=[]:=Abt h0;subst this;rfl
  ·have a1:(loadCells a0 len).run P w=.ok ((bs.map λc=>(c.toNat:Int)).map (Value.int .u8)).toArray w:=by
    have:=run_loadCells_list (P:=P) (w:=w) a0 ((bs.map λc=>(c.toNat:Int)).map (Value.int .u8)) (λj v hv=>hc j v (by
     rw[←hv,AbV];rfl))
    simpa[hl] using this
   have hb:=run_bytesToString (P:=P) w a0 len cap _ a1;have hf:=M7 bs [];simp only[Ab5] at hf;rw[show ByteArray.empty=(⟨⟨[]⟩⟩:ByteArray) from rfl,hf] at hb;exact hb
 simp only[execOp,ha.eval hx,AaU,hco,hb,AaG,Abp]
theorem LW.string_any{bs:List UInt8}{T':TypeId}(hx:ev E x=some (.slice p len cap))(hl:bs.length=len)(hc:p=none∧bs.length=0∨∃a,p=some a∧∀j u,(AK bs)[j]?=some u→w.cell? (a.add j)=some u)
  (hs:Tab.row P s=some r) (hsd:r.desc=.slice u) (hu:Tab.row P u=some r') (hud:r'.desc=.int .u8) (ht:Tab.row P t=some r'') (htd:r''.desc=.string) (hn:Nat.blt d n=true) (h:LW P l Q rest D n ((d,Ao bs)::E) w) :
  LW P l Q (⟨some d,.convert s t x,T',pos,af,none⟩::rest) D n E w:=LW.val rfl rfl hn (Y.string_any hx hl hc hs hsd hu hud ht htd _ _) h
end
end Go.E
namespace Go.E
open Go
end Go.E
namespace Go.E
open Go
end Go.E
namespace Go.E
open Go
theorem Chg.more{S S':List Nat}{a b c:World}(h:Chg S a b)(k:Chg S' b c)(hs:∀x,x∈S'→a.heap.size≤x):Chg S a c:=(Chg.trans h k).mono λx hx hl=>by
 rcases Abf.1 hx with hx | hx
 ·exact hx
 ·exact absurd (hs x hx) AdE
structure Er(T:TypeId)(lo:Nat)(w:World)(xs:List Value)(L:Nat→Option (List Value))(f:Nat→Nat)(V:List Nat):Prop where
 val:∀r x,L r=some x→xs[r]?=some (.slice (some ⟨f r,0,none⟩) x.length x.length)
 blk:∀r x,L r=some x→Blk w (f r) x T∧lo≤f r∧f r∉V
 inj:∀r q x y,L r=some x→L q=some y→f r=f q→r=q
theorem Er.none{T:TypeId}{lo:Nat}{w:World}{xs:List Value}{f:Nat→Nat}{V:List Nat}:Er T lo w xs (λ_=>Option.none) f V:=⟨λ_ _ h=>Aea,λ_ _ h=>Aea,λ_ _ _ _ h=>Aea⟩
theorem Er.chg{T:TypeId}{lo:Nat}{w w':World}{xs:List Value}{L:Nat→Option (List Value)}{f:Nat→Nat}{V S:List Nat}(h:Er T lo w xs L f V)(x:Chg S w w')(hs:∀r y,L r=some y→f r∉S):Er T lo w' xs L f V:=
 ⟨h.val,λr y hr=>let ⟨h1,h2,h3⟩:=h.blk r y hr;⟨h1.chg x (hs r y hr),h2,h3⟩,h.inj⟩
theorem Er.ext{T:TypeId}{lo:Nat}{w w':World}{xs:List Value}{L:Nat→Option (List Value)}{f:Nat→Nat}{V:List Nat}(h:Er T lo w xs L f V)(x:Ai w w'):Er T lo w' xs L f V:=h.chg x AdM
theorem Er.other{T:TypeId}{lo:Nat}{w w':World}{xs:List Value}{L:Nat→Option (List Value)}{f:Nat→Nat}{V S:List Nat}(h:Er T lo w xs L f V)(x:Chg S w w')(hs:∀b,b∈S→b∈V∨b<lo):Er T lo w' xs L f V:=
 h.chg x λr y hr hm=>let ⟨_,h2,h3⟩:=h.blk r y hr;(hs _ hm).elim h3 (λh4=>by omega)
theorem Er.congr{T:TypeId}{lo:Nat}{w:World}{xs xs':List Value}{L L':Nat→Option (List Value)}{f f':Nat→Nat}{V:List Nat}(h:Er T lo w xs L f V)(hx:xs=xs')(hL:∀r,L r=L' r)(hf:∀r,f r=f' r):Er T lo w xs' L' f' V:=by
 obtain rfl:L=L':=funext hL;obtain rfl:f=f':=funext hf;subst hx;exact h
theorem Er.put{T:TypeId}{lo:Nat}{w:World}{xs:List Value}{L:Nat→Option (List Value)}{f:Nat→Nat}{V:List Nat}(h:Er T lo w xs L f V){r g:Nat}{x:List Value}(hr:r<xs.length)(hB:Blk w g x T)(hg:lo≤g)(hV:g∉V)(hn:∀q y,L q=some y→q≠r→f q≠g) :
  Er T lo w (xs.set r (.slice (some ⟨g,0,Option.none⟩) x.length x.length)) (λq=>if q=r then some x else L q) (λq=>if q=r then g else f q) V:=by
 refine⟨λq y hq=>?_,λq y hq=>?_,λq p y z hq hp hf=>?_⟩
 ·by_cases e:q=r
  ·subst e;simp only[if_true,Aar] at hq ⊢;subst hq;simp[hr]
  ·simp only[if_neg e] at hq ⊢;rw[List.getElem?_set_ne AdE];exact h.val q y hq
 ·by_cases e:q=r
  ·subst e;simp only[if_true,Aar] at hq ⊢;subst hq;exact⟨hB,hg,hV⟩
  ·simp only[if_neg e] at hq ⊢;exact h.blk q y hq
 ·by_cases e:q=r<;>by_cases e2:p=r
  ·omega
  ·subst e;simp only[if_true,if_neg e2] at hp hf;exact absurd hf.symm (hn p z hp e2)
  ·subst e2;simp only[if_true,if_neg e] at hq hf;exact absurd hf (hn q y hq e)
  ·simp only[if_neg e,if_neg e2] at hq hp hf;exact h.inj q p y z hq hp hf
theorem Er.set{T:TypeId}{lo:Nat}{w w':World}{xs:List Value}{L:Nat→Option (List Value)}{f:Nat→Nat}{V:List Nat}(h:Er T lo w xs L f V){r k:Nat}{x:List Value}{v:Value}(hr:L r=some x)(hx:Chg [f r] w w')(hB:Blk w' (f r) (x.set k v) T) :
  Er T lo w' xs (λq=>if q=r then some (x.set k v) else L q) f V:=by
 obtain⟨_,h2,h3⟩:=h.blk r x hr;refine⟨λq y hq=>?_,λq y hq=>?_,λq p y z hq hp hf=>?_⟩
 ·by_cases e:q=r
  ·subst e;simp only[if_true,Aar] at hq;subst hq;rw[AbS];exact h.val q x hr
  ·simp only[if_neg e] at hq;exact h.val q y hq
 ·by_cases e:q=r
  ·subst e;simp only[if_true,Aar] at hq;subst hq;exact⟨hB,h2,h3⟩
  ·simp only[if_neg e] at hq;obtain⟨h4,h5,h6⟩:=h.blk q y hq;exact⟨h4.chg hx (by simp only[Aad];exact λhf=>e (h.inj q r y x hq hr hf)),h5,h6⟩
 ·have aux:∀q y,(if q=r then some (x.set k v) else L q)=some y→∃z,L q=some z:=λq y hq=>by
   by_cases e:q=r
   ·subst e;exact⟨x,hr⟩
   ·rw[if_neg e] at hq;exact⟨y,hq⟩
  obtain⟨y',hy⟩:=aux q y hq;obtain⟨z',hz⟩:=aux p z hp;exact h.inj q p y' z' hy hz hf
theorem Er.row{T T':TypeId}{lo:Nat}{w:World}{xs:List Value}{L:Nat→Option (List Value)}{f:Nat→Nat}{V:List Nat}(h:Er T lo w xs L f V){O r:Nat}{x:List Value}(hO:Blk w O xs T')(hr:L r=some x):w.cell? ((⟨O,0,Option.none⟩:Addr).add (r*1))=some (.slice (some ⟨f r,0,Option.none⟩) x.length x.length):=by
 rw[Au];refine hO.cell ?_;rw[AbC,Acr];exact h.val r x hr
theorem Er.cell{T:TypeId}{lo:Nat}{w:World}{xs:List Value}{L:Nat→Option (List Value)}{f:Nat→Nat}{V:List Nat}(h:Er T lo w xs L f V){r k:Nat}{x:List Value}{v:Value}(hr:L r=some x)(hk:x[k]?=some v):w.cell? ((⟨f r,0,Option.none⟩:Addr).add (k*1))=some v:=by
 rw[Au];refine(h.blk r x hr).1.cell ?_;rw[AbC,Acr];exact hk
variable {α:Type}
end Go.E
namespace Go.E
open Go
section
variable {P:Program} {D:List Deferred} {n d T:Nat} {E:BW} {w:World} {x y:Operand} {pos:String} {af:Array Edge}
theorem Y.max2{k k':IntKind}{p q:Int}{ts:Array TypeId}(hx:ev E x=some (.int k p))(hy:ev E y=some (.int k' q)) :
  Y P D n E w ⟨some d,.call ⟨.builtin .max,#[x,y],ts⟩,T,pos,af,none⟩ (.int k (if p<q then q else p)):=λa ha=>by
 unfold execOp;simp[resolve,invoke,builtin,ha.eval hx,ha.eval hy,Builtin.max_,Builtin.max2]
variable [Tab P] {t:TypeId} {cs:List Value}
theorem Y.build{parts:List (Nat×Operand)}{vs:List (Nat×Value)}(hp:evp E parts=some vs)(hc:Mt P t vs=some cs) :
  Y P D n E w ⟨some d,.build t ⟨parts⟩,T,pos,af,none⟩ (.agg ⟨cs⟩):=by
 unfold Mt at hc
 split at hc<;>try cases hc
 rename_i r hr
 split at hc<;>try cases hc
 rename_i fs a2
 split at hc<;>try cases hc
 rename_i ps a3;obtain⟨gs,a4,a5⟩:=Ek hr a2;have a1:FD P (gs.toList.map bareF)=some ps:=by rw[←a3,←a5];simp
 have a6:=J1 (w:=w) a1;have a7:(gs.mapM (m:=Sem) λf=>do Pure.pure (f.offset,←sizeOf f.type)).run P w=.ok ⟨ps⟩ w:=by
  rw[show gs=gs.toList.toArray from rfl,Adz,Sem.run_map,a6];rfl
 intro a ha;have e:=ha.evp hp;have e2:(⟨parts⟩:Array (Nat×Operand)).map (λx=>(x.1,a.eval x.2))=⟨vs⟩:=by rw[←e];simp
 have a0:=Pn ps vs r.zero.cells.toList hc;have e3:(Instr.build t ⟨vs⟩).run P w=.ok (.agg ⟨cs⟩) w:=by
  unfold Instr.build;simp only[AaU,Ih hr,AaG,run_underlying a4,a7];rw[show r.zero.cells=⟨r.zero.cells.toList⟩ from rfl,a0];rfl
 have e4:(execOp a.eval ⟨some d,.build t ⟨parts⟩,T,pos,af,none⟩)=(do Pure.pure (Next.value (←Instr.build t ((⟨parts⟩:Array (Nat×Operand)).map (λx=>(x.1,a.eval x.2)))))):=rfl;rw[e4,e2,AaU,e3];rfl
end
def AaD:Op→Bool
 | .call {callee:=.builtin .max,..}=>true
 | .slice ..=>true
 | .pick ..=>true
 | o=>AaC o
def DO(n:Nat)(l:List Oper)(ls:List Bool):Nat:=go n ls l ls
where go:Nat→List Bool→List Oper→List Bool→Nat
 | n+1,all,o::r,b::bs=>bif b then go n all r bs+1 else bif AaD o.op&&o.after.toList.all (λe=>bif Z5 e.ground then all.getD e.on false else true)&&(match o.guard with | some (j,_)=>all.getD j false | none=>true) then 0 else go n all r bs+1
 | 0,_,l,_=>l.length
 | _,_,_,_=>0
section
variable {P:Program} {S:World→Prop} {Q:Exit→Act→World→Prop} {D:List Deferred} {n m f d j t:Nat} {E:BW} {w:World} {l:List Oper} {ls ls':List Bool} {v:Value} {op:Op} {T:TypeId} {pos:String} {af:Array Edge} {b c:Bool} {o:Oper}
theorem GW.skip_u(i:Nat)(hi:l[i]?=some o)(hg:o.guard=some (j,b))(hd:o.dst=some d)(hm:Nat.blt d m=true)(hj:BM l j=some t)(hb:look E t=some undef)(hl:ls.set i true=ls')(hin:Nat.blt i n=true)(hk:D9 l n=true)
  (hf:Region.free .any l.toArray ⟨ls⟩ i=true) (hr:(Region.ready .any l.toArray ⟨ls⟩).contains i=true) (ht:∀c a w,Q (.panic c) (a.put o.dst undef) w→Q (.panic c) a w)
  (h:GW P S l n Q f ls' D m ((d,undef)::E) w):GW P S l n Q (f+1) ls D m E w:=by
 unfold GW at h ⊢;intro a ha hS inv;subst hl;simp only[D9,AaY,decide_eq_true_eq] at hk;have a0:i<n:=Abq hin;have a1:i∈Region.ready .any l.toArray ⟨ls⟩:=by simpa using hr
 have a3:=Gl (l:=l) ha hj hb;have hw:Region.wanted o (yielded l.toArray a.tmps)=false:=by
  simp only[Region.wanted,hg,a3];rfl
 have a2:l.toArray[i]?=some o:=by simpa using hi
 refine Fo (v:=undef) a2 (Region.noSelect_spec hk.1.1.1) hk.1.2 hk.2 Ae1 a0 ht f _ a w inv (Region.free_spec a2 hf) a1 (.inr ⟨hw,rfl⟩) hS ?_;have inv':=inv.set a1 a0;rw[Ei] at inv' ⊢;rw[hd];exact h _ (ha.put d _ hm) hS inv'
theorem Gxa[Tab P](h:GW P S l n Q f ls' D m ((d,v)::E) w)(hi:l[DO n l ls]?=some ⟨some d,op,T,pos,af,none⟩:=by exact rfl)(hm:Nat.blt d m=true:=by exact rfl)(a0:Nat.blt (DO n l ls) n=true:=by exact rfl)
  (hy:∀w,S w→Y P D m E w ⟨some d,op,T,pos,af,none⟩ v:=by first | exact λ_ _=>Y.pure AdL | exact λ_ _=>Y.field_addr AdL AdL | exact λ_ _=>Y.idx_addr AdL AdL AdL AdL AdL AdE AdE | exact λ_ hw=>Y.load AdL (Blk.ext AdR hw) AdL AdL AdL | exact λ_ hw=>Y.load_all AdL (Blk.ext AdR hw) AdL AdL AdL | exact λ_ hw=>Y.load_cell AdL (BH hw AdR) AdL AdL | exact λ_ hw=>Y.load_cells AdL (λj u hj=>BH hw Ae5) AdL AdL AdL | exact λ_ _=>Y.go AdL AdO | exact λ_ _=>Y.max2 AdL AdL | exact λ_ _=>Y.slice_hi AdL AdL AdL AdL AdL AdE | exact λ_ _=>Y.arr_addr AdL AdL AdL AdL AdL AdE AdE | exact λ_ _=>Y.build AdL AdL)
  (hl:ls.set (DO n l ls) true=ls':=by exact rfl) (hk:D9 l n=true:=by kernel_rfl) (hf:Region.free .any l.toArray ⟨ls⟩ (DO n l ls)=true:=by kernel_rfl) (hr:(Region.ready .any l.toArray ⟨ls⟩).contains (DO n l ls)=true:=by kernel_rfl) (ht:∀c a w,Q (.panic c) (a.put (some d) v) w→Q (.panic c) a w:=by exact λ_ _ _ h=>h):GW P S l n Q (f+1) ls D m E w:=GW.take _ hi rfl rfl hm hy hl a0 hk hf hr ht h
theorem Gxb[Tab P](h:GW P S l n Q f ls' D m ((d,v)::E) w)(hi:l[DO n l ls]?=some ⟨some d,op,T,pos,af,some (j,b)⟩:=by exact rfl)(hm:Nat.blt d m=true:=by exact rfl)(a0:Nat.blt (DO n l ls) n=true:=by exact rfl)(hj:BM l j=some t:=by exact rfl)(hb:look E t=some (.bool b):=by exact rfl)
  (hy:∀w,S w→Y P D m E w ⟨some d,op,T,pos,af,none⟩ v:=by first | exact λ_ _=>Y.pure AdL | exact λ_ _=>Y.field_addr AdL AdL | exact λ_ _=>Y.idx_addr AdL AdL AdL AdL AdL AdE AdE | exact λ_ hw=>Y.load AdL (Blk.ext AdR hw) AdL AdL AdL | exact λ_ hw=>Y.load_all AdL (Blk.ext AdR hw) AdL AdL AdL | exact λ_ hw=>Y.load_cell AdL (BH hw AdR) AdL AdL | exact λ_ hw=>Y.load_cells AdL (λj u hj=>BH hw Ae5) AdL AdL AdL | exact λ_ _=>Y.go AdL AdO | exact λ_ _=>Y.max2 AdL AdL | exact λ_ _=>Y.slice_hi AdL AdL AdL AdL AdL AdE | exact λ_ _=>Y.arr_addr AdL AdL AdL AdL AdL AdE AdE | exact λ_ _=>Y.build AdL AdL)
  (hl:ls.set (DO n l ls) true=ls':=by exact rfl) (hk:D9 l n=true:=by kernel_rfl) (hf:Region.free .any l.toArray ⟨ls⟩ (DO n l ls)=true:=by kernel_rfl) (hr:(Region.ready .any l.toArray ⟨ls⟩).contains (DO n l ls)=true:=by kernel_rfl) (ht:∀c a w,Q (.panic c) (a.put (some d) v) w→Q (.panic c) a w:=by exact λ_ _ _ h=>h):GW P S l n Q (f+1) ls D m E w:=GW.takeW _ hi hm hj hb hy hl a0 hk hf hr ht h
theorem Gxc(h:GW P S l n Q f ls' D m ((d,undef)::E) w)(hi:l[DO n l ls]?=some o:=by exact rfl)(hg:o.guard=some (j,b):=by exact rfl)(hd:o.dst=some d:=by exact rfl)(hm:Nat.blt d m=true:=by exact rfl)(a0:Nat.blt (DO n l ls) n=true:=by exact rfl)(hj:BM l j=some t:=by exact rfl)(hb:look E t=some (.bool c):=by exact rfl)(a1:(c == b)=false:=by exact rfl)
  (hl:ls.set (DO n l ls) true=ls':=by exact rfl) (hk:D9 l n=true:=by kernel_rfl) (hf:Region.free .any l.toArray ⟨ls⟩ (DO n l ls)=true:=by kernel_rfl) (hr:(Region.ready .any l.toArray ⟨ls⟩).contains (DO n l ls)=true:=by kernel_rfl) (ht:∀c a w,Q (.panic c) (a.put o.dst undef) w→Q (.panic c) a w:=by exact λ_ _ _ h=>h):GW P S l n Q (f+1) ls D m E w:=GW.skip _ hi hg hd hm hj hb a1 hl a0 hk hf hr ht h
theorem Gxd(h:GW P S l n Q f ls' D m ((d,undef)::E) w)(hi:l[DO n l ls]?=some o:=by exact rfl)(hg:o.guard=some (j,b):=by exact rfl)(hd:o.dst=some d:=by exact rfl)(hm:Nat.blt d m=true:=by exact rfl)(a0:Nat.blt (DO n l ls) n=true:=by exact rfl)(hj:BM l j=some t:=by exact rfl)(hb:look E t=some undef:=by exact rfl)
  (hl:ls.set (DO n l ls) true=ls':=by exact rfl) (hk:D9 l n=true:=by kernel_rfl) (hf:Region.free .any l.toArray ⟨ls⟩ (DO n l ls)=true:=by kernel_rfl) (hr:(Region.ready .any l.toArray ⟨ls⟩).contains (DO n l ls)=true:=by kernel_rfl) (ht:∀c a w,Q (.panic c) (a.put o.dst undef) w→Q (.panic c) a w:=by exact λ_ _ _ h=>h):GW P S l n Q (f+1) ls D m E w:=GW.skip_u _ hi hg hd hm hj hb hl a0 hk hf hr ht h
end
theorem AJ{G G':Prop}(h:G')(hi:Hd G'→G:=by intro h;(repeat (first | refine Gxa ?_ | refine Gxb ?_ | refine Gxc ?_ | refine Gxd ?_));exact h.h):G:=hi ⟨h⟩
end Go.E
namespace Go.E
open Go Go.RowKit
structure NN(F:Fence):Prop where
 fn:∀f,F.fn f
 depth:F.depth=none
theorem TP:NN Fence.wide:=⟨λ_=>trivial,rfl⟩
theorem NN.inRound{F:Fence}(h:NN F)(l:Nat):NN (F.inRound l):=⟨h.fn,h.depth⟩
def CI(F:Fence)(m:Nat)(P:Program)(c:Code)(Q:Exit→Act→World→Prop)(D:List Deferred)(n:Nat)(E:BW)(w:World):Prop:=∀a,Holds a D n E→c.wpIn F m P Q a w
def LI(F:Fence)(m:Nat)(P:Program)(l:List Oper)(Q:Exit→Act→World→Prop)(rest:List Oper)(D:List Deferred)(n:Nat)(E:BW)(w:World):Prop:=∀a,Holds a D n E→wpListIn F m P l.toArray Q rest a w
section
variable {F:Fence} {m:Nat} {P:Program} {Q:Exit→Act→World→Prop} {D:List Deferred} {n:Nat} {E:BW} {w:World} {l rest:List Oper} {x y:Code} {id:Nat}
theorem CI.seq(h:CI F m P x (Exit.then (y.wpIn F m P Q) Q) D n E w):CI F m P (.seq x y) Q D n E w:=λa ha=>wpIn_seq (h a ha)
theorem CI.region(h:LI F m P l Q l D n E w):CI F m P (.region id l.toArray false) Q D n E w:=λa ha=>wpIn_region_lit (h a ha)
theorem CI.skip(h:QW Q .normal D n E w):CI F m P .skip Q D n E w:=λa ha=>wpIn_skip Aew
theorem CI.ret(h:QW Q .ret D n E w):CI F m P .ret Q D n E w:=λa ha=>wpIn_ret Aew
theorem CI.exit(h:QW Q (.exit id) D n E w):CI F m P (.exit id) Q D n E w:=λa ha=>wpIn_exit Aew
theorem CI.block(h:CI F m P x (Exit.inBlock id Q) D n E w):CI F m P (.block id x) Q D n E w:=λa ha=>wpIn_block (h a ha)
theorem CI.cond{c:Operand}{b:Bool}(hc:ev E c=some (.bool b))(ht:b=true→CI F m P x Q D n E w)(hf:b=false→CI F m P y Q D n E w):CI F m P (.cond c x y) Q D n E w:=λa ha=>by
 cases b
 ·exact wpIn_cond_false (ha.eval hc) (hf rfl a ha)
 ·exact wpIn_cond_true (ha.eval hc) (ht rfl a ha)
theorem LI.nil(h:QW Q .normal D n E w):LI F m P l Q [] D n E w:=λa ha=>wpListIn_nil Aew
theorem QW.then_i{K:Exit→Act→World→Prop}(h:CI F m P y K D n E w):QW (Exit.then (y.wpIn F m P K) Q) .normal D n E w:=by unfold QW;exact h
theorem CI.loop{ι:Type}(I:ι→World→Prop)(EI:ι→BW)(μ:ι→Nat)(i0:ι)(h0:I i0 w)(hs:Al (EI i0) E)
  (round:∀i w',I i w'→CI F m P x (Exit.then (W9 D n I EI μ (μ i)) Q) D n (EI i) w'):CI F m P (.loop x) Q D n E w:=λa ha=>by
 refine wpIn_loop_ghost (λk a w=>∃i,μ i=k∧I i w∧Holds a D n (EI i)) (μ i0) ⟨i0,rfl,h0,ha.sub hs⟩ ?_;rintro k a w ⟨i,rfl,hI,hH⟩;refine wpIn_mono (round i w hI a hH) ?_;intro e a' w' hq
 cases e with
 | normal=>obtain⟨i',hI',hH',hlt⟩:=hq;exact⟨μ i',hlt,i',rfl,hI',hH'⟩
 | _=>exact hq
theorem KV{o:Oper}(a:Act)(hdf:∀c,o.op≠.defer c):o.semAt F.round a.eval=execOp a.eval o:=by
 cases F.round with
 | none=>exact Oper.semAt_none _ _
 | some l=>exact Oper.semAt_some l _ _ hdf
theorem LI.val{o:Oper}{v:Value}{d:Nat}(hF:NN F)(hg:o.guard=none)(hd:o.dst=some d)(hdf:∀c,o.op≠.defer c)(hn:Nat.blt d n=true)(hy:Y P D n E w o v)(h:LI F m P l Q rest D n ((d,v)::E) w):LI F m P l Q (o::rest) D n E w:=λa ha=>by
 refine wpListIn_plain hg λK hK=>⟨λf _=>hF.fn f,?_⟩;rw[KV a hdf,hy a ha,Oper.uponIn_value,hd];exact hK _ _ (h _ (ha.put d v hn))
theorem LI.unit{o:Oper}{w':World}(hF:NN F)(hg:o.guard=none)(hd:o.dst=none)(hdf:∀c,o.op≠.defer c)
  (hr:∀a,Holds a D n E→(execOp a.eval o).run P w=.ok .skip w') (h:LI F m P l Q rest D n E w'):LI F m P l Q (o::rest) D n E w:=λa ha=>by
 refine wpListIn_plain hg λK hK=>⟨λf _=>hF.fn f,?_⟩;rw[KV a hdf,hr a ha,Oper.uponIn_skip,hd];exact hK _ _ (h _ ha)
theorem LI.yield{fop:Operand}{as:List Operand}{vs:List Value}{d lk:Nat}{T:TypeId}{pos:String}{af:Array Edge}{ts:Array TypeId}{R:Ending→World→Prop}(hF:NN F)
  (hf:ev E fop=some (.func (.yield lk) #[] #[])) (ha:Sm E as=some vs) (hn:Nat.blt d n=true) (hy:YieldAt F (m - 1) P lk ⟨vs⟩ w R)
  (h:∀e w',R e w'→∃v,e=.returned v∧LI F m P l Q rest D n ((d,v)::E) w') :
  LI F m P l Q (⟨some d,.call ⟨.value fop,⟨as⟩,ts⟩,T,pos,af,none⟩::rest) D n E w:=by
 intro a hh;refine wpListIn_plain rfl λK hK=>⟨λf _=>hF.fn f,?_⟩;obtain⟨fn,tmps,assign,body,a0,hR⟩:=hy;have e1:=hh.eval hf;have e2:=hh.evals ha;rw[KV a (λc h=>by cases h)];have e:(execOp a.eval ⟨some d,.call ⟨.value fop,⟨as⟩,ts⟩,T,pos,af,none⟩).run P w=.ok (.round lk fn tmps assign body) w:=by
  simp only[execOp,resolve,AbW,e2,e1,Deferred.ofValue,AaU,Abp,AaG,invoke]
  simpa using a0
 rw[e,Oper.uponIn_round];refine⟨λh=>(by rw[hF.depth] at h;cases h),hR.mono λe w' he=>?_⟩;obtain⟨v,rfl,hl⟩:=h e w' he;exact hK _ _ (hl _ (hh.put d v hn))
variable [Tab P] {a0:Addr} {b i d T:Nat} {t:TypeId} {r:TRow} {L:List Value} {T':TypeId} {v:Value} {xo yo:Operand} {pos:String} {af:Array Edge} {op:Op}
theorem LI.store(hF:NN F)(hx:ev E xo=some (.pointer (some ⟨b,i,none⟩)))(hy:ev E yo=some v)(h1:v.oneCell'=true)(hB:Blk w b L T')(hi:Nat.blt i L.length=true)(ht:Tab.row P t=some r)(hs:Nat.beq r.size 1=true)
  (h:∀w',Chg [b] w w'→Blk w' b (L.set i v) T'→LI F m P l Q rest D n E w'):LI F m P l Q (⟨none,.store t xo yo,T,pos,af,none⟩::rest) D n E w:=by
 have a1:i<L.length:=Abq hi;have hc:v.cells.toList=[v]:=by cases v<;>first | rfl | cases h1
 have a0:=E8 (P:=P) ht (w:=w) (b:=b) (i:=i) (v:=v) hB (by rw[hc];exact Ab4 hs) (by rw[hc];show i+1≤L.length;omega) (by rw[hc];simpa using h1);rw[hc] at a0;have he:L.take i++[v]++L.drop (i+[v].length)=L.set i v:=by
  rw[Adc,if_pos a1];simp
 rw[he] at a0;exact LI.unit hF rfl rfl (λc h=>by cases h) (λ_ ha=>by
  simp only[execOp,ha.eval hx,ha.eval hy,Instr.storeAt,Instr.sureAddr,AaU,Abp,AaG,a0]) (h _ (Chg.setRow ..) (hB.setRow _))
def YW:Op→Bool
 | .defer _=>false
 | _=>true
end
section
variable {F:Fence} {m:Nat} {P:Program} {Q:Exit→Act→World→Prop} {D:List Deferred} {n:Nat} {E:BW} {w:World} {l rest:List Oper} {d T:Nat} {v:Value} {pos:String} {af:Array Edge} {op:Op}
theorem Iu(h:LI F m P l Q rest D n ((d,v)::E) w)(hF:NN F:=by assumption)(a0:YW op=true:=by exact rfl)(hn:Nat.blt d n=true:=by exact rfl)
  (hy:Y P D n E w ⟨some d,op,T,pos,af,none⟩ v:=by first | exact Y.pure AdL | exact Y.field_addr AdL AdL | exact Y.idx_addr AdL AdL AdL AdL AdL AdE AdE | exact Y.load AdL AdR AdL AdL AdL | exact Y.load_all AdL AdR AdL AdL AdL | exact Y.load_cell AdL AdR AdL AdL | exact Y.go AdL AdO) :
  LI F m P l Q (⟨some d,op,T,pos,af,none⟩::rest) D n E w:=LI.val hF rfl rfl (λc h=>by subst h;cases a0) hn hy h
end
attribute [irreducible] CI LI
theorem TU{G G':Prop}(h:G')(hi:Hd G'→G:=by intro h;(repeat (first | refine Iu ?_ | apply LI.nil | apply QW.then_i | apply CI.seq | apply CI.region | apply CI.skip | apply CI.block | apply CI.ret | apply CI.exit | apply QW.then_ret | apply QW.then_exit | apply QW.blk_n | apply QW.blk_ret | apply QW.blk_exit | refine Ca ?_));exact h.h):G:=hi ⟨h⟩
theorem Blk.grown{w w':World}{b:Nat}{l:List Value}{T:TypeId}{row:Option Nat}(h:Blk w b l T)(hg:w.grownBy w' row)(hr:∀r,row=some r→∃o:Obj,w.heap[r]?=some o∧o.isCells=false):Blk w' b l T:=
 (grownBy_keeps_cells hg hr h rfl).trans h
theorem Blk.put{w:World}{b D:Nat}{l:List Value}{T:TypeId}{o o':Obj}(h:Blk w b l T)(hD:w.heap[D]?=some o)(hc:o.isCells=false):Blk (w.putObj D o') b l T:=
 h.grown (grownBy_putObj' w D o') λr e=>by cases e;exact⟨o,hD,hc⟩
theorem Own.grown{w w':World}{lo e size n:Nat}{v:Value}{xs:List Value}{row:Option Nat}(h:Own w lo e size v n xs)(hg:w.grownBy w' row)(hr:∀r,row=some r→∃o:Obj,w.heap[r]?=some o∧o.isCells=false):Own w' lo e size v n xs:=by
 obtain⟨hl,h | ⟨g,cap,sp,e,hB,h1,h2,h3⟩⟩:=h
 ·exact⟨hl,.inl h⟩
 ·exact⟨hl,.inr ⟨g,cap,sp,e,hB.grown hg hr,h1,h2,h3⟩⟩
theorem KeepsFrom.chg{B:Nat}{S:List Nat}{w w':World}(h:Chg S w w')(hS:∀b∈S,∃L T,Blk w b L T):KeepsFrom B w w':=
 ⟨h.size,λk o _ hk ho=>by
  have hlt:k<w.heap.size:=(Ac3.1 hk).1;refine(h.block k hlt λhm=>?_).trans hk;obtain⟨L,T,hB⟩:=hS k hm;unfold Blk at hB;rw[hk] at hB;simp only[Aar] at hB;subst hB;cases ho⟩
theorem Own.put{w:World}{lo e size n D:Nat}{v:Value}{xs:List Value}{o o':Obj}(h:Own w lo e size v n xs)(hD:w.heap[D]?=some o)(hc:o.isCells=false):Own (w.putObj D o') lo e size v n xs:=
 h.grown (grownBy_putObj' w D o') λr e=>by cases e;exact⟨o,hD,hc⟩
def B8(ok:Nat→Prop)(W W':World):Prop:=∀b,ok b→W'.heap[b]?=W.heap[b]?
theorem B8.refl(ok:Nat→Prop)(W:World):B8 ok W W:=λ_ _=>rfl
theorem B8.trans{ok:Nat→Prop}{A B C:World}(h:B8 ok A B)(k:B8 ok B C):B8 ok A C:=λb hb=>(k b hb).trans (h b hb)
theorem B8.put{ok:Nat→Prop}(W:World){l:Nat}(o:Obj)(h:¬ok l):B8 ok W (W.putObj l o):=λb hb=>by
 have hne:l≠b:=λe=>h (e ▸ hb);show(Array.setIfInBounds W.heap l o)[b]?=_;exact Adf hne
theorem B8.chg{ok:Nat→Prop}{S:List Nat}{W W':World}(h:Chg S W W')(hs:∀b,ok b→b<W.heap.size∧b∉S):B8 ok W W':=λb hb=>h.block b (hs b hb).1 (hs b hb).2
theorem B8.blk{ok:Nat→Prop}{W W':World}{b:Nat}{l:List Value}{T:TypeId}(h:B8 ok W W')(hb:ok b)(hB:Blk W b l T):Blk W' b l T:=(h b hb).trans hB
theorem B8.cell{ok:Nat→Prop}{W W':World}{a:Addr}{v:Value}(h:B8 ok W W')(hb:ok a.block)(hc:W.cell? a=some v):W'.cell? a=some v:=by
 rw[World.cell?_of_block (w:=W) (h a.block hb)];exact hc
theorem CallsIn.enterI{F:Fence}{m n:Nat}{P:Program}{f:FuncId}{fn:Func}{c:Code}{args:List Value}{w:World}{R:Ending→World→Prop}(hf:P.funcs[f]?=some fn)(hb:fn.body=some c)(hn:fn.ntmps=n)(hF:NN F)(hro:F.round=none)(hl:Nat.ble args.length n=true)
  (h:CI F m P c (bodyPost P fn R) [] n (DV 0 args) w):CallsIn F m P f ⟨args⟩ w R:=
 callsIn_of_wp hf hb (hF.fn _) (by subst hn;unfold CI at h;exact h _ (DN args fn.ntmps (Abq hl))) hro
theorem QW.bodyI{P:Program}{fn:Func}{R:Ending→World→Prop}{n:Nat}{E:BW}{w:World}{e:Exit}(he:e=.ret∨e=.normal)(hf:fn.results=#[])(h:R (.returned (.tuple #[])) w):QW (bodyPost P fn R) e [] n E w:=by
 unfold QW;rcases he with rfl | rfl
 ·exact λ_ ha=>⟨ha.defers,_,BP (rs:=[]) (vs:=[]) hf ha trivial,h⟩
 ·exact λ_ ha=>⟨ha.defers,_,BP (rs:=[]) (vs:=[]) hf ha trivial,h⟩
section
variable {P:Program} {Q:Exit→Act→World→Prop} {D:List Deferred} {n:Nat} {E:BW} {w:World}
theorem CW.rangeFunc{α:Type}{g:Operand}{ps:List Tmp}{assign body:Code}{gf:Nat}{lb:List Value}{encs:α→List Value}{S Sp:List α→Prop}{N:Nat}{w0:World}{ok:Nat→Prop}
  (hg:ev E g=some (.func (.func gf) ⟨[]⟩ ⟨lb⟩)) (hc:Cx P gf=true) (hseq:SeqStopsK Fence.wide 3 P gf ⟨lb⟩ (λx=>⟨encs x⟩) (B8 ok) S Sp N w0) (hb0:Below w0.heap.size w0 w) (hn0:∀b,ok b→b<w.heap.size) (hps:∀x,(encs x).length=ps.length) (hpn:ps.all (λp=>Nat.blt p n)=true)
  (I:List α→World→Prop) (hI:OwnFrom w.heap.size I) (h0:I [] w) (EA:α→BW)
  (hassign:∀(l:Nat) (pre:List α) (x:α) (W:World) (K:Act→World→Prop),I pre W→(∀a',Holds a' [] n (EA x)→K a' W)→CI (Fence.wide.inRound l) 2 P assign (Exit.then K (λ_ _ _=>False)) [] n ((ps.zip (encs x)).reverse++E) W)
  (hbody:∀(l:Nat) (pre:List α) (x:α) (W:World),I pre W→pre.length<N→CI (Fence.wide.inRound l) 2 P body (ownPostG w.heap.size (B8 ok) I (λ_ _ _=>False) (pre++[x]) W) [] n (EA x) W)
  (hdone:∀(Dd:Nat) (xs:List α) (W:World),w.heap.size≤Dd→S xs→I xs W→W.heap[Dd]?=some (.deferred (some []))→QW Q .normal ({target:=.collected Dd,args:=#[]}::D) n E W) :
  CW P (.rangeFunc g ⟨ps⟩ assign body) Q D n E w:=by
 unfold CW;intro a ha;refine(wpIn_wide (n:=4)).1 ?_;refine wpIn_rangeFunc_ownH rfl AdH (gf:=gf) (lb:=⟨lb⟩) (ha.eval hg) trivial (Dy hc) hseq B8.trans (λW l o o' hl _ _ _=>B8.put W o' λh=>by have:=hn0 l h;omega) hb0 (λx=>by simpa using hps x) I (λ_ _ _=>False) hI (λ_=>λ_ _ _ _ h=>h.elim) h0 (λx a' _=>Holds a' [] n (EA x)) (λx a'=>λ_ _ _ _ h _ _=>h) ?_ ?_ ?_ ?_
 ·intro l pre x W K hi hK;have h1:=hassign l pre x W K hi λa' h=>hK a' W (KeepsFrom.refl _ _) (B8.refl _ _) hi h;unfold CI at h1;refine h1 _ ?_;have key:∀(zs:List (Tmp×Value)) (ts:Array Value) (E':BW),Holds {tmps:=ts,defers:=[]} [] n E'→(∀z∈zs,Nat.blt z.1 n=true)→Holds {tmps:=zs.foldl (λt z=>t.setIfInBounds z.1 z.2) ts,defers:=[]} [] n (zs.reverse++E'):=by
   intro zs
   induction zs with
   | nil=>intro ts E' h _;simpa using h
   | cons z zs ih=>
    intro ts E' h hz;have h2:=ih (ts.setIfInBounds z.1 z.2) ((z.1,z.2)::E') (h.put z.1 z.2 (hz z (Abo ..))) λy hy=>hz y (Abj _ hy)
    simpa using h2
  have e:((⟨ps⟩:Array Tmp).zip (⟨encs x⟩:Array Value))=⟨ps.zip (encs x)⟩:=AdM
  rw[e];have h3:=key (ps.zip (encs x)) a.tmps E ⟨rfl,ha.size,ha.val⟩ λz hz=>Ac1.1 hpn z.1 (List.of_mem_zip hz).1
  simpa using h3
 ·intro l pre x a' W hl hr hi hA a0;have h1:=hbody l pre x W hi a0;unfold CI at h1;exact h1 a' hA
 ·intro Dd xs W hD hS hi hK;have h1:=hdone Dd xs W hD hS hi hK;unfold QW at h1;exact h1 _ ⟨by simp[ha.defers],ha.size,ha.val⟩
 ·intro _ _ _ _ _ _ h _;exact h.elim
def noP(Q:Exit→Act→World→Prop):Exit→Act→World→Prop:=λe a w=>match e with
 | .panic _=>False
 | e=>Q e a w
theorem CW.noP{c:Code}(h:CW P c (noP Q) D n E w):CW P c Q D n E w:=by
 unfold CW at h ⊢;exact λa ha=>Code.wp_mono (λe a' w' hq=>by cases e<;>first | exact hq | exact hq.elim) (h a ha)
theorem QW.noP_n(h:QW Q .normal D n E w):QW (noP Q) .normal D n E w:=by unfold QW at h ⊢;exact h
theorem AF.enterM{f:FuncId}{fn:Func}{c:Code}{args:List Value}{Φ:Value→World→Prop}(hf:P.funcs[f]?=some fn)(hb:fn.body=some c)(hn:fn.ntmps=n)(hc:Cx P f=true)(hl:Nat.ble args.length n=true)
  (h:CW P c (bodyPostM Fence.wide 4 P fn (FO Φ)) [] n (DV 0 args) w):AF P f args w Φ:=
 ⟨hc,callsIn_wide.1 (callsIn_of_wp_marks (n:=4) hf hb trivial (wpIn_wide.2 (by subst hn;unfold CW at h;exact h _ (DN args fn.ntmps (Abq hl)))))⟩
theorem QW.bodyM{fn:Func}{Φ:Value→World→Prop}{rs:List ResultVar}{vs:List Value}{v:Value}{Dd:Nat}{e:Exit}(he:e=.ret∨e=.normal)(hf:fn.results=⟨rs⟩)(hD:w.heap[Dd]?=some (.deferred (some [])))(hv:RV P E (w.putObj Dd (.deferred none)) rs vs)(hp:Kb vs=v)(h:Φ v (w.putObj Dd (.deferred none))) :
  QW (bodyPostM Fence.wide 4 P fn (FO Φ)) e [{target:=.collected Dd,args:=#[]}] n E w:=by
 unfold QW;intro a ha;have key:LeavesInM Fence.wide 4 P fn a.tmps (FO Φ) a.defers .returning w:=by
  rw[ha.defers];exact⟨by simp,.inl ⟨_,_,rfl,run_takeDeferred hD,_,BP hf ha hv,v,by rw[hp],h⟩⟩
 rcases he with rfl | rfl
 ·exact key
 ·exact key
end
end Go.E
namespace Go.E
open Go
section
variable {P:Program} {S:World→Prop} {Q:Exit→Act→World→Prop} {D:List Deferred} {n m f:Nat} {E:BW} {w:World} {l:List Oper} {ls ls' ls'' ls3:List Bool} {o o' o3:Oper}
theorem GW.three(i j k:Nat)(hr:Region.ready .any l.toArray ⟨ls⟩=[i,j,k])(hi:l[i]?=some o)(hj:l[j]?=some o')(hk:l[k]?=some o3)(hl:ls.set i true=ls')(hl':ls.set j true=ls'')(hl3:ls.set k true=ls3)(hin:Nat.blt i n=true)(hjn:Nat.blt j n=true)(hkn:Nat.blt k n=true)
  (h:S w→LW P l (Exit.then (Gp P S l n Q f ls') Q) [o] D m E w) (h':S w→LW P l (Exit.then (Gp P S l n Q f ls'') Q) [o'] D m E w) (h3:S w→LW P l (Exit.then (Gp P S l n Q f ls3) Q) [o3] D m E w):GW P S l n Q (f+1) ls D m E w:=by
 unfold GW;intro a ha hS inv;subst hl;subst hl';subst hl3;refine⟨λh0=>(by rw[hr] at h0;cases h0),λq hq=>?_⟩;have a0:=hq;rw[hr] at hq;simp only[AaT,Abu,or_false] at hq;rcases hq with rfl | rfl | rfl
 ·exact NY hi inv a0 (Abq hin) ha (h hS)
 ·exact NY hj inv a0 (Abq hjn) ha (h' hS)
 ·exact NY hk inv a0 (Abq hkn) ha (h3 hS)
end
end Go.E
namespace Go.E
open Go
end Go.E
