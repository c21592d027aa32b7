/-
  Joined by program out of the texts Eng EngB EngC EngD EngE EngF EngG EngH EngI EngJ EngK EngL EngM EngN.
-/
import Derived.WalkKit
import Derived.Test.YtabjahlbcoigcaaTy
import Derived.Deep.Quiet
import Derived.Deep.LoopGhost
import Derived.StillTail
import Derived.Orders
import Derived.WalkSmall
import Derived.Recover
import Derived.OrdersHeld
import Derived.Deep.Upon
import Derived.Laws.MakeOwn
namespace Go.E
open Go Go.RowKit
variable {P:Program}
abbrev Env:=List (Nat×Value)
def look:Env→Nat→Option Value
 | [],_=>none
 | (u,v)::r,t=>bif Nat.beq u t then some v else look r t
def ev (E:Env):Operand→Option Value
 | .tmp t=>look E t
 | .const v=>some v
 | .global g=>some (.pointer (some ⟨g,0,none⟩))
 | .func f=>some (.func (.func f) #[] #[])
def evs (E:Env):List Operand→Option (List Value)
 | []=>some []
 | x::r=>match ev E x,evs E r with
  | some v,some vs=>some (v::vs)
  | _,_=>none
structure Holds (a:Act) (D:List Deferred) (n:Nat) (E:Env):Prop where
 defers:a.defers=D
 size:a.tmps.size=n
 val:∀t v,look E t=some v→a.tmps[t]?=some v
theorem Holds.eval {a:Act} {D n E} {x:Operand} {v:Value} (h:Holds a D n E) (hx:ev E x=some v):a.eval x=v:=by
 cases x with
 | tmp t=>
  have:=h.val t v hx
  simp only [Act.eval,Array.getD_eq_getD_getElem?,this,Option.getD_some]
 | const u=>simpa [Go.E.ev,Act.eval] using hx
 | global g=>simpa [Go.E.ev,Act.eval] using hx
 | func f=>simpa [Go.E.ev,Act.eval] using hx
theorem Holds.evals {a:Act} {D n E} (h:Holds a D n E):∀{xs:List Operand} {vs:List Value},evs E xs=some vs→xs.map a.eval=vs
 | [],vs,hx=>by simpa [evs] using hx
 | x::r,vs,hx=>by
  simp only [evs] at hx
  split at hx
  ·rename_i v us h1 h2;simp only [Option.some.injEq] at hx;subst hx;simp [h.eval h1,h.evals h2]
  ·simp at hx
theorem look_cons (d:Nat) (u:Value) (E:Env) (t:Nat):look ((d,u)::E) t=if d=t then some u else look E t:=by
 simp only [look];by_cases h:d=t
 ·subst h;simp
 ·have:Nat.beq d t=false:=by
   cases hb:Nat.beq d t
   ·rfl
   ·exact absurd (Nat.eq_of_beq_eq_true hb) h
  simp [this,h]
theorem Holds.put {a:Act} {D n E} (h:Holds a D n E) (d:Nat) (v:Value) (hd:Nat.blt d n=true):Holds (a.put (some d) v) D n ((d,v)::E):=by
 have hd':d<n:=Nat.le_of_ble_eq_true hd;refine ⟨h.defers,by simp [Act.put,h.size],fun t u hu=>?_⟩;rw [look_cons] at hu;simp only [Act.put];by_cases hdt:d=t
 ·subst hdt;rw [if_pos rfl] at hu;simp only [Option.some.injEq] at hu;subst hu;simp [h.size,hd']
 ·rw [if_neg hdt] at hu;rw [Array.getElem?_setIfInBounds_ne hdt];exact h.val t u hu
def Sub (E' E:Env):Prop:=∀t v,look E' t=some v→look E t=some v
theorem Sub.nil {E:Env}:Sub [] E:=fun t v h=>by simp [look] at h
theorem Sub.cons {E' E:Env} {t:Nat} {v:Value} (h:look E t=some v) (hs:Sub E' E):Sub ((t,v)::E') E:=fun u x hx=>by
 rw [look_cons] at hx;by_cases hu:t=u
 ·subst hu;rw [if_pos rfl] at hx;rw [h,hx]
 ·rw [if_neg hu] at hx;exact hs u x hx
theorem Sub.refl (E:Env):Sub E E:=fun _ _ h=>h
theorem Holds.sub {a:Act} {D n E E'} (h:Holds a D n E) (hs:Sub E' E):Holds a D n E':=⟨h.defers,h.size,fun t v hv=>h.val t v (hs t v hv)⟩
def QW (Q:Exit→Act→World→Prop) (e:Exit) (D:List Deferred) (n:Nat) (E:Env) (w:World):Prop:=∀a,Holds a D n E→Q e a w
def CW (P:Program) (c:Code) (Q:Exit→Act→World→Prop) (D:List Deferred) (n:Nat) (E:Env) (w:World):Prop:=∀a,Holds a D n E→c.wp P Q a w
def LW (P:Program) (l:List Oper) (Q:Exit→Act→World→Prop) (rest:List Oper) (D:List Deferred) (n:Nat) (E:Env) (w:World):Prop:=∀a,Holds a D n E→wpList P l.toArray Q rest a w
section
variable {Q:Exit→Act→World→Prop} {D:List Deferred} {n:Nat} {E:Env} {w:World} {l rest:List Oper} {x y:Code} {id:Nat}
theorem LW.sub {E'} (hs:Sub E' E) (h:LW P l Q rest D n E' w):LW P l Q rest D n E w:=fun a ha=>h a (ha.sub hs)
theorem CW.seq (h:CW P x (Exit.then (y.wp P Q) Q) D n E w):CW P (.seq x y) Q D n E w:=fun a ha=>wp_seq (h a ha)
theorem CW.region (h:LW P l Q l D n E w):CW P (.region id l.toArray false) Q D n E w:=fun a ha=>wp_region_lit (h a ha)
theorem CW.skip (h:QW Q .normal D n E w):CW P .skip Q D n E w:=fun a ha=>wp_skip (h a ha)
theorem CW.ret (h:QW Q .ret D n E w):CW P .ret Q D n E w:=fun a ha=>wp_ret (h a ha)
theorem CW.exit (h:QW Q (.exit id) D n E w):CW P (.exit id) Q D n E w:=fun a ha=>wp_exit (h a ha)
theorem CW.block (h:CW P x (Exit.inBlock id Q) D n E w):CW P (.block id x) Q D n E w:=fun a ha=>wp_block (h a ha)
theorem CW.cond {c:Operand} {b:Bool} (hc:ev E c=some (.bool b)) (ht:b=true→CW P x Q D n E w) (hf:b=false→CW P y Q D n E w):CW P (.cond c x y) Q D n E w:=fun a ha=>by
 cases b
 ·exact wp_cond_false (ha.eval hc) (hf rfl a ha)
 ·exact wp_cond_true (ha.eval hc) (ht rfl a ha)
theorem CW.cond_t {c:Operand} (hc:ev E c=some (.bool true)) (h:CW P x Q D n E w):CW P (.cond c x y) Q D n E w:=CW.cond hc (fun _=>h) (fun h=>by cases h)
theorem CW.cond_f {c:Operand} (hc:ev E c=some (.bool false)) (h:CW P y Q D n E w):CW P (.cond c x y) Q D n E w:=CW.cond hc (fun h=>by cases h) (fun _=>h)
theorem LW.nil (h:QW Q .normal D n E w):LW P l Q [] D n E w:=fun a ha=>wpList_nil (h a ha)
theorem QW.then_n {K} (h:CW P y K D n E w):QW (Exit.then (y.wp P K) Q) .normal D n E w:=h
theorem QW.then_ret {K} (h:QW Q .ret D n E w):QW (Exit.then K Q) .ret D n E w:=h
theorem QW.then_exit {K} (h:QW Q (.exit id) D n E w):QW (Exit.then K Q) (.exit id) D n E w:=h
theorem QW.blk_n (h:QW Q .normal D n E w):QW (Exit.inBlock id Q) .normal D n E w:=h
theorem QW.blk_ret (h:QW Q .ret D n E w):QW (Exit.inBlock id Q) .ret D n E w:=h
theorem QW.blk_exit (h:QW Q .normal D n E w):QW (Exit.inBlock id Q) (.exit id) D n E w:=fun a ha=>by
 show if id=id then _ else _;rw [if_pos rfl];exact h a ha
theorem QW.blk_other {i:Nat} (hi:Nat.beq i id=false) (h:QW Q (.exit i) D n E w):QW (Exit.inBlock id Q) (.exit i) D n E w:=fun a ha=>by
 show if i=id then _ else _;rw [if_neg (by intro h;subst h;simp at hi)];exact h a ha
def Head {ι:Type} (D:List Deferred) (n:Nat) (I:ι→World→Prop) (EI:ι→Env) (a:Act) (w:World):Prop:=∃i,I i w∧Holds a D n (EI i)
def Again {ι:Type} (D:List Deferred) (n:Nat) (I:ι→World→Prop) (EI:ι→Env) (μ:ι→Nat) (m:Nat) (a:Act) (w:World):Prop:=∃i,I i w∧Holds a D n (EI i)∧μ i<m
theorem CW.loop {ι:Type} (I:ι→World→Prop) (EI:ι→Env) (μ:ι→Nat) (i0:ι) (h0:I i0 w) (hs:Sub (EI i0) E)
  (round:∀i w',I i w'→CW P x (Exit.then (Again D n I EI μ (μ i)) Q) D n (EI i) w'):CW P (.loop x) Q D n E w:=fun a ha=>by
 refine wp_loop_ghost (fun m a w=>∃i,μ i=m∧I i w∧Holds a D n (EI i)) (μ i0) ⟨i0,rfl,h0,ha.sub hs⟩ ?_;rintro m a w ⟨i,rfl,hI,hH⟩;refine Code.wp_mono ?_ (round i w hI a hH);intro e a' w' hq
 cases e with
 | normal=>obtain ⟨i',hI',hH',hlt⟩:=hq;exact ⟨μ i',hlt,i',rfl,hI',hH'⟩
 | _=>exact hq
theorem QW.again {ι:Type} {I:ι→World→Prop} {EI:ι→Env} {μ:ι→Nat} {m:Nat} {Q:Exit→Act→World→Prop} (i:ι) (hI:I i w) (hs:Sub (EI i) E) (hm:μ i<m) :
  QW (Exit.then (Again D n I EI μ m) Q) .normal D n E w:=fun _ ha=>⟨i,hI,ha.sub hs,hm⟩
theorem CW.cut {ι:Type} (I:ι→World→Prop) (EI:ι→Env) {K:Exit→Act→World→Prop} (hx:CW P x (Exit.then (Head D n I EI) Q) D n E w)
  (hy:∀i w',I i w'→CW P y K D n (EI i) w'):CW P x (Exit.then (y.wp P K) Q) D n E w:=fun a ha=>by
 refine Code.wp_mono ?_ (hx a ha);intro e a' w' hq
 cases e with
 | normal=>obtain ⟨i,hI,hH⟩:=hq;exact hy i w' hI a' hH
 | _=>exact hq
def RW (P:Program) (c:Code) (Q:Exit→Act→World→Prop) (m:Nat) (D:List Deferred) (n:Nat) (E:Env) (w:World):Prop:=∀a,Holds a D n E→Code.rounds P c Q m a w
theorem CW.rounds (m:Nat) (h:RW P x Q m D n E w):CW P (.loop x) Q D n E w:=fun a ha=>wp_loop_rounds m (h a ha)
theorem RW.succ {m:Nat} (h:CW P x (Exit.then (Code.rounds P x Q m) Q) D n E w):RW P x Q (m+1) D n E w:=fun a ha=>h a ha
theorem QW.round {m:Nat} {K:Exit→Act→World→Prop} (h:RW P x K m D n E w):QW (Exit.then (Code.rounds P x K m) Q) .normal D n E w:=h
theorem QW.head {ι:Type} {I:ι→World→Prop} {EI:ι→Env} {Q:Exit→Act→World→Prop} (i:ι) (hI:I i w) (hs:Sub (EI i) E) :
  QW (Exit.then (Head D n I EI) Q) .normal D n E w:=fun _ ha=>⟨i,hI,ha.sub hs⟩
end
structure Chg (S:List Nat) (w w':World):Prop where
 os:w'.os=w.os
 tape:w'.tape=w.tape
 output:w'.output=w.output
 size:w.heap.size≤w'.heap.size
 block:∀k,k<w.heap.size→k∉S→w'.heap[k]?=w.heap[k]?
abbrev Ext (w w':World):Prop:=Chg [] w w'
theorem Chg.refl (S:List Nat) (w:World):Chg S w w:=⟨rfl,rfl,rfl,Nat.le_refl _,fun _ _ _=>rfl⟩
theorem Chg.trans {S S':List Nat} {a b c:World} (h:Chg S a b) (k:Chg S' b c):Chg (S++S') a c:=
 ⟨k.os.trans h.os,k.tape.trans h.tape,k.output.trans h.output,Nat.le_trans h.size k.size,fun i hi hn=>by
  rw [List.mem_append,not_or] at hn;exact (k.block i (Nat.lt_of_lt_of_le hi h.size) hn.2).trans (h.block i hi hn.1)⟩
theorem Ext.trans {a b c:World} (h:Ext a b) (k:Ext b c):Ext a c:=Chg.trans h k
theorem Chg.same {S:List Nat} {a b c:World} (h:Chg S a b) (k:Chg S b c):Chg S a c:=
 ⟨k.os.trans h.os,k.tape.trans h.tape,k.output.trans h.output,Nat.le_trans h.size k.size,fun i hi hn=>
  (k.block i (Nat.lt_of_lt_of_le hi h.size) hn).trans (h.block i hi hn)⟩
theorem Chg.ext {S:List Nat} {a b c:World} (h:Chg S a b) (k:Ext b c):Chg S a c:=h.same ⟨k.os,k.tape,k.output,k.size,fun i hi _=>k.block i hi (by simp)⟩
theorem Chg.mono {S S':List Nat} {a b:World} (h:Chg S a b) (hs:∀k,k∈S→k<a.heap.size→k∈S'):Chg S' a b:=
 ⟨h.os,h.tape,h.output,h.size,fun i hi hn=>h.block i hi (fun hm=>hn (hs i hm hi))⟩
theorem Ext.chg {S:List Nat} {a b:World} (h:Ext a b):Chg S a b:=h.mono (by simp)
theorem Chg.new {S:List Nat} {a b:World} (h:Chg S a b) (hs:∀k,k∈S→a.heap.size≤k):Ext a b:=h.mono (fun k hk hl=>absurd (hs k hk) (by omega))
theorem Chg.step {S:List Nat} {a b c:World} (h:Ext a b) (k:Chg S b c) (hs:∀k,k∈S→a.heap.size≤k):Ext a c:=(Chg.trans h k).new (by simpa using hs)
theorem Chg.below {S:List Nat} {w w':World} (h:Chg S w w') {B:Nat} (hB:B≤w.heap.size) (hs:∀k,k∈S→B≤k):Below B w w':=
 ⟨h.os,h.tape,h.output,h.size,fun k hk=>h.block k (by omega) (fun hm=>by have:=hs k hm;omega)⟩
theorem Ext.toBelow {w w':World} (h:Ext w w'):Below w.heap.size w w':=Chg.below h (Nat.le_refl _) (by simp)
theorem Ext.drew (w:World):Ext w {w with drawn:=w.drawn+1}:=⟨rfl,rfl,rfl,Nat.le_refl _,fun _ _ _=>rfl⟩
theorem Ext.alloc (w:World) (o:Obj):Ext w (w.alloc o):=⟨rfl,rfl,rfl,by simp,fun k hk _=>Below.heap_alloc _ _ _ hk⟩
def Blk (w:World) (b:Nat) (l:List Value) (T:TypeId):Prop:=w.heap[b]?=some (.cells ⟨l⟩ T (0,0))
theorem Blk.lt {w b l T} (h:Blk w b l T):b<w.heap.size:=(Array.getElem?_eq_some_iff.1 h).1
theorem Blk.chg {S w w' b l T} (h:Blk w b l T) (k:Chg S w w') (hn:b∉S):Blk w' b l T:=(k.block b h.lt hn).trans h
theorem Blk.ext {w w' b l T} (h:Blk w b l T) (k:Ext w w'):Blk w' b l T:=h.chg k (by simp)
theorem Blk.alloc (w:World) (l:List Value) (T:TypeId):Blk (w.alloc (.cells ⟨l⟩ T)) w.heap.size l T:=by
 show (w.heap.push _)[w.heap.size]?=_;simp
theorem Blk.cell {w b l T} (h:Blk w b l T) {i:Nat} {v:Value} (hi:l[i]?=some v):w.cell? ⟨b,i,none⟩=some v:=by
 unfold World.cell?;rw [show w.heap[(⟨b,i,none⟩:Addr).block]?=some (.cells ⟨l⟩ T (0,0)) from h]
 simpa using hi
theorem Blk.setRow {w b l T} (h:Blk w b l T) (l':List Value):Blk (w.setRow b ⟨l'⟩) b l' T:=setRow_heap w b ⟨l⟩ ⟨l'⟩ T (0,0) h
theorem Chg.setRow (w:World) (b:Nat) (cs:Array Value):Chg [b] w (w.setRow b cs):=⟨rfl,rfl,rfl,by simp,fun k _ hn=>setRow_other w b k cs (by simpa using hn)⟩
theorem add_addr (b i k:Nat):(⟨b,i,none⟩:Addr).add k=⟨b,i+k,none⟩:=by unfold Addr.add;split<;>simp_all
def isAggD:TypeDesc→Bool
 | .struct _=>true
 | .array _ _=>true
 | _=>false
section
variable [Tab P] {t:TypeId} {r:TRow}
theorem run_under (h:Tab.row P t=some r):∃d,P.underlying t=some d∧bare d=r.desc∧∀w,(underlying t).run P w=.ok d w:=by
 obtain ⟨d,hd,hb,_⟩:=Tab.ok t r h;exact ⟨d,hd,hb,run_underlying hd⟩
theorem under_string (h:Tab.row P t=some r) (hr:r.desc=.string) (w:World):(underlying t).run P w=.ok .string w:=by
 obtain ⟨d,_,hb,hu⟩:=run_under h;cases d<;>simp [bare,hr] at hb;exact hu w
theorem under_slice {e:TypeId} (h:Tab.row P t=some r) (hr:r.desc=.slice e):P.underlying t=some (.slice e):=by
 obtain ⟨d,hu,hb,_⟩:=run_under h;cases d<;>simp [bare,hr] at hb;rw [hu,hb]
theorem under_int {k:IntKind} (h:Tab.row P t=some r) (hr:r.desc=.int k):P.underlying t=some (.int k):=by
 obtain ⟨d,hu,hb,_⟩:=run_under h;cases d<;>simp [bare,hr] at hb;rw [hu,hb]
theorem under_struct {fs:Array Field} (h:Tab.row P t=some r) (hr:r.desc=.struct fs):∃gs,P.underlying t=some (.struct gs)∧gs.map bareF=fs:=by
 obtain ⟨d,hu,hb,_⟩:=run_under h;cases d<;>simp [bare,hr] at hb;exact ⟨_,hu,hb⟩
theorem run_size (h:Tab.row P t=some r) (w:World):(sizeOf t).run P w=.ok r.size w:=by
 obtain ⟨_,_,_,i,hi,_,hs,_⟩:=Tab.ok t r h;simp [sizeOf,typeInfo,hi,hs]
theorem run_zero (h:Tab.row P t=some r) (w:World):(zeroValue t).run P w=.ok r.zero w:=by
 obtain ⟨_,_,_,i,hi,hz,_⟩:=Tab.ok t r h;simp [zeroValue,typeInfo,hi,hz]
theorem run_isAgg (h:Tab.row P t=some r) (w:World):(isAgg t).run P w=.ok (isAggD r.desc) w:=by
 obtain ⟨d,_,hb,hu⟩:=run_under h;unfold isAgg;rw [Sem.run_bind,hu,←hb];simp only [Result.andThen_ok];cases d<;>rfl
def AggAt (l:List Value):Nat→List Value→Prop
 | _,[]=>True
 | i,c::cs=>l[i]?=some c∧AggAt l (i+1) cs
theorem AggAt.get {l:List Value}:∀{i:Nat} {cs:List Value},AggAt l i cs→∀j v,cs[j]?=some v→l[i+j]?=some v
 | _,[],_,j,v,h=>by simp at h
 | i,c::cs,⟨h0,h1⟩,0,v,h=>by simp at h;subst h;exact h0
 | i,c::cs,⟨h0,h1⟩,j+1,v,h=>by
  have:=h1.get j v (by simpa using h)
  rwa [show i+(j+1)=i+1+j by omega]
theorem AggAt.all (l:List Value):AggAt l 0 l:=by
 have:∀(k:Nat) (r:List Value),(∀j,l[k+j]?=r[j]?)→AggAt l k r:=by
  intro k r
  induction r generalizing k with
  | nil=>intro _;trivial
  | cons c r ih=>
   intro h;exact ⟨by simpa using h 0,ih (k+1) (fun j=>by have:=h (j+1);rw [show k+1+j=k+(j+1) by omega,this];simp)⟩
 exact this 0 l (by simp)
theorem run_load_one (h:Tab.row P t=some r) (hd:isAggD r.desc=false) {w:World} {b i:Nat} {l:List Value} {T:TypeId} {v:Value} (hB:Blk w b l T) (hi:l[i]?=some v) :
  (loadVar t ⟨b,i,none⟩).run P w=.ok v w:=by
 unfold loadVar;rw [Sem.run_bind,run_isAgg h];simp [hd,hB.cell hi]
theorem run_load_agg (h:Tab.row P t=some r) (hd:isAggD r.desc=true) {w:World} {b i:Nat} {l cs:List Value} {T:TypeId} (hB:Blk w b l T) (hs:r.size=cs.length) (hc:AggAt l i cs) :
  (loadVar t ⟨b,i,none⟩).run P w=.ok (.agg ⟨cs⟩) w:=by
 unfold loadVar;rw [Sem.run_bind,run_isAgg h];simp only [hd,Result.andThen_ok,if_true,Sem.run_bind,run_size h,hs];rw [run_loadCells_list w ⟨b,i,none⟩ cs (fun j v hv=>by rw [add_addr];exact hB.cell (hc.get j v hv))];rfl
theorem run_store_blk (h:Tab.row P t=some r) {w:World} {b i:Nat} {l:List Value} {T:TypeId} {v:Value} (hB:Blk w b l T) (hs:r.size=v.cells.toList.length) (hi:i+v.cells.toList.length≤l.length)
  (h1:v.cells.toList.all (·.oneCell')=true) :
  (storeVar t ⟨b,i,none⟩ v).run P w=.ok () (w.setRow b ⟨l.take i++v.cells.toList++l.drop (i+v.cells.toList.length)⟩):=by
 unfold storeVar;rw [Sem.run_bind,run_size h];have hsz:v.cells.size=r.size:=by rw [hs];simp
 simp only [Result.andThen_ok,hsz,ne_eq,not_true_eq_false,if_false];have:=run_storeCells_at (P:=P) b i T v.cells.toList 0 ⟨l⟩ w hB (by simpa using hi) (fun u hu=>by simpa using List.all_eq_true.1 h1 u hu)
 simpa using this
end
section
variable {Q:Exit→Act→World→Prop} {D:List Deferred} {n:Nat} {E:Env} {w:World} {l rest:List Oper} {x y:Code} {id:Nat}
abbrev str (l:List UInt8):Value:=.string ⟨⟨l⟩⟩
def sameKind:IntKind→IntKind→Bool
 | .i8,.i8 | .i16,.i16 | .i32,.i32 | .i64,.i64 | .u8,.u8 | .u16,.u16 | .u32,.u32 | .u64,.u64=>true
 | _,_=>false
theorem sameKind_eq {j k:IntKind} (h:sameKind j k=true):j=k:=by cases j<;>cases k<;>first | rfl | cases h
def cmpOp (op:BinOp) (m n:Int):Option Value:=
 match op with
 | .eql=>some (.bool (decide (m=n)))
 | .neq=>some (.bool (!decide (m=n)))
 | .lss=>some (.bool (decide (m<n)))
 | .leq=>some (.bool (decide (m≤n)))
 | .gtr=>some (.bool (decide (n<m)))
 | .geq=>some (.bool (decide (n≤m)))
 | _=>none
def strOp (op:BinOp) (a b:List UInt8):Option Value:=
 match op with
 | .eql=>some (.bool (decide (a=b)))
 | .neq=>some (.bool (!decide (a=b)))
 | .lss=>some (.bool (Op.bytesLess a b))
 | .leq=>some (.bool (Op.bytesLess a b||decide (a=b)))
 | .gtr=>some (.bool (!(Op.bytesLess a b||decide (a=b))))
 | .geq=>some (.bool (!Op.bytesLess a b))
 | _=>none
def boolOp (op:BinOp) (a b:Bool):Option Value:=
 match op with
 | .eql=>some (.bool (decide (a=b)))
 | .neq=>some (.bool (!decide (a=b)))
 | _=>none
def fOff (P:Program) [Tab P] (s f:Nat):Option Nat:=
 match Tab.row P s with
 | some r=>match r.desc with
  | .struct fs=>match fs.toList[f]? with
   | some fld=>match Tab.row P fld.type with
    | some r'=>bif Nat.beq r'.size 0 then none else some fld.offset
    | none=>none
   | none=>none
  | _=>none
 | none=>none
def lenV (P:Program) [Tab P] (t:Nat) (v:Value):Option Value:=
 match Tab.row P t,v with
 | some ⟨.string,_,_,_⟩,.string ⟨⟨a⟩⟩=>some (.int .i64 (a.length:Int))
 | some ⟨.slice _,_,_,_⟩,.slice _ k _=>some (.int .i64 (k:Int))
 | _,_=>none
def boolT (P:Program) [Tab P] (t:Nat) (op:BinOp) (a b:Bool):Option Value:=
 match Tab.row P t with
 | some r=>match r.desc with
  | .bool=>boolOp op a b
  | _=>none
 | none=>none
def pureOp (P:Program) [Tab P] (E:Env):Op→Option Value
 | .move x=>ev E x
 | .assign x=>ev E x
 | .pick c a b=>match ev E c with
  | some (.bool true)=>ev E a
  | some (.bool false)=>ev E b
  | _=>none
 | .binOp op T0 x y _=>match ev E x,ev E y with
  | some (.int j m),some (.int k n)=>bif sameKind j k then cmpOp op m n else none
  | some (.string ⟨⟨a⟩⟩),some (.string ⟨⟨b⟩⟩)=>strOp op a b
  | some (.bool a),some (.bool b)=>boolT P T0 op a b
  | _,_=>none
 | .unOp .not _ x=>match ev E x with
  | some (.bool b)=>some (.bool (!b))
  | _=>none
 | .extract x i=>match ev E x with
  | some (.tuple vs)=>vs.toList[i]?
  | _=>none
 | .makeFunc fn first cap=>match evs E first.toList,evs E cap.toList with
  | some vs,some us=>some (.func fn ⟨vs⟩ ⟨us⟩)
  | _,_=>none
 | .fieldAddr s x f=>match ev E x,fOff P s f with
  | some (.pointer (some ⟨b,i,none⟩)),some k=>some (.pointer (some ⟨b,i+k,none⟩))
  | _,_=>none
 | .nilCheck x=>match ev E x with
  | some (.pointer (some a))=>some (.pointer (some a))
  | _=>none
 | .call ⟨.builtin .len,as,ts⟩=>match evs E as.toList,ts.toList with
  | some [v],[t]=>lenV P t v
  | _,_=>none
 | _=>none
theorem beq_dec {α:Type} [BEq α] [LawfulBEq α] [DecidableEq α] (a b:α):(a == b)=decide (a=b):=by rw [Bool.eq_iff_iff];simp
theorem bne_dec {α:Type} [BEq α] [LawfulBEq α] [DecidableEq α] (a b:α):(a != b)=!decide (a=b):=by unfold bne;rw [beq_dec]
theorem run_len_str [Tab P] {t ty:TypeId} {z:Value} {s k:Nat} (hr:Tab.row P t=some ⟨.string,z,s,k⟩) (a:List UInt8):(Builtin.len_ #[t] ty #[str a]).run P w=.ok (.int .i64 (a.length:Int)) w:=by
 have h:(underlying t).run P w=.ok .string w:=under_string hr rfl w;simp only [Builtin.len_,List.getElem?_toArray,List.getElem?_cons_zero,Sem.run_bind,h,Result.andThen_ok];rfl
theorem run_len_slice [Tab P] {t ty e:TypeId} {z:Value} {s k:Nat} (hr:Tab.row P t=some ⟨.slice e,z,s,k⟩) (p:Option Addr) (m c:Nat):(Builtin.len_ #[t] ty #[.slice p m c]).run P w=.ok (.int .i64 (m:Int)) w:=by
 have h:(underlying t).run P w=.ok (.slice e) w:=run_underlying (under_slice hr rfl) w;simp [Builtin.len_,h,goInt]
theorem run_pureOp [Tab P] {a:Act} {op:Op} {v:Value} (ha:Holds a D n E) (h:pureOp P E op=some v) (dst:Option Tmp) (T:TypeId) (pos:String) (af:Array Edge) (g:Option (Nat×Bool)) :
  (execOp a.eval {dst,op,type:=T,pos,after:=af,guard:=g}).run P w=.ok (.value v) w:=by
 unfold pureOp at h
 split at h
 case h_1 x=>simp [execOp,ha.eval h]
 case h_2 x=>simp [execOp,ha.eval h]
 case h_3 c x y=>
  split at h
  ·rename_i hc;simp [execOp,ha.eval hc,ha.eval h,asBool]
  ·rename_i hc;simp [execOp,ha.eval hc,ha.eval h,asBool]
  ·cases h
 case h_4 op t x y ty=>
  split at h
  ·rename_i j m k n hx hy;simp only [execOp,ha.eval hx,ha.eval hy];cases hk:sameKind j k<;>simp only [hk,cond_true,cond_false,reduceCtorEq] at h;have:=sameKind_eq hk;subst this;unfold cmpOp at h
   split at h<;>simp only [Option.some.injEq,reduceCtorEq] at h<;>subst h<;>simp [eqGuard,binOp,Op.intCmp,beq_dec,bne_dec]
  ·rename_i s u hx hy;simp only [execOp,ha.eval hx,ha.eval hy];unfold strOp at h
   split at h<;>simp only [Option.some.injEq,reduceCtorEq] at h<;>subst h<;>simp [eqGuard,binOp,Op.stringOp,ByteArray.toList_eq,beq_dec]
  ·rename_i s u hx hy;simp only [execOp,ha.eval hx,ha.eval hy];unfold boolT at h
   split at h<;>try cases h
   rename_i r hr
   split at h<;>try cases h
   rename_i hrd;have hu:P.underlying t=some .bool:=by
    obtain ⟨dd,hu,hb,_⟩:=run_under hr;cases dd<;>simp [bare,hrd] at hb;exact hu
   unfold boolOp at h
   split at h<;>simp only [Option.some.injEq,reduceCtorEq] at h<;>subst h
   ·have:(Op.equal t (.bool s) (.bool u)).run P w=.ok (s == u) w:=run_equalIn_bool' w 9999 t s u hu;simp [eqGuard,binOp,this,beq_dec]
   ·have:(Op.equal t (.bool s) (.bool u)).run P w=.ok (s == u) w:=run_equalIn_bool' w 9999 t s u hu;simp [eqGuard,binOp,this,beq_dec]
  ·cases h
 case h_5 t x=>
  split at h
  ·rename_i b hx;simp only [Option.some.injEq] at h;simp [execOp,ha.eval hx,Op.unary,h]
  ·cases h
 case h_6 x i=>
  split at h
  ·rename_i vs hx;have h':vs[i]?=some v:=by simpa using h
   simp [execOp,ha.eval hx,Instr.extract,h']
  ·cases h
 case h_7 fn first cap=>
  split at h
  ·rename_i vs us h1 h2;simp only [Option.some.injEq] at h;have e1:=ha.evals h1;have e2:=ha.evals h2;have f1:first.map a.eval=⟨vs⟩:=by rw [←e1];simp [←Array.toList_map]
   have f2:cap.map a.eval=⟨us⟩:=by rw [←e2];simp [←Array.toList_map]
   simp [execOp,Instr.makeFunc,f1,f2,h]
  ·cases h
 case h_8 s x f=>
  split at h
  ·rename_i b i k hx hk;simp only [Option.some.injEq] at h;unfold fOff at hk
   split at hk<;>try cases hk
   rename_i r hr
   split at hk<;>try cases hk
   rename_i fs hfs
   split at hk<;>try cases hk
   rename_i fld hfld
   split at hk<;>try cases hk
   rename_i r' hr';cases hz:Nat.beq r'.size 0<;>rw [hz] at hk<;>simp only [cond_true,cond_false,reduceCtorEq,Option.some.injEq] at hk;have hne:¬r'.size=0:=fun h0=>by rw [h0] at hz;cases hz
   obtain ⟨gs,hgs,hgf⟩:=under_struct hr hfs;have hfld':∃g,gs[f]?=some g∧bareF g=fld:=by
    rw [←hgf] at hfld
    simpa using hfld
   obtain ⟨g,hg1,hg2⟩:=hfld';subst hg2;have hr2:Tab.row P g.type=some r':=hr';have hk2:g.offset=k:=hk;simp only [execOp,Instr.fieldAt,ha.eval hx,Sem.run_bind,run_underlying hgs,Result.andThen_ok,hg1,Instr.sureAddr,Sem.run_pure,fieldPlace,run_size hr2,hne,if_false,add_addr];rw [←h,hk2]
  ·cases h
 case h_9 x=>
  split at h
  ·rename_i b hx;simp only [Option.some.injEq] at h;subst h;simp [execOp,ha.eval hx]
  ·cases h
 case h_10 as ts=>
  split at h
  ·rename_i v t hv ht;have e1:=ha.evals hv;obtain ⟨as⟩:=as;obtain ⟨ts⟩:=ts;have ht':ts=[t]:=ht;subst ht';have f1:as.map a.eval=[v]:=e1;unfold lenV at h
   split at h
   ·rename_i a hr;simp only [Option.some.injEq] at h;subst h;simp only [execOp,resolve,List.map_toArray,f1,Sem.run_bind,Sem.run_pure,Result.andThen_ok,invoke,builtin,show (⟨[t]⟩:Array TypeId)=#[t] from rfl,run_len_str hr]
   ·rename_i e k c hr;simp only [Option.some.injEq] at h;subst h;simp only [execOp,resolve,List.map_toArray,f1,Sem.run_bind,Sem.run_pure,Result.andThen_ok,invoke,builtin,show (⟨[t]⟩:Array TypeId)=#[t] from rfl,run_len_slice hr]
   ·cases h
  ·cases h
 case h_11=>cases h
def Y (P:Program) (D:List Deferred) (n:Nat) (E:Env) (w:World) (o:Oper) (v:Value):Prop:=∀a,Holds a D n E→(execOp a.eval o).run P w=.ok (.value v) w
def QL (P:Program) (l:List Oper) (Q:Exit→Act→World→Prop) (rest:List Oper) (D:List Deferred) (n:Nat) (E:Env) (w:World):Prop:=
 ∀a,Holds a D n E→wpQuiet P l.toArray (fun w'=>Ext w w') (fun a'=>∀w',Ext w w'→Q .normal a' w') rest a
theorem CW.draw {t:Nat} (hm:P.follows .mixedOrders=true) (hB:Region.lexB .any l.toArray=true) (h:QL P l Q l D n E w):CW P (.region t l.toArray true) Q D n E w:=fun a ha=>
 wp_region_quiet (C:=fun w'=>Ext w w') hm hB (Ext.drew w) (by simpa using h a ha)
theorem QL.nil (h:∀w',Ext w w'→QW Q .normal D n E w'):QL P l Q [] D n E w:=fun a ha=>wpQuiet_nil fun w' hw=>h w' hw a ha
theorem QL.sub {E':Env} (hs:Sub E' E) (h:QL P l Q rest D n E' w):QL P l Q rest D n E w:=fun a ha=>h a (ha.sub hs)
theorem QL.yields {o:Oper} {v:Value} {d:Nat} (hg:o.guard=none) (hd:o.dst=some d) (hn:Nat.blt d n=true) (hy:∀w',Ext w w'→Y P D n E w' o v) (h:QL P l Q rest D n ((d,v)::E) w):QL P l Q (o::rest) D n E w:=fun a ha=>by
 refine wpQuiet_step fun K hK=>?_;rw [if_pos (by simp [Region.wanted,hg])];refine ⟨v,fun w' hw=>?_,hK _ (by rw [hd];exact h _ (ha.put d v hn))⟩;unfold Oper.quietAt;rw [hy w' hw a ha];exact ⟨rfl,rfl⟩
theorem LW.val {o:Oper} {v:Value} {d:Nat} {w':World} (hg:o.guard=none) (hd:o.dst=some d) (hn:Nat.blt d n=true)
  (hr:∀a,Holds a D n E→(execOp a.eval o).run P w=.ok (.value v) w') (h:LW P l Q rest D n ((d,v)::E) w'):LW P l Q (o::rest) D n E w:=fun a ha=>by
 refine wpList_plain hg fun K hK=>?_;unfold Oper.wp;rw [hr a ha];simp only [Oper.upon,hd];exact hK _ _ (h _ (ha.put d v hn))
theorem Y.pure [Tab P] {op:Op} {v:Value} {d:Nat} {T:TypeId} {pos:String} {af:Array Edge} (hv:pureOp P E op=some v):Y P D n E w {dst:=some d,op,type:=T,pos,after:=af,guard:=none} v:=
 (fun _ ha=>run_pureOp ha hv _ _ _ _ _)
theorem LW.pure [Tab P] {op:Op} {v:Value} {d:Nat} {T:TypeId} {pos:String} {af:Array Edge} (hv:pureOp P E op=some v) (hn:Nat.blt d n=true) (h:LW P l Q rest D n ((d,v)::E) w):LW P l Q ({dst:=some d,op,type:=T,pos,after:=af,guard:=none}::rest) D n E w:=
 LW.val rfl rfl hn (Y.pure hv) h
theorem QL.pure [Tab P] {op:Op} {v:Value} {d:Nat} {T:TypeId} {pos:String} {af:Array Edge} (hv:pureOp P E op=some v) (hn:Nat.blt d n=true) (h:QL P l Q rest D n ((d,v)::E) w):QL P l Q ({dst:=some d,op,type:=T,pos,after:=af,guard:=none}::rest) D n E w:=
 QL.yields rfl rfl hn (fun _ _=>Y.pure hv) h
def dstAt (l:List Oper) (j:Nat):Option Nat:=(l[j]?).bind (·.dst)
theorem yielded_of {a:Act} {j t:Nat} {b:Bool} (ha:Holds a D n E) (hj:dstAt l j=some t) (hb:look E t=some (.bool b)):yielded l.toArray a.tmps j=some b:=by
 unfold dstAt at hj;have:=ha.val t _ hb;simp [yielded,hj,this]
theorem LW.skip {o:Oper} {j t d:Nat} {b c:Bool} (hg:o.guard=some (j,b)) (hd:o.dst=some d) (hn:Nat.blt d n=true) (hj:dstAt l j=some t) (hb:look E t=some (.bool c)) (hne:(c == b)=false)
  (h:LW P l Q rest D n ((d,undef)::E) w):LW P l Q (o::rest) D n E w:=fun a ha=>by
 have hy:=yielded_of (l:=l) ha hj hb;have hw:Region.wanted o (yielded l.toArray a.tmps)=false:=by
  simp only [Region.wanted,hg,hy];cases c<;>cases b<;>first | rfl | cases hne
 unfold wpList;rw [hw,if_neg (by simp),hd];exact h _ (ha.put d _ hn)
theorem yielded_undef {a:Act} {j t:Nat} (ha:Holds a D n E) (hj:dstAt l j=some t) (hb:look E t=some undef):yielded l.toArray a.tmps j=none:=by
 unfold dstAt at hj;have:=ha.val t _ hb;simp [yielded,hj,this,undef]
theorem LW.skip_u {o:Oper} {j t d:Nat} {b:Bool} (hg:o.guard=some (j,b)) (hd:o.dst=some d) (hn:Nat.blt d n=true) (hj:dstAt l j=some t) (hb:look E t=some undef)
  (h:LW P l Q rest D n ((d,undef)::E) w):LW P l Q (o::rest) D n E w:=fun a ha=>by
 have hy:=yielded_undef (l:=l) ha hj hb;have hw:Region.wanted o (yielded l.toArray a.tmps)=false:=by
  simp only [Region.wanted,hg,hy];rfl
 unfold wpList;rw [hw,if_neg (by simp),hd];exact h _ (ha.put d _ hn)
theorem QL.skip_u {o:Oper} {j t d:Nat} {b:Bool} (hg:o.guard=some (j,b)) (hd:o.dst=some d) (hn:Nat.blt d n=true) (hj:dstAt l j=some t) (hb:look E t=some undef)
  (h:QL P l Q rest D n ((d,undef)::E) w):QL P l Q (o::rest) D n E w:=fun a ha=>by
 have hy:=yielded_undef (l:=l) ha hj hb;have hw:Region.wanted o (yielded l.toArray a.tmps)=false:=by
  simp only [Region.wanted,hg,hy];rfl
 refine wpQuiet_step fun K hK=>?_;rw [hw,if_neg (by simp),hd];exact hK _ (h _ (ha.put d _ hn))
theorem LW.want {op:Op} {d T pos af} {j t:Nat} {b:Bool} (hj:dstAt l j=some t) (hb:look E t=some (.bool b))
  (h:LW P l Q ({dst:=d,op,type:=T,pos,after:=af,guard:=none}::rest) D n E w):LW P l Q ({dst:=d,op,type:=T,pos,after:=af,guard:=some (j,b)}::rest) D n E w:=fun a ha=>by
 have hy:=yielded_of (l:=l) ha hj hb;have hw:Region.wanted {dst:=d,op,type:=T,pos,after:=af,guard:=some (j,b)} (yielded l.toArray a.tmps)=true:=by
  simp [Region.wanted,hy]
 have h0:=h a ha;unfold wpList at h0 ⊢;rw [hw,if_pos rfl];rw [show Region.wanted {dst:=d,op,type:=T,pos,after:=af,guard:=none} (yielded l.toArray a.tmps)=true from rfl,if_pos rfl] at h0;exact h0
theorem Sub.know {t:Nat} {b c:Bool} (ht:look E t=some (.bool b)) (hb:b=c):Sub ((t,.bool c)::E) E:=Sub.cons (by rw [ht,hb]) (Sub.refl E)
theorem LW.part {o:Oper} {j t:Nat} {b c:Bool} (_hg:o.guard=some (j,b)) (_hj:dstAt l j=some t) (ht:look E t=some (.bool c))
  (h1:c=true→LW P l Q (o::rest) D n ((t,.bool true)::E) w) (h0:c=false→LW P l Q (o::rest) D n ((t,.bool false)::E) w):LW P l Q (o::rest) D n E w:=by
 cases c
 ·exact (h0 rfl).sub (Sub.know ht rfl)
 ·exact (h1 rfl).sub (Sub.know ht rfl)
theorem QL.skip {o:Oper} {j t d:Nat} {b c:Bool} (hg:o.guard=some (j,b)) (hd:o.dst=some d) (hn:Nat.blt d n=true) (hj:dstAt l j=some t) (hb:look E t=some (.bool c)) (hne:(c == b)=false)
  (h:QL P l Q rest D n ((d,undef)::E) w):QL P l Q (o::rest) D n E w:=fun a ha=>by
 have hy:=yielded_of (l:=l) ha hj hb;have hw:Region.wanted o (yielded l.toArray a.tmps)=false:=by
  simp only [Region.wanted,hg,hy];cases c<;>cases b<;>first | rfl | cases hne
 refine wpQuiet_step fun K hK=>?_;rw [hw,if_neg (by simp),hd];exact hK _ (h _ (ha.put d _ hn))
theorem QL.want {op:Op} {d T pos af} {j t:Nat} {b:Bool} (hj:dstAt l j=some t) (hb:look E t=some (.bool b))
  (h:QL P l Q ({dst:=d,op,type:=T,pos,after:=af,guard:=none}::rest) D n E w):QL P l Q ({dst:=d,op,type:=T,pos,after:=af,guard:=some (j,b)}::rest) D n E w:=fun a ha=>by
 have hy:=yielded_of (l:=l) ha hj hb;have hw:Region.wanted {dst:=d,op,type:=T,pos,after:=af,guard:=some (j,b)} (yielded l.toArray a.tmps)=true:=by
  simp [Region.wanted,hy]
 have h0:=h a ha;unfold wpQuiet at h0 ⊢;rw [hw,if_pos rfl];rw [show Region.wanted {dst:=d,op,type:=T,pos,after:=af,guard:=none} (yielded l.toArray a.tmps)=true from rfl,if_pos rfl] at h0;exact h0
theorem QL.part {o:Oper} {j t:Nat} {b c:Bool} (_hg:o.guard=some (j,b)) (_hj:dstAt l j=some t) (ht:look E t=some (.bool c))
  (h1:c=true→QL P l Q (o::rest) D n ((t,.bool true)::E) w) (h0:c=false→QL P l Q (o::rest) D n ((t,.bool false)::E) w):QL P l Q (o::rest) D n E w:=by
 cases c
 ·exact (h0 rfl).sub (Sub.know ht rfl)
 ·exact (h1 rfl).sub (Sub.know ht rfl)
end
def RV (P:Program) (E:Env) (w:World):List ResultVar→List Value→Prop
 | [],[]=>True
 | .tmp t::rs,v::vs=>look E t=some v∧RV P E w rs vs
 | .cell t T::rs,v::vs=>(∃b,look E t=some (.pointer (some ⟨b,0,none⟩))∧(loadVar T ⟨b,0,none⟩).run P w=.ok v w)∧RV P E w rs vs
 | _,_=>False
def packV:List Value→Value
 | [v]=>v
 | vs=>.tuple ⟨vs⟩
section
variable {Q:Exit→Act→World→Prop} {D:List Deferred} {n:Nat} {E:Env} {w:World} {l rest:List Oper} {x y:Code} {id:Nat}
theorem RV.run {a:Act} (ha:Holds a D n E):∀{rs:List ResultVar} {vs:List Value},RV P E w rs vs→
  (rs.mapM (m:=Sem) fun | .tmp t=>pure (a.tmps.getD t undef) | .cell t T=>do loadVar T (←asAddr (a.tmps.getD t undef))).run P w=.ok vs w
 | [],[],_=>by simp
 | .tmp t::rs,v::vs,⟨h1,h2⟩=>by
  have e:a.tmps.getD t undef=v:=ha.eval (x:=.tmp t) h1
  simp only [List.mapM_cons,Sem.run_bind,Sem.run_pure,e,Result.andThen_ok,RV.run ha h2]
 | .cell t T::rs,v::vs,⟨⟨b,h1,h3⟩,h2⟩=>by
  have e:a.tmps.getD t undef=.pointer (some ⟨b,0,none⟩):=ha.eval (x:=.tmp t) h1;have e2:(asAddr (a.tmps.getD t undef)).run P w=.ok ⟨b,0,none⟩ w:=by rw [e];rfl
  simp only [List.mapM_cons,Sem.run_bind,Sem.run_pure,e2,Result.andThen_ok,RV.run ha h2,h3]
 | [],_::_,h=>h.elim
 | .tmp _::_,[],h=>h.elim
 | .cell _ _::_,[],h=>h.elim
theorem results_run {fn:Func} {a:Act} {rs:List ResultVar} {vs:List Value} (hf:fn.results=⟨rs⟩) (ha:Holds a D n E) (h:RV P E w rs vs):(results fn a.tmps).run P w=.ok (packV vs) w:=by
 unfold results;rw [hf,Sem.run_bind];have h1:=RV.run (P:=P) (w:=w) ha h;have h2:((⟨rs⟩:Array ResultVar).mapM (m:=Sem) fun | .tmp t=>pure (a.tmps.getD t undef) | .cell t T=>do loadVar T (←asAddr (a.tmps.getD t undef))).run P w=.ok ⟨vs⟩ w:=by
  rw [show (⟨rs⟩:Array ResultVar)=rs.toArray from rfl,List.mapM_toArray,Sem.run_map,h1];rfl
 refine Eq.trans (congrArg (fun r=>Result.andThen r fun (vs:Array Value) w'=>Sem.run P (pure (if h:vs.size=1 then vs[0] else Value.tuple vs)) w') h2) ?_;rw [Result.andThen_ok,Sem.run_pure]
 match vs with
 | []=>rfl
 | [v]=>rfl
 | _::_::_=>rfl
def RetR (Φ:Value→World→Prop):Ending→World→Prop:=fun e w'=>∃v,e=.returned v∧Φ v w'
theorem QW.body {fn:Func} {Φ:Value→World→Prop} {rs:List ResultVar} {vs:List Value} {v:Value} (hf:fn.results=⟨rs⟩) (hv:RV P E w rs vs) (hp:packV vs=v) (h:Φ v w) :
  QW (bodyPost P fn (RetR Φ)) .ret [] n E w:=fun _ ha=>⟨ha.defers,_,results_run hf ha hv,v,by rw [hp],h⟩
theorem QW.body_n {fn:Func} {Φ:Value→World→Prop} {rs:List ResultVar} {vs:List Value} {v:Value} (hf:fn.results=⟨rs⟩) (hv:RV P E w rs vs) (hp:packV vs=v) (h:Φ v w) :
  QW (bodyPost P fn (RetR Φ)) .normal [] n E w:=fun _ ha=>⟨ha.defers,_,results_run hf ha hv,v,by rw [hp],h⟩
def callable (P:Program) (f:FuncId):Bool:=match P.funcs[f]? with
 | some fn => !(fn.name == "runtime.NumGoroutine") && !fn.body.isNone
 | none=>false
def Ret (P:Program) (f:FuncId) (args:List Value) (w:World) (Φ:Value→World→Prop):Prop:=callable P f=true∧Calls P f ⟨args⟩ w (RetR Φ)
theorem Ret.mono {f:FuncId} {args:List Value} {Φ Ψ:Value→World→Prop} (h:Ret P f args w Φ) (hm:∀v w',Φ v w'→Ψ v w'):Ret P f args w Ψ:=
 ⟨h.1,h.2.mono fun _ _ ⟨v,e,p⟩=>⟨v,e,hm _ _ p⟩⟩
def argEnv:Nat→List Value→Env
 | _,[]=>[]
 | i,v::r=>(i,v)::argEnv (i+1) r
theorem look_argEnv:∀(args:List Value) (i t:Nat) (v:Value),look (argEnv i args) t=some v→i≤t∧args[t - i]?=some v
 | [],_,_,_,h=>by simp [argEnv,look] at h
 | u::r,i,t,v,h=>by
  simp only [argEnv] at h;rw [look_cons] at h;by_cases ht:i=t
  ·subst ht;simp at h;subst h;simp
  ·rw [if_neg ht] at h;obtain ⟨h1,h2⟩:=look_argEnv r (i+1) t v h;refine ⟨by omega,?_⟩;rw [show t - i=(t - (i+1))+1 by omega]
   simpa using h2
theorem holds_enter (args:List Value) (n:Nat) (hn:args.length≤n):Holds {tmps:=(⟨args⟩:Array Value)++Array.replicate (n - (⟨args⟩:Array Value).size) undef,defers:=[]} [] n (argEnv 0 args):=by
 refine ⟨rfl,?_,fun t v h=>?_⟩
 ·simp;omega
 ·obtain ⟨_,h2⟩:=look_argEnv args 0 t v h;simp only [Nat.sub_zero] at h2;have hlt:t<args.length:=(List.getElem?_eq_some_iff.1 h2).1;rw [Array.getElem?_append_left (by simpa using hlt)]
  simpa using h2
theorem Ret.enter {f:FuncId} {fn:Func} {c:Code} {args:List Value} {Φ:Value→World→Prop} (hf:P.funcs[f]?=some fn) (hb:fn.body=some c) (hn:fn.ntmps=n) (hc:callable P f=true) (hl:Nat.ble args.length n=true)
  (h:CW P c (bodyPost P fn (RetR Φ)) [] n (argEnv 0 args) w):Ret P f args w Φ:=
 ⟨hc,calls_of_wp hf hb (by rw [hn];exact h _ (holds_enter args n (Nat.le_of_ble_eq_true hl)))⟩
theorem run_callFunc {f:FuncId} (hc:callable P f=true) (args:Array Value) (w:World):(callFunc f args).run P w=.ok (.enter f args) w:=by
 unfold callable at hc
 split at hc
 ·rename_i fn hf; simp only [Bool.and_eq_true, Bool.not_eq_true'] at hc; have h1 : ¬ fn.name = "runtime.NumGoroutine" := fun h => by rw [h] at hc; simp at hc
  have h2:¬fn.body=none:=fun h=>by rw [h] at hc;simp at hc
  simp [callFunc,hf,h1,h2]
 ·cases hc
theorem LW.call {fop:Operand} {f:FuncId} {as:List Operand} {fs vs cs:List Value} {d:Nat} {T:TypeId} {pos:String} {af:Array Edge} {ts:Array TypeId} {Φ:Value→World→Prop}
  (hf:ev E fop=some (.func (.func f) ⟨fs⟩ ⟨cs⟩)) (ha:evs E as=some vs) (hn:Nat.blt d n=true) (hc:Ret P f (fs++(vs++cs)) w Φ)
  (h:∀v w',Φ v w'→LW P l Q rest D n ((d,v)::E) w') :
  LW P l Q ({dst:=some d,op:=.call {callee:=.value fop,args:=⟨as⟩,argTypes:=ts},type:=T,pos,after:=af,guard:=none}::rest) D n E w:=fun a hh=>by
 refine wpList_plain rfl fun K hK=>?_;have e1:=hh.eval hf;have e2:=hh.evals ha;unfold Oper.wp;simp only [execOp,resolve,List.map_toArray,e2,e1,Deferred.ofValue,Sem.run_bind,Sem.run_pure,Result.andThen_ok,invoke,run_callFunc hc.1,Oper.upon];refine (show Calls P f _ w _ from ?_);have:((⟨fs⟩:Array Value)++(⟨vs⟩:Array Value)++(⟨cs⟩:Array Value))=⟨fs++(vs++cs)⟩:=by simp
 rw [this];refine hc.2.mono ?_;rintro e w' ⟨v,rfl,hv⟩;exact hK _ _ (h v w' hv _ (hh.put d v hn))
theorem LW.call0 {f:FuncId} {as:List Operand} {vs:List Value} {d:Nat} {T:TypeId} {pos:String} {af:Array Edge} {ts:Array TypeId} {Φ:Value→World→Prop}
  (ha:evs E as=some vs) (hn:Nat.blt d n=true) (hc:Ret P f vs w Φ)
  (h:∀v w',Φ v w'→LW P l Q rest D n ((d,v)::E) w') :
  LW P l Q ({dst:=some d,op:=.call {callee:=.value (.func f),args:=⟨as⟩,argTypes:=ts},type:=T,pos,after:=af,guard:=none}::rest) D n E w:=
 LW.call (f:=f) (fs:=[]) (cs:=[]) rfl ha hn (by simpa using hc) h
theorem QL.call {fop:Operand} {f:FuncId} {as:List Operand} {fs vs cs:List Value} {d:Nat} {T:TypeId} {pos:String} {af:Array Edge} {ts:Array TypeId} {v:Value}
  (hf:ev E fop=some (.func (.func f) ⟨fs⟩ ⟨cs⟩)) (ha:evs E as=some vs) (hn:Nat.blt d n=true) (hc:∀w',Ext w w'→Ret P f (fs++(vs++cs)) w' (fun r w''=>r=v∧Ext w' w''))
  (h:QL P l Q rest D n ((d,v)::E) w) :
  QL P l Q ({dst:=some d,op:=.call {callee:=.value fop,args:=⟨as⟩,argTypes:=ts},type:=T,pos,after:=af,guard:=none}::rest) D n E w:=fun a hh=>by
 refine wpQuiet_step fun K hK=>?_;rw [if_pos (by simp [Region.wanted])];refine ⟨v,fun w' hw=>?_,hK _ (h _ (hh.put d v hn))⟩;have e1:=hh.eval hf;have e2:=hh.evals ha;unfold Oper.quietAt;simp only [execOp,resolve,List.map_toArray,e2,e1,Deferred.ofValue,Sem.run_bind,Sem.run_pure,Result.andThen_ok,invoke,run_callFunc (hc w' hw).1,Oper.quietUpon];refine ⟨trivial,?_⟩;have:((⟨fs⟩:Array Value)++(⟨vs⟩:Array Value)++(⟨cs⟩:Array Value))=⟨fs++(vs++cs)⟩:=by simp
 rw [this];refine (hc w' hw).2.mono ?_;rintro e w'' ⟨r,rfl,rfl,hx⟩;exact ⟨rfl,hw.trans hx⟩
theorem QL.call0 {f:FuncId} {as:List Operand} {vs:List Value} {d:Nat} {T:TypeId} {pos:String} {af:Array Edge} {ts:Array TypeId} {v:Value}
  (ha:evs E as=some vs) (hn:Nat.blt d n=true) (hc:∀w',Ext w w'→Ret P f vs w' (fun r w''=>r=v∧Ext w' w''))
  (h:QL P l Q rest D n ((d,v)::E) w) :
  QL P l Q ({dst:=some d,op:=.call {callee:=.value (.func f),args:=⟨as⟩,argTypes:=ts},type:=T,pos,after:=af,guard:=none}::rest) D n E w:=
 QL.call (f:=f) (fs:=[]) (cs:=[]) rfl ha hn (by simpa using hc) h
theorem QW.body1 {fn:Func} {Φ:Value→World→Prop} {s:Nat} {v:Value} (hf:fn.results=#[.tmp s]) (hv:look E s=some v) (h:Φ v w) :
  QW (bodyPost P fn (RetR Φ)) .ret [] n E w:=QW.body (rs:=[.tmp s]) (vs:=[v]) hf ⟨hv,trivial⟩ rfl h
theorem QW.body2 {fn:Func} {Φ:Value→World→Prop} {s u:Nat} {v x:Value} (hf:fn.results=#[.tmp s,.tmp u]) (hv:look E s=some v) (hx:look E u=some x) (h:Φ (.tuple #[v,x]) w) :
  QW (bodyPost P fn (RetR Φ)) .ret [] n E w:=QW.body (rs:=[.tmp s,.tmp u]) (vs:=[v,x]) hf ⟨hv,hx,trivial⟩ rfl h
theorem QW.body3 {fn:Func} {Φ:Value→World→Prop} {s u z:Nat} {v x y:Value} (hf:fn.results=#[.tmp s,.tmp u,.tmp z]) (hv:look E s=some v) (hx:look E u=some x) (hy:look E z=some y) (h:Φ (.tuple #[v,x,y]) w) :
  QW (bodyPost P fn (RetR Φ)) .ret [] n E w:=QW.body (rs:=[.tmp s,.tmp u,.tmp z]) (vs:=[v,x,y]) hf ⟨hv,hx,hy,trivial⟩ rfl h
theorem wrap_i64 {z:Int} (h1:-9223372036854775808≤z) (h2:z≤9223372036854775807):IntKind.i64.wrap z=z:=IntWalk.i64_in z ⟨h1,h2⟩
theorem run_bin {a:Act} {op:BinOp} {t ty:TypeId} {x y:Operand} {k:IntKind} {p q:Int} (ha:Holds a D n E) (hx:ev E x=some (.int k p)) (hy:ev E y=some (.int k q)) (hop:(match op with | .eql | .neq=>false | _=>true)=true) (dst:Option Tmp) (T:TypeId) (pos:String) (af:Array Edge) (g:Option (Nat×Bool)) :
  (execOp a.eval {dst,op:=.binOp op t x y ty,type:=T,pos,after:=af,guard:=g}).run P w=((binOp op t (.int k p) (.int k q)).run P w).andThen fun v w=>.ok (.value v) w:=by
 simp only [execOp,ha.eval hx,ha.eval hy,Sem.run_bind];have:(eqGuard op t x y (.int k p) (.int k q)).run P w=.ok () w:=by cases op<;>first | rfl | cases hop
 simp [this]
section
variable {x y:Operand} {k:IntKind} {p q:Int} {d:Nat} {t ty T:TypeId} {pos:String} {af:Array Edge}
theorem Y.rem (hx:ev E x=some (.int k p)) (hy:ev E y=some (.int k q))  (h0:0≤p) (hq:1≤q):Y P D n E w {dst:=some d,op:=.binOp .rem t x y ty,type:=T,pos,after:=af,guard:=none} (.int k (p % q)):=
 (fun _ ha=>by
  rw [run_bin ha hx hy rfl];have hq':¬q=0:=by omega
  have e:p.tmod q=p % q:=Int.tmod_eq_emod_of_nonneg h0;simp [binOp,Op.intDiv,hq',e])
theorem Y.arith {op:BinOp} (hx:ev E x=some (.int k p)) (hy:ev E y=some (.int k q))  {r:Int} (hr:(match op with | .add=>k.wrap (p+q) | .sub=>k.wrap (p - q) | .mul=>k.wrap (p*q) | _=>0)=r) (ho:(match op with | .add | .sub | .mul=>true | _=>false)=true):Y P D n E w {dst:=some d,op:=.binOp op t x y ty,type:=T,pos,after:=af,guard:=none} (.int k r):=
 (fun _ ha=>by
  rw [run_bin ha hx hy (by cases op<;>first | rfl | cases ho)];cases op<;>first | (simp only at hr;subst hr;simp [binOp,Op.intArith];done) | (simp at ho;done))
theorem wrap_in {k:IntKind} {z:Int} (h1:k.min≤z) (h2:z≤k.max):k.wrap z=z:=by
 cases k<;>simp [IntKind.min,IntKind.max,IntKind.wrap,IntKind.bits,IntKind.signed] at *<;>omega
theorem Y.conv [Tab P] {j:IntKind} {s:TypeId} {r r':TRow} (hx:ev E x=some (.int j p))  (hs:Tab.row P s=some r) (hsd:r.desc=.int j) (ht:Tab.row P t=some r') (htd:r'.desc=.int k) {z:Int} (hz:k.wrap p=z):Y P D n E w {dst:=some d,op:=.convert s t x,type:=T,pos,after:=af,guard:=none} (.int k z):=
 (fun _ ha=>by
  simp only [execOp,ha.eval hx,convert,Sem.run_bind,run_underlying (under_int hs hsd),run_underlying (under_int ht htd),Result.andThen_ok,Conv.intToInt,Sem.run_pure,hz])
theorem LW.conv [Tab P] {j:IntKind} {s:TypeId} {r r':TRow} (hx:ev E x=some (.int j p))  (hs:Tab.row P s=some r) (hsd:r.desc=.int j) (ht:Tab.row P t=some r') (htd:r'.desc=.int k) {z:Int} (hz:k.wrap p=z) (hn:Nat.blt d n=true) (h:LW P l Q rest D n ((d,.int k z)::E) w):LW P l Q ({dst:=some d,op:=.convert s t x,type:=T,pos,after:=af,guard:=none}::rest) D n E w:=
 LW.val rfl rfl hn (Y.conv hx hs hsd ht htd hz) h
end
section
variable {x:Operand} {k:IntKind} {p q:Int} {d:Nat} {s t T:TypeId} {pos:String} {af:Array Edge} {r r':TRow} [Tab P] {j:IntKind}
theorem Y.chr (hx:ev E x=some (.int k p)) (ht:Tab.row P t=some r') (htd:r'.desc=.string) (hs:Tab.row P s=some r) (hsd:r.desc=.int k) (h1:0≤p) (h2:p<128) (dst:Option Tmp) :
  Y P D n E w {dst,op:=.convert s t x,type:=T,pos,after:=af,guard:=none} (str [UInt8.ofNat p.toNat]):=fun a ha=>by
 have hu:=under_int hs hsd;have he:Utf8.encode p=⟨⟨[UInt8.ofNat p.toNat]⟩⟩:=by
  have hv:Utf8.valid p=true:=by simp [Utf8.valid];omega
  have hlt:p.toNat<0x80:=by omega
  simp [Utf8.encode,hv,hlt]
 simp only [execOp,ha.eval hx,convert,Sem.run_bind,run_underlying hu,under_string ht htd,Result.andThen_ok,Conv.intToString,Sem.run_pure,he]
end
def byte (l:List UInt8) (i:Nat):Int:=((l.getD i 0).toNat:Int)
theorem byte_eq {l:List UInt8} {i:Nat} (h:i<l.length):byte l i=(l[i].toNat:Int):=by unfold byte;rw [List.getD_eq_getElem?_getD,List.getElem?_eq_getElem h];rfl
section
variable [Tab P] {x y:Operand} {d:Nat} {t ty T:TypeId} {pos:String} {af:Array Edge} {s u:List UInt8} {r:TRow}
theorem Y.index {k:IntKind} {i:Int} (hx:ev E x=some (str s)) (hi:ev E y=some (.int k i))  (ht:Tab.row P t=some r) (hr:r.desc=.string) (h0:0≤i) (h1:i<s.length):Y P D n E w {dst:=some d,op:=.index t x y,type:=T,pos,after:=af,guard:=none} (.int .u8 (byte s i.toNat)):=
 (fun _ ha=>by
  have hlt:i.toNat<s.length:=by omega
  have hg:(⟨⟨s⟩⟩:ByteArray)[i.toNat]?=some s[i.toNat]:=by
   rw [getElem?_pos (⟨⟨s⟩⟩:ByteArray) i.toNat (show i.toNat<s.length from hlt)];rfl
  simp only [execOp,ha.eval hx,ha.eval hi,Instr.index,asIntOf,Sem.run_bind,Sem.run_pure,Result.andThen_ok,under_string ht hr,h0,if_true,hg,byte_eq hlt])
omit [Tab P] in
theorem Y.cat (hx:ev E x=some (str s)) (hy:ev E y=some (str u))  (hl:s.length+u.length≤9223372036854775807):Y P D n E w {dst:=some d,op:=.binOp .add t x y ty,type:=T,pos,after:=af,guard:=none} (str (s++u)):=
 (fun _ ha=>by
  have e:(⟨⟨s⟩⟩:ByteArray)++(⟨⟨u⟩⟩:ByteArray)=⟨⟨s++u⟩⟩:=by apply ByteArray.ext;simp
  have hm:¬(((⟨⟨s⟩⟩:ByteArray).size+(⟨⟨u⟩⟩:ByteArray).size:Nat):Int) > IntKind.i64.max:=by
   show ¬((s.length+u.length:Nat):Int) > _;simp [IntKind.max,IntKind.signed,IntKind.bits];omega
  simp only [execOp,ha.eval hx,ha.eval hy,Sem.run_bind,eqGuard,binOp,Op.stringOp];simp only [hm,if_false,e];rfl)
def cut (s:List UInt8) (i j:Nat):List UInt8:=(s.drop i).take (j - i)
theorem extract_str (s:List UInt8) (i j:Nat):(⟨⟨s⟩⟩:ByteArray).extract i j=⟨⟨cut s i j⟩⟩:=by
 apply ByteArray.ext;simp [cut]
theorem Y.slice_str {lo hi:Option Operand} {i j:Nat} (hx:ev E x=some (str s))  (ht:Tab.row P t=some r) (hr:r.desc=.string)
  (hlo:(match lo with | none=>(0:Int)=(i:Int) | some a=>∃k z,ev E a=some (.int k z)∧z=(i:Int))) (hhi:(match hi with | none=>(s.length:Int)=(j:Int) | some a=>∃k z,ev E a=some (.int k z)∧z=(j:Int))) (h1:i≤j) (h2:j≤s.length):Y P D n E w {dst:=some d,op:=.slice t x lo hi none,type:=T,pos,after:=af,guard:=none} (str (cut s i j)):=
 (fun a ha=>by
  have b1:∀(k:IntKind) (i y:Nat) (code:BoundsCode),i≤y→(Instr.sliceBound (.int k (i:Int)) y code).run P w=.ok i w:=fun k i y code h=>by
   simp [Instr.sliceBound,asIntOf,h]
  have hb:(Instr.sliceBounds false (⟨⟨s⟩⟩:ByteArray).size (⟨⟨s⟩⟩:ByteArray).size (lo.map a.eval) (hi.map a.eval) none).run P w=.ok (i,j,s.length) w:=by
   have hs:(⟨⟨s⟩⟩:ByteArray).size=s.length:=rfl;unfold Instr.sliceBounds
   cases lo with
   | none=>
    cases hi with
    | none=>
     simp only at hlo hhi;have:i=0:=by omega
     have:j=s.length:=by omega
     subst i;subst j
     simp [hs]
    | some c=>
     obtain ⟨k,z,e1,e2⟩:=hhi;subst e2;simp only at hlo;have:i=0:=by omega
     subst i
     simp [ha.eval e1,b1 k j s.length _ h2,hs]
   | some b=>
    obtain ⟨k',z',e1',e2'⟩:=hlo;subst e2'
    cases hi with
    | none=>
     simp only at hhi;have:j=s.length:=by omega
     subst j
     simp [ha.eval e1',b1 k' i s.length _ h1,hs]
    | some c=>
     obtain ⟨k,z,e1,e2⟩:=hhi;subst e2;simp [ha.eval e1,ha.eval e1',b1 k j s.length _ h2,b1 k' i j _ h1,hs]
  have hsl:(Instr.slice t (str s) (lo.map a.eval) (hi.map a.eval) none).run P w=.ok (str (cut s i j)) w:=by
   unfold Instr.slice;rw [Sem.run_bind,under_string ht hr];simp only [Result.andThen_ok];simp [hb,extract_str]
  have hsa:(Instr.sliceAt t (str s) (lo.map a.eval) (hi.map a.eval) none).run P w=.ok (str (cut s i j)) w:=by
   unfold Instr.sliceAt;rw [Sem.run_bind,under_string ht hr];simp only [Result.andThen_ok];exact hsl
  simp only [execOp,ha.eval hx,Option.map_none,Sem.run_bind,hsa,Result.andThen_ok,Sem.run_pure])
end
theorem LW.unit {o:Oper} {w':World} (hg:o.guard=none) (hd:o.dst=none)
  (hr:∀a,Holds a D n E→(execOp a.eval o).run P w=.ok .skip w') (h:LW P l Q rest D n E w'):LW P l Q (o::rest) D n E w:=fun a ha=>by
 refine wpList_plain hg fun K hK=>?_;unfold Oper.wp;rw [hr a ha];simp only [Oper.upon,hd];exact hK _ _ (h _ ha)
section
variable [Tab P] {x y:Operand} {d b i:Nat} {t T T':TypeId} {pos:String} {af:Array Edge} {L cs:List Value} {v:Value} {r:TRow}
theorem Y.load (hx:ev E x=some (.pointer (some ⟨b,i,none⟩))) (hB:Blk w b L T') (hi:L[i]?=some v) (ht:Tab.row P t=some r) (hr:isAggD r.desc=false):Y P D n E w {dst:=some d,op:=.load t x,type:=T,pos,after:=af,guard:=none} v:=
 (fun _ ha=>by
  simp only [execOp,ha.eval hx,Instr.loadAt,Instr.sureAddr,Sem.run_bind,Sem.run_pure,Result.andThen_ok,run_load_one ht hr hB hi])
theorem LW.load (hx:ev E x=some (.pointer (some ⟨b,i,none⟩))) (hB:Blk w b L T') (hi:L[i]?=some v) (ht:Tab.row P t=some r) (hr:isAggD r.desc=false) (hn:Nat.blt d n=true) (h:LW P l Q rest D n ((d,v)::E) w):LW P l Q ({dst:=some d,op:=.load t x,type:=T,pos,after:=af,guard:=none}::rest) D n E w:=
 LW.val rfl rfl hn (Y.load hx hB hi ht hr) h
theorem QL.load (hx:ev E x=some (.pointer (some ⟨b,i,none⟩))) (hB:Blk w b L T') (hi:L[i]?=some v) (ht:Tab.row P t=some r) (hr:isAggD r.desc=false) (hn:Nat.blt d n=true) (h:QL P l Q rest D n ((d,v)::E) w):QL P l Q ({dst:=some d,op:=.load t x,type:=T,pos,after:=af,guard:=none}::rest) D n E w:=
 QL.yields rfl rfl hn (fun _ hw=>Y.load hx (hB.ext hw) hi ht hr) h
theorem Y.load_agg (hx:ev E x=some (.pointer (some ⟨b,i,none⟩))) (hB:Blk w b L T') (ht:Tab.row P t=some r) (hr:isAggD r.desc=true) (hs:r.size=cs.length) (hc:AggAt L i cs):Y P D n E w {dst:=some d,op:=.load t x,type:=T,pos,after:=af,guard:=none} (.agg ⟨cs⟩):=
 (fun _ ha=>by
  simp only [execOp,ha.eval hx,Instr.loadAt,Instr.sureAddr,Sem.run_bind,Sem.run_pure,Result.andThen_ok,run_load_agg ht hr hB hs hc])
theorem Y.load_all (hx:ev E x=some (.pointer (some ⟨b,0,none⟩))) (hB:Blk w b L T') (ht:Tab.row P t=some r) (hr:isAggD r.desc=true) (hs:Nat.beq r.size L.length=true):Y P D n E w {dst:=some d,op:=.load t x,type:=T,pos,after:=af,guard:=none} (.agg ⟨L⟩):=
 Y.load_agg hx hB ht hr (Nat.eq_of_beq_eq_true hs) (AggAt.all L)
theorem LW.load_all (hx:ev E x=some (.pointer (some ⟨b,0,none⟩))) (hB:Blk w b L T') (ht:Tab.row P t=some r) (hr:isAggD r.desc=true) (hs:Nat.beq r.size L.length=true) (hn:Nat.blt d n=true) (h:LW P l Q rest D n ((d,.agg ⟨L⟩)::E) w):LW P l Q ({dst:=some d,op:=.load t x,type:=T,pos,after:=af,guard:=none}::rest) D n E w:=
 LW.val rfl rfl hn (Y.load_all hx hB ht hr hs) h
theorem QL.load_all (hx:ev E x=some (.pointer (some ⟨b,0,none⟩))) (hB:Blk w b L T') (ht:Tab.row P t=some r) (hr:isAggD r.desc=true) (hs:Nat.beq r.size L.length=true) (hn:Nat.blt d n=true) (h:QL P l Q rest D n ((d,.agg ⟨L⟩)::E) w):QL P l Q ({dst:=some d,op:=.load t x,type:=T,pos,after:=af,guard:=none}::rest) D n E w:=
 QL.yields rfl rfl hn (fun _ hw=>Y.load_all hx (hB.ext hw) ht hr hs) h
theorem LW.store (hx:ev E x=some (.pointer (some ⟨b,i,none⟩))) (hy:ev E y=some v) (h1:v.oneCell'=true) (hB:Blk w b L T') (hi:Nat.blt i L.length=true) (ht:Tab.row P t=some r) (hs:Nat.beq r.size 1=true)
  (h:∀w',Chg [b] w w'→Blk w' b (L.set i v) T'→LW P l Q rest D n E w'):LW P l Q ({dst:=none,op:=.store t x y,type:=T,pos,after:=af,guard:=none}::rest) D n E w:=by
 have hi':i<L.length:=Nat.le_of_ble_eq_true hi;have hc:v.cells.toList=[v]:=by cases v<;>first | rfl | cases h1
 have hst:=run_store_blk (P:=P) ht (w:=w) (b:=b) (i:=i) (v:=v) hB (by rw [hc];exact Nat.eq_of_beq_eq_true hs) (by rw [hc];simp;omega) (by rw [hc];simpa using h1);rw [hc] at hst;have he:L.take i++[v]++L.drop (i+[v].length)=L.set i v:=by
  rw [List.set_eq_take_append_cons_drop,if_pos hi'];simp
 rw [he] at hst;exact LW.unit rfl rfl (fun _ ha=>by
  simp only [execOp,ha.eval hx,ha.eval hy,Instr.storeAt,Instr.sureAddr,Sem.run_bind,Sem.run_pure,Result.andThen_ok,hst]) (h _ (Chg.setRow ..) (hB.setRow _))
theorem LW.store_all (hx:ev E x=some (.pointer (some ⟨b,0,none⟩))) (hy:ev E y=some (.agg ⟨cs⟩)) (h1:cs.all (·.oneCell')=true) (hB:Blk w b L T') (hi:Nat.beq cs.length L.length=true) (ht:Tab.row P t=some r) (hs:Nat.beq r.size cs.length=true)
  (h:∀w',Chg [b] w w'→Blk w' b cs T'→LW P l Q rest D n E w'):LW P l Q ({dst:=none,op:=.store t x y,type:=T,pos,after:=af,guard:=none}::rest) D n E w:=by
 have hi':cs.length=L.length:=Nat.eq_of_beq_eq_true hi;have hst:=run_store_blk (P:=P) ht (w:=w) (b:=b) (i:=0) (v:=.agg ⟨cs⟩) hB (Nat.eq_of_beq_eq_true hs) (by simp [Value.cells,hi']) h1;have he:L.take 0++(Value.agg ⟨cs⟩).cells.toList++L.drop (0+(Value.agg ⟨cs⟩).cells.toList.length)=cs:=by simp [Value.cells,hi']
 rw [he] at hst;exact LW.unit rfl rfl (fun _ ha=>by
  simp only [execOp,ha.eval hx,ha.eval hy,Instr.storeAt,Instr.sureAddr,Sem.run_bind,Sem.run_pure,Result.andThen_ok,hst]) (h _ (Chg.setRow ..) (hB.setRow _))
theorem LW.store_agg (hx:ev E x=some (.pointer (some ⟨b,i,none⟩))) (hy:ev E y=some (.agg ⟨cs⟩)) (h1:cs.all (·.oneCell')=true) (hB:Blk w b L T') (hi:i+cs.length≤L.length) (ht:Tab.row P t=some r) (hs:Nat.beq r.size cs.length=true)
  (h:∀w',Chg [b] w w'→Blk w' b (L.take i++cs++L.drop (i+cs.length)) T'→LW P l Q rest D n E w'):LW P l Q ({dst:=none,op:=.store t x y,type:=T,pos,after:=af,guard:=none}::rest) D n E w:=by
 have hst:=run_store_blk (P:=P) ht (w:=w) (b:=b) (i:=i) (v:=.agg ⟨cs⟩) hB (Nat.eq_of_beq_eq_true hs) hi h1;exact LW.unit rfl rfl (fun _ ha=>by
  simp only [execOp,ha.eval hx,ha.eval hy,Instr.storeAt,Instr.sureAddr,Sem.run_bind,Sem.run_pure,Result.andThen_ok,hst];rfl) (h _ (Chg.setRow ..) (hB.setRow _))
theorem LW.alloc (ht:Tab.row P t=some r) (hz:r.zero.cells.toList=cs) (hn:Nat.blt d n=true)
  (h:∀b w',b=w.heap.size→Ext w w'→Blk w' b cs t→LW P l Q rest D n ((d,.pointer (some ⟨b,0,none⟩))::E) w'):LW P l Q ({dst:=some d,op:=.alloc t,type:=T,pos,after:=af,guard:=none}::rest) D n E w:=
 LW.val (w':=w.alloc (.cells ⟨cs⟩ t)) rfl rfl hn (fun _ _=>by
  subst hz;simp only [execOp,Instr.alloc,Sem.run_bind,Result.andThen_ok,run_zero ht];rfl) (h _ _ rfl (Ext.alloc ..) (Blk.alloc ..))
omit [Tab P] in
theorem LW.box (hx:ev E x=some v) (hz:v.cells.toList=cs) (hn:Nat.blt d n=true)
  (h:∀b w',b=w.heap.size→Ext w w'→Blk w' b cs t→LW P l Q rest D n ((d,.pointer (some ⟨b,0,none⟩))::E) w'):LW P l Q ({dst:=some d,op:=.box t x,type:=T,pos,after:=af,guard:=none}::rest) D n E w:=
 LW.val (w':=w.alloc (.cells ⟨cs⟩ t)) rfl rfl hn (fun _ ha=>by
  subst hz;simp only [execOp,ha.eval hx,Instr.box,Sem.run_bind];rfl) (h _ _ rfl (Ext.alloc ..) (Blk.alloc ..))
theorem QW.body_c {fn:Func} {Φ:Value→World→Prop} {s:Nat} (hf:fn.results=#[.cell s t]) (hs:look E s=some (.pointer (some ⟨b,0,none⟩))) (hB:Blk w b L T') (ht:Tab.row P t=some r) (hr:isAggD r.desc=true) (hz:Nat.beq r.size L.length=true)
  (h:Φ (.agg ⟨L⟩) w):QW (bodyPost P fn (RetR Φ)) .ret [] n E w:=
 QW.body (rs:=[.cell s t]) (vs:=[.agg ⟨L⟩]) hf ⟨⟨b,hs,run_load_agg ht hr hB (Nat.eq_of_beq_eq_true hz) (AggAt.all L)⟩,trivial⟩ rfl h
end
def placesOf (P:Program) [Tab P]:List Field→Option (List (Nat×Nat))
 | []=>some []
 | f::fs=>match Tab.row P f.type,placesOf P fs with
  | some r,some ps=>some ((f.offset,r.size)::ps)
  | _,_=>none
def putL (L:List Value) (off:Nat):List Value→List Value
 | []=>L
 | c::cs=>putL (L.set off c) (off+1) cs
def fillL (ps:List (Nat×Nat)) (L:List Value):List (Nat×Value)→Option (List Value)
 | []=>some L
 | (i,v)::rest=>match ps[i]? with
  | some (off,size)=>bif (Nat.beq v.cells.toList.length size&&Nat.ble (off+v.cells.toList.length) L.length) then fillL ps (putL L off v.cells.toList) rest else none
  | none=>none
def buildC (P:Program) [Tab P] (t:Nat) (vs:List (Nat×Value)):Option (List Value):=
 match Tab.row P t with
 | some r=>match r.desc with
  | .struct fs=>match placesOf P fs.toList with
   | some ps=>fillL ps r.zero.cells.toList vs
   | none=>none
  | _=>none
 | none=>none
def evp (E:Env):List (Nat×Operand)→Option (List (Nat×Value))
 | []=>some []
 | (i,x)::r=>match ev E x,evp E r with
  | some v,some vs=>some ((i,v)::vs)
  | _,_=>none
theorem Holds.evp {a:Act} (h:Holds a D n E):∀{xs:List (Nat×Operand)} {vs:List (Nat×Value)},Go.E.evp E xs=some vs→xs.map (fun p=>(p.1,a.eval p.2))=vs
 | [],vs,hx=>by simpa [Go.E.evp] using hx
 | (i,x)::r,vs,hx=>by
  simp only [Go.E.evp] at hx
  split at hx
  ·rename_i v us h1 h2;simp only [Option.some.injEq] at hx;subst hx;simp [h.eval h1,h.evp h2]
  ·simp at hx
theorem foldl_put (cs:List Value):∀(L:List Value) (off k:Nat),((cs.zipIdx k).foldl (fun (A:Array Value) (x:Value×Nat)=>A.setIfInBounds (off+x.2) x.1) ⟨L⟩)=⟨putL L (off+k) cs⟩:=by
 induction cs with
 | nil=>intro L off k;rfl
 | cons c cs ih=>
  intro L off k;simp only [List.zipIdx_cons,List.foldl_cons,putL];have:(⟨L⟩:Array Value).setIfInBounds (off+k) c=⟨L.set (off+k) c⟩:=by
   apply Array.ext';simp
  rw [this,ih];rfl
theorem fill_eq (ps:List (Nat×Nat)):∀(vs:List (Nat×Value)) (L:List Value) {cs:List Value},fillL ps L vs=some cs→Instr.fill ((⟨ps⟩:Array (Nat×Nat))[·]?) ⟨L⟩ vs=some ⟨cs⟩
 | [],L,cs,h=>by simp only [fillL,Option.some.injEq] at h;subst h;rfl
 | (i,v)::rest,L,cs,h=>by
  simp only [fillL] at h
  split at h
  ·rename_i off size hi;cases hb:(Nat.beq v.cells.toList.length size&&Nat.ble (off+v.cells.toList.length) L.length)<;>rw [hb] at h
   ·simp at h
   ·simp only [cond_true] at h;simp only [Bool.and_eq_true] at hb;have h1:v.cells.size=size:=by simpa using Nat.eq_of_beq_eq_true hb.1
    have h2:off+v.cells.size≤L.length:=by simpa using Nat.le_of_ble_eq_true hb.2
    have hi':(⟨ps⟩:Array (Nat×Nat))[i]?=some (off,size):=by simpa using hi
    have h3:¬(v.cells.size≠size∨off+v.cells.size > (⟨L⟩:Array Value).size):=by
     rw [show (⟨L⟩:Array Value).size=L.length from rfl];omega
    have h4:v.cells.zipIdx.foldl (fun (cs:Array Value) (x:Value×Nat)=>cs.setIfInBounds (off+x.2) x.1) ⟨L⟩=⟨putL L off v.cells.toList⟩:=by
     have hf:=foldl_put v.cells.toList L off 0;rw [Nat.add_zero] at hf;rw [←hf,←Array.foldl_toList];simp
    unfold Instr.fill;simp only [hi',h3,Bool.or_eq_true,decide_eq_true_eq];rw [if_neg (by simp)];refine Eq.trans (congrArg (fun c=>Instr.fill ((⟨ps⟩:Array (Nat×Nat))[·]?) c rest) h4) ?_;exact fill_eq ps rest _ h
  ·cases h
section
variable [Tab P] {d:Nat} {t T:TypeId} {pos:String} {af:Array Edge} {cs:List Value}
theorem places_run:∀{fs:List Field} {ps:List (Nat×Nat)},placesOf P (fs.map bareF)=some ps→(fs.mapM (m:=Sem) fun f=>do pure (f.offset,←sizeOf f.type)).run P w=.ok ps w
 | [],ps,h=>by simp [placesOf] at h;subst h;simp
 | f::fs,ps,h=>by
  simp only [List.map_cons,placesOf] at h
  split at h
  ·rename_i r qs hr hq;simp only [Option.some.injEq] at h;subst h;have hr':Tab.row P f.type=some r:=hr;simp only [List.mapM_cons,Sem.run_bind,Sem.run_pure,run_size hr',Result.andThen_ok,places_run hq];rfl
  ·cases h
theorem LW.build {parts:List (Nat×Operand)} {vs:List (Nat×Value)} (hp:evp E parts=some vs) (hc:buildC P t vs=some cs) (hn:Nat.blt d n=true)
  (h:LW P l Q rest D n ((d,.agg ⟨cs⟩)::E) w):LW P l Q ({dst:=some d,op:=.build t ⟨parts⟩,type:=T,pos,after:=af,guard:=none}::rest) D n E w:=by
 unfold buildC at hc
 split at hc<;>try cases hc
 rename_i r hr
 split at hc<;>try cases hc
 rename_i fs hfs
 split at hc<;>try cases hc
 rename_i ps hps;obtain ⟨gs,hgs,hgf⟩:=under_struct hr hfs;have hps':placesOf P (gs.toList.map bareF)=some ps:=by rw [←hps,←hgf];simp
 have hpl:=places_run (w:=w) hps';have hpa:(gs.mapM (m:=Sem) fun f=>do Pure.pure (f.offset,←sizeOf f.type)).run P w=.ok ⟨ps⟩ w:=by
  rw [show gs=gs.toList.toArray from rfl,List.mapM_toArray,Sem.run_map,hpl];rfl
 refine LW.val rfl rfl hn (fun a ha=>?_) h;have e:=ha.evp hp;have e2:(⟨parts⟩:Array (Nat×Operand)).map (fun x=>(x.1,a.eval x.2))=⟨vs⟩:=by rw [←e];simp
 have hfill:=fill_eq ps vs r.zero.cells.toList hc;have e3:(Instr.build t ⟨vs⟩).run P w=.ok (.agg ⟨cs⟩) w:=by
  unfold Instr.build;simp only [Sem.run_bind,run_zero hr,Result.andThen_ok,run_underlying hgs,hpa];rw [show r.zero.cells=⟨r.zero.cells.toList⟩ from rfl,hfill];rfl
 have e4:(execOp a.eval {dst:=some d,op:=.build t ⟨parts⟩,type:=T,pos,after:=af,guard:=none})=(do Pure.pure (Next.value (←Instr.build t ((⟨parts⟩:Array (Nat×Operand)).map (fun x=>(x.1,a.eval x.2)))))):=rfl;rw [e4,e2,Sem.run_bind,e3];rfl
end
def fillG (place:Nat→Option (Nat×Nat)) (L:List Value):List (Nat×Value)→Option (List Value)
 | []=>some L
 | (i,v)::rest=>match place i with
  | some (off,size)=>bif (Nat.beq v.cells.toList.length size&&Nat.ble (off+v.cells.toList.length) L.length) then fillG place (putL L off v.cells.toList) rest else none
  | none=>none
theorem fillG_eq (place:Nat→Option (Nat×Nat)):∀(vs:List (Nat×Value)) (L:List Value) {cs:List Value},fillG place L vs=some cs→Instr.fill place ⟨L⟩ vs=some ⟨cs⟩
 | [],L,cs,h=>by simp only [fillG,Option.some.injEq] at h;subst h;rfl
 | (i,v)::rest,L,cs,h=>by
  simp only [fillG] at h
  split at h
  ·rename_i off size hi;cases hb:(Nat.beq v.cells.toList.length size&&Nat.ble (off+v.cells.toList.length) L.length)<;>rw [hb] at h
   ·simp at h
   ·simp only [cond_true] at h;simp only [Bool.and_eq_true] at hb;have h1:v.cells.size=size:=by simpa using Nat.eq_of_beq_eq_true hb.1
    have h2:off+v.cells.size≤L.length:=by simpa using Nat.le_of_ble_eq_true hb.2
    have h3:¬(v.cells.size≠size∨off+v.cells.size > (⟨L⟩:Array Value).size):=by
     rw [show (⟨L⟩:Array Value).size=L.length from rfl];omega
    have h4:v.cells.zipIdx.foldl (fun (cs:Array Value) (x:Value×Nat)=>cs.setIfInBounds (off+x.2) x.1) ⟨L⟩=⟨putL L off v.cells.toList⟩:=by
     have hf:=foldl_put v.cells.toList L off 0;rw [Nat.add_zero] at hf;rw [←hf,←Array.foldl_toList];simp
    unfold Instr.fill;simp only [hi,h3,Bool.or_eq_true,decide_eq_true_eq];rw [if_neg (by simp)];refine Eq.trans (congrArg (fun c=>Instr.fill place c rest) h4) ?_;exact fillG_eq place rest _ h
  ·cases h
def repL (z:List Value):Nat→List Value
 | 0=>[]
 | n+1=>z++repL z n
theorem repL_length (z:List Value):∀n,(repL z n).length=n*z.length
 | 0=>by simp [repL]
 | n+1=>by rw [repL,List.length_append,repL_length z n,Nat.add_mul];omega
theorem repL_get (z:List Value) (hz:0<z.length):∀(n i:Nat),i<n*z.length→(repL z n)[i]?=z[i % z.length]?
 | 0,i,h=>by simp at h
 | n+1,i,h=>by
  rw [repL];by_cases hi:i<z.length
  ·rw [List.getElem?_append_left hi,Nat.mod_eq_of_lt hi]
  ·rw [List.getElem?_append_right (by omega),repL_get z hz n (i - z.length) (by rw [Nat.add_mul] at h;omega)]
   congr 1
   exact (Nat.mod_eq_sub_mod (by omega)).symm
theorem zeros_eq (z:List Value) (n:Nat):(Array.range (n*z.length)).map ((⟨z⟩:Array Value)[· % (⟨z⟩:Array Value).size]!)=⟨repL z n⟩:=by
 rcases Nat.eq_zero_or_pos z.length with h | h
 ·have hz:z=[]:=List.eq_nil_of_length_eq_zero h;subst hz;have:repL [] n=[]:=List.eq_nil_of_length_eq_zero (by rw [repL_length];rfl);rw [this];simp
 ·apply Array.ext';apply List.ext_getElem?;intro i;rw [show (⟨repL z n⟩:Array Value).toList=repL z n from rfl];by_cases hi:i<n*z.length
  ·rw [repL_get z h n i hi];have hm:i % z.length<z.length:=Nat.mod_lt _ h;simp [hi,hm]
  ·rw [List.getElem?_eq_none (by simp;omega),List.getElem?_eq_none (by rw [repL_length];omega)]
section
variable [Tab P] {x:Operand} {d b off len cap:Nat} {s t u e T:TypeId} {pos:String} {af:Array Edge} {cs L:List Value} {r r' r'':TRow}
theorem LW.buildSlice {parts:List (Nat×Operand)} {vs:List (Nat×Value)} (hp:evp E parts=some vs) (ht:Tab.row P t=some r) (hr:r.desc=.slice e) (he:Tab.row P e=some r') (hl:Nat.ble (len*r'.size) 16777216=true) (hl0:Nat.blt 0 (len*r'.size)=true) (hz:Nat.beq r'.zero.cells.toList.length r'.size=true)
  (hc:fillG (fun i=>some (i*r'.size,r'.size)) (repL r'.zero.cells.toList len) vs=some cs) (hn:Nat.blt d n=true)
  (h:∀b w',b=w.heap.size→Ext w w'→Blk w' b cs e→LW P l Q rest D n ((d,.slice (some ⟨b,0,none⟩) len len)::E) w') :
  LW P l Q ({dst:=some d,op:=.buildSlice t len ⟨parts⟩,type:=T,pos,after:=af,guard:=none}::rest) D n E w:=by
 have hz':r'.zero.cells.toList.length=r'.size:=Nat.eq_of_beq_eq_true hz;have hfill:=fillG_eq _ vs _ hc;have hle:¬(len*r'.size > 2 ^ 24):=by have:=Nat.le_of_ble_eq_true hl;omega
 have hne:¬(len*r'.size=0):=by have:=Nat.le_of_ble_eq_true hl0;omega
 have e3:(Instr.buildSlice t len ⟨vs⟩).run P w=.ok (.slice (some ⟨w.heap.size,0,none⟩) len len) (w.alloc (.cells ⟨cs⟩ e)):=by
  unfold Instr.buildSlice;simp only [Sem.run_bind,run_underlying (under_slice ht hr),Result.andThen_ok,run_size he,hle,if_false,Sem.run_pure,hne,run_zero he];have hzz:=zeros_eq r'.zero.cells.toList len;rw [hz'] at hzz;rw [show ((⟨r'.zero.cells.toList⟩:Array Value))=r'.zero.cells from rfl] at hzz;rw [hzz,hfill];rfl
 refine LW.val (w':=w.alloc (.cells ⟨cs⟩ e)) rfl rfl hn (fun a ha=>?_) (h _ _ rfl (Ext.alloc ..) (Blk.alloc ..));have e0:=ha.evp hp;have e2:(⟨parts⟩:Array (Nat×Operand)).map (fun x=>(x.1,a.eval x.2))=⟨vs⟩:=by rw [←e0];simp
 have e4:(execOp a.eval {dst:=some d,op:=.buildSlice t len ⟨parts⟩,type:=T,pos,after:=af,guard:=none})=(do Pure.pure (Next.value (←Instr.buildSlice t len ((⟨parts⟩:Array (Nat×Operand)).map (fun x=>(x.1,a.eval x.2)))))):=rfl;rw [e4,e2,Sem.run_bind,e3];rfl
def bcells (l:List UInt8):List Value:=l.map fun c=>.int .u8 (c.toNat:Int)
theorem foldl_push (ns:List UInt8):∀(acc:List UInt8),((ns.map fun c=>(c.toNat:Int)).foldl (fun (r:ByteArray) z=>r.push (UInt8.ofNat z.toNat)) ⟨⟨acc⟩⟩)=⟨⟨acc++ns⟩⟩:=by
 induction ns with
 | nil=>intro acc;simp
 | cons c ns ih=>
  intro acc;simp only [List.map_cons,List.foldl_cons];have:(⟨⟨acc⟩⟩:ByteArray).push (UInt8.ofNat ((c.toNat:Int)).toNat)=⟨⟨acc++[c]⟩⟩:=by
   rw [show ((c.toNat:Int)).toNat=c.toNat from rfl,UInt8.ofNat_toNat];apply ByteArray.ext;apply Array.ext';simp [ByteArray.push]
  rw [this,ih];simp
theorem Y.string_of {l:List UInt8} (hx:ev E x=some (.slice (some ⟨b,off,none⟩) len cap)) (hB:Blk w b L T) (hl:l.length=len) (hc:∀j,j<len→L[off+j]?=some (.int .u8 ((l.getD j 0).toNat:Int)))
  (hs:Tab.row P s=some r) (hsd:r.desc=.slice u) (hu:Tab.row P u=some r') (hud:r'.desc=.int .u8) (ht:Tab.row P t=some r'') (htd:r''.desc=.string) (dst:Option Tmp) (T':TypeId) :
  Y P D n E w {dst,op:=.convert s t x,type:=T',pos,after:=af,guard:=none} (str l):=fun a ha=>by
 have hlo:(loadCells ⟨b,off,none⟩ len).run P w=.ok ((l.map fun c=>(c.toNat:Int)).map (Value.int .u8)).toArray w:=by
  have:=run_loadCells_list (P:=P) w ⟨b,off,none⟩ ((l.map fun c=>(c.toNat:Int)).map (Value.int .u8)) (fun j v hv=>by
   rw [add_addr];have hj:j<l.length:=by
    have:=(List.getElem?_eq_some_iff.1 hv).1
    simpa using this
   have h1:=hc j (by omega);refine hB.cell ?_;rw [h1,←hv];simp [List.getElem?_eq_getElem hj])
  simpa [hl] using this
 have hb:=run_bytesToString (P:=P) w ⟨b,off,none⟩ len cap _ hlo;have hf:=foldl_push l [];simp only [List.nil_append] at hf;rw [show ByteArray.empty=(⟨⟨[]⟩⟩:ByteArray) from rfl,hf] at hb;have hco:=run_convert_bytes_string (P:=P) w s t u (some ⟨b,off,none⟩) len cap (under_slice hs hsd) (under_int hu hud) (by
  obtain ⟨dd,hh,hb,_⟩:=run_under ht;cases dd<;>simp [bare,htd] at hb;exact hh)
 simp only [execOp,ha.eval hx,Sem.run_bind,hco,hb,Result.andThen_ok,Sem.run_pure]
theorem LW.string_of {bs:List UInt8} {T':TypeId} (hx:ev E x=some (.slice (some ⟨b,0,none⟩) len cap)) (hB:Blk w b L T) (hL:L=bcells bs++L.drop len) (hl:bs.length=len)
  (hs:Tab.row P s=some r) (hsd:r.desc=.slice u) (hu:Tab.row P u=some r') (hud:r'.desc=.int .u8) (ht:Tab.row P t=some r'') (htd:r''.desc=.string) (hn:Nat.blt d n=true)
  (h:LW P l Q rest D n ((d,str bs)::E) w):LW P l Q ({dst:=some d,op:=.convert s t x,type:=T',pos,after:=af,guard:=none}::rest) D n E w:=
 LW.val rfl rfl hn (Y.string_of hx hB hl (fun j hj=>by
  have hj':j<bs.length:=by omega
  rw [hL,Nat.zero_add,List.getElem?_append_left (by simpa [bcells] using hj')];simp [bcells,List.getElem?_eq_getElem hj']) hs hsd hu hud ht htd _ _) h
def ch (z:Int):UInt8:=UInt8.ofNat z.toNat
theorem ch_toNat {z:Int} (h0:0≤z) (h1:z≤255):((ch z).toNat:Int)=z:=by
 unfold ch;rw [UInt8.toNat_ofNat'];omega
theorem LW.str1 {z:Int} {T':TypeId} (hx:ev E x=some (.slice (some ⟨b,0,none⟩) 1 1)) (hB:Blk w b [.int .u8 z] T) (h0:0≤z) (h1:z≤255)
  (hs:Tab.row P s=some r) (hsd:r.desc=.slice u) (hu:Tab.row P u=some r') (hud:r'.desc=.int .u8) (ht:Tab.row P t=some r'') (htd:r''.desc=.string) (hn:Nat.blt d n=true)
  (h:LW P l Q rest D n ((d,str [ch z])::E) w):LW P l Q ({dst:=some d,op:=.convert s t x,type:=T',pos,after:=af,guard:=none}::rest) D n E w:=
 LW.string_of (bs:=[ch z]) hx hB (by simp [bcells,ch_toNat h0 h1]) rfl hs hsd hu hud ht htd hn h
theorem LW.str2 {z y:Int} {T':TypeId} (hx:ev E x=some (.slice (some ⟨b,0,none⟩) 2 2)) (hB:Blk w b [.int .u8 z,.int .u8 y] T) (h0:0≤z) (h1:z≤255) (g0:0≤y) (g1:y≤255)
  (hs:Tab.row P s=some r) (hsd:r.desc=.slice u) (hu:Tab.row P u=some r') (hud:r'.desc=.int .u8) (ht:Tab.row P t=some r'') (htd:r''.desc=.string) (hn:Nat.blt d n=true)
  (h:LW P l Q rest D n ((d,str [ch z,ch y])::E) w):LW P l Q ({dst:=some d,op:=.convert s t x,type:=T',pos,after:=af,guard:=none}::rest) D n E w:=
 LW.string_of (bs:=[ch z,ch y]) hx hB (by simp [bcells,ch_toNat h0 h1,ch_toNat g0 g1]) rfl hs hsd hu hud ht htd hn h
end
section
variable [Tab P] {r:TRow}
theorem run_part_one {t off:Nat} {L:List Value} {v:Value} (h:Tab.row P t=some r) (hd:isAggD r.desc=false) (hv:L[off]?=some v) (w:World):(part t ⟨L⟩ off).run P w=.ok v w:=by
 have hv':(⟨L⟩:Array Value)[off]?=some v:=by simpa using hv
 unfold part;rw [Sem.run_bind,run_isAgg h];simp [hd,hv']
end
section
variable [Tab P] {x:Operand} {d:Nat} {t ty T u:TypeId} {pos:String} {af:Array Edge} {v:Value} {r:TRow}
theorem run_eq_nil {ms:Array (String×TypeId)} (ht:Tab.row P t=some r) (hr:r.desc=.interface ms) (a:Value) (ha:a=.nilIface∨∃u v,a=.iface u v) (w:World) :
  (Op.equal t a .nilIface).run P w=.ok (match a with | .nilIface=>true | _=>false) w:=by
 obtain ⟨dd,hu,hb,_⟩:=run_under ht;obtain ⟨ms',hu'⟩:∃ms',P.underlying t=some (.interface ms'):=by
  cases dd<;>simp [bare,hr] at hb;exact ⟨_,hu⟩
 unfold Op.equal;rw [show Op.maxDepth=9999+1 from rfl];unfold Op.equalIn;rw [Sem.run_bind,run_underlying hu'];rcases ha with rfl | ⟨u,v,rfl⟩<;>rfl
theorem Y.neq_nil {ms:Array (String×TypeId)} (hx:ev E x=some (.iface u v)) (ht:Tab.row P t=some r) (hr:r.desc=.interface ms) (dst:Option Tmp) :
  Y P D n E w {dst,op:=.binOp .neq t x (.const .nilIface) ty,type:=T,pos,after:=af,guard:=none} (.bool true):=fun a ha=>by
 have hg:(eqGuard .neq t x (.const .nilIface) (.iface u v) .nilIface).run P w=.ok () w:=rfl;have e2:a.eval (.const .nilIface)=.nilIface:=rfl;simp only [execOp,ha.eval hx,e2,Sem.run_bind,hg,Result.andThen_ok,binOp,run_eq_nil ht hr (.iface u v) (Or.inr ⟨u,v,rfl⟩),Sem.run_pure];rfl
theorem Y.neq_nil_nil {ms:Array (String×TypeId)} (hx:ev E x=some .nilIface) (ht:Tab.row P t=some r) (hr:r.desc=.interface ms) (dst:Option Tmp) :
  Y P D n E w {dst,op:=.binOp .neq t x (.const .nilIface) ty,type:=T,pos,after:=af,guard:=none} (.bool false):=fun a ha=>by
 have hg:(eqGuard .neq t x (.const .nilIface) .nilIface .nilIface).run P w=.ok () w:=by
  simp [eqGuard]
 have e2:a.eval (.const .nilIface)=.nilIface:=rfl;simp only [execOp,ha.eval hx,e2,Sem.run_bind,hg,Result.andThen_ok,binOp,run_eq_nil ht hr .nilIface (Or.inl rfl),Sem.run_pure];rfl
theorem LW.neq_nil {ms:Array (String×TypeId)} (hx:ev E x=some (.iface u v)) (ht:Tab.row P t=some r) (hr:r.desc=.interface ms) (hn:Nat.blt d n=true) (h:LW P l Q rest D n ((d,.bool true)::E) w) :
  LW P l Q ({dst:=some d,op:=.binOp .neq t x (.const .nilIface) ty,type:=T,pos,after:=af,guard:=none}::rest) D n E w:=LW.val rfl rfl hn (Y.neq_nil hx ht hr _) h
theorem LW.neq_nil_nil {ms:Array (String×TypeId)} (hx:ev E x=some .nilIface) (ht:Tab.row P t=some r) (hr:r.desc=.interface ms) (hn:Nat.blt d n=true) (h:LW P l Q rest D n ((d,.bool false)::E) w) :
  LW P l Q ({dst:=some d,op:=.binOp .neq t x (.const .nilIface) ty,type:=T,pos,after:=af,guard:=none}::rest) D n E w:=LW.val rfl rfl hn (Y.neq_nil_nil hx ht hr _) h
end
section
variable [Tab P] {x y:Operand} {d:Nat} {t ty T:TypeId} {pos:String} {af:Array Edge} {r r':TRow}
theorem Y.idx_slice {k:IntKind} {i:Int} {b o len cap j:Nat} {e:TypeId} (hx:ev E x=some (.slice (some ⟨b,o,none⟩) len cap)) (hi:ev E y=some (.int k i)) (ht:Tab.row P t=some r) (hr:r.desc=.slice e) (he:Tab.row P e=some r')
  (h0:0≤i) (h1:i<len) (hj:o+i.toNat*r'.size=j):Y P D n E w {dst:=some d,op:=.indexAddr t x y,type:=T,pos,after:=af,guard:=none} (.pointer (some ⟨b,j,none⟩)):=
 (fun _ ha=>by
  have hw:∀w:World,(underlying t).run P w=.ok (.slice e) w:=fun w=>run_underlying (under_slice ht hr) w;have ha':(⟨b,o,none⟩:Addr).add (i.toNat*r'.size)=⟨b,j,none⟩:=by
   unfold Addr.add
   split
   ·simp_all
   ·simp [hj]
  simp only [execOp,ha.eval hx,ha.eval hi,Instr.indexAt,asIntOf,Sem.run_bind,Sem.run_pure,Result.andThen_ok,hw,h0,h1,and_self,if_true,run_size he,ha'])
end
abbrev rng (k:IntKind) (z:Int):Prop:=match k with
 | .i8=>-128≤z∧z≤127
 | .i16=>-32768≤z∧z≤32767
 | .i32=>-2147483648≤z∧z≤2147483647
 | .i64=>-9223372036854775808≤z∧z≤9223372036854775807
 | .u8=>0≤z∧z≤255
 | .u16=>0≤z∧z≤65535
 | .u32=>0≤z∧z≤4294967295
 | .u64=>0≤z∧z≤18446744073709551615
theorem wrap_rng {k:IntKind} {z:Int} (h:rng k z):k.wrap z=z:=by
 refine wrap_in ?_ ?_<;>cases k<;>simp [IntKind.min,IntKind.max,IntKind.bits,IntKind.signed] at *<;>omega
def arC (op:BinOp) (k:IntKind) (p q:Int):Option (Value×Prop):=match op with
 | .add=>some (.int k (p+q),rng k (p+q))
 | .sub=>some (.int k (p - q),rng k (p - q))
 | .mul=>some (.int k (p*q),rng k (p*q))
 | .quo=>some (.int k (p / q),(0≤p∧1≤q)∧rng k p)
 | .rem=>some (.int k (p % q),0≤p∧1≤q)
 | _=>none
def catC (op:BinOp) (a b:List UInt8):Option (Value×Prop):=match op with
 | .add=>some (str (a++b),a.length+b.length≤9223372036854775807)
 | _=>none
def opC (P:Program) [Tab P] (E:Env):Op→Option (Value×Prop)
 | .binOp op _ x y _=>match ev E x,ev E y with
  | some (.int j p),some (.int k q)=>bif sameKind j k then arC op k p q else none
  | some (.string ⟨⟨a⟩⟩),some (.string ⟨⟨b⟩⟩)=>catC op a b
  | _,_=>none
 | .index t x y=>match Tab.row P t,ev E x,ev E y with
  | some ⟨.string,_,_,_⟩,some (.string ⟨⟨s⟩⟩),some (.int _ i)=>some (.int .u8 (byte s i.toNat),0≤i∧i<s.length)
  | _,_,_=>none
 | .convert s t x=>match Tab.row P s,Tab.row P t,ev E x with
  | some ⟨.int j,_,_,_⟩,some ⟨.int k,_,_,_⟩,some (.int j' p)=>bif sameKind j j' then some (.int k p,rng k p) else none
  | some ⟨.int j,_,_,_⟩,some ⟨.string,_,_,_⟩,some (.int j' p)=>bif sameKind j j' then some (str [UInt8.ofNat p.toNat],0≤p∧p<128) else none
  | _,_,_=>none
 | _=>none
def bndC (E:Env) (d:Int):Option Operand→Option Int
 | none=>some d
 | some x=>match ev E x with
  | some (.int _ z)=>some z
  | _=>none
def opS (P:Program) [Tab P] (E:Env):Op→Option (Value×Prop)
 | .slice t x lo hi none=>match Tab.row P t,ev E x with
  | some ⟨.string,_,_,_⟩,some (.string ⟨⟨s⟩⟩)=>match bndC E 0 lo,bndC E s.length hi with
   | some i,some j=>some (str (cut s i.toNat j.toNat),0≤i∧i≤j∧j≤s.length)
   | _,_=>none
  | _,_=>none
 | .indexAddr t x y=>match Tab.row P t,ev E x,ev E y with
  | some ⟨.slice e,_,_,_⟩,some (.slice (some ⟨b,o,none⟩) len _),some (.int _ i)=>match Tab.row P e with
   | some r=>some (.pointer (some ⟨b,o+i.toNat*r.size,none⟩),0≤i∧i<len)
   | none=>none
  | _,_,_=>none
 | _=>none
section
variable [Tab P] {op:Op} {v:Value} {C:Prop} {d:Nat} {T:TypeId} {pos:String} {af:Array Edge}
theorem Y.go (hv:opC P E op=some (v,C)) (hC:C):Y P D n E w {dst:=some d,op,type:=T,pos,after:=af,guard:=none} v:=by
 unfold opC at hv
 split at hv
 ·rename_i bop t x y ty
  split at hv
  ·rename_i j p k q hx hy;cases hk:sameKind j k<;>simp only [hk,cond_true,cond_false,reduceCtorEq] at hv;obtain rfl:=sameKind_eq hk;unfold arC at hv
   split at hv<;>simp only [Option.some.injEq,reduceCtorEq,Prod.mk.injEq] at hv
   ·obtain ⟨rfl,rfl⟩:=hv;exact Y.arith hx hy (wrap_rng hC) rfl
   ·obtain ⟨rfl,rfl⟩:=hv;exact Y.arith hx hy (wrap_rng hC) rfl
   ·obtain ⟨rfl,rfl⟩:=hv;exact Y.arith hx hy (wrap_rng hC) rfl
   ·obtain ⟨rfl,rfl⟩:=hv;obtain ⟨⟨h0,hq⟩,hr⟩:=hC;intro a ha;rw [run_bin ha hx hy rfl];have hq':¬q=0:=by omega
    have e:p.tdiv q=p / q:=Int.tdiv_eq_ediv_of_nonneg h0;have g1:0≤p / q:=Int.ediv_nonneg h0 (by omega);have g2:p / q≤p:=Int.ediv_le_self q h0;have g3:j.wrap (p / q)=p / q:=wrap_rng (by cases j<;>simp only [rng] at hr ⊢<;>omega);simp [binOp,Op.intDiv,hq',e,g3]
   ·obtain ⟨rfl,rfl⟩:=hv;exact Y.rem hx hy hC.1 hC.2
  ·rename_i a b hx hy;unfold catC at hv
   split at hv<;>simp only [Option.some.injEq,reduceCtorEq,Prod.mk.injEq] at hv
   obtain ⟨rfl,rfl⟩:=hv;exact Y.cat hx hy hC
  ·cases hv
 ·rename_i t x y
  split at hv
  ·rename_i s k i ht hx hy;simp only [Option.some.injEq,Prod.mk.injEq] at hv;obtain ⟨rfl,rfl⟩:=hv;exact Y.index hx hy ht rfl hC.1 hC.2
  ·cases hv
 ·rename_i s t x
  split at hv
  ·rename_i j z1 s1 b1 k z2 s2 b2 j' p hs ht hx;cases hk:sameKind j j'<;>simp only [hk,cond_true,cond_false,reduceCtorEq] at hv;obtain rfl:=sameKind_eq hk;simp only [Option.some.injEq,Prod.mk.injEq] at hv;obtain ⟨rfl,rfl⟩:=hv;exact Y.conv hx hs rfl ht rfl (wrap_rng hC)
  ·rename_i j z1 s1 b1 z2 s2 b2 j' p hs ht hx;cases hk:sameKind j j'<;>simp only [hk,cond_true,cond_false,reduceCtorEq] at hv;obtain rfl:=sameKind_eq hk;simp only [Option.some.injEq,Prod.mk.injEq] at hv;obtain ⟨rfl,rfl⟩:=hv;exact Y.chr hx ht rfl hs rfl hC.1 hC.2 _
  ·cases hv
 ·cases hv
theorem bnd_ev {d z:Int} {a:Operand} (h:bndC E d (some a)=some z):∃k,ev E a=some (.int k z):=by
 unfold bndC at h;simp only at h
 split at h
 ·rename_i k u hu;simp only [Option.some.injEq] at h;exact ⟨k,by rw [hu,h]⟩
 ·cases h
theorem Y.gs (hv:opS P E op=some (v,C)) (hC:C):Y P D n E w {dst:=some d,op,type:=T,pos,after:=af,guard:=none} v:=by
 unfold opS at hv
 split at hv
 ·rename_i t x lo hi
  split at hv
  ·rename_i z s0 b0 s ht hx
   split at hv
   ·rename_i i j hlo hj;simp only [Option.some.injEq,Prod.mk.injEq] at hv;obtain ⟨rfl,rfl⟩:=hv;obtain ⟨h0,h1,h2⟩:=hC;refine Y.slice_str (i:=i.toNat) (j:=j.toNat) hx ht rfl ?_ ?_ (by omega) (by omega)
    ·cases lo with
     | none=>
      simp only [bndC,Option.some.injEq] at hlo;simp only
      omega
     | some a=>
      obtain ⟨k,hk⟩:=bnd_ev hlo;exact ⟨k,_,hk,by omega⟩
    ·cases hi with
     | none=>
      simp only [bndC,Option.some.injEq] at hj;simp only
      omega
     | some a=>
      obtain ⟨k,hk⟩:=bnd_ev hj;exact ⟨k,_,hk,by omega⟩
   ·cases hv
  ·cases hv
 ·rename_i t x y
  split at hv
  ·rename_i e z s0 b0 b o len cap k i ht hx hy
   split at hv
   ·rename_i r he;simp only [Option.some.injEq,Prod.mk.injEq] at hv;obtain ⟨rfl,rfl⟩:=hv;exact Y.idx_slice hx hy ht rfl he hC.1 hC.2 rfl
   ·cases hv
  ·cases hv
 ·cases hv
theorem LW.go (hv:opC P E op=some (v,C)) (hn:Nat.blt d n=true) (hC:C) (h:LW P l Q rest D n ((d,v)::E) w):LW P l Q ({dst:=some d,op,type:=T,pos,after:=af,guard:=none}::rest) D n E w:=
 LW.val rfl rfl hn (Y.go hv hC) h
theorem QL.go (hv:opC P E op=some (v,C)) (hn:Nat.blt d n=true) (hC:C) (h:QL P l Q rest D n ((d,v)::E) w):QL P l Q ({dst:=some d,op,type:=T,pos,after:=af,guard:=none}::rest) D n E w:=
 QL.yields rfl rfl hn (fun _ _=>Y.go hv hC) h
theorem LW.gs (hv:opS P E op=some (v,C)) (hn:Nat.blt d n=true) (hC:C) (h:LW P l Q rest D n ((d,v)::E) w):LW P l Q ({dst:=some d,op,type:=T,pos,after:=af,guard:=none}::rest) D n E w:=
 LW.val rfl rfl hn (Y.gs hv hC) h
end
section
variable [Tab P] {op:Op} {v:Value} {C:Prop} {d:Nat} {T:TypeId} {pos:String} {af:Array Edge} {x:Operand} {b c:Bool} {j t i k:Nat} {L cs:List Value} {T' u e s:TypeId} {r r' r'':TRow}
theorem La (h:LW P l Q rest D n ((d,v)::E) w) (hv:pureOp P E op=some v:=by exact rfl) (hn:Nat.blt d n=true:=by exact rfl):LW P l Q ({dst:=some d,op,type:=T,pos,after:=af,guard:=none}::rest) D n E w:=LW.pure hv hn h
theorem Qa (h:QL P l Q rest D n ((d,v)::E) w) (hv:pureOp P E op=some v:=by exact rfl) (hn:Nat.blt d n=true:=by exact rfl):QL P l Q ({dst:=some d,op,type:=T,pos,after:=af,guard:=none}::rest) D n E w:=QL.pure hv hn h
omit [Tab P] in
theorem Lb {dd} (h:LW P l Q ({dst:=dd,op,type:=T,pos,after:=af,guard:=none}::rest) D n E w) (hj:dstAt l j=some t:=by exact rfl) (hb:look E t=some (.bool b):=by exact rfl):LW P l Q ({dst:=dd,op,type:=T,pos,after:=af,guard:=some (j,b)}::rest) D n E w:=LW.want hj hb h
omit [Tab P] in
theorem Qb {dd} (h:QL P l Q ({dst:=dd,op,type:=T,pos,after:=af,guard:=none}::rest) D n E w) (hj:dstAt l j=some t:=by exact rfl) (hb:look E t=some (.bool b):=by exact rfl):QL P l Q ({dst:=dd,op,type:=T,pos,after:=af,guard:=some (j,b)}::rest) D n E w:=QL.want hj hb h
omit [Tab P] in
theorem Lc {o:Oper} (h:LW P l Q rest D n ((d,undef)::E) w) (hg:o.guard=some (j,b):=by exact rfl) (hd:o.dst=some d:=by exact rfl) (hn:Nat.blt d n=true:=by exact rfl) (hj:dstAt l j=some t:=by exact rfl) (hb:look E t=some (.bool c):=by exact rfl) (hne:(c == b)=false:=by exact rfl):LW P l Q (o::rest) D n E w:=LW.skip hg hd hn hj hb hne h
omit [Tab P] in
theorem Qc {o:Oper} (h:QL P l Q rest D n ((d,undef)::E) w) (hg:o.guard=some (j,b):=by exact rfl) (hd:o.dst=some d:=by exact rfl) (hn:Nat.blt d n=true:=by exact rfl) (hj:dstAt l j=some t:=by exact rfl) (hb:look E t=some (.bool c):=by exact rfl) (hne:(c == b)=false:=by exact rfl):QL P l Q (o::rest) D n E w:=QL.skip hg hd hn hj hb hne h
omit [Tab P] in
theorem Ld {o:Oper} (h:LW P l Q rest D n ((d,undef)::E) w) (hg:o.guard=some (j,b):=by exact rfl) (hd:o.dst=some d:=by exact rfl) (hn:Nat.blt d n=true:=by exact rfl) (hj:dstAt l j=some t:=by exact rfl) (hb:look E t=some undef:=by exact rfl):LW P l Q (o::rest) D n E w:=LW.skip_u hg hd hn hj hb h
omit [Tab P] in
theorem Qd {o:Oper} (h:QL P l Q rest D n ((d,undef)::E) w) (hg:o.guard=some (j,b):=by exact rfl) (hd:o.dst=some d:=by exact rfl) (hn:Nat.blt d n=true:=by exact rfl) (hj:dstAt l j=some t:=by exact rfl) (hb:look E t=some undef:=by exact rfl):QL P l Q (o::rest) D n E w:=QL.skip_u hg hd hn hj hb h
theorem Le (h:LW P l Q rest D n ((d,v)::E) w) (hv:opC P E op=some (v,C):=by exact rfl) (hn:Nat.blt d n=true:=by exact rfl) (hC:C:=by first | omega | exact ⟨by omega,by omega⟩ | exact ⟨by omega,by omega,by omega⟩ | (simp<;>omega)):LW P l Q ({dst:=some d,op,type:=T,pos,after:=af,guard:=none}::rest) D n E w:=LW.go hv hn hC h
theorem Qe (h:QL P l Q rest D n ((d,v)::E) w) (hv:opC P E op=some (v,C):=by exact rfl) (hn:Nat.blt d n=true:=by exact rfl) (hC:C:=by first | omega | exact ⟨by omega,by omega⟩ | exact ⟨by omega,by omega,by omega⟩ | (simp<;>omega)):QL P l Q ({dst:=some d,op,type:=T,pos,after:=af,guard:=none}::rest) D n E w:=QL.go hv hn hC h
theorem Lf (h:LW P l Q rest D n ((d,v)::E) w) (hx:ev E x=some (.pointer (some ⟨k,i,none⟩)):=by exact rfl) (hB:Blk w k L T':=by assumption) (hi:L[i]?=some v:=by exact rfl) (ht:Tab.row P t=some r:=by exact rfl) (hr:isAggD r.desc=false:=by exact rfl) (hn:Nat.blt d n=true:=by exact rfl):LW P l Q ({dst:=some d,op:=.load t x,type:=T,pos,after:=af,guard:=none}::rest) D n E w:=LW.load hx hB hi ht hr hn h
theorem Qf (h:QL P l Q rest D n ((d,v)::E) w) (hx:ev E x=some (.pointer (some ⟨k,i,none⟩)):=by exact rfl) (hB:Blk w k L T':=by assumption) (hi:L[i]?=some v:=by exact rfl) (ht:Tab.row P t=some r:=by exact rfl) (hr:isAggD r.desc=false:=by exact rfl) (hn:Nat.blt d n=true:=by exact rfl):QL P l Q ({dst:=some d,op:=.load t x,type:=T,pos,after:=af,guard:=none}::rest) D n E w:=QL.load hx hB hi ht hr hn h
theorem Lg (h:LW P l Q rest D n ((d,.agg ⟨L⟩)::E) w) (hx:ev E x=some (.pointer (some ⟨k,0,none⟩)):=by exact rfl) (hB:Blk w k L T':=by assumption) (ht:Tab.row P t=some r:=by exact rfl) (hr:isAggD r.desc=true:=by exact rfl) (hs:Nat.beq r.size L.length=true:=by exact rfl) (hn:Nat.blt d n=true:=by exact rfl):LW P l Q ({dst:=some d,op:=.load t x,type:=T,pos,after:=af,guard:=none}::rest) D n E w:=LW.load_all hx hB ht hr hs hn h
theorem Qg (h:QL P l Q rest D n ((d,.agg ⟨L⟩)::E) w) (hx:ev E x=some (.pointer (some ⟨k,0,none⟩)):=by exact rfl) (hB:Blk w k L T':=by assumption) (ht:Tab.row P t=some r:=by exact rfl) (hr:isAggD r.desc=true:=by exact rfl) (hs:Nat.beq r.size L.length=true:=by exact rfl) (hn:Nat.blt d n=true:=by exact rfl):QL P l Q ({dst:=some d,op:=.load t x,type:=T,pos,after:=af,guard:=none}::rest) D n E w:=QL.load_all hx hB ht hr hs hn h
theorem Lh {parts:List (Nat×Operand)} {vs:List (Nat×Value)} (h:LW P l Q rest D n ((d,.agg ⟨cs⟩)::E) w) (hp:evp E parts=some vs:=by exact rfl) (hc:buildC P t vs=some cs:=by exact rfl) (hn:Nat.blt d n=true:=by exact rfl):LW P l Q ({dst:=some d,op:=.build t ⟨parts⟩,type:=T,pos,after:=af,guard:=none}::rest) D n E w:=LW.build hp hc hn h
theorem Li {ms:Array (String×TypeId)} {ty:TypeId} (h:LW P l Q rest D n ((d,.bool true)::E) w) (hx:ev E x=some (.iface u v):=by exact rfl) (ht:Tab.row P t=some r:=by exact rfl) (hr:r.desc=.interface ms:=by exact rfl) (hn:Nat.blt d n=true:=by exact rfl):LW P l Q ({dst:=some d,op:=.binOp .neq t x (.const .nilIface) ty,type:=T,pos,after:=af,guard:=none}::rest) D n E w:=LW.neq_nil hx ht hr hn h
theorem Lj {ms:Array (String×TypeId)} {ty:TypeId} (h:LW P l Q rest D n ((d,.bool false)::E) w) (hx:ev E x=some .nilIface:=by exact rfl) (ht:Tab.row P t=some r:=by exact rfl) (hr:r.desc=.interface ms:=by exact rfl) (hn:Nat.blt d n=true:=by exact rfl):LW P l Q ({dst:=some d,op:=.binOp .neq t x (.const .nilIface) ty,type:=T,pos,after:=af,guard:=none}::rest) D n E w:=LW.neq_nil_nil hx ht hr hn h
theorem Lk {z:Int} (h:LW P l Q rest D n ((d,str [ch z])::E) w) (hx:ev E x=some (.slice (some ⟨k,0,none⟩) 1 1):=by exact rfl) (hB:Blk w k [.int .u8 z] T:=by assumption) (h0:0≤z:=by omega) (h1:z≤255:=by omega) (hs:Tab.row P s=some r:=by exact rfl) (hsd:r.desc=.slice u:=by exact rfl) (hu:Tab.row P u=some r':=by exact rfl) (hud:r'.desc=.int .u8:=by exact rfl) (ht:Tab.row P t=some r'':=by exact rfl) (htd:r''.desc=.string:=by exact rfl) (hn:Nat.blt d n=true:=by exact rfl):LW P l Q ({dst:=some d,op:=.convert s t x,type:=T',pos,after:=af,guard:=none}::rest) D n E w:=LW.str1 hx hB h0 h1 hs hsd hu hud ht htd hn h
theorem Ll {z y:Int} (h:LW P l Q rest D n ((d,str [ch z,ch y])::E) w) (hx:ev E x=some (.slice (some ⟨k,0,none⟩) 2 2):=by exact rfl) (hB:Blk w k [.int .u8 z,.int .u8 y] T:=by assumption) (h0:0≤z:=by omega) (h1:z≤255:=by omega) (g0:0≤y:=by omega) (g1:y≤255:=by omega) (hs:Tab.row P s=some r:=by exact rfl) (hsd:r.desc=.slice u:=by exact rfl) (hu:Tab.row P u=some r':=by exact rfl) (hud:r'.desc=.int .u8:=by exact rfl) (ht:Tab.row P t=some r'':=by exact rfl) (htd:r''.desc=.string:=by exact rfl) (hn:Nat.blt d n=true:=by exact rfl):LW P l Q ({dst:=some d,op:=.convert s t x,type:=T',pos,after:=af,guard:=none}::rest) D n E w:=LW.str2 hx hB h0 h1 g0 g1 hs hsd hu hud ht htd hn h
theorem Lm (h:LW P l Q rest D n ((d,v)::E) w) (hv:opS P E op=some (v,C):=by exact rfl) (hn:Nat.blt d n=true:=by exact rfl) (hC:C:=by first | omega | exact ⟨by omega,by omega⟩ | exact ⟨by omega,by omega,by omega⟩ | (simp<;>omega)):LW P l Q ({dst:=some d,op,type:=T,pos,after:=af,guard:=none}::rest) D n E w:=LW.gs hv hn hC h
end
section
variable {x y:Code} {i:Nat} {c:Operand} {K:Exit→Act→World→Prop}
theorem Ca (h:QW Q (.exit i) D n E w) (hi:Nat.beq i id=false:=by exact rfl):QW (Exit.inBlock id Q) (.exit i) D n E w:=QW.blk_other hi h
theorem Cb (h:CW P x Q D n E w) (hc:ev E c=some (.bool true):=by exact rfl):CW P (.cond c x y) Q D n E w:=CW.cond_t hc h
theorem Cc (h:CW P y Q D n E w) (hc:ev E c=some (.bool false):=by exact rfl):CW P (.cond c x y) Q D n E w:=CW.cond_f hc h
end
end
attribute [irreducible] CW LW QW QL RW
structure Hd (p:Prop):Prop where
 h:p
theorem Sa {G G':Prop} (h:G') (hi:Hd G'→G:=by intro h;(repeat (first | refine La ?_ | refine Lb ?_ | refine Lc ?_ | refine Ld ?_ | refine Le ?_ | refine Lf ?_ | refine Lg ?_ | apply LW.nil | apply QW.then_n | apply QW.round | apply RW.succ | apply CW.seq | apply CW.region | apply CW.skip | apply CW.block | apply CW.ret | apply CW.exit | apply QW.then_ret | apply QW.then_exit | apply QW.blk_n | apply QW.blk_ret | apply QW.blk_exit | refine Ca ?_ | refine Cb ?_ | refine Cc ?_ | refine Lh ?_ | refine Li ?_ | refine Lj ?_ | refine Lk ?_ | refine Ll ?_));exact h.h):G:=hi ⟨h⟩
theorem Sz {G G':Prop} (h:G') (hi:Hd G'→G:=by intro h;(repeat (first | refine La ?_ | refine Lb ?_ | refine Lc ?_ | refine Ld ?_ | refine Le ?_ | refine Lf ?_ | refine Lg ?_ | apply LW.nil | apply QW.then_n | apply QW.round | apply RW.succ | apply CW.seq | apply CW.region | apply CW.skip | apply CW.block | apply CW.ret | apply CW.exit | apply QW.then_ret | apply QW.then_exit | apply QW.blk_n | apply QW.blk_ret | apply QW.blk_exit | refine Ca ?_ | refine Cb ?_ | refine Cc ?_ | refine Lh ?_ | refine Li ?_ | refine Lj ?_ | refine Lk ?_ | refine Ll ?_ | refine Lm ?_));exact h.h):G:=hi ⟨h⟩
theorem Sl {G G':Prop} (h:G') (hi:Hd G'→G:=by intro h;(repeat (first | refine La ?_ | refine Lb ?_ | refine Lc ?_ | refine Ld ?_ | refine Le ?_ | refine Lf ?_ | refine Lg ?_ | refine Lh ?_ | refine Li ?_ | refine Lj ?_ | refine Lk ?_ | refine Ll ?_));exact h.h):G:=hi ⟨h⟩
end Go.E
namespace Go.E
open Go
theorem CW.yes {P:Program} {Q:Exit→Act→World→Prop} {D:List Deferred} {n:Nat} {E:Env} {w:World} {x y:Code} {c:Operand} {b:Bool} (hc:ev E c=some (.bool b)) (hb:b=true) (h:CW P x Q D n E w):CW P (.cond c x y) Q D n E w:=CW.cond hc (fun _=>h) (fun h=>by rw [hb] at h;cases h)
theorem CW.no {P:Program} {Q:Exit→Act→World→Prop} {D:List Deferred} {n:Nat} {E:Env} {w:World} {x y:Code} {c:Operand} {b:Bool} (hc:ev E c=some (.bool b)) (hb:b=false) (h:CW P y Q D n E w):CW P (.cond c x y) Q D n E w:=CW.cond hc (fun h=>by rw [hb] at h;cases h) (fun _=>h)
def vblk:Value→List Nat
 | .slice (some a) _ _=>[a.block]
 | _=>[]
def Own (w:World) (lo:Nat) (e:TypeId) (size:Nat) (v:Value) (n:Nat) (xs:List Value):Prop:=
 xs.length=n*size∧(v=.slice none 0 0∧n=0∨∃g cap sp,v=.slice (some ⟨g,0,none⟩) n cap∧Blk w g (xs++sp) e∧n≤cap∧sp.length=(cap - n)*size∧lo≤g)
theorem Own.nil (w:World) (lo:Nat) (e size:Nat):Own w lo e size (.slice none 0 0) 0 []:=⟨by simp,.inl ⟨rfl,rfl⟩⟩
theorem Own.chg {S:List Nat} {w w':World} {lo e size n:Nat} {v:Value} {xs:List Value} (h:Own w lo e size v n xs) (k:Chg S w w') (hn:∀b,b∈vblk v→b∉S):Own w' lo e size v n xs:=by
 obtain ⟨hl,h | ⟨g,cap,sp,rfl,hB,h1,h2,h3⟩⟩:=h
 ·exact ⟨hl,.inl h⟩
 ·exact ⟨hl,.inr ⟨g,cap,sp,rfl,hB.chg k (hn g (by simp [vblk])),h1,h2,h3⟩⟩
theorem Own.ext {w w':World} {lo e size n:Nat} {v:Value} {xs:List Value} (h:Own w lo e size v n xs) (k:Ext w w'):Own w' lo e size v n xs:=h.chg k (by simp)
theorem Own.lt {w:World} {lo e size n:Nat} {v:Value} {xs:List Value} (h:Own w lo e size v n xs) {b:Nat} (hb:b∈vblk v):lo≤b∧b<w.heap.size:=by
 obtain ⟨hl,⟨rfl,_⟩ | ⟨g,cap,sp,rfl,hB,h1,h2,h3⟩⟩:=h
 ·simp [vblk] at hb
 ·simp [vblk] at hb;subst hb;exact ⟨h3,hB.lt⟩
theorem Own.slice {w:World} {lo e size n:Nat} {v:Value} {xs:List Value} (h:Own w lo e size v n xs):∃a c,v=.slice a n c:=by
 obtain ⟨hl,⟨rfl,rfl⟩ | ⟨g,cap,sp,rfl,_⟩⟩:=h
 ·exact ⟨_,_,rfl⟩
 ·exact ⟨_,_,rfl⟩
theorem Own.get {w:World} {lo e size n:Nat} {v:Value} {xs:List Value} (h:Own w lo e size v n xs) (hn:0<n):∃g cap sp,v=.slice (some ⟨g,0,none⟩) n cap∧Blk w g (xs++sp) e∧lo≤g:=by
 obtain ⟨hl,⟨rfl,rfl⟩ | ⟨g,cap,sp,rfl,hB,h1,h2,h3⟩⟩:=h
 ·omega
 ·exact ⟨g,cap,sp,rfl,hB,h3⟩
theorem Own.low {w:World} {lo lo' e size n:Nat} {v:Value} {xs:List Value} (h:Own w lo e size v n xs) (hl:lo'≤lo):Own w lo' e size v n xs:=by
 obtain ⟨h0,h | ⟨g,cap,sp,rfl,hB,h1,h2,h3⟩⟩:=h
 ·exact ⟨h0,.inl h⟩
 ·exact ⟨h0,.inr ⟨g,cap,sp,rfl,hB,h1,h2,by omega⟩⟩
theorem flat_get {α:Type} {f:α→List Value} {m:Nat} (hf:∀x,(f x).length=m):∀(l:List α) (sp:List Value) (i:Nat) (x:α) (j:Nat),l[i]?=some x→j<m→(l.flatMap f++sp)[i*m+j]?=(f x)[j]?
 | [],_,_,_,_,h,_=>by simp at h
 | y::l,sp,0,x,j,h,hj=>by
  simp at h;subst h
  rw [List.flatMap_cons,List.append_assoc,Nat.zero_mul,Nat.zero_add,List.getElem?_append_left (by rw [hf];exact hj)]
 | y::l,sp,i+1,x,j,h,hj=>by
  have ih:=flat_get hf l sp i x j (by simpa using h) hj;rw [List.flatMap_cons,List.append_assoc,List.getElem?_append_right (by rw [hf,Nat.add_mul];omega),←ih,hf]
  congr 1
  rw [Nat.add_mul];omega
theorem zeroCells_length (z:Array Value) (k:Nat):(Builtin.zeroCells z k).toList.length=k*z.size:=by simp [Builtin.zeroCells]
theorem Blk.getElem {w:World} {b:Nat} {l:List Value} {T:TypeId} (h:Blk w b l T):∀j u,l[j]?=some u→w.cell? ((⟨b,0,none⟩:Addr).add j)=some u:=fun j u hu=>by
 have e:(⟨b,0,none⟩:Addr).add j=⟨b,j,none⟩:=by
  unfold Addr.add
  split
  ·simp_all
  ·simp
 rw [e];exact h.cell hu
section
variable {P:Program} [Tab P] {w:World} {lo:Nat} {t e:TypeId} {r r':TRow}
theorem run_app (ht:Tab.row P t=some r) (hr:r.desc=.slice e) (he:Tab.row P e=some r') (hz:Nat.beq r'.zero.cells.size r'.size=true)
  {v:Value} {n m b c:Nat} {xs news:List Value} {T':TypeId} (hown:Own w lo e r'.size v n xs) (hlo:lo≤w.heap.size) (hB:Blk w b news T') (hl:news.length=m*r'.size) (h1:∀u∈news,u.oneCell'=true) (hm:0<m)
  (h63:n+m≤9223372036854775807) (hby:(n+m)*r'.bytes≤140737488355328) (ty:TypeId) :
  ∃v' w',(Builtin.append_ #[t,t] ty #[v,.slice (some ⟨b,0,none⟩) m c]).run P w=.ok v' w'∧Chg (vblk v) w w'∧Own w' lo e r'.size v' (n+m) (xs++news)∧(∀k,k∈vblk v'→k∈vblk v∨w.heap.size≤k):=by
 obtain ⟨d,hd,hb,i,hi,hiz,his,hib⟩:=Tab.ok e r' he;have hu:=under_slice ht hr;have hzs:r'.zero.cells.size=r'.size:=Nat.eq_of_beq_eq_true hz;obtain ⟨hxl,⟨rfl,rfl⟩ | ⟨g,cap,sp,rfl,hG,h2,h3,h4⟩⟩:=hown
 ·have hx:xs=[]:=by cases xs with
   | nil=>rfl
   | cons a b=>simp at hxl
  subst hx;have hrun:=run_append_nil (P:=P) w t ty e i r'.zero hu hi hiz ⟨b,0,none⟩ m c news (by rw [his];exact hl) hB.getElem hm (by omega) (by rw [hib];simp at hby;omega);refine ⟨_,_,hrun,?_,?_,?_⟩
  ·exact (Ext.drew w).trans (Ext.alloc _ _)
  ·refine ⟨by simp [hl],.inr ⟨w.heap.size,_,(Builtin.zeroCells r'.zero.cells (grownCap w m 0 e - m)).toList,by rw [Nat.zero_add],?_,?_,?_,hlo⟩⟩
   ·have:=Blk.alloc w.drew (news++(Builtin.zeroCells r'.zero.cells (grownCap w m 0 e - m)).toList) e;have ea:news.toArray++Builtin.zeroCells r'.zero.cells (grownCap w m 0 e - m)=(⟨news++(Builtin.zeroCells r'.zero.cells (grownCap w m 0 e - m)).toList⟩:Array Value):=by
     apply Array.ext';simp
    rw [ea];exact this
   ·have:=grownCap_ge w m 0 e;omega
   ·rw [zeroCells_length,hzs,Nat.zero_add]
  ·intro k hk;simp [vblk] at hk;exact .inr (by omega)
 ·by_cases hroom:n+m≤cap
  ·have hrun:=run_append_room (P:=P) w t ty e i hu hi g n cap ⟨xs++sp⟩ hG ⟨b,0,none⟩ m c news (by rw [his];exact hl) hB.getElem h1 hroom (by
    rw [his,hl,←hxl];simp only [List.size_toArray,List.length_append,h3,hxl];have:m*r'.size≤(cap - n)*r'.size:=Nat.mul_le_mul_right _ (by omega);omega)
   have e1:((⟨xs++sp⟩:Array Value).toList.take (n*i.size)++news++(⟨xs++sp⟩:Array Value).toList.drop (n*i.size+news.length))=xs++news++sp.drop news.length:=by
    rw [his,←hxl];simp
   rw [e1] at hrun;refine ⟨_,_,hrun,Chg.setRow _ _ _,⟨by simp [hxl,hl,Nat.add_mul],.inr ⟨g,cap,sp.drop news.length,rfl,hG.setRow _,hroom,?_,h4⟩⟩,?_⟩
   ·rw [List.length_drop,h3,hl,←Nat.sub_mul]
    congr 1
    omega
   ·intro k hk;exact .inl hk
  ·have hg:cap<n+m:=by omega
   have hrun:=run_append_grow (P:=P) w t ty e i r'.zero hu hi hiz ⟨g,0,none⟩ n cap xs (by rw [his];exact hxl) (fun j u hj=>hG.getElem j u (by
     rw [List.getElem?_append_left (List.getElem?_eq_some_iff.1 hj).1];exact hj)) ⟨b,0,none⟩ m c news (by rw [his];exact hl) hB.getElem hg (by omega) (by rw [hib];exact growslice_fits hg hby)
   refine ⟨_,_,hrun,?_,?_,?_⟩
   ·exact ((Ext.drew w).trans (Ext.alloc _ _)).mono (by simp)
   ·refine ⟨by simp [hxl,hl,Nat.add_mul],.inr ⟨w.heap.size,_,(Builtin.zeroCells r'.zero.cells (grownCap w (n+m) cap e - (n+m))).toList,rfl,?_,grownCap_ge w (n+m) cap e,?_,hlo⟩⟩
    ·have:=Blk.alloc w.drew (xs++news++(Builtin.zeroCells r'.zero.cells (grownCap w (n+m) cap e - (n+m))).toList) e;have ea:xs.toArray++news.toArray++Builtin.zeroCells r'.zero.cells (grownCap w (n+m) cap e - (n+m))=(⟨xs++news++(Builtin.zeroCells r'.zero.cells (grownCap w (n+m) cap e - (n+m))).toList⟩:Array Value):=by
      apply Array.ext';simp
     rw [ea];exact this
    ·rw [zeroCells_length,hzs]
   ·intro k hk;simp [vblk] at hk;exact .inr (by omega)
variable {Q:Exit→Act→World→Prop} {D:List Deferred} {n:Nat} {E:Env} {l rest:List Oper} {x y:Operand} {d T:Nat} {pos:String} {af:Array Edge}
theorem Y.idx_addr {k:IntKind} {i:Int} {a0:Addr} {len cap:Nat} {e:TypeId} (hx:ev E x=some (.slice (some a0) len cap)) (hi:ev E y=some (.int k i)) (ht:Tab.row P t=some r) (hr:r.desc=.slice e) (he:Tab.row P e=some r')
  (h0:0≤i) (h1:i<len):Y P D n E w {dst:=some d,op:=.indexAddr t x y,type:=T,pos,after:=af,guard:=none} (.pointer (some (a0.add (i.toNat*r'.size)))):=
 (fun _ ha=>by
  have hw:∀w:World,(underlying t).run P w=.ok (.slice e) w:=fun w=>run_underlying (under_slice ht hr) w;simp only [execOp,ha.eval hx,ha.eval hi,Instr.indexAt,asIntOf,Sem.run_bind,Sem.run_pure,Result.andThen_ok,hw,h0,h1,and_self,if_true,run_size he])
theorem LW.idx_addr {k:IntKind} {i:Int} {a0:Addr} {len cap:Nat} {e:TypeId} (hx:ev E x=some (.slice (some a0) len cap)) (hi:ev E y=some (.int k i)) (ht:Tab.row P t=some r) (hr:r.desc=.slice e) (he:Tab.row P e=some r')
  (h0:0≤i) (h1:i<len) (hn:Nat.blt d n=true) (h:LW P l Q rest D n ((d,.pointer (some (a0.add (i.toNat*r'.size))))::E) w):LW P l Q ({dst:=some d,op:=.indexAddr t x y,type:=T,pos,after:=af,guard:=none}::rest) D n E w:=LW.val rfl rfl hn (Y.idx_addr hx hi ht hr he h0 h1) h
theorem Y.load_cell {a0:Addr} {v:Value} (hx:ev E x=some (.pointer (some a0))) (hc:w.cell? a0=some v) (ht:Tab.row P t=some r) (hr:isAggD r.desc=false):Y P D n E w {dst:=some d,op:=.load t x,type:=T,pos,after:=af,guard:=none} v:=
 (fun _ ha=>by
  have hl:(loadVar t a0).run P w=.ok v w:=by
   unfold loadVar;rw [Sem.run_bind,run_isAgg ht];simp [hr,hc]
  simp only [execOp,ha.eval hx,Instr.loadAt,Instr.sureAddr,Sem.run_bind,Sem.run_pure,Result.andThen_ok,hl])
theorem LW.load_cell {a0:Addr} {v:Value} (hx:ev E x=some (.pointer (some a0))) (hc:w.cell? a0=some v) (ht:Tab.row P t=some r) (hr:isAggD r.desc=false) (hn:Nat.blt d n=true) (h:LW P l Q rest D n ((d,v)::E) w):LW P l Q ({dst:=some d,op:=.load t x,type:=T,pos,after:=af,guard:=none}::rest) D n E w:=
 LW.val rfl rfl hn (Y.load_cell hx hc ht hr) h
omit [Tab P] in
theorem LW.shr {k j:IntKind} {p z:Int} {m:Nat} {ty u:TypeId} (hx:ev E x=some (.int k p)) (hy:ev E y=some (.int j (m:Int))) (hm:m≤k.bits) (hz:p / 2 ^ m=z) (hn:Nat.blt d n=true) (h:LW P l Q rest D n ((d,.int k z)::E) w) :
  LW P l Q ({dst:=some d,op:=.binOp .shr u x y ty,type:=T,pos,after:=af,guard:=none}::rest) D n E w:=by
 refine LW.val (w':=w) rfl rfl hn (fun a ha=>?_) h;have hg:(eqGuard .shr u x y (.int k p) (.int j (m:Int))).run P w=.ok () w:=rfl;have hmin:min m k.bits=m:=by omega
 have hf:p.fdiv (2 ^ m)=p / 2 ^ m:=Int.fdiv_eq_ediv_of_nonneg p (Int.le_of_lt (Int.pow_pos (by decide)));have hneg:¬((m:Int)<0):=by omega
 simp only [execOp,ha.eval hx,ha.eval hy,Sem.run_bind,hg,Result.andThen_ok,binOp,Op.shift,hneg,if_false,Int.toNat_natCast,hmin,hf,hz,Sem.run_pure]
theorem LW.append {v:Value} {k m b c:Nat} {xs news:List Value} {T':TypeId} (hx:ev E x=some v) (hy:ev E y=some (.slice (some ⟨b,0,none⟩) m c)) (ht:Tab.row P t=some r) (hr:r.desc=.slice e) (he:Tab.row P e=some r') (hz:Nat.beq r'.zero.cells.size r'.size=true)
  (hown:Own w lo e r'.size v k xs) (hlo:lo≤w.heap.size) (hB:Blk w b news T') (hl:Nat.beq news.length (m*r'.size)=true) (h1:news.all (·.oneCell')=true) (hm:Nat.blt 0 m=true) (hby:(k+m)*(r'.bytes+1)≤140737488355328) (hn:Nat.blt d n=true)
  (h:∀v' w',Chg (vblk v) w w'→Own w' lo e r'.size v' (k+m) (xs++news)→(∀j,j∈vblk v'→j∈vblk v∨w.heap.size≤j)→LW P l Q rest D n ((d,v')::E) w') :
  LW P l Q ({dst:=some d,op:=.call {callee:=.builtin .append,args:=#[x,y],argTypes:=#[t,t]},type:=T,pos,after:=af,guard:=none}::rest) D n E w:=by
 have h2:(k+m)*(r'.bytes+1)=(k+m)*r'.bytes+(k+m):=by rw [Nat.mul_add,Nat.mul_one]
 obtain ⟨v',w',hrun,hc,ho,hv⟩:=run_app (c:=c) ht hr he hz hown hlo hB (Nat.eq_of_beq_eq_true hl) (by simpa using h1) (Nat.le_of_ble_eq_true hm) (by omega) (by omega) T;refine LW.val (w':=w') (v:=v') rfl rfl hn (fun a ha=>?_) (h v' w' hc ho hv);unfold execOp;simp only [resolve,invoke,builtin,Sem.run_bind,Sem.run_pure,Result.andThen_ok,List.map_toArray,List.map_cons,List.map_nil,ha.eval hx,ha.eval hy,hrun]
theorem LW.string_own {bs:List UInt8} {v:Value} {s u k:Nat} {r'':TRow} {T':TypeId} (hx:ev E x=some v) (hown:Own w lo e 1 v k (bcells bs)) (hs:Tab.row P s=some r) (hsd:r.desc=.slice u) (hu:Tab.row P u=some r') (hud:r'.desc=.int .u8) (ht:Tab.row P t=some r'') (htd:r''.desc=.string) (hn:Nat.blt d n=true)
  (h:LW P l Q rest D n ((d,str bs)::E) w):LW P l Q ({dst:=some d,op:=.convert s t x,type:=T',pos,after:=af,guard:=none}::rest) D n E w:=by
 obtain ⟨hl,⟨rfl,rfl⟩ | ⟨g,cap,sp,rfl,hB,h1,h2,h3⟩⟩:=hown
 ·have hb:bs=[]:=by
   cases bs with
   | nil=>rfl
   | cons a b=>simp [bcells] at hl
  subst hb;refine LW.val rfl rfl hn (fun a ha=>?_) h;have hco:=run_convert_bytes_string (P:=P) w s t u none 0 0 (under_slice hs hsd) (under_int hu hud) (by
   obtain ⟨dd,hh,hb,_⟩:=run_under ht;cases dd<;>simp [bare,htd] at hb;exact hh)
  simp only [execOp,ha.eval hx,Sem.run_bind,hco,Sem.run_pure];rfl
 ·refine LW.string_of hx hB (bs:=bs) ?_ (by simpa [bcells] using hl) hs hsd hu hud ht htd hn h;rw [List.drop_left' (by simpa using hl)]
end
end Go.E
namespace Go.E
open Go
variable {P:Program}
def TL (P:Program) (l:List Oper) (m:Nat) (Q:Exit→Act→World→Prop) (rest:List Oper) (D:List Deferred) (n:Nat) (E:Env) (w:World):Prop:=
 ∀a,Holds a D n E→wpStill P l.toArray w (fun a'=>wpList P l.toArray Q (l.drop m) a' w) rest a
section
variable {Q:Exit→Act→World→Prop} {D:List Deferred} {n m:Nat} {E:Env} {w:World} {l rest:List Oper}
theorem CW.drawTail {t:Nat} (m:Nat) (hm:P.follows .mixedOrders=true) (hB:Region.lexTailB .any l.toArray m=true) (h:∀w',Ext w w'→TL P l m Q (l.take m) D n E w'):CW P (.region t l.toArray true) Q D n E w:=by
 unfold CW;exact fun a ha=>wp_region_still_tail m hm hB (h _ (Ext.drew w) a ha)
theorem TL.nil (h:LW P l Q (l.drop m) D n E w):TL P l m Q [] D n E w:=by
 unfold LW at h;exact fun a ha=>wpStill_nil (h a ha)
theorem TL.yields {o:Oper} {v:Value} {d:Nat} (hg:o.guard=none) (hd:o.dst=some d) (hn:Nat.blt d n=true) (hy:Y P D n E w o v) (h:TL P l m Q rest D n ((d,v)::E) w):TL P l m Q (o::rest) D n E w:=fun a ha=>by
 refine wpStill_step fun K hK=>?_;rw [if_pos (by simp [Region.wanted,hg])];unfold Oper.still;rw [hy a ha];refine ⟨rfl,hK _ ?_⟩;rw [hd];exact h _ (ha.put d v hn)
variable [Tab P] {op:Op} {v:Value} {C:Prop} {d:Nat} {T:TypeId} {pos:String} {af:Array Edge} {x:Operand} {t i k:Nat} {L:List Value} {T':TypeId} {r:TRow}
theorem Ta (h:TL P l m Q rest D n ((d,v)::E) w) (hv:pureOp P E op=some v:=by exact rfl) (hn:Nat.blt d n=true:=by exact rfl):TL P l m Q ({dst:=some d,op,type:=T,pos,after:=af,guard:=none}::rest) D n E w:=TL.yields rfl rfl hn (Y.pure hv) h
theorem Te (h:TL P l m Q rest D n ((d,v)::E) w) (hv:opC P E op=some (v,C):=by exact rfl) (hn:Nat.blt d n=true:=by exact rfl) (hC:C:=by first | omega | exact ⟨by omega,by omega⟩ | exact ⟨by omega,by omega,by omega⟩ | (simp<;>omega)):TL P l m Q ({dst:=some d,op,type:=T,pos,after:=af,guard:=none}::rest) D n E w:=TL.yields rfl rfl hn (Y.go hv hC) h
theorem Tf (h:TL P l m Q rest D n ((d,v)::E) w) (hx:ev E x=some (.pointer (some ⟨k,i,none⟩)):=by exact rfl) (hB:Blk w k L T':=by assumption) (hi:L[i]?=some v:=by exact rfl) (ht:Tab.row P t=some r:=by exact rfl) (hr:isAggD r.desc=false:=by exact rfl) (hn:Nat.blt d n=true:=by exact rfl):TL P l m Q ({dst:=some d,op:=.load t x,type:=T,pos,after:=af,guard:=none}::rest) D n E w:=TL.yields rfl rfl hn (Y.load hx hB hi ht hr) h
theorem Tg (h:TL P l m Q rest D n ((d,.agg ⟨L⟩)::E) w) (hx:ev E x=some (.pointer (some ⟨k,0,none⟩)):=by exact rfl) (hB:Blk w k L T':=by assumption) (ht:Tab.row P t=some r:=by exact rfl) (hr:isAggD r.desc=true:=by exact rfl) (hs:Nat.beq r.size L.length=true:=by exact rfl) (hn:Nat.blt d n=true:=by exact rfl):TL P l m Q ({dst:=some d,op:=.load t x,type:=T,pos,after:=af,guard:=none}::rest) D n E w:=TL.yields rfl rfl hn (Y.load_all hx hB ht hr hs) h
end
def AW (P:Program) (l:List Oper) (Q:Exit→Act→World→Prop) (f:Nat) (listed:List Bool) (D:List Deferred) (n:Nat) (E:Env) (w:World):Prop:=
 ∀a,Holds a D n E→wpAny P .any l.toArray Q f ⟨listed⟩ a w
section
variable {Q:Exit→Act→World→Prop} {D:List Deferred} {n f:Nat} {E:Env} {w:World} {l:List Oper} {ls:List Bool}
theorem wp_then {o:Oper} {a:Act} {ops:Array Oper} {K:Act→World→Prop} (h:o.wp P a w (wpList P ops (Exit.then K Q) []) (Exit.then K Q)):o.wp P a w K Q:=by
 have hk:∀a w,wpList P ops (Exit.then K Q) [] a w→K a w:=fun a w h=>by unfold wpList at h;exact h
 unfold Oper.wp at *;generalize (execOp a.eval o).run P w=r at *
 cases r with
 | ok nx w'=>
  cases nx<;>simp only [Oper.upon] at h ⊢
  case value u=>exact hk _ _ h
  case skip=>exact hk _ _ h
  case defer d=>exact hk _ _ h
  case enter f args=>
   refine Calls.mono h fun e w'' he=>?_
   cases e with
   | returned u=>exact hk _ _ he
   | panicked c=>exact he
   | outgrown=>exact he
  case row row args=>exact Rows.mono h fun u w'' he=>hk _ _ he
 | halt x w'=>
  cases x<;>simp only [Oper.upon] at h ⊢
  case panic u=>exact h
end
attribute [irreducible] TL AW
end Go.E
namespace Go.E
open Go
variable {P:Program}
end Go.E
namespace Go.E
open Go
variable {P:Program}
section
variable {Q:Exit→Act→World→Prop} {D:List Deferred} {n:Nat} {E:Env} {w:World} {l rest:List Oper} [Tab P] {x y:Operand} {t T e:TypeId} {r r':TRow} {d:Nat} {pos:String} {af:Array Edge} {v:Value}
omit [Tab P] in
theorem elem_of (h:P.underlying t=some (.slice e)):P.elem t=e:=by simp [Program.elem,h]
theorem Y.slice_from {lo:Operand} {k:IntKind} {p:Option Addr} {m c i:Nat} (hx:ev E x=some (.slice p m c)) (hl:ev E lo=some (.int k (i:Int))) (ht:Tab.row P t=some r) (hr:r.desc=.slice e) (he:Tab.row P e=some r') (hi:i≤m) :
  Y P D n E w {dst:=some d,op:=.slice t x (some lo) none none,type:=T,pos,after:=af,guard:=none} (.slice (if c=i then p else p.map (·.add (i*r'.size))) (m - i) (c - i)):=fun a ha=>by
 have hu:=under_slice ht hr;have hu':P.underlying t=some (.slice (P.elem t)):=by rw [elem_of hu];exact hu
 have e1:(Instr.sliceAt t (.slice p m c) (some (.int k (i:Int))) none none).run P w=.ok (.slice (if c=i then p else p.map (·.add (i*r'.size))) (m - i) (c - i)) w:=by
  rw [run_sliceAt_slice w t _ _ _ _ hu'];rw [run_slice_any w t p m c hu'];have hb:(Instr.sliceBounds true m c (some (.int k (i:Int))) none none).run P w=.ok (i,m,c) w:=by
   simp [Instr.sliceBounds,Instr.sliceBound,asIntOf,hi]
  rw [hb,elem_of hu];simp only [Result.andThen_ok,run_size he,sliced]
 simp only [execOp,ha.eval hx,ha.eval hl,Option.map_some,Option.map_none,Sem.run_bind,e1,Result.andThen_ok,Sem.run_pure]
theorem Y.load_cells {a0:Addr} {cs:List Value} (hx:ev E x=some (.pointer (some a0))) (hc:∀j u,cs[j]?=some u→w.cell? (a0.add j)=some u) (ht:Tab.row P t=some r) (hr:isAggD r.desc=true) (hs:r.size=cs.length):Y P D n E w {dst:=some d,op:=.load t x,type:=T,pos,after:=af,guard:=none} (.agg ⟨cs⟩):=
 (fun _ ha=>by
  have hl:(loadVar t a0).run P w=.ok (.agg ⟨cs⟩) w:=by
   unfold loadVar;rw [Sem.run_bind,run_isAgg ht];simp only [hr,Result.andThen_ok,if_true,Sem.run_bind,run_size ht,hs];rw [run_loadCells_list w a0 cs hc];rfl
  simp only [execOp,ha.eval hx,Instr.loadAt,Instr.sureAddr,Sem.run_bind,Sem.run_pure,Result.andThen_ok,hl])
theorem LW.load_cells {a0:Addr} {cs:List Value} (hx:ev E x=some (.pointer (some a0))) (hc:∀j u,cs[j]?=some u→w.cell? (a0.add j)=some u) (ht:Tab.row P t=some r) (hr:isAggD r.desc=true) (hs:r.size=cs.length) (hn:Nat.blt d n=true)
  (h:LW P l Q rest D n ((d,.agg ⟨cs⟩)::E) w):LW P l Q ({dst:=some d,op:=.load t x,type:=T,pos,after:=af,guard:=none}::rest) D n E w:=LW.val rfl rfl hn (Y.load_cells hx hc ht hr hs) h
end
def HW (P:Program) (S:World→Prop) (l:List Oper) (Q:Exit→Act→World→Prop) (f:Nat) (listed:List Bool) (D:List Deferred) (n:Nat) (E:Env) (w:World):Prop:=
 ∀a,Holds a D n E→S w→wpAnyH P .any l.toArray Q S f ⟨listed⟩ a w
section
variable {S:World→Prop} {Q:Exit→Act→World→Prop} {D:List Deferred} {n f:Nat} {E:Env} {w:World} {l:List Oper} {ls:List Bool}
theorem set_list (ls:List Bool) (i:Nat):(⟨ls⟩:Array Bool).setIfInBounds i true=⟨ls.set i true⟩:=by apply Array.ext';simp
end
attribute [irreducible] HW
end Go.E
namespace Go.E
open Go
section
variable {P:Program} {Q:Exit→Act→World→Prop} {D:List Deferred} {n:Nat} {E:Env} {w:World} {l rest:List Oper} [Tab P] {x y:Operand} {s f d T k t e:Nat} {pos:String} {af:Array Edge} {a0:Addr} {r r':TRow} {v:Value}
theorem Y.field_addr (hx:ev E x=some (.pointer (some a0))) (hk:fOff P s f=some k):Y P D n E w {dst:=some d,op:=.fieldAddr s x f,type:=T,pos,after:=af,guard:=none} (.pointer (some (a0.add k))):=fun a ha=>by
 unfold fOff at hk
 split at hk<;>try cases hk
 rename_i r hr
 split at hk<;>try cases hk
 rename_i fs hfs
 split at hk<;>try cases hk
 rename_i fld hfld
 split at hk<;>try cases hk
 rename_i r' hr';cases hz:Nat.beq r'.size 0<;>rw [hz] at hk<;>simp only [cond_true,cond_false,reduceCtorEq,Option.some.injEq] at hk;have hne:¬r'.size=0:=fun h0=>by rw [h0] at hz;cases hz
 obtain ⟨gs,hgs,hgf⟩:=under_struct hr hfs;have hfld':∃g,gs[f]?=some g∧bareF g=fld:=by
  rw [←hgf] at hfld
  simpa using hfld
 obtain ⟨g,hg1,hg2⟩:=hfld';subst hg2;have hr2:Tab.row P g.type=some r':=hr';have hk2:g.offset=k:=hk;simp only [execOp,Instr.fieldAt,ha.eval hx,Sem.run_bind,run_underlying hgs,Result.andThen_ok,hg1,Instr.sureAddr,Sem.run_pure,fieldPlace,run_size hr2,hne,if_false];rw [hk2]
theorem Ln (h:LW P l Q rest D n ((d,.pointer (some (a0.add k)))::E) w) (hx:ev E x=some (.pointer (some a0)):=by exact rfl) (hk:fOff P s f=some k:=by exact rfl) (hn:Nat.blt d n=true:=by exact rfl):LW P l Q ({dst:=some d,op:=.fieldAddr s x f,type:=T,pos,after:=af,guard:=none}::rest) D n E w:=LW.val rfl rfl hn (Y.field_addr hx hk) h
theorem Lo {kk:IntKind} {i:Int} {len cap:Nat} (h:LW P l Q rest D n ((d,.pointer (some (a0.add (i.toNat*r'.size))))::E) w) (hx:ev E x=some (.slice (some a0) len cap):=by exact rfl) (hi:ev E y=some (.int kk i):=by exact rfl) (ht:Tab.row P t=some r:=by exact rfl) (hr:r.desc=.slice e:=by exact rfl) (he:Tab.row P e=some r':=by exact rfl) (h0:0≤i:=by omega) (h1:i<len:=by omega) (hn:Nat.blt d n=true:=by exact rfl):LW P l Q ({dst:=some d,op:=.indexAddr t x y,type:=T,pos,after:=af,guard:=none}::rest) D n E w:=LW.idx_addr hx hi ht hr he h0 h1 hn h
end
end Go.E
namespace Go.E
open Go
section
variable {P:Program} [Tab P] {w:World} {lo:Nat} {t e:TypeId} {r r':TRow}
theorem run_app_src (ht:Tab.row P t=some r) (hr:r.desc=.slice e) (he:Tab.row P e=some r') (hz:Nat.beq r'.zero.cells.size r'.size=true) {tx:TypeId} {x:Value}
  {v:Value} {n m:Nat} {xs news:List Value} (hown:Own w lo e r'.size v n xs) (hlo:lo≤w.heap.size) (hs:Src P r'.size tx x m news w) (h63:n+m≤9223372036854775807) (hby:(n+m)*r'.bytes≤140737488355328) (ty:TypeId) :
  ∃v' w',(Builtin.append_ #[t,tx] ty #[v,x]).run P w=.ok v' w'∧Chg (vblk v) w w'∧Own w' lo e r'.size v' (n+m) (xs++news)∧(∀k,k∈vblk v'→k∈vblk v∨w.heap.size≤k):=by
 obtain ⟨d,hd,hb,i,hi,hiz,his,hib⟩:=Tab.ok e r' he;have hu:=under_slice ht hr;have hzs:r'.zero.cells.size=r'.size:=Nat.eq_of_beq_eq_true hz;have hl:=hs.newsLen;have h1:=hs.one;have hs':Src P i.size tx x m news w:=by rw [his];exact hs
 obtain ⟨hxl,⟨rfl,rfl⟩ | ⟨g,cap,sp,rfl,hG,h2,h3,h4⟩⟩:=hown
 ·have hx:xs=[]:=by cases xs with
   | nil=>rfl
   | cons a b=>simp at hxl
  subst hx;rcases Nat.eq_zero_or_pos m with rfl | hm
  ·have hn:news=[]:=by cases news with
    | nil=>rfl
    | cons a b=>simp at hl
   subst hn;exact ⟨_,_,run_append_nothing w t tx ty e i hu hi none 0 0 (by omega) x hs',Chg.refl _ _,Own.nil _ _ _ _,fun k hk=>.inl hk⟩
  ·have hrun:=run_append_grow_src (P:=P) w t tx ty e i r'.zero hu hi hiz none 0 0 [] (run_firstCells_none w.drew i.size 0 0 0) x m news hs' (by omega) (by omega) (by rw [hib];exact growslice_fits (by omega) hby);simp only [Nat.zero_add] at hrun;refine ⟨_,_,hrun,?_,?_,?_⟩
   ·exact (Ext.drew w).trans (Ext.alloc _ _)
   ·refine ⟨by simp [hl],.inr ⟨w.heap.size,_,(Builtin.zeroCells r'.zero.cells (grownCap w m 0 e - m)).toList,by rw [Nat.zero_add],?_,?_,?_,hlo⟩⟩
    ·have:=Blk.alloc w.drew (news++(Builtin.zeroCells r'.zero.cells (grownCap w m 0 e - m)).toList) e;have ea:([]++news).toArray++Builtin.zeroCells r'.zero.cells (grownCap w m 0 e - m)=(⟨news++(Builtin.zeroCells r'.zero.cells (grownCap w m 0 e - m)).toList⟩:Array Value):=by
      apply Array.ext';simp
     rw [ea];exact this
    ·have:=grownCap_ge w m 0 e;omega
    ·rw [zeroCells_length,hzs,Nat.zero_add]
   ·intro k hk;simp [vblk] at hk;exact .inr (by omega)
 ·by_cases hroom:n+m≤cap
  ·have hfit:n*i.size+news.length≤(⟨xs++sp⟩:Array Value).size:=by
    rw [his,hl,←hxl];simp only [List.size_toArray,List.length_append,h3];have:m*r'.size≤(cap - n)*r'.size:=Nat.mul_le_mul_right _ (by omega);omega
   have hst:=run_storeCells_at P g (n*i.size) e news 0 ⟨xs++sp⟩ w hG (by simpa using hfit) h1;simp only [Nat.add_zero] at hst;have e1:((⟨xs++sp⟩:Array Value).toList.take (n*i.size)++news++(⟨xs++sp⟩:Array Value).toList.drop (n*i.size+news.length))=xs++news++sp.drop news.length:=by
    rw [his,←hxl];simp
   rw [e1] at hst;have hrun:(Builtin.append_ #[t,tx] ty #[.slice (some ⟨g,0,none⟩) n cap,x]).run P w=.ok (.slice (some ⟨g,0,none⟩) (n+m) cap) (w.setRow g (xs++news++sp.drop news.length).toArray):=by
    rcases hs'.kind with ⟨e',hk⟩ | hk<;>simp [Builtin.append_,run_underlying hu,run_underlying hk,sizeOf,typeInfo,hi,hs'.len,hroom,hs'.cells,Addr.add_lit,hst]
   refine ⟨_,_,hrun,Chg.setRow _ _ _,⟨by simp [hxl,hl,Nat.add_mul],.inr ⟨g,cap,sp.drop news.length,rfl,hG.setRow _,hroom,?_,h4⟩⟩,?_⟩
   ·rw [List.length_drop,h3,hl,←Nat.sub_mul]
    congr 1
    omega
   ·intro k hk;exact .inl hk
  ·have hg:cap<n+m:=by omega
   have hrun:=run_append_grow_src (P:=P) w t tx ty e i r'.zero hu hi hiz (some ⟨g,0,none⟩) n cap xs (run_firstCells_some w.drew i.size n ⟨g,0,none⟩ n cap xs (by rw [his];exact hxl) (fun j u hj=>by
     have:=hG.getElem j u (by rw [List.getElem?_append_left (List.getElem?_eq_some_iff.1 hj).1];exact hj)
     simpa using this)) x m news hs' hg (by omega) (by rw [hib];exact growslice_fits hg hby)
   refine ⟨_,_,hrun,?_,?_,?_⟩
   ·exact ((Ext.drew w).trans (Ext.alloc _ _)).mono (by simp)
   ·refine ⟨by simp [hxl,hl,Nat.add_mul],.inr ⟨w.heap.size,_,(Builtin.zeroCells r'.zero.cells (grownCap w (n+m) cap e - (n+m))).toList,rfl,?_,grownCap_ge w (n+m) cap e,?_,hlo⟩⟩
    ·have:=Blk.alloc w.drew (xs++news++(Builtin.zeroCells r'.zero.cells (grownCap w (n+m) cap e - (n+m))).toList) e;have ea:(xs++news).toArray++Builtin.zeroCells r'.zero.cells (grownCap w (n+m) cap e - (n+m))=(⟨xs++news++(Builtin.zeroCells r'.zero.cells (grownCap w (n+m) cap e - (n+m))).toList⟩:Array Value):=by
      apply Array.ext';simp
     rw [ea];exact this
    ·rw [zeroCells_length,hzs]
   ·intro k hk;simp [vblk] at hk;exact .inr (by omega)
variable {Q:Exit→Act→World→Prop} {D:List Deferred} {n:Nat} {E:Env} {l rest:List Oper} {x y:Operand} {d T:Nat} {pos:String} {af:Array Edge}
theorem LW.append_str {v:Value} {k:Nat} {xs:List Value} {s:List UInt8} {tx:TypeId} {rx:TRow} (hx:ev E x=some v) (hy:ev E y=some (str s)) (ht:Tab.row P t=some r) (hr:r.desc=.slice e) (he:Tab.row P e=some r') (hz:Nat.beq r'.zero.cells.size r'.size=true) (hsz:Nat.beq r'.size 1=true) (htx:Tab.row P tx=some rx) (hrx:rx.desc=.string)
  (hown:Own w lo e 1 v k xs) (hlo:lo≤w.heap.size) (hby:(k+s.length)*(r'.bytes+1)≤140737488355328) (hn:Nat.blt d n=true)
  (h:∀v' w',Chg (vblk v) w w'→Own w' lo e 1 v' (k+s.length) (xs++bcells s)→(∀j,j∈vblk v'→j∈vblk v∨w.heap.size≤j)→LW P l Q rest D n ((d,v')::E) w') :
  LW P l Q ({dst:=some d,op:=.call {callee:=.builtin .append,args:=#[x,y],argTypes:=#[t,tx]},type:=T,pos,after:=af,guard:=none}::rest) D n E w:=by
 have h2:(k+s.length)*(r'.bytes+1)=(k+s.length)*r'.bytes+(k+s.length):=by rw [Nat.mul_add,Nat.mul_one]
 have h1:r'.size=1:=Nat.eq_of_beq_eq_true hsz;have hu:P.underlying tx=some .string:=by
  obtain ⟨dd,hh,hb,_⟩:=run_under htx;cases dd<;>simp [bare,hrx] at hb;exact hh
 have hsrc:Src P r'.size tx (str s) s.length (bcells s) w:=by
  rw [h1];exact Src.ofString w hu ⟨⟨s⟩⟩
 obtain ⟨v',w',hrun,hc,ho,hv⟩:=run_app_src ht hr he hz (by rw [h1];exact hown) hlo hsrc (by omega) (by omega) T;rw [h1] at ho;refine LW.val (w':=w') (v:=v') rfl rfl hn (fun a ha=>?_) (h v' w' hc ho hv);unfold execOp;simp only [resolve,invoke,builtin,Sem.run_bind,Sem.run_pure,Result.andThen_ok,List.map_toArray,List.map_cons,List.map_nil,ha.eval hx,ha.eval hy,hrun]
end
section
variable {P:Program} {Q:Exit→Act→World→Prop} {D:List Deferred} {n:Nat} {E:Env} {w:World} {l rest:List Oper} [Tab P] {x y:Operand} {s f d T k t e:Nat} {pos:String} {af:Array Edge} {a0:Addr} {r r':TRow} {v:Value}
theorem cell_keep {w w':World} (h:Ext w w') {a:Addr} {v:Value} (hc:w.cell? a=some v):w'.cell? a=some v:=by
 have hlt:=World.block_lt_of_cell? w a hc;rw [(Ext.toBelow h).cell hlt];exact hc
theorem Qn (h:QL P l Q rest D n ((d,.pointer (some (a0.add k)))::E) w) (hx:ev E x=some (.pointer (some a0)):=by exact rfl) (hk:fOff P s f=some k:=by exact rfl) (hn:Nat.blt d n=true:=by exact rfl):QL P l Q ({dst:=some d,op:=.fieldAddr s x f,type:=T,pos,after:=af,guard:=none}::rest) D n E w:=QL.yields rfl rfl hn (fun _ _=>Y.field_addr hx hk) h
theorem Qo {kk:IntKind} {i:Int} {len cap:Nat} (h:QL P l Q rest D n ((d,.pointer (some (a0.add (i.toNat*r'.size))))::E) w) (hx:ev E x=some (.slice (some a0) len cap):=by exact rfl) (hi:ev E y=some (.int kk i):=by exact rfl) (ht:Tab.row P t=some r:=by exact rfl) (hr:r.desc=.slice e:=by exact rfl) (he:Tab.row P e=some r':=by exact rfl) (h0:0≤i:=by omega) (h1:i<len:=by omega) (hn:Nat.blt d n=true:=by exact rfl):QL P l Q ({dst:=some d,op:=.indexAddr t x y,type:=T,pos,after:=af,guard:=none}::rest) D n E w:=QL.yields rfl rfl hn (fun _ _=>Y.idx_addr hx hi ht hr he h0 h1) h
end
end Go.E
namespace Go.E
open Go
section
variable {P:Program} [Tab P] {w:World} {lo:Nat} {t e:TypeId} {r r':TRow} {Q:Exit→Act→World→Prop} {D:List Deferred} {n:Nat} {E:Env} {l rest:List Oper} {x y:Operand} {d T:Nat} {pos:String} {af:Array Edge}
theorem LW.buildSlice0 (ht:Tab.row P t=some r) (hr:r.desc=.slice e) (he:Tab.row P e=some r') (hn:Nat.blt d n=true)
  (h:∀b w',b=w.heap.size→Ext w w'→Blk w' b [] e→LW P l Q rest D n ((d,.slice (some ⟨b,0,none⟩) 0 0)::E) w') :
  LW P l Q ({dst:=some d,op:=.buildSlice t 0 #[],type:=T,pos,after:=af,guard:=none}::rest) D n E w:=by
 have e3:(Instr.buildSlice t 0 #[]).run P w=.ok (.slice (some ⟨w.heap.size,0,none⟩) 0 0) (w.alloc (.cells ⟨[]⟩ e)):=by
  unfold Instr.buildSlice;simp only [Sem.run_bind,run_underlying (under_slice ht hr),Result.andThen_ok,run_size he,Nat.zero_mul,if_true];have e5:(Array.map (fun x=>(#[]:Array Value)[x % (#[]:Array Value).size]!) (Array.range 0))=⟨[]⟩:=by simp
  rw [if_neg (by decide)];simp only [Sem.run_bind,Sem.run_pure,Result.andThen_ok];rw [e5];rfl
 refine LW.val (w':=w.alloc (.cells ⟨[]⟩ e)) rfl rfl hn (fun a ha=>?_) (h _ _ rfl (Ext.alloc ..) (Blk.alloc ..));have e4:(execOp a.eval {dst:=some d,op:=.buildSlice t 0 #[],type:=T,pos,after:=af,guard:=none})=(do Pure.pure (Next.value (←Instr.buildSlice t 0 ((#[]:Array (Nat×Operand)).map (fun x=>(x.1,a.eval x.2)))))):=rfl;rw [e4,show ((#[]:Array (Nat×Operand)).map (fun x=>(x.1,a.eval x.2)))=#[] from by simp,Sem.run_bind,e3];rfl
theorem LW.append_any {v:Value} {k m c:Nat} {p:Option Addr} {xs news:List Value} (hx:ev E x=some v) (hy:ev E y=some (.slice p m c)) (ht:Tab.row P t=some r) (hr:r.desc=.slice e) (he:Tab.row P e=some r') (hz:Nat.beq r'.zero.cells.size r'.size=true)
  (hown:Own w lo e r'.size v k xs) (hlo:lo≤w.heap.size) (hl:news.length=m*r'.size) (hp:p=none∧m=0∨∃a,p=some a∧∀j u,news[j]?=some u→w.cell? (a.add j)=some u) (h1:∀u∈news,u.oneCell'=true) (hby:(k+m)*(r'.bytes+1)≤140737488355328) (hn:Nat.blt d n=true)
  (h:∀v' w',Chg (vblk v) w w'→Own w' lo e r'.size v' (k+m) (xs++news)→(∀j,j∈vblk v'→j∈vblk v∨w.heap.size≤j)→LW P l Q rest D n ((d,v')::E) w') :
  LW P l Q ({dst:=some d,op:=.call {callee:=.builtin .append,args:=#[x,y],argTypes:=#[t,t]},type:=T,pos,after:=af,guard:=none}::rest) D n E w:=by
 have h2:(k+m)*(r'.bytes+1)=(k+m)*r'.bytes+(k+m):=by rw [Nat.mul_add,Nat.mul_one]
 have hu:=under_slice ht hr;have hsrc:Src P r'.size t (.slice p m c) m news w:=by
  rcases hp with ⟨rfl,rfl⟩ | ⟨a,rfl,hc⟩
  ·have:news=[]:=List.eq_nil_of_length_eq_zero (by rw [hl,Nat.zero_mul]);subst this;exact Src.ofNil w hu c
  ·exact Src.ofSlice w hu a m c news hl hc h1
 obtain ⟨v',w',hrun,hc,ho,hv⟩:=run_app_src ht hr he hz hown hlo hsrc (by omega) (by omega) T;refine LW.val (w':=w') (v:=v') rfl rfl hn (fun a ha=>?_) (h v' w' hc ho hv);unfold execOp;simp only [resolve,invoke,builtin,Sem.run_bind,Sem.run_pure,Result.andThen_ok,List.map_toArray,List.map_cons,List.map_nil,ha.eval hx,ha.eval hy,hrun]
end
end Go.E
namespace Go.E
open Go
section
variable {P:Program} {w:World} {t:TypeId} {Q:Exit→Act→World→Prop} {D:List Deferred} {n:Nat} {E:Env} {l rest:List Oper} {x:Operand} {d T:Nat} {pos:String} {af:Array Edge}
theorem LW.neg {k:IntKind} {p z:Int} (hx:ev E x=some (.int k p)) (hz:k.wrap (0 - p)=z) (hn:Nat.blt d n=true) (h:LW P l Q rest D n ((d,.int k z)::E) w) :
  LW P l Q ({dst:=some d,op:=.unOp .neg t x,type:=T,pos,after:=af,guard:=none}::rest) D n E w:=by
 refine LW.val rfl rfl hn (fun a ha=>?_) h;rw [show (0:Int) - p=-p by omega] at hz;simp [execOp,ha.eval hx,Op.unary,Op.intArith,hz]
end
end Go.E
namespace Go.E
open Go
section
variable {P:Program} [Tab P] {w:World} {t:TypeId} {Q:Exit→Act→World→Prop} {D:List Deferred} {n:Nat} {E:Env} {l rest:List Oper} {x y:Operand} {d T:Nat} {pos:String} {af:Array Edge} {r:TRow} {e ty:TypeId}
theorem run_eq_sn (ht:Tab.row P t=some r) (hr:r.desc=.slice e) (p:Option Addr) (m c:Nat) (w:World) :
  (Op.equal t (.slice p m c) (.slice none 0 0)).run P w=.ok p.isNone w:=by
 have hu:=under_slice ht hr;unfold Op.equal;rw [show Op.maxDepth=9999+1 from rfl];unfold Op.equalIn;rw [Sem.run_bind,run_underlying hu];cases p<;>rfl
theorem Y.eql_sn {p:Option Addr} {m c:Nat} (hx:ev E x=some (.slice p m c)) (ht:Tab.row P t=some r) (hr:r.desc=.slice e) (dst:Option Tmp) :
  Y P D n E w {dst,op:=.binOp .eql t x (.const (.slice none 0 0)) ty,type:=T,pos,after:=af,guard:=none} (.bool p.isNone):=fun a ha=>by
 have hg:(eqGuard .eql t x (.const (.slice none 0 0)) (.slice p m c) (.slice none 0 0)).run P w=.ok () w:=rfl;have e2:a.eval (.const (.slice none 0 0))=.slice none 0 0:=rfl;simp only [execOp,ha.eval hx,e2,Sem.run_bind,hg,Result.andThen_ok,binOp,run_eq_sn ht hr,Sem.run_pure]
theorem LW.eql_sn {p:Option Addr} {m c:Nat} (hx:ev E x=some (.slice p m c)) (ht:Tab.row P t=some r) (hr:r.desc=.slice e) (hn:Nat.blt d n=true) (h:LW P l Q rest D n ((d,.bool p.isNone)::E) w) :
  LW P l Q ({dst:=some d,op:=.binOp .eql t x (.const (.slice none 0 0)) ty,type:=T,pos,after:=af,guard:=none}::rest) D n E w:=LW.val rfl rfl hn (Y.eql_sn hx ht hr _) h
end
end Go.E
namespace Go.E
open Go
theorem cell_chg {S:List Nat} {w w':World} (h:Chg S w w') {a:Addr} {v:Value} (hn:a.block∉S) (hc:w.cell? a=some v):w'.cell? a=some v:=by
 have hlt:=World.block_lt_of_cell? w a hc;rw [World.cell?_of_block (w:=w) (h.block a.block hlt hn)];exact hc
theorem add_zero' (a:Addr):a.add 0=a:=by simp [Addr.add]
theorem add_block (a:Addr) (k:Nat):(a.add k).block=a.block:=by unfold Addr.add;split<;>rfl
variable {α:Type}
abbrev Elem (α:Type):=Nat→World→List Value→α→Prop
def ListR (m:Nat) (ok:Addr→Prop) (R:Elem α) (w:World) (v:Value) (l:List α):Prop:=
 l.length≤1000000∧(v=.slice none 0 0∧l=[]∨∃a c,v=.slice (some a) l.length c∧(l≠[]→ok a)∧∀i x,l[i]?=some x→∃cs,cs.length=m∧R i w cs x∧∀j u,cs[j]?=some u→w.cell? ((a.add (i*m)).add j)=some u)
theorem ListR.slice {m:Nat} {ok:Addr→Prop} {R:Elem α} {w:World} {v:Value} {l:List α} (h:ListR m ok R w v l):∃p c,v=.slice p l.length c:=by
 obtain ⟨h0,⟨rfl,rfl⟩ | ⟨a,c,e,h⟩⟩:=h
 ·exact ⟨_,_,rfl⟩
 ·exact ⟨_,_,e⟩
theorem ListR.nil {m:Nat} {ok:Addr→Prop} {R:Elem α} {w:World}:ListR m ok R w (.slice none 0 0) []:=⟨by simp,.inl ⟨rfl,rfl⟩⟩
theorem ListR.at {m:Nat} {ok:Addr→Prop} {R:Elem α} {w:World} {p:Option Addr} {c:Nat} {l:List α} (h:ListR m ok R w (.slice p l.length c) l) {i:Nat} {x:α} (hi:l[i]?=some x):∃a cs,p=some a∧ok a∧cs.length=m∧R i w cs x∧∀j u,cs[j]?=some u→w.cell? ((a.add (((i:Nat):Int).toNat*m)).add j)=some u:=by
 obtain ⟨h0,⟨e,e2⟩ | ⟨a,cap,e,ho,h⟩⟩:=h
 ·rw [e2] at hi;simp at hi
 ·simp only [Value.slice.injEq] at e;obtain ⟨cs,h1,h2,h3⟩:=h i x hi;exact ⟨a,cs,e.1,ho (fun h=>by rw [h] at hi;simp at hi),h1,h2,h3⟩
theorem ListR.at1 {ok:Addr→Prop} {R:Elem α} {w:World} {p:Option Addr} {c:Nat} {l:List α} (h:ListR 1 ok R w (.slice p l.length c) l) {i:Nat} {x:α} (hi:l[i]?=some x):∃a u,p=some a∧ok a∧R i w [u] x∧w.cell? (a.add (((i:Nat):Int).toNat*1))=some u:=by
 obtain ⟨a,cs,h1,h2,h3,h4,h5⟩:=h.at hi
 match cs,h3 with
 | [u],_=>exact ⟨a,u,h1,h2,h4,by have:=h5 0 u rfl;rwa [add_zero'] at this⟩
theorem ListR.map {m:Nat} {ok ok':Addr→Prop} {R R':Elem α} {w:World} {v:Value} {l:List α} (h:ListR m ok R w v l) (ho:∀a,ok a→ok' a) (hR:∀i x cs,l[i]?=some x→R i w cs x→R' i w cs x):ListR m ok' R' w v l:=by
 obtain ⟨h0,h | ⟨a,c,e,hk,h⟩⟩:=h
 ·exact ⟨h0,.inl h⟩
 ·exact ⟨h0,.inr ⟨a,c,e,fun hl=>ho a (hk hl),fun i x hi=>let ⟨cs,h1,h2,h3⟩:=h i x hi;⟨cs,h1,hR i x cs hi h2,h3⟩⟩⟩
theorem ListR.chg {S:List Nat} {m:Nat} {ok:Addr→Prop} {R R':Elem α} {w w':World} {v:Value} {l:List α} (h:ListR m ok R w v l) (x:Chg S w w') (hs:l≠[]→∀a,ok a→a.block∉S) (hR:∀i y cs,l[i]?=some y→R i w cs y→R' i w' cs y):ListR m ok R' w' v l:=by
 obtain ⟨h0,h | ⟨a,c,e,hk,h⟩⟩:=h
 ·exact ⟨h0,.inl h⟩
 ·exact ⟨h0,.inr ⟨a,c,e,hk,fun i y hi=>let ⟨cs,h1,h2,h3⟩:=h i y hi;⟨cs,h1,hR i y cs hi h2,fun j u hj=>cell_chg x (by rw [add_block,add_block];exact hs (fun h=>by rw [h] at hi;simp at hi) a (hk fun h=>by rw [h] at hi;simp at hi)) (h3 j u hj)⟩⟩⟩
theorem flatten_get {m:Nat}:∀{css:List (List Value)} {sp:List Value} {i:Nat} {cs:List Value} {j:Nat},(∀cs∈css,cs.length=m)→css[i]?=some cs→j<m→(css.flatten++sp)[i*m+j]?=cs[j]?
 | [],_,_,_,_,_,h,_=>by simp at h
 | y::l,sp,0,x,j,hl,h,hj=>by
  simp at h;subst h;have:=hl y (List.mem_cons_self ..)
  rw [List.flatten_cons,List.append_assoc,Nat.zero_mul,Nat.zero_add,List.getElem?_append_left (by omega)]
 | y::l,sp,i+1,x,j,hl,h,hj=>by
  have ih:=flatten_get (css:=l) (sp:=sp) (i:=i) (cs:=x) (j:=j) (fun cs hc=>hl cs (List.mem_cons_of_mem _ hc)) (by simpa using h) hj;have hy:=hl y (List.mem_cons_self ..);rw [List.flatten_cons,List.append_assoc,List.getElem?_append_right (by rw [hy,Nat.add_mul];omega),←ih,hy]
  congr 1
  rw [Nat.add_mul];omega
theorem flatten_len {m:Nat}:∀{css:List (List Value)},(∀cs∈css,cs.length=m)→css.flatten.length=css.length*m
 | [],_=>by simp
 | y::l,hl=>by
  rw [List.flatten_cons,List.length_append,flatten_len (css:=l) (fun cs hc=>hl cs (List.mem_cons_of_mem _ hc)),hl y (List.mem_cons_self ..),List.length_cons,Nat.add_mul];omega
theorem flatten_set {m:Nat} {v:Value}:∀{css:List (List Value)} {sp:List Value} {i:Nat} {cs:List Value} {j:Nat},(∀cs∈css,cs.length=m)→css[i]?=some cs→j<m→(css.flatten++sp).set (i*m+j) v=(css.set i (cs.set j v)).flatten++sp
 | [],_,_,_,_,_,h,_=>by simp at h
 | y::l,sp,0,x,j,hl,h,hj=>by
  simp at h;subst h;have:=hl y (List.mem_cons_self ..)
  rw [List.flatten_cons,List.append_assoc,Nat.zero_mul,Nat.zero_add,List.set_append_left _ _ (by omega),List.set_cons_zero,List.flatten_cons,List.append_assoc]
 | y::l,sp,i+1,x,j,hl,h,hj=>by
  have ih:=flatten_set (v:=v) (css:=l) (sp:=sp) (i:=i) (cs:=x) (j:=j) (fun cs hc=>hl cs (List.mem_cons_of_mem _ hc)) (by simpa using h) hj;have hy:=hl y (List.mem_cons_self ..);rw [List.flatten_cons,List.append_assoc,List.set_append_right _ _ (by rw [hy,Nat.add_mul];omega),List.set_cons_succ,List.flatten_cons,List.append_assoc,←ih,hy]
  congr 2
  rw [Nat.add_mul];omega
theorem set_fill {z v:Value} {xs:List Value} {n k:Nat} (hx:xs.length=k) (hk:k<n):(xs++List.replicate (n - k) z).set k v=(xs++[v])++List.replicate (n - (k+1)) z:=by
 rw [List.set_append_right _ _ (by omega),hx,Nat.sub_self,show n - k=(n - (k+1))+1 by omega,List.replicate_succ,List.set_cons_zero];simp
theorem ListR.lt {m:Nat} {ok:Addr→Prop} {R:Elem α} {w:World} {v:Value} {l:List α} (h:ListR m ok R w v l) (hm:0<m) (hn:l≠[]):∃a c,v=.slice (some a) l.length c∧a.block<w.heap.size:=by
 obtain ⟨h0,⟨_,e⟩ | ⟨a,c,e,hk,h⟩⟩:=h
 ·exact absurd e hn
 ·obtain ⟨x,r,rfl⟩:=List.exists_cons_of_ne_nil hn;obtain ⟨cs,h1,_,h3⟩:=h 0 x rfl;obtain ⟨u,us,rfl⟩:=List.exists_cons_of_length_pos (by omega:0<cs.length);have:=World.block_lt_of_cell? w _ (h3 0 u rfl);rw [add_block,add_block] at this;exact ⟨a,c,e,this⟩
end Go.E
namespace Go.E
open Go
section
variable {P:Program} [Tab P] {w:World} {t:TypeId} {r:TRow} {Q:Exit→Act→World→Prop} {D:List Deferred} {n:Nat} {E:Env} {l rest:List Oper} {x:Operand} {d T:Nat} {pos:String} {af:Array Edge} {a0:Addr} {v:Value} {cs:List Value}
theorem Lu (h:LW P l Q rest D n ((d,v)::E) w) (hx:ev E x=some (.pointer (some a0)):=by exact rfl) (ht:Tab.row P t=some r:=by exact rfl) (hr:isAggD r.desc=false:=by exact rfl) (hc:w.cell? a0=some v:=by assumption) (hn:Nat.blt d n=true:=by exact rfl):LW P l Q ({dst:=some d,op:=.load t x,type:=T,pos,after:=af,guard:=none}::rest) D n E w:=LW.load_cell hx hc ht hr hn h
theorem Lv (h:LW P l Q rest D n ((d,.agg ⟨cs⟩)::E) w) (hx:ev E x=some (.pointer (some a0)):=by exact rfl) (ht:Tab.row P t=some r:=by exact rfl) (hr:isAggD r.desc=true:=by exact rfl) (hc:∀j u,cs[j]?=some u→w.cell? (a0.add j)=some u:=by assumption) (hs:r.size=cs.length:=by exact rfl) (hn:Nat.blt d n=true:=by exact rfl):LW P l Q ({dst:=some d,op:=.load t x,type:=T,pos,after:=af,guard:=none}::rest) D n E w:=LW.load_cells hx hc ht hr hs hn h
end
section
variable {P:Program} [Tab P] {w:World} {t:TypeId} {r:TRow} {Q:Exit→Act→World→Prop} {D:List Deferred} {n:Nat} {E:Env} {l rest:List Oper} {x:Operand} {d T:Nat} {pos:String} {af:Array Edge} {a0:Addr} {v:Value} {cs:List Value}
theorem Qu (h:QL P l Q rest D n ((d,v)::E) w) (hx:ev E x=some (.pointer (some a0)):=by exact rfl) (ht:Tab.row P t=some r:=by exact rfl) (hr:isAggD r.desc=false:=by exact rfl) (hc:w.cell? a0=some v:=by assumption) (hn:Nat.blt d n=true:=by exact rfl):QL P l Q ({dst:=some d,op:=.load t x,type:=T,pos,after:=af,guard:=none}::rest) D n E w:=QL.yields rfl rfl hn (fun _ hw=>Y.load_cell hx (cell_keep hw hc) ht hr) h
theorem Qv (h:QL P l Q rest D n ((d,.agg ⟨cs⟩)::E) w) (hx:ev E x=some (.pointer (some a0)):=by exact rfl) (ht:Tab.row P t=some r:=by exact rfl) (hr:isAggD r.desc=true:=by exact rfl) (hc:∀j u,cs[j]?=some u→w.cell? (a0.add j)=some u:=by assumption) (hs:r.size=cs.length:=by exact rfl) (hn:Nat.blt d n=true:=by exact rfl):QL P l Q ({dst:=some d,op:=.load t x,type:=T,pos,after:=af,guard:=none}::rest) D n E w:=QL.yields rfl rfl hn (fun _ hw=>Y.load_cells hx (fun j u hj=>cell_keep hw (hc j u hj)) ht hr hs) h
end
section
variable {P:Program} [Tab P] {w:World} {t e s f m:Nat} {r r':TRow} {Q:Exit→Act→World→Prop} {D:List Deferred} {n k:Nat} {E:Env} {l rest:List Oper} {x y:Operand} {d T:Nat} {pos:String} {af:Array Edge} {a0:Addr} {v:Value} {cs:List Value}
theorem Tn (h:TL P l m Q rest D n ((d,.pointer (some (a0.add k)))::E) w) (hx:ev E x=some (.pointer (some a0)):=by exact rfl) (hk:fOff P s f=some k:=by exact rfl) (hn:Nat.blt d n=true:=by exact rfl):TL P l m Q ({dst:=some d,op:=.fieldAddr s x f,type:=T,pos,after:=af,guard:=none}::rest) D n E w:=TL.yields rfl rfl hn (Y.field_addr hx hk) h
theorem To {kk:IntKind} {i:Int} {len cap:Nat} (h:TL P l m Q rest D n ((d,.pointer (some (a0.add (i.toNat*r'.size))))::E) w) (hx:ev E x=some (.slice (some a0) len cap):=by exact rfl) (hi:ev E y=some (.int kk i):=by exact rfl) (ht:Tab.row P t=some r:=by exact rfl) (hr:r.desc=.slice e:=by exact rfl) (he:Tab.row P e=some r':=by exact rfl) (h0:0≤i:=by omega) (h1:i<len:=by omega) (hn:Nat.blt d n=true:=by exact rfl):TL P l m Q ({dst:=some d,op:=.indexAddr t x y,type:=T,pos,after:=af,guard:=none}::rest) D n E w:=TL.yields rfl rfl hn (Y.idx_addr hx hi ht hr he h0 h1) h
theorem Tu (h:TL P l m Q rest D n ((d,v)::E) w) (hx:ev E x=some (.pointer (some a0)):=by exact rfl) (ht:Tab.row P t=some r:=by exact rfl) (hr:isAggD r.desc=false:=by exact rfl) (hc:w.cell? a0=some v:=by assumption) (hn:Nat.blt d n=true:=by exact rfl):TL P l m Q ({dst:=some d,op:=.load t x,type:=T,pos,after:=af,guard:=none}::rest) D n E w:=TL.yields rfl rfl hn (Y.load_cell hx hc ht hr) h
theorem Tv (h:TL P l m Q rest D n ((d,.agg ⟨cs⟩)::E) w) (hx:ev E x=some (.pointer (some a0)):=by exact rfl) (ht:Tab.row P t=some r:=by exact rfl) (hr:isAggD r.desc=true:=by exact rfl) (hc:∀j u,cs[j]?=some u→w.cell? (a0.add j)=some u:=by assumption) (hs:r.size=cs.length:=by exact rfl) (hn:Nat.blt d n=true:=by exact rfl):TL P l m Q ({dst:=some d,op:=.load t x,type:=T,pos,after:=af,guard:=none}::rest) D n E w:=TL.yields rfl rfl hn (Y.load_cells hx hc ht hr hs) h
end
end Go.E
namespace Go.E
open Go
section
variable {P:Program} {ops:Array Oper} {Q:Exit→Act→World→Prop} {md:Region.Mode} {S:World→Prop}
def wpAnyE (P:Program) (md:Region.Mode) (ops:Array Oper) (Q:Exit→Act→World→Prop) (S:World→Prop) (n:Nat):Nat→Array Bool→Act→World→Prop
 | 0,listed,a,w=>Region.ready md ops listed=[]∧Q .normal a w
 | f+1,listed,a,w=>(Region.ready md ops listed=[]→Q .normal a w)∧
  ∀i∈Region.ready md ops listed,wpOp P ops Q i (fun a' w'=>(i<n→S w')∧wpAnyE P md ops Q S n f (listed.setIfInBounds i true) a' w') a w
theorem wpAny_of_early {n:Nat}:∀(f:Nat) (listed:Array Bool) (a:Act) (w:World),wpAnyE P md ops Q S n f listed a w→wpAny P md ops Q f listed a w
 | 0,_,_,_,h=>h
 | f+1,_,_,_,h=>⟨h.1,fun i hi=>wpOp_mono (fun a' w' k=>wpAny_of_early f _ a' w' k.2) (h.2 i hi)⟩
theorem wpAnyE_first {n i:Nat} {oi:Oper} {v:Value} (hi:ops[i]?=some oi) (hsel:∀(j:Nat) (o:Oper) cs b,ops[j]?=some o→o.op≠.select cs b)
  (hsk:Region.sinkB md ops n=true) (hch:Region.chainB md ops n=true) (hn:n<ops.size) (hin:i<n) (hQ:∀c a w,Q (.panic c) (a.put oi.dst v) w→Q (.panic c) a w) :
  ∀(f:Nat) (listed:Array Bool) (a:Act) (w:World),HeadInv md ops n listed→
   (∀j oj,ops[j]?=some oj→j≠i→listed.getD j true=false→(∀e∈oj.after,Region.binds md e=true→e.on≠i)→oi.apart ops oj=true)→
   i∈Region.ready md ops listed→YieldsIf P ops S oi v a→S w→
   wpAnyE P md ops Q S n f (listed.setIfInBounds i true) (a.put oi.dst v) w→wpAnyE P md ops Q S n (f+1) listed a w:=by
 intro f
 induction f with
 | zero=>
  intro listed a w _ _ hr hy hS H;refine ⟨fun h=>(by rw [h] at hr;cases hr),fun j hj=>?_⟩;by_cases hji:j=i
  ·subst hji;exact hy.wpOp hi hS ⟨fun _=>hS,H⟩
  ·have:=ready_mono hj hji;rw [H.1] at this
   cases this
 | succ f ih=>
  intro listed a w inv hfree hr hy hS H;have hun:=(mem_ready.1 hr).1;refine ⟨fun h=>(by rw [h] at hr;cases hr),fun j hj=>?_⟩;by_cases hji:j=i
  ·subst hji;exact hy.wpOp hi hS ⟨fun _=>hS,H⟩
  have hjn:j<n:=Nat.lt_of_not_le fun h=>tail_waits hsk hch hn inv _ i rfl hin hun j h hj;obtain ⟨hjun,oj,hoj,hall⟩:=mem_ready.1 hj;have hnot:∀e∈oj.after,Region.binds md e=true→e.on≠i:=fun e he hb heq=>by
   have h1:=hall e he hb;rw [heq,getD_both hun] at h1;cases h1
  have h2:=wpOp_putIf hoj (hfree j oj hoj hji hjun hnot) (fun cs b=>hsel i oi cs b hi) (fun cs b=>hsel j oj cs b hoj) hQ hy (H.2 j (ready_mono hj hji));have hfree':∀k ok,ops[k]?=some ok→k≠i→(listed.setIfInBounds j true).getD k true=false→(∀e∈ok.after,Region.binds md e=true→e.on≠i)→oi.apart ops ok=true:=fun k ok hk hki hku hno=>by
   by_cases hjk:j=k
   ·subst hjk;exact hfree j ok hk hki hjun hno
   ·rw [getD_set_ne true hjk] at hku;exact hfree k ok hk hki hku hno
  refine wpOp_mono (fun a' w' h3=>⟨fun _=>h3.2.1 hjn,ih _ a' w' (inv.set hj hjn) hfree' (ready_mono hr (Ne.symm hji)) h3.1 (h3.2.1 hjn) ?_⟩) h2;rw [Array.setIfInBounds_comm _ _ hji];exact h3.2.2
end
def GW (P:Program) (S:World→Prop) (l:List Oper) (n:Nat) (Q:Exit→Act→World→Prop) (f:Nat) (ls:List Bool) (D:List Deferred) (m:Nat) (E:Env) (w:World):Prop:=
 ∀a,Holds a D m E→S w→HeadInv .any l.toArray n ⟨ls⟩→wpAnyE P .any l.toArray Q S n f ⟨ls⟩ a w
section
variable {P:Program} {S:World→Prop} {Q:Exit→Act→World→Prop} {D:List Deferred} {n m f d j t:Nat} {E:Env} {w:World} {l:List Oper} {ls ls':List Bool} {o:Oper} {v:Value} {op:Op} {T:TypeId} {pos:String} {af:Array Edge}
def tailOk (l:List Oper) (n:Nat):Bool:=Region.noSelect l.toArray&&decide (n<l.length)&&Region.sinkB .any l.toArray n&&Region.chainB .any l.toArray n
theorem CW.drawG {t:Nat} (S:World→Prop) (n:Nat) (hS:∀w',Ext w w'→S w') (hm:P.follows .mixedOrders=true) (h:∀w',Ext w w'→GW P S l n Q l.length (List.replicate l.length false) D m E w'):CW P (.region t l.toArray true) Q D m E w:=by
 unfold CW;refine fun a ha=>wp_region_any hm (wpAny_of_early (S:=S) (n:=n) _ _ _ _ ?_);have inv0:HeadInv .any l.toArray n (Array.replicate l.toArray.size false):=
  ⟨by simp,fun j oj _ hl=>(by rw [getD_replicate_false] at hl;cases hl),fun t _ ht=>getD_in (by simpa using ht) (getD_replicate_false _ _)⟩
 have e:(⟨List.replicate l.length false⟩:Array Bool)=Array.replicate l.toArray.size false:=by simp
 have:=h _ (Ext.drew w) a ha (hS _ (Ext.drew w)) (by rw [e];exact inv0);rw [e] at this
 simpa using this
theorem GW.know {t:Nat} {b c:Bool} (ht:look E t=some (.bool b)) (hb:b=c) (h:GW P S l n Q f ls D m ((t,.bool c)::E) w):GW P S l n Q f ls D m E w:=fun a ha=>h a (ha.sub (Sub.know ht hb))
theorem GW.take (i:Nat) {d:Nat} (hi:l[i]?=some o) (hg:o.guard=none) (hd:o.dst=some d) (hm:Nat.blt d m=true) (hy:∀w,S w→Y P D m E w o v) (hl:ls.set i true=ls') (hin:Nat.blt i n=true) (hk:tailOk l n=true)
  (hf:Region.free .any l.toArray ⟨ls⟩ i=true) (hr:(Region.ready .any l.toArray ⟨ls⟩).contains i=true) (ht:∀c a w,Q (.panic c) (a.put o.dst v) w→Q (.panic c) a w)
  (h:GW P S l n Q f ls' D m ((d,v)::E) w):GW P S l n Q (f+1) ls D m E w:=fun a ha hS inv=>by
 subst hl;simp only [tailOk,Bool.and_eq_true,decide_eq_true_eq] at hk;have hin':i<n:=Nat.le_of_ble_eq_true hin;have hr':i∈Region.ready .any l.toArray ⟨ls⟩:=by simpa using hr
 have hi':l.toArray[i]?=some o:=by simpa using hi
 refine wpAnyE_first hi' (Region.noSelect_spec hk.1.1.1) hk.1.2 hk.2 (by simpa using hk.1.1.2) hin' ht f _ a w inv (Region.free_spec hi' hf) hr' (.inl ⟨by simp [Region.wanted,hg],fun w hw=>hy w hw a ha⟩) hS ?_;have inv':=inv.set hr' hin';rw [set_list] at inv' ⊢;rw [hd];exact h _ (ha.put d v hm) hS inv'
theorem GW.takeW (i:Nat) {b:Bool} (hi:l[i]?=some {dst:=some d,op,type:=T,pos,after:=af,guard:=some (j,b)}) (hm:Nat.blt d m=true) (hj:dstAt l j=some t) (hb:look E t=some (.bool b)) (hy:∀w,S w→Y P D m E w {dst:=some d,op,type:=T,pos,after:=af,guard:=none} v) (hl:ls.set i true=ls') (hin:Nat.blt i n=true) (hk:tailOk l n=true)
  (hf:Region.free .any l.toArray ⟨ls⟩ i=true) (hr:(Region.ready .any l.toArray ⟨ls⟩).contains i=true) (ht:∀c a w,Q (.panic c) (a.put (some d) v) w→Q (.panic c) a w)
  (h:GW P S l n Q f ls' D m ((d,v)::E) w):GW P S l n Q (f+1) ls D m E w:=fun a ha hS inv=>by
 subst hl;simp only [tailOk,Bool.and_eq_true,decide_eq_true_eq] at hk;have hin':i<n:=Nat.le_of_ble_eq_true hin;have hr':i∈Region.ready .any l.toArray ⟨ls⟩:=by simpa using hr
 have hyy:=yielded_of (l:=l) ha hj hb;have hi':l.toArray[i]?=some {dst:=some d,op,type:=T,pos,after:=af,guard:=some (j,b)}:=by simpa using hi
 refine wpAnyE_first (v:=v) hi' (Region.noSelect_spec hk.1.1.1) hk.1.2 hk.2 (by simpa using hk.1.1.2) hin' ht f _ a w inv (Region.free_spec hi' hf) hr' (.inl ⟨by simp [Region.wanted,hyy],fun w hw=>hy w hw a ha⟩) hS ?_;have inv':=inv.set hr' hin';rw [set_list] at inv' ⊢;exact h _ (ha.put d v hm) hS inv'
theorem GW.skip (i:Nat) {b c:Bool} (hi:l[i]?=some o) (hg:o.guard=some (j,b)) (hd:o.dst=some d) (hm:Nat.blt d m=true) (hj:dstAt l j=some t) (hb:look E t=some (.bool c)) (hne:(c == b)=false) (hl:ls.set i true=ls') (hin:Nat.blt i n=true) (hk:tailOk l n=true)
  (hf:Region.free .any l.toArray ⟨ls⟩ i=true) (hr:(Region.ready .any l.toArray ⟨ls⟩).contains i=true) (ht:∀c a w,Q (.panic c) (a.put o.dst undef) w→Q (.panic c) a w)
  (h:GW P S l n Q f ls' D m ((d,undef)::E) w):GW P S l n Q (f+1) ls D m E w:=fun a ha hS inv=>by
 subst hl;simp only [tailOk,Bool.and_eq_true,decide_eq_true_eq] at hk;have hin':i<n:=Nat.le_of_ble_eq_true hin;have hr':i∈Region.ready .any l.toArray ⟨ls⟩:=by simpa using hr
 have hyy:=yielded_of (l:=l) ha hj hb;have hw:Region.wanted o (yielded l.toArray a.tmps)=false:=by
  simp only [Region.wanted,hg,hyy];cases c<;>cases b<;>first | rfl | cases hne
 have hi':l.toArray[i]?=some o:=by simpa using hi
 refine wpAnyE_first (v:=undef) hi' (Region.noSelect_spec hk.1.1.1) hk.1.2 hk.2 (by simpa using hk.1.1.2) hin' ht f _ a w inv (Region.free_spec hi' hf) hr' (.inr ⟨hw,rfl⟩) hS ?_;have inv':=inv.set hr' hin';rw [set_list] at inv' ⊢;rw [hd];exact h _ (ha.put d _ hm) hS inv'
def Gp (P:Program) (S:World→Prop) (l:List Oper) (n:Nat) (Q:Exit→Act→World→Prop) (f:Nat) (ls:List Bool):Act→World→Prop:=fun a w=>S w∧(HeadInv .any l.toArray n ⟨ls⟩→wpAnyE P .any l.toArray Q S n f ⟨ls⟩ a w)
theorem G_key {i:Nat} (hi:l[i]?=some o) (inv:HeadInv .any l.toArray n ⟨ls⟩) (hr:i∈Region.ready .any l.toArray ⟨ls⟩) (hin:i<n) {a:Act} (ha:Holds a D m E) (h:LW P l (Exit.then (Gp P S l n Q f (ls.set i true)) Q) [o] D m E w) :
  wpOp P l.toArray Q i (fun a' w'=>(i<n→S w')∧wpAnyE P .any l.toArray Q S n f ((⟨ls⟩:Array Bool).setIfInBounds i true) a' w') a w:=by
 have inv':=inv.set hr hin;unfold LW at h;have h1:=h a ha;rw [set_list] at inv' ⊢;have hi':l.toArray[i]?=some o:=by simpa using hi
 have h2:wpOp P l.toArray Q i (Gp P S l n Q f (ls.set i true)) a w:=by
  unfold wpOp;simp only [hi'];unfold wpList at h1
  split
  ·rename_i hw;rw [if_pos hw] at h1;exact h1.imp wp_then (fun hh=>hh)
  ·rename_i hw;rw [if_neg hw] at h1;unfold wpList at h1;exact h1
 exact wpOp_mono (fun a' w' k=>⟨fun _=>k.1,k.2 inv'⟩) h2
theorem GW.one (i:Nat) (hr:Region.ready .any l.toArray ⟨ls⟩=[i]) (hi:l[i]?=some o) (hl:ls.set i true=ls') (hin:Nat.blt i n=true) (h:S w→LW P l (Exit.then (Gp P S l n Q f ls') Q) [o] D m E w):GW P S l n Q (f+1) ls D m E w:=fun a ha hS inv=>by
 subst hl;refine ⟨fun h0=>(by rw [hr] at h0;cases h0),fun k hk=>?_⟩;have hk':=hk;rw [hr] at hk;obtain rfl:k=i:=by simpa using hk
 exact G_key hi inv hk' (Nat.le_of_ble_eq_true hin) ha (h hS)
theorem QW.headed {Q':Exit→Act→World→Prop} (hS:S w) (h:GW P S l n Q f ls D m E w):QW (Exit.then (Gp P S l n Q f ls) Q') .normal D m E w:=by
 unfold QW;exact fun a ha=>⟨hS,fun inv=>h a ha hS inv⟩
theorem early_of_any:∀(f:Nat) (listed:Array Bool) (a:Act) (w:World),(∀i,i<n→listed.getD i true=true)→wpAny P .any l.toArray Q f listed a w→wpAnyE P .any l.toArray Q S n f listed a w
 | 0,_,_,_,_,h=>h
 | f+1,listed,a,w,hd,h=>⟨h.1,fun i hi=>by
  have hin:n≤i:=Nat.le_of_not_lt fun hlt=>by
   have:=(mem_ready.1 hi).1;rw [hd i hlt] at this;cases this
  refine wpOp_mono (fun a' w' k=>⟨fun hlt=>by omega,early_of_any f _ a' w' (fun j hj=>?_) k⟩) (h.2 i hi);rw [getD_set_ne true (by omega)];exact hd j hj⟩
theorem GW.tail (hf:f=(l.drop n).length) (hb:(Region.seqB .any l.toArray f n ⟨ls⟩&&(ls.take n).all (fun b=>b))=true) (h:S w→LW P l Q (l.drop n) D m E w):GW P S l n Q f ls D m E w:=fun a ha hS _=>by
 subst hf;have h1:=h hS;unfold LW at h1;simp only [Bool.and_eq_true] at hb;refine early_of_any _ _ a w (fun i hi=>?_) (wpAny_of_seq (l.drop n) n _ a w (fun j=>by simp [List.getElem?_drop]) hb.1 (h1 a ha));have h2:=List.all_eq_true.1 hb.2;by_cases hi':i<ls.length
 ·have h3:ls[i]∈ls.take n:=List.mem_iff_getElem.2 ⟨i,by simp;omega,by simp⟩;have h4:ls[i]=true:=h2 _ h3;simp [hi',h4]
 ·simp [hi']
end
def pureK:Op→Bool
 | .move _ | .assign _ | .pick .. | .binOp .. | .unOp .. | .extract .. | .fieldAddr .. | .indexAddr .. | .load .. | .convert .. | .build ..=>true
 | .call ⟨.builtin .len,_,_⟩=>true
 | _=>false
def bindG:Ground→Bool
 | .gcOnly _ | .textOnly _=>false
 | _=>true
def nextP (all:List Bool):List Oper→List Bool→Nat
 | o::r,b::bs=>bif b then nextP all r bs+1 else bif pureK o.op&&o.after.toList.all (fun e=>bif bindG e.ground then all.getD e.on false else true) then 0 else nextP all r bs+1
 | _,_=>0
section
variable {P:Program} {S:World→Prop} {Q:Exit→Act→World→Prop} {D:List Deferred} {n m f d:Nat} {E:Env} {w:World} {l:List Oper} {ls ls':List Bool} {v:Value} {op:Op} {T:TypeId} {pos:String} {af:Array Edge}
theorem Gt (h:GW P S l n Q f ls' D m ((d,v)::E) w) (hi:l[nextP ls l ls]?=some {dst:=some d,op,type:=T,pos,after:=af,guard:=none}:=by exact rfl) (hm:Nat.blt d m=true:=by exact rfl)
  (hy:∀w,S w→Y P D m E w {dst:=some d,op,type:=T,pos,after:=af,guard:=none} v:=by first | exact fun _ _=>Y.pure (by exact rfl) | exact fun _ _=>Y.field_addr (by exact rfl) (by exact rfl) | exact fun _ _=>Y.idx_addr (by exact rfl) (by exact rfl) (by exact rfl) (by exact rfl) (by exact rfl) (by omega) (by omega) | exact fun _ hw=>Y.load (by exact rfl) (Blk.ext (by assumption) hw) (by exact rfl) (by exact rfl) (by exact rfl) | exact fun _ hw=>Y.load (by exact rfl) (Blk.chg (by assumption) hw (by assumption)) (by exact rfl) (by exact rfl) (by exact rfl) | exact fun _ hw=>Y.load_all (by exact rfl) (Blk.ext (by assumption) hw) (by exact rfl) (by exact rfl) (by exact rfl) | exact fun _ hw=>Y.load_all (by exact rfl) (Blk.chg (by assumption) hw (by assumption)) (by exact rfl) (by exact rfl) (by exact rfl) | exact fun _ hw=>Y.load_cell (by exact rfl) (cell_keep hw (by assumption)) (by exact rfl) (by exact rfl) | exact fun _ hw=>Y.load_cell (by exact rfl) (cell_chg hw (by assumption) (by assumption)) (by exact rfl) (by exact rfl) | exact fun _ hw=>Y.load_cells (by exact rfl) (fun j u hj=>cell_keep hw (by apply_assumption;exact hj)) (by exact rfl) (by exact rfl) (by exact rfl) | exact fun _ _=>Y.go (by exact rfl) (by first | omega | exact ⟨by omega,by omega⟩ | exact ⟨by omega,by omega,by omega⟩ | (simp<;>omega)))
  (hl:ls.set (nextP ls l ls) true=ls':=by exact rfl) (hin:Nat.blt (nextP ls l ls) n=true:=by kernel_rfl) (hk:tailOk l n=true:=by kernel_rfl) (hf:Region.free .any l.toArray ⟨ls⟩ (nextP ls l ls)=true:=by kernel_rfl) (hr:(Region.ready .any l.toArray ⟨ls⟩).contains (nextP ls l ls)=true:=by kernel_rfl) (ht:∀c a w,Q (.panic c) (a.put (some d) v) w→Q (.panic c) a w:=by exact fun _ _ _ h=>h):GW P S l n Q (f+1) ls D m E w:=GW.take _ hi rfl rfl hm hy hl hin hk hf hr ht h
end
attribute [irreducible] GW
theorem Sg {G G':Prop} (h:G') (hi:Hd G'→G:=by intro h;(repeat (refine Gt ?_));exact h.h):G:=hi ⟨h⟩
end Go.E
namespace Go.E
open Go
variable {P:Program}
section
variable {Q:Exit→Act→World→Prop} {D:List Deferred} {n:Nat} {E:Env} {w:World} {l rest:List Oper} [Tab P] {x y:Operand} {t T e:TypeId} {r r':TRow} {d:Nat} {pos:String} {af:Array Edge} {v:Value}
theorem Y.slice_hi {hi:Operand} {k:IntKind} {p:Option Addr} {m c j:Nat} (hx:ev E x=some (.slice p m c)) (hl:ev E hi=some (.int k (j:Int))) (ht:Tab.row P t=some r) (hr:r.desc=.slice e) (he:Tab.row P e=some r') (hj:j≤c) :
  Y P D n E w {dst:=some d,op:=.slice t x none (some hi) none,type:=T,pos,after:=af,guard:=none} (.slice p j c):=fun a ha=>by
 have hu:=under_slice ht hr;have hu':P.underlying t=some (.slice (P.elem t)):=by rw [elem_of hu];exact hu
 have e0:p.map (·.add 0)=p:=by cases p<;>simp [Addr.add]
 have e1:(Instr.sliceAt t (.slice p m c) none (some (.int k (j:Int))) none).run P w=.ok (.slice p j c) w:=by
  rw [run_sliceAt_slice w t _ _ _ _ hu',run_slice_any w t p m c hu'];have hb:(Instr.sliceBounds true m c none (some (.int k (j:Int))) none).run P w=.ok (0,j,c) w:=by
   simp [Instr.sliceBounds,Instr.sliceBound,asIntOf,hj]
  rw [hb,elem_of hu];simp only [Result.andThen_ok,run_size he,sliced,Nat.zero_mul,e0,ite_self,Nat.sub_zero]
 simp only [execOp,ha.eval hx,ha.eval hl,Option.map_some,Option.map_none,Sem.run_bind,e1,Result.andThen_ok,Sem.run_pure]
theorem LW.slice_hi {hi:Operand} {k:IntKind} {p:Option Addr} {m c j:Nat} (hx:ev E x=some (.slice p m c)) (hl:ev E hi=some (.int k (j:Int))) (ht:Tab.row P t=some r) (hr:r.desc=.slice e) (he:Tab.row P e=some r') (hj:j≤c) (hn:Nat.blt d n=true)
  (h:LW P l Q rest D n ((d,.slice p j c)::E) w):LW P l Q ({dst:=some d,op:=.slice t x none (some hi) none,type:=T,pos,after:=af,guard:=none}::rest) D n E w:=LW.val rfl rfl hn (Y.slice_hi hx hl ht hr he hj) h
theorem Y.slice_mid {lo hi:Operand} {k k':IntKind} {p:Option Addr} {m c i j:Nat} (hx:ev E x=some (.slice p m c)) (hl:ev E lo=some (.int k (i:Int))) (hh:ev E hi=some (.int k' (j:Int))) (ht:Tab.row P t=some r) (hr:r.desc=.slice e) (he:Tab.row P e=some r') (hi':i≤j) (hj:j≤c) :
  Y P D n E w {dst:=some d,op:=.slice t x (some lo) (some hi) none,type:=T,pos,after:=af,guard:=none} (.slice (if c=i then p else p.map (·.add (i*r'.size))) (j - i) (c - i)):=fun a ha=>by
 have hu:=under_slice ht hr;have hu':P.underlying t=some (.slice (P.elem t)):=by rw [elem_of hu];exact hu
 have e1:(Instr.sliceAt t (.slice p m c) (some (.int k (i:Int))) (some (.int k' (j:Int))) none).run P w=.ok (.slice (if c=i then p else p.map (·.add (i*r'.size))) (j - i) (c - i)) w:=by
  rw [run_sliceAt_slice w t _ _ _ _ hu',run_slice_any w t p m c hu'];have hb:(Instr.sliceBounds true m c (some (.int k (i:Int))) (some (.int k' (j:Int))) none).run P w=.ok (i,j,c) w:=by
   simp [Instr.sliceBounds,Instr.sliceBound,asIntOf,hi',hj]
  rw [hb,elem_of hu];simp only [Result.andThen_ok,run_size he,sliced]
 simp only [execOp,ha.eval hx,ha.eval hl,ha.eval hh,Option.map_some,Option.map_none,Sem.run_bind,e1,Result.andThen_ok,Sem.run_pure]
theorem LW.slice_mid {lo hi:Operand} {k k':IntKind} {p:Option Addr} {m c i j:Nat} (hx:ev E x=some (.slice p m c)) (hl:ev E lo=some (.int k (i:Int))) (hh:ev E hi=some (.int k' (j:Int))) (ht:Tab.row P t=some r) (hr:r.desc=.slice e) (he:Tab.row P e=some r') (hi':i≤j) (hj:j≤c) (hn:Nat.blt d n=true)
  (h:LW P l Q rest D n ((d,.slice (if c=i then p else p.map (·.add (i*r'.size))) (j - i) (c - i))::E) w):LW P l Q ({dst:=some d,op:=.slice t x (some lo) (some hi) none,type:=T,pos,after:=af,guard:=none}::rest) D n E w:=LW.val rfl rfl hn (Y.slice_mid hx hl hh ht hr he hi' hj) h
end
end Go.E
namespace Go.E
open Go
section
variable {P:Program} [Tab P] {w:World} {t e T T':TypeId} {r r':TRow} {Q:Exit→Act→World→Prop} {D:List Deferred} {n b i d len:Nat} {E:Env} {l rest:List Oper} {L cs:List Value} {x y:Operand} {v:Value} {pos:String} {af:Array Edge}
theorem Lws (h:∀w',Chg [b] w w'→Blk w' b cs T'→LW P l Q rest D n E w') (hx:ev E x=some (.pointer (some ⟨b,0,none⟩)):=by exact rfl) (hy:ev E y=some (.agg ⟨cs⟩):=by exact rfl) (h1:cs.all (·.oneCell')=true:=by exact rfl) (hB:Blk w b L T':=by assumption) (hi:Nat.beq cs.length L.length=true:=by exact rfl) (ht:Tab.row P t=some r:=by exact rfl) (hs:Nat.beq r.size cs.length=true:=by exact rfl):LW P l Q ({dst:=none,op:=.store t x y,type:=T,pos,after:=af,guard:=none}::rest) D n E w:=LW.store_all hx hy h1 hB hi ht hs h
theorem Lwt (h:∀w',Chg [b] w w'→Blk w' b (L.set i v) T'→LW P l Q rest D n E w') (hx:ev E x=some (.pointer (some ⟨b,i,none⟩)):=by exact rfl) (hy:ev E y=some v:=by exact rfl) (h1:v.oneCell'=true:=by exact rfl) (hB:Blk w b L T':=by assumption) (hi:Nat.blt i L.length=true:=by exact rfl) (ht:Tab.row P t=some r:=by exact rfl) (hs:Nat.beq r.size 1=true:=by exact rfl):LW P l Q ({dst:=none,op:=.store t x y,type:=T,pos,after:=af,guard:=none}::rest) D n E w:=LW.store hx hy h1 hB hi ht hs h
theorem Lwl {parts:List (Nat×Operand)} {vs:List (Nat×Value)} (h:∀b w',b=w.heap.size→Ext w w'→Blk w' b cs e→LW P l Q rest D n ((d,.slice (some ⟨b,0,none⟩) len len)::E) w') (hp:evp E parts=some vs:=by exact rfl) (ht:Tab.row P t=some r:=by exact rfl) (hr:r.desc=.slice e:=by exact rfl) (he:Tab.row P e=some r':=by exact rfl) (hl:Nat.ble (len*r'.size) 16777216=true:=by exact rfl) (hl0:Nat.blt 0 (len*r'.size)=true:=by exact rfl) (hz:Nat.beq r'.zero.cells.toList.length r'.size=true:=by exact rfl) (hc:fillG (fun i=>some (i*r'.size,r'.size)) (repL r'.zero.cells.toList len) vs=some cs:=by exact rfl) (hn:Nat.blt d n=true:=by exact rfl):LW P l Q ({dst:=some d,op:=.buildSlice t len ⟨parts⟩,type:=T,pos,after:=af,guard:=none}::rest) D n E w:=LW.buildSlice hp ht hr he hl hl0 hz hc hn h
theorem Lwa (h:∀b w',b=w.heap.size→Ext w w'→Blk w' b cs t→LW P l Q rest D n ((d,.pointer (some ⟨b,0,none⟩))::E) w') (ht:Tab.row P t=some r:=by exact rfl) (hz:r.zero.cells.toList=cs:=by exact rfl) (hn:Nat.blt d n=true:=by exact rfl):LW P l Q ({dst:=some d,op:=.alloc t,type:=T,pos,after:=af,guard:=none}::rest) D n E w:=LW.alloc ht hz hn h
omit [Tab P] in
theorem Lwb (h:∀b w',b=w.heap.size→Ext w w'→Blk w' b cs t→LW P l Q rest D n ((d,.pointer (some ⟨b,0,none⟩))::E) w') (hx:ev E x=some v:=by exact rfl) (hz:v.cells.toList=cs:=by exact rfl) (hn:Nat.blt d n=true:=by exact rfl):LW P l Q ({dst:=some d,op:=.box t x,type:=T,pos,after:=af,guard:=none}::rest) D n E w:=LW.box hx hz hn h
omit [Tab P] in
theorem Cwc {c:Operand} {a:Bool} {u z:Code} (ht:a=true→CW P u Q D n E w) (hf:a=false→CW P z Q D n E w) (hc:ev E c=some (.bool a):=by exact rfl):CW P (.cond c u z) Q D n E w:=CW.cond hc ht hf
end
section
variable {P:Program} {Q:Exit→Act→World→Prop} {D:List Deferred} {n:Nat} {E:Env} {w:World} {l rest:List Oper}
theorem Sub1 {E:Env} {t0:Nat} {v0:Value} (h0:look E t0=some v0:=by exact rfl):Sub [(t0,v0)] E:=Sub.cons h0 (Sub.nil)
theorem Sub2 {E:Env} {t0:Nat} {v0:Value} {t1:Nat} {v1:Value} (h0:look E t0=some v0:=by exact rfl) (h1:look E t1=some v1:=by exact rfl):Sub [(t0,v0),(t1,v1)] E:=Sub.cons h0 (Sub.cons h1 (Sub.nil))
theorem Sub3 {E:Env} {t0:Nat} {v0:Value} {t1:Nat} {v1:Value} {t2:Nat} {v2:Value} (h0:look E t0=some v0:=by exact rfl) (h1:look E t1=some v1:=by exact rfl) (h2:look E t2=some v2:=by exact rfl):Sub [(t0,v0),(t1,v1),(t2,v2)] E:=Sub.cons h0 (Sub.cons h1 (Sub.cons h2 (Sub.nil)))
theorem Sub4 {E:Env} {t0:Nat} {v0:Value} {t1:Nat} {v1:Value} {t2:Nat} {v2:Value} {t3:Nat} {v3:Value} (h0:look E t0=some v0:=by exact rfl) (h1:look E t1=some v1:=by exact rfl) (h2:look E t2=some v2:=by exact rfl) (h3:look E t3=some v3:=by exact rfl):Sub [(t0,v0),(t1,v1),(t2,v2),(t3,v3)] E:=Sub.cons h0 (Sub.cons h1 (Sub.cons h2 (Sub.cons h3 (Sub.nil))))
theorem Sub5 {E:Env} {t0:Nat} {v0:Value} {t1:Nat} {v1:Value} {t2:Nat} {v2:Value} {t3:Nat} {v3:Value} {t4:Nat} {v4:Value} (h0:look E t0=some v0:=by exact rfl) (h1:look E t1=some v1:=by exact rfl) (h2:look E t2=some v2:=by exact rfl) (h3:look E t3=some v3:=by exact rfl) (h4:look E t4=some v4:=by exact rfl):Sub [(t0,v0),(t1,v1),(t2,v2),(t3,v3),(t4,v4)] E:=Sub.cons h0 (Sub.cons h1 (Sub.cons h2 (Sub.cons h3 (Sub.cons h4 (Sub.nil)))))
theorem Sub6 {E:Env} {t0:Nat} {v0:Value} {t1:Nat} {v1:Value} {t2:Nat} {v2:Value} {t3:Nat} {v3:Value} {t4:Nat} {v4:Value} {t5:Nat} {v5:Value} (h0:look E t0=some v0:=by exact rfl) (h1:look E t1=some v1:=by exact rfl) (h2:look E t2=some v2:=by exact rfl) (h3:look E t3=some v3:=by exact rfl) (h4:look E t4=some v4:=by exact rfl) (h5:look E t5=some v5:=by exact rfl):Sub [(t0,v0),(t1,v1),(t2,v2),(t3,v3),(t4,v4),(t5,v5)] E:=Sub.cons h0 (Sub.cons h1 (Sub.cons h2 (Sub.cons h3 (Sub.cons h4 (Sub.cons h5 (Sub.nil))))))
theorem Sub7 {E:Env} {t0:Nat} {v0:Value} {t1:Nat} {v1:Value} {t2:Nat} {v2:Value} {t3:Nat} {v3:Value} {t4:Nat} {v4:Value} {t5:Nat} {v5:Value} {t6:Nat} {v6:Value} (h0:look E t0=some v0:=by exact rfl) (h1:look E t1=some v1:=by exact rfl) (h2:look E t2=some v2:=by exact rfl) (h3:look E t3=some v3:=by exact rfl) (h4:look E t4=some v4:=by exact rfl) (h5:look E t5=some v5:=by exact rfl) (h6:look E t6=some v6:=by exact rfl):Sub [(t0,v0),(t1,v1),(t2,v2),(t3,v3),(t4,v4),(t5,v5),(t6,v6)] E:=Sub.cons h0 (Sub.cons h1 (Sub.cons h2 (Sub.cons h3 (Sub.cons h4 (Sub.cons h5 (Sub.cons h6 (Sub.nil)))))))
theorem Sub8 {E:Env} {t0:Nat} {v0:Value} {t1:Nat} {v1:Value} {t2:Nat} {v2:Value} {t3:Nat} {v3:Value} {t4:Nat} {v4:Value} {t5:Nat} {v5:Value} {t6:Nat} {v6:Value} {t7:Nat} {v7:Value} (h0:look E t0=some v0:=by exact rfl) (h1:look E t1=some v1:=by exact rfl) (h2:look E t2=some v2:=by exact rfl) (h3:look E t3=some v3:=by exact rfl) (h4:look E t4=some v4:=by exact rfl) (h5:look E t5=some v5:=by exact rfl) (h6:look E t6=some v6:=by exact rfl) (h7:look E t7=some v7:=by exact rfl):Sub [(t0,v0),(t1,v1),(t2,v2),(t3,v3),(t4,v4),(t5,v5),(t6,v6),(t7,v7)] E:=Sub.cons h0 (Sub.cons h1 (Sub.cons h2 (Sub.cons h3 (Sub.cons h4 (Sub.cons h5 (Sub.cons h6 (Sub.cons h7 (Sub.nil))))))))
theorem Sub9 {E:Env} {t0:Nat} {v0:Value} {t1:Nat} {v1:Value} {t2:Nat} {v2:Value} {t3:Nat} {v3:Value} {t4:Nat} {v4:Value} {t5:Nat} {v5:Value} {t6:Nat} {v6:Value} {t7:Nat} {v7:Value} {t8:Nat} {v8:Value} (h0:look E t0=some v0:=by exact rfl) (h1:look E t1=some v1:=by exact rfl) (h2:look E t2=some v2:=by exact rfl) (h3:look E t3=some v3:=by exact rfl) (h4:look E t4=some v4:=by exact rfl) (h5:look E t5=some v5:=by exact rfl) (h6:look E t6=some v6:=by exact rfl) (h7:look E t7=some v7:=by exact rfl) (h8:look E t8=some v8:=by exact rfl):Sub [(t0,v0),(t1,v1),(t2,v2),(t3,v3),(t4,v4),(t5,v5),(t6,v6),(t7,v7),(t8,v8)] E:=Sub.cons h0 (Sub.cons h1 (Sub.cons h2 (Sub.cons h3 (Sub.cons h4 (Sub.cons h5 (Sub.cons h6 (Sub.cons h7 (Sub.cons h8 (Sub.nil)))))))))
theorem Sub10 {E:Env} {t0:Nat} {v0:Value} {t1:Nat} {v1:Value} {t2:Nat} {v2:Value} {t3:Nat} {v3:Value} {t4:Nat} {v4:Value} {t5:Nat} {v5:Value} {t6:Nat} {v6:Value} {t7:Nat} {v7:Value} {t8:Nat} {v8:Value} {t9:Nat} {v9:Value} (h0:look E t0=some v0:=by exact rfl) (h1:look E t1=some v1:=by exact rfl) (h2:look E t2=some v2:=by exact rfl) (h3:look E t3=some v3:=by exact rfl) (h4:look E t4=some v4:=by exact rfl) (h5:look E t5=some v5:=by exact rfl) (h6:look E t6=some v6:=by exact rfl) (h7:look E t7=some v7:=by exact rfl) (h8:look E t8=some v8:=by exact rfl) (h9:look E t9=some v9:=by exact rfl):Sub [(t0,v0),(t1,v1),(t2,v2),(t3,v3),(t4,v4),(t5,v5),(t6,v6),(t7,v7),(t8,v8),(t9,v9)] E:=Sub.cons h0 (Sub.cons h1 (Sub.cons h2 (Sub.cons h3 (Sub.cons h4 (Sub.cons h5 (Sub.cons h6 (Sub.cons h7 (Sub.cons h8 (Sub.cons h9 (Sub.nil))))))))))
theorem Sub11 {E:Env} {t0:Nat} {v0:Value} {t1:Nat} {v1:Value} {t2:Nat} {v2:Value} {t3:Nat} {v3:Value} {t4:Nat} {v4:Value} {t5:Nat} {v5:Value} {t6:Nat} {v6:Value} {t7:Nat} {v7:Value} {t8:Nat} {v8:Value} {t9:Nat} {v9:Value} {t10:Nat} {v10:Value} (h0:look E t0=some v0:=by exact rfl) (h1:look E t1=some v1:=by exact rfl) (h2:look E t2=some v2:=by exact rfl) (h3:look E t3=some v3:=by exact rfl) (h4:look E t4=some v4:=by exact rfl) (h5:look E t5=some v5:=by exact rfl) (h6:look E t6=some v6:=by exact rfl) (h7:look E t7=some v7:=by exact rfl) (h8:look E t8=some v8:=by exact rfl) (h9:look E t9=some v9:=by exact rfl) (h10:look E t10=some v10:=by exact rfl):Sub [(t0,v0),(t1,v1),(t2,v2),(t3,v3),(t4,v4),(t5,v5),(t6,v6),(t7,v7),(t8,v8),(t9,v9),(t10,v10)] E:=Sub.cons h0 (Sub.cons h1 (Sub.cons h2 (Sub.cons h3 (Sub.cons h4 (Sub.cons h5 (Sub.cons h6 (Sub.cons h7 (Sub.cons h8 (Sub.cons h9 (Sub.cons h10 (Sub.nil)))))))))))
theorem Sub12 {E:Env} {t0:Nat} {v0:Value} {t1:Nat} {v1:Value} {t2:Nat} {v2:Value} {t3:Nat} {v3:Value} {t4:Nat} {v4:Value} {t5:Nat} {v5:Value} {t6:Nat} {v6:Value} {t7:Nat} {v7:Value} {t8:Nat} {v8:Value} {t9:Nat} {v9:Value} {t10:Nat} {v10:Value} {t11:Nat} {v11:Value} (h0:look E t0=some v0:=by exact rfl) (h1:look E t1=some v1:=by exact rfl) (h2:look E t2=some v2:=by exact rfl) (h3:look E t3=some v3:=by exact rfl) (h4:look E t4=some v4:=by exact rfl) (h5:look E t5=some v5:=by exact rfl) (h6:look E t6=some v6:=by exact rfl) (h7:look E t7=some v7:=by exact rfl) (h8:look E t8=some v8:=by exact rfl) (h9:look E t9=some v9:=by exact rfl) (h10:look E t10=some v10:=by exact rfl) (h11:look E t11=some v11:=by exact rfl):Sub [(t0,v0),(t1,v1),(t2,v2),(t3,v3),(t4,v4),(t5,v5),(t6,v6),(t7,v7),(t8,v8),(t9,v9),(t10,v10),(t11,v11)] E:=Sub.cons h0 (Sub.cons h1 (Sub.cons h2 (Sub.cons h3 (Sub.cons h4 (Sub.cons h5 (Sub.cons h6 (Sub.cons h7 (Sub.cons h8 (Sub.cons h9 (Sub.cons h10 (Sub.cons h11 (Sub.nil))))))))))))
theorem Sub13 {E:Env} {t0:Nat} {v0:Value} {t1:Nat} {v1:Value} {t2:Nat} {v2:Value} {t3:Nat} {v3:Value} {t4:Nat} {v4:Value} {t5:Nat} {v5:Value} {t6:Nat} {v6:Value} {t7:Nat} {v7:Value} {t8:Nat} {v8:Value} {t9:Nat} {v9:Value} {t10:Nat} {v10:Value} {t11:Nat} {v11:Value} {t12:Nat} {v12:Value} (h0:look E t0=some v0:=by exact rfl) (h1:look E t1=some v1:=by exact rfl) (h2:look E t2=some v2:=by exact rfl) (h3:look E t3=some v3:=by exact rfl) (h4:look E t4=some v4:=by exact rfl) (h5:look E t5=some v5:=by exact rfl) (h6:look E t6=some v6:=by exact rfl) (h7:look E t7=some v7:=by exact rfl) (h8:look E t8=some v8:=by exact rfl) (h9:look E t9=some v9:=by exact rfl) (h10:look E t10=some v10:=by exact rfl) (h11:look E t11=some v11:=by exact rfl) (h12:look E t12=some v12:=by exact rfl):Sub [(t0,v0),(t1,v1),(t2,v2),(t3,v3),(t4,v4),(t5,v5),(t6,v6),(t7,v7),(t8,v8),(t9,v9),(t10,v10),(t11,v11),(t12,v12)] E:=Sub.cons h0 (Sub.cons h1 (Sub.cons h2 (Sub.cons h3 (Sub.cons h4 (Sub.cons h5 (Sub.cons h6 (Sub.cons h7 (Sub.cons h8 (Sub.cons h9 (Sub.cons h10 (Sub.cons h11 (Sub.cons h12 (Sub.nil)))))))))))))
theorem Sub14 {E:Env} {t0:Nat} {v0:Value} {t1:Nat} {v1:Value} {t2:Nat} {v2:Value} {t3:Nat} {v3:Value} {t4:Nat} {v4:Value} {t5:Nat} {v5:Value} {t6:Nat} {v6:Value} {t7:Nat} {v7:Value} {t8:Nat} {v8:Value} {t9:Nat} {v9:Value} {t10:Nat} {v10:Value} {t11:Nat} {v11:Value} {t12:Nat} {v12:Value} {t13:Nat} {v13:Value} (h0:look E t0=some v0:=by exact rfl) (h1:look E t1=some v1:=by exact rfl) (h2:look E t2=some v2:=by exact rfl) (h3:look E t3=some v3:=by exact rfl) (h4:look E t4=some v4:=by exact rfl) (h5:look E t5=some v5:=by exact rfl) (h6:look E t6=some v6:=by exact rfl) (h7:look E t7=some v7:=by exact rfl) (h8:look E t8=some v8:=by exact rfl) (h9:look E t9=some v9:=by exact rfl) (h10:look E t10=some v10:=by exact rfl) (h11:look E t11=some v11:=by exact rfl) (h12:look E t12=some v12:=by exact rfl) (h13:look E t13=some v13:=by exact rfl):Sub [(t0,v0),(t1,v1),(t2,v2),(t3,v3),(t4,v4),(t5,v5),(t6,v6),(t7,v7),(t8,v8),(t9,v9),(t10,v10),(t11,v11),(t12,v12),(t13,v13)] E:=Sub.cons h0 (Sub.cons h1 (Sub.cons h2 (Sub.cons h3 (Sub.cons h4 (Sub.cons h5 (Sub.cons h6 (Sub.cons h7 (Sub.cons h8 (Sub.cons h9 (Sub.cons h10 (Sub.cons h11 (Sub.cons h12 (Sub.cons h13 (Sub.nil))))))))))))))
theorem Lc0 {f:FuncId} {as:List Operand} {vs:List Value} {d:Nat} {T:TypeId} {pos:String} {af:Array Edge} {ts:Array TypeId} {Φ:Value→World→Prop} (ha:evs E as=some vs) (hn:Nat.blt d n=true) (hc:Ret P f vs w Φ) (h:∀v w',Φ v w'→LW P l Q rest D n ((d,v)::E) w'):LW P l Q ({dst:=some d,op:=.call {callee:=.value (.func f),args:=⟨as⟩,argTypes:=ts},type:=T,pos,after:=af,guard:=none}::rest) D n E w:=LW.call0 ha hn hc h
theorem Rte {f:FuncId} {fn:Func} {c:Code} {args:List Value} {Φ:Value→World→Prop} (hf:P.funcs[f]?=some fn) (hn:fn.ntmps=n) (h:CW P c (bodyPost P fn (RetR Φ)) [] n (argEnv 0 args) w) (hb:fn.body=some c:=by exact rfl) (hc:callable P f=true:=by kernel_rfl) (hl:Nat.ble args.length n=true:=by exact rfl):Ret P f args w Φ:=Ret.enter hf hb hn hc hl h
theorem Lwp {o:Oper} {j t:Nat} {b c:Bool} (h1:c=true→LW P l Q (o::rest) D n ((t,.bool true)::E) w) (h0:c=false→LW P l Q (o::rest) D n ((t,.bool false)::E) w) (hg:o.guard=some (j,b):=by exact rfl) (hj:dstAt l j=some t:=by exact rfl) (ht:look E t=some (.bool c):=by exact rfl):LW P l Q (o::rest) D n E w:=LW.part hg hj ht h1 h0
theorem Qlp {o:Oper} {j t:Nat} {b c:Bool} (h1:c=true→QL P l Q (o::rest) D n ((t,.bool true)::E) w) (h0:c=false→QL P l Q (o::rest) D n ((t,.bool false)::E) w) (hg:o.guard=some (j,b):=by exact rfl) (hj:dstAt l j=some t:=by exact rfl) (ht:look E t=some (.bool c):=by exact rfl):QL P l Q (o::rest) D n E w:=QL.part hg hj ht h1 h0
theorem Cwd {t:Nat} (h:QL P l Q l D n E w) (hm:P.follows .mixedOrders=true:=by kernel_rfl) (hB:Region.lexB .any l.toArray=true:=by kernel_rfl):CW P (.region t l.toArray true) Q D n E w:=CW.draw hm hB h
end
section
variable {P:Program} {S:World→Prop} {Q:Exit→Act→World→Prop} {D:List Deferred} {n m f d j t:Nat} {E:Env} {w:World} {l:List Oper} {ls ls':List Bool} {o:Oper} {v:Value} {op:Op} {T:TypeId} {pos:String} {af:Array Edge}
theorem Gkp (i:Nat) (h:GW P S l n Q f ls' D m ((d,v)::E) w) (hi:l[i]?=some o:=by exact rfl) (hg:o.guard=none:=by exact rfl) (hd:o.dst=some d:=by exact rfl) (hm:Nat.blt d m=true:=by exact rfl) (hy:∀w,S w→Y P D m E w o v:=by exact fun w _=>Y.pure rfl) (hl:ls.set i true=ls':=by exact rfl) (hin:Nat.blt i n=true:=by exact rfl) (hk:tailOk l n=true:=by kernel_rfl) (hf:Region.free .any l.toArray ⟨ls⟩ i=true:=by kernel_rfl) (hr:(Region.ready .any l.toArray ⟨ls⟩).contains i=true:=by kernel_rfl) (ht:∀c a w,Q (.panic c) (a.put o.dst v) w→Q (.panic c) a w:=by exact fun _ _ _ h=>h):GW P S l n Q (f+1) ls D m E w:=GW.take i hi hg hd hm hy hl hin hk hf hr ht h
theorem Gkw (i:Nat) {b:Bool} (h:GW P S l n Q f ls' D m ((d,v)::E) w) (hi:l[i]?=some {dst:=some d,op,type:=T,pos,after:=af,guard:=some (j,b)}:=by exact rfl) (hm:Nat.blt d m=true:=by exact rfl) (hj:dstAt l j=some t:=by exact rfl) (hb:look E t=some (.bool b):=by exact rfl) (hy:∀w,S w→Y P D m E w {dst:=some d,op,type:=T,pos,after:=af,guard:=none} v:=by exact fun w _=>Y.pure rfl) (hl:ls.set i true=ls':=by exact rfl) (hin:Nat.blt i n=true:=by exact rfl) (hk:tailOk l n=true:=by kernel_rfl) (hf:Region.free .any l.toArray ⟨ls⟩ i=true:=by kernel_rfl) (hr:(Region.ready .any l.toArray ⟨ls⟩).contains i=true:=by kernel_rfl) (ht:∀c a w,Q (.panic c) (a.put (some d) v) w→Q (.panic c) a w:=by exact fun _ _ _ h=>h):GW P S l n Q (f+1) ls D m E w:=GW.takeW i hi hm hj hb hy hl hin hk hf hr ht h
theorem Gks (i:Nat) {b c:Bool} (h:GW P S l n Q f ls' D m ((d,undef)::E) w) (hi:l[i]?=some o:=by exact rfl) (hg:o.guard=some (j,b):=by exact rfl) (hd:o.dst=some d:=by exact rfl) (hm:Nat.blt d m=true:=by exact rfl) (hj:dstAt l j=some t:=by exact rfl) (hb:look E t=some (.bool c):=by exact rfl) (hne:(c == b)=false:=by exact rfl) (hl:ls.set i true=ls':=by exact rfl) (hin:Nat.blt i n=true:=by exact rfl) (hk:tailOk l n=true:=by kernel_rfl) (hf:Region.free .any l.toArray ⟨ls⟩ i=true:=by kernel_rfl) (hr:(Region.ready .any l.toArray ⟨ls⟩).contains i=true:=by kernel_rfl) (ht:∀c a w,Q (.panic c) (a.put o.dst undef) w→Q (.panic c) a w:=by exact fun _ _ _ h=>h):GW P S l n Q (f+1) ls D m E w:=GW.skip i hi hg hd hm hj hb hne hl hin hk hf hr ht h
theorem Gko (i:Nat) (h:S w→LW P l (Exit.then (Gp P S l n Q f ls') Q) [o] D m E w) (hr:Region.ready .any l.toArray ⟨ls⟩=[i]:=by kernel_rfl) (hi:l[i]?=some o:=by exact rfl) (hl:ls.set i true=ls':=by exact rfl) (hin:Nat.blt i n=true:=by exact rfl):GW P S l n Q (f+1) ls D m E w:=GW.one i hr hi hl hin h
end
end Go.E

