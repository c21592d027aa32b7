/-
  Joined by program out of the texts PacP Dsk0 Dsk1 Dsk2 Chk.
-/
import Derived.Test.YtabjahlbcoigcaaPkA
import Derived.Test.YtabjahlbcoigcaaPkH
namespace Go.Proofs.Ytabjahlbcoigcaa
open Go Go.E
structure StP where
 l:List (List UInt8×List UInt8)
 refs:List (List UInt8×List UInt8)
def entB (e:List UInt8×List UInt8):List UInt8:=putT e.2
def refB (r:List UInt8×List UInt8):List UInt8:=putT r.1++putT r.2
def StP.bytes (s:StP):List UInt8:=putN s.l.length++s.l.flatMap entB++(putN s.refs.length++s.refs.flatMap refB)
def magicP:List UInt8:=[99,104,113,112]
def superO (t h n:Nat):List UInt8:=magicP++putT (putN t)++putT (putN h)++putT (putN n)
def superQ (t h n:Nat):List UInt8:=superO t h n++(shaB (superO t h n)).take 16
def superB (t h n:Nat):List UInt8:=superQ t h n++List.replicate (64 - (superQ t h n).length) 0
def zeros64:List UInt8:=List.replicate 64 0
theorem putN_short:∀(k n:Nat),n<128 ^ k→0<k→(putN n).length≤k
 | 0,_,_,h=>by omega
 | k+1,n,h,_=>by
  by_cases h1:n<128
  ·rw [putN_small h1];simp
  ·rw [putN_big (by omega),List.length_cons];have hk:0<k:=by
    rcases Nat.eq_zero_or_pos k with e | e
    ·subst e;simp at h;omega
    ·exact e
   have:=putN_short k (n / 128) (by rw [Nat.pow_succ] at h;omega) hk;omega
theorem putT_short (s:List UInt8) (h:s.length<128):(putT s).length=s.length+1:=by
 rw [putT,putN_small h];simp
theorem superO_len {t h n:Nat} (ht:t<128 ^ 9) (hh:h<128 ^ 9) (hn:n<128 ^ 9):(superO t h n).length≤34:=by
 have a:=putN_short 9 t ht (by decide);have b:=putN_short 9 h hh (by decide);have c:=putN_short 9 n hn (by decide);have a2:=putT_short (putN t) (by omega);have b2:=putT_short (putN h) (by omega);have c2:=putT_short (putN n) (by omega);simp only [superO,List.length_append,magicP,List.length_cons,List.length_nil];omega
theorem superQ_len (t h n:Nat):(superQ t h n).length=(superO t h n).length+16:=by
 rw [superQ,List.length_append,List.length_take,shaB_len];omega
theorem superB_len {t h n:Nat} (ht:t<128 ^ 9) (hh:h<128 ^ 9) (hn:n<128 ^ 9):(superB t h n).length=64:=by
 have a:=superQ_len t h n;have b:=superO_len ht hh hn;rw [superB,List.length_append,List.length_replicate];omega
structure SecP where
 now:List UInt8
 safe:List UInt8
 loose:Bool
structure DskP where
 l:List SecP
 crash:Nat
 calls:Nat
 down:Bool
def DskP.tick (d:DskP) (f:List SecP→List SecP):DskP×Bool:=if 1≤d.crash∧d.calls+1=d.crash then (⟨d.l,d.crash,d.calls+1,true⟩,false) else (⟨f d.l,d.crash,d.calls+1,d.down⟩,true)
def putSec (at':Nat) (b:List UInt8) (l:List SecP):List SecP:=l.modify at' fun s=>⟨b,s.safe,true⟩
def settle1 (s:SecP):SecP:=if s.loose then ⟨s.now,s.now,false⟩ else s
def settleS (l:List SecP):List SecP:=l.map settle1
def chunkN:Nat→List UInt8→List (List UInt8)
 | 0,_=>[]
 | k+1,b=>if b=[] then [] else (b.take 64++List.replicate (64 - (b.take 64).length) 0)::chunkN k (b.drop 64)
def chunkP (b:List UInt8):List (List UInt8):=chunkN b.length b
def putAll:DskP→Nat→List (List UInt8)→DskP×Bool
 | d,_,[]=>(d,true)
 | d,i,c::r=>if (d.tick (putSec i c)).2 then putAll (d.tick (putSec i c)).1 (i+1) r else d.tick (putSec i c)
def thenP (x:DskP×Bool) (f:DskP→DskP×Bool):DskP×Bool:=if x.2 then f x.1 else x
def halfN (n:Nat):Nat:=(n - 2) / 2
def writeP (d:DskP) (t h:Nat) (s:StP):DskP×Bool:=
 thenP (putAll d (2+(1 - h)*halfN d.l.length) (chunkP s.bytes)) fun d=>thenP (d.tick settleS) fun d=>
  thenP (d.tick (putSec ((t+1) % 2) (superB (t+1) (1 - h) s.bytes.length))) fun d=>d.tick settleS
structure Says (r:List (List UInt8)) (t h:Nat) (s:StP):Prop where
 long:8≤r.length
 half:h≤1
 zero:t=0→h=0∧s=⟨[],[]⟩∧r[0]?=some zeros64∧r[1]?=some zeros64
 this:0<t→r[t % 2]?=some (superB t h s.bytes.length)
 that:0<t→r[(t+1) % 2]?=some zeros64∨1<t∧∃h' n',h'≤1∧n'≤10000000∧r[(t+1) % 2]?=some (superB (t - 1) h' n')
 room:s.bytes.length≤halfN r.length*64
 bytes:0<t→((r.drop (2+h*halfN r.length)).take (halfN r.length)).flatten.take s.bytes.length=s.bytes
def Sized (l:List SecP):Prop:=∀s∈l,s.now.length=64∧s.safe.length=64
def nows (l:List SecP):List (List UInt8):=l.map SecP.now
theorem settle_len (l:List SecP):(settleS l).length=l.length:=by simp [settleS]
theorem settle_sized {l:List SecP} (h:Sized l):Sized (settleS l):=fun s hs=>by
 obtain ⟨x,hx,rfl⟩:=List.mem_map.1 hs;unfold settle1
 split
 ·exact ⟨(h x hx).1,(h x hx).1⟩
 ·exact h x hx
theorem putSec_len (i:Nat) (b:List UInt8) (l:List SecP):(putSec i b l).length=l.length:=by simp [putSec]
theorem putSec_get (i j:Nat) (b:List UInt8) (l:List SecP):(putSec i b l)[j]?=if i=j then (l[j]?).map (fun s=>⟨b,s.safe,true⟩) else l[j]?:=by
 rw [putSec,List.getElem?_modify];by_cases h:i=j
 ·simp [h]
 ·simp [h]
theorem putSec_mem {i:Nat} {b:List UInt8} {l:List SecP} {s:SecP} (h:s∈putSec i b l):s∈l∨∃x∈l,s=⟨b,x.safe,true⟩:=by
 obtain ⟨j,hj⟩:=List.mem_iff_getElem?.1 h;rw [putSec_get] at hj
 split at hj
 ·cases e:l[j]? with
  | none=>rw [e] at hj;cases hj
  | some x=>
   rw [e] at hj;exact .inr ⟨x,List.mem_iff_getElem?.2 ⟨j,e⟩,(Option.some.inj hj).symm⟩
 ·exact .inl (List.mem_iff_getElem?.2 ⟨j,hj⟩)
theorem putSec_sized {i:Nat} {b:List UInt8} {l:List SecP} (h:Sized l) (hb:b.length=64):Sized (putSec i b l):=fun s hs=>by
 rcases putSec_mem hs with hs | ⟨x,hx,rfl⟩
 ·exact h s hs
 ·exact ⟨hb,(h x hx).2⟩
theorem tick_ok {d d':DskP} {f:List SecP→List SecP} (h:d.tick f=(d',true)):d'=⟨f d.l,d.crash,d.calls+1,d.down⟩:=by
 unfold DskP.tick at h
 split at h
 ·cases h
 ·exact (Prod.mk.inj h).1.symm
theorem tick_no {d d':DskP} {f:List SecP→List SecP} (h:d.tick f=(d',false)):d'=⟨d.l,d.crash,d.calls+1,true⟩:=by
 unfold DskP.tick at h
 split at h
 ·exact (Prod.mk.inj h).1.symm
 ·cases h
theorem putAll_len:∀(cs:List (List UInt8)) (d:DskP) (i:Nat),(putAll d i cs).1.l.length=d.l.length
 | [],d,_=>rfl
 | c::cs,d,i=>by
  rw [putAll]
  cases e:d.tick (putSec i c) with
  | mk d' b=>
   cases b with
   | false=>rw [if_neg (by simp),tick_no e]
   | true=>
    rw [if_pos rfl,putAll_len cs d' (i+1),tick_ok e];exact putSec_len ..
def secC (s:SecP):List Value:=bcells s.now++bcells s.safe++[.bool s.loose]
theorem secC_len {s:SecP} (h:s.now.length=64∧s.safe.length=64):(secC s).length=129:=by
 simp [secC,bcells,h.1,h.2]
def dskC (l:List SecP):List Value:=(l.map secC).flatten
theorem secs_len {l:List SecP} (h:Sized l):∀cs∈l.map secC,cs.length=129:=fun cs hc=>by
 obtain ⟨s,hs,rfl⟩:=List.mem_map.1 hc;exact secC_len (h s hs)
theorem dskC_len {l:List SecP} (h:Sized l):(dskC l).length=l.length*129:=by
 rw [dskC,flatten_len (secs_len h),List.length_map]
theorem dskC_get {l:List SecP} (h:Sized l) {i j:Nat} {s:SecP} (hi:l[i]?=some s) (hj:j<129):(dskC l)[i*129+j]?=(secC s)[j]?:=by
 have:=flatten_get (sp:=[]) (secs_len h) (show (l.map secC)[i]?=some (secC s) by rw [List.getElem?_map,hi];rfl) hj
 rwa [List.append_nil] at this
theorem flatten_put {m:Nat} {ds:List Value} {o:Nat}:∀{css:List (List Value)} {i:Nat} {c:List Value},(∀cs∈css,cs.length=m)→css[i]?=some c→o+ds.length≤m→css.flatten.take (i*m+o)++ds++css.flatten.drop (i*m+o+ds.length)=(css.set i (c.take o++ds++c.drop (o+ds.length))).flatten
 | [],_,_,_,h,_=>by simp at h
 | y::l,0,c,hl,h,ho=>by
  simp only [List.getElem?_cons_zero,Option.some.injEq] at h;subst h;have hy:=hl y (List.mem_cons_self ..);rw [Nat.zero_mul,Nat.zero_add,List.flatten_cons,List.set_cons_zero,List.flatten_cons,List.take_append_of_le_length (by omega),List.drop_append_of_le_length (by omega)]
  simp
 | y::l,i+1,c,hl,h,ho=>by
  rw [List.getElem?_cons_succ] at h;have hy:=hl y (List.mem_cons_self ..);have ih:=flatten_put (fun cs hc=>hl cs (List.mem_cons_of_mem _ hc)) h ho;rw [List.flatten_cons,List.set_cons_succ,List.flatten_cons,←ih,show (i+1)*m+o=y.length+(i*m+o) by rw [hy,Nat.add_mul];omega,List.take_length_add_append,Nat.add_assoc,List.drop_length_add_append];simp [Nat.add_assoc]
theorem map_modify {l:List SecP} {i:Nat} {s:SecP} {f:SecP→SecP} (hi:l[i]?=some s):(l.map secC).set i (secC (f s))=(l.modify i f).map secC:=by
 apply List.ext_getElem?;intro j;simp only [List.getElem?_set,List.getElem?_map,List.getElem?_modify];by_cases h:i=j
 ·subst h;obtain ⟨h1,h2⟩:=List.getElem?_eq_some_iff.1 hi;simp [h1,h2]
 ·simp [h]
theorem dskC_now {l:List SecP} (h:Sized l) {i:Nat} {s:SecP} {b:List UInt8} (hi:l[i]?=some s) (hb:b.length=64):(dskC l).take (i*129)++bcells b++(dskC l).drop (i*129+(bcells b).length)=dskC (l.modify i fun s=>⟨b,s.safe,s.loose⟩):=by
 have hs:=h s (List.mem_iff_getElem?.2 ⟨i,hi⟩);have e:=flatten_put (o:=0) (ds:=bcells b) (secs_len h) (show (l.map secC)[i]?=some (secC s) by rw [List.getElem?_map,hi];rfl) (by simp [bcells,hb]);rw [Nat.add_zero] at e;rw [dskC,e,dskC,←map_modify hi]
 congr 2
 simp [secC,bcells_len',hb,hs.1]
theorem dskC_safe {l:List SecP} (h:Sized l) {i:Nat} {s:SecP} {b:List UInt8} (hi:l[i]?=some s) (hb:b.length=64):(dskC l).take (i*129+64)++bcells b++(dskC l).drop (i*129+64+(bcells b).length)=dskC (l.modify i fun s=>⟨s.now,b,s.loose⟩):=by
 have hs:=h s (List.mem_iff_getElem?.2 ⟨i,hi⟩);have e:=flatten_put (o:=64) (ds:=bcells b) (secs_len h) (show (l.map secC)[i]?=some (secC s) by rw [List.getElem?_map,hi];rfl) (by simp [bcells,hb]);rw [dskC,e,dskC,←map_modify hi]
 congr 2
 simp [secC,bcells_len',hb,List.drop_append,hs.1,hs.2]
theorem dskC_loose {l:List SecP} (h:Sized l) {i:Nat} {s:SecP} {c:Bool} (hi:l[i]?=some s):(dskC l).set (i*129+128) (.bool c)=dskC (l.modify i fun s=>⟨s.now,s.safe,c⟩):=by
 have hs:=h s (List.mem_iff_getElem?.2 ⟨i,hi⟩);have e:=flatten_set (sp:=[]) (j:=128) (v:=.bool c) (secs_len h) (show (l.map secC)[i]?=some (secC s) by rw [List.getElem?_map,hi];rfl) (by decide);rw [List.append_nil,List.append_nil] at e;rw [dskC,e,dskC,←map_modify hi]
 congr 2
 simp only [secC];rw [List.set_append_right _ _ (by simp [bcells,hs.1,hs.2])];simp [bcells,hs.1,hs.2]
theorem modify_sized {l:List SecP} {i:Nat} {f:SecP→SecP} (h:Sized l) (hf:∀s,s.now.length=64∧s.safe.length=64→(f s).now.length=64∧(f s).safe.length=64):Sized (l.modify i f):=fun s hs=>by
 obtain ⟨j,hj⟩:=List.mem_iff_getElem?.1 hs;rw [List.getElem?_modify] at hj
 cases e:l[j]? with
 | none=>rw [e] at hj;cases hj
 | some x=>
  rw [e] at hj;have hx:=h x (List.mem_iff_getElem?.2 ⟨j,e⟩);simp only [Option.map_eq_map,Option.map_some,Option.some.injEq] at hj;subst hj
  split
  ·exact hf x hx
  ·exact hx
structure DiskR (w:World) (X V:Nat) (d:DskP):Prop where
 head:Blk w X [.slice (some ⟨V,0,none⟩) d.l.length d.l.length,.int .i64 (d.crash:Int),.int .i64 (d.calls:Int),.bool d.down] 58
 row:Blk w V (dskC d.l) 88
 ne:X≠V
 sized:Sized d.l
 long:8≤d.l.length
 short:d.l.length≤16384
theorem DiskR.chg {S:List Nat} {w w':World} {X V:Nat} {d:DskP} (h:DiskR w X V d) (x:Chg S w w') (hX:X∉S) (hY:V∉S):DiskR w' X V d:=⟨h.head.chg x hX,h.row.chg x hY,h.ne,h.sized,h.long,h.short⟩
theorem DiskR.ext {w w':World} {X V:Nat} {d:DskP} (h:DiskR w X V d) (x:Ext w w'):DiskR w' X V d:=h.chg x (by simp) (by simp)
theorem DiskR.cell {w:World} {X V:Nat} {d:DskP} (h:DiskR w X V d) {i j:Nat} {s:SecP} {u:Value} (hi:d.l[i]?=some s) (hj:j<129) (hu:(secC s)[j]?=some u):w.cell? ((⟨V,0,none⟩:Addr).add (i*129+j))=some u:=by
 have e:=dskC_get h.sized hi hj;rw [hu] at e;exact h.row.getElem _ _ e
def newD (s c:Nat):DskP:=⟨List.replicate s ⟨zeros64,zeros64,false⟩,c,0,false⟩
theorem newD_cells (s:Nat):(List.replicate s (secC ⟨zeros64,zeros64,false⟩)).flatten=dskC (newD s 0).l:=by
 simp [dskC,newD]
theorem newD_sized (s c:Nat):Sized (newD s c).l:=fun x hx=>by
 rw [List.eq_of_mem_replicate hx];exact ⟨by simp [zeros64],by simp [zeros64]⟩
theorem sec_addr (V i k:Nat):((⟨V,0,none⟩:Addr).add (((i:Nat):Int).toNat*129)).add k=⟨V,i*129+k,none⟩:=by
 rw [add_addr,add_addr,Int.toNat_natCast,Nat.zero_add]
theorem DiskR.cellA {w:World} {X V:Nat} {d:DskP} (h:DiskR w X V d) {i k:Nat} {s:SecP} {u:Value} (hi:d.l[i]?=some s) (hk:k<129) (hu:(secC s)[k]?=some u):w.cell? (((⟨V,0,none⟩:Addr).add (((i:Nat):Int).toNat*129)).add k)=some u:=by
 have:=h.cell hi hk hu;rw [add_addr,Nat.zero_add] at this;rw [sec_addr];exact this
theorem secC_now {s:SecP} (h:s.now.length=64) {j:Nat} (hj:j<64):(secC s)[j]?=(bcells s.now)[j]?:=by
 rw [secC,List.append_assoc,List.getElem?_append_left (by rw [bcells_len'];omega)]
theorem secC_loose {s:SecP} (h:s.now.length=64) (h2:s.safe.length=64):(secC s)[128]?=some (.bool s.loose):=by
 rw [secC,List.getElem?_append_right (by simp only [List.length_append,bcells_len'];omega)];simp [bcells_len',h,h2]
theorem DiskR.at_ {w:World} {X V:Nat} {d:DskP} (h:DiskR w X V d) {i:Nat} {s:SecP} (hi:d.l[i]?=some s):s.now.length=64∧s.safe.length=64:=h.sized s (List.mem_iff_getElem?.2 ⟨i,hi⟩)
theorem DiskR.now {w:World} {X V:Nat} {d:DskP} (h:DiskR w X V d) {i:Nat} {s:SecP} (hi:d.l[i]?=some s):BytesR w (.slice (some (((⟨V,0,none⟩:Addr).add (((i:Nat):Int).toNat*129)).add 0)) 64 64) s.now:=by
 obtain ⟨h1,h2⟩:=h.at_ hi;refine ⟨by omega,.inr ⟨_,64,by rw [h1],fun _=>trivial,fun j b hj=>⟨[.int .u8 (b.toNat:Int)],rfl,rfl,fun q u hq=>?_⟩⟩⟩;have hq0:q=0:=by have:=(List.getElem?_eq_some_iff.1 hq).1;simp at this;exact this
 subst hq0;simp only [List.getElem?_cons_zero,Option.some.injEq] at hq;subst hq;have hjl:=(List.getElem?_eq_some_iff.1 hj).1;have:=h.cell hi (j:=j) (u:=.int .u8 (b.toNat:Int)) (by omega) (by rw [secC_now h1 (by omega),bcells_get,hj];rfl);rw [add_addr,Nat.zero_add] at this;rw [sec_addr,add_addr,add_addr,show i*129+0+j*1+0=i*129+j by omega];exact this
set_option maxRecDepth 8000 in
theorem DNew_ret (s c:Nat) (kv:Value) (w:World) (hs:8≤s) (hs2:s≤16384) (_hk:kv.cells.toList=[kv]):Ret Try.prog 7 [.agg ⟨[.int .i64 (s:Int),.int .i64 (c:Int),kv]⟩] w (fun v w'=>∃X V,v=.pointer (some ⟨X,0,none⟩)∧DiskR w' X V (newD s c)∧w.heap.size≤X∧w.heap.size≤V∧Ext w w'):=by
 refine Rte Try.func7 Try.ntmps7 ?_;apply CW.seq;apply CW.region;refine Lwb fun A w1 hbA hx1 hA=>?_;replace hA:Blk w1 A [.int .i64 (s:Int),.int .i64 (c:Int),kv] 29:=hA;refine Su ?_;refine CW.drawG (Ext w1) 7 (fun w' h=>h) (by kernel_rfl) fun wa hxa=>?_;refine Sgx ?_;refine GW.take 2 rfl rfl rfl rfl (fun _ _=>Y.min (c:=(s:Int)) rfl rfl (by omega)) rfl rfl (by kernel_rfl) (by kernel_rfl) (by kernel_rfl) (fun _ _ _ h=>h) ?_;refine GW.take 3 rfl rfl rfl rfl (fun _ _=>Y.max (c:=(s:Int)) rfl rfl (if_pos (by omega))) rfl rfl (by kernel_rfl) (by kernel_rfl) (by kernel_rfl) (fun _ _ _ h=>h) ?_;refine Sgx ?_;refine Gko 4 fun hS=>?_;refine LW.makeSliceN (m:=s) (z:=secC ⟨zeros64,zeros64,false⟩) rfl rfl rfl rfl rfl (by kernel_rfl) (by kernel_rfl) (by omega) (by rw [show (secC ⟨zeros64,zeros64,false⟩).length=129 from secC_len ⟨by simp [zeros64],by simp [zeros64]⟩];omega) rfl rfl ?_;intro Y0 w2 hbY hx2 hY;have hY0:w1.heap.size≤Y0:=by have:=hS.size;omega
 apply LW.nil;refine QW.headed (hS.trans hx2) ?_;refine GW.tail rfl (by kernel_rfl) (fun hS=>?_);refine Su ?_;refine Lwb fun X w3 hbX hx3 hX=>?_;have hYl:=hY.lt;replace hX:Blk w3 X [.slice (some ⟨Y0,0,none⟩) s s,.int .i64 (c:Int),.int .i64 0,.bool false] 58:=hX;refine Su ?_;have hl:(newD s c).l.length=s:=by simp [newD]
 refine QW.body1 Try.results7 rfl ⟨X,Y0,rfl,⟨by rw [hl];exact hX,?_,by omega,newD_sized _ _,by rw [hl];exact hs,by rw [hl];exact hs2⟩,by have:=hx1.size;have:=hS.size;omega,by have:=hx1.size;omega,hx1.trans (hS.trans hx3)⟩;have:=hY.ext hx3;rw [newD_cells] at this;exact this
theorem Sectors_ret (X V:Nat) (d:DskP) (w:World) (h:DiskR w X V d):Ret Try.prog 23 [.pointer (some ⟨X,0,none⟩)] w (fun v w'=>v=.int .i64 (d.l.length:Int)∧Ext w w'):=by
 have hH:=h.head;refine Rte Try.func23 Try.ntmps23 ?_;refine Su ?_;refine LW.eql_pn rfl rfl rfl rfl ?_;refine Su ?_;exact QW.body1 Try.results23 rfl ⟨rfl,Chg.refl _ _⟩
set_option maxRecDepth 8000 in
theorem DRead_ret (X V:Nat) (d:DskP) (i:Nat) (s:SecP) (w:World) (h:DiskR w X V d) (hd:d.down=false) (hi:d.l[i]?=some s):Ret Try.prog 24 [.pointer (some ⟨X,0,none⟩),.int .i64 (i:Int)] w (fun v w'=>∃u,v=.tuple #[u,.int .i64 0]∧BytesO w.heap.size w' u s.now∧Ext w w'):=by
 have hil:=(List.getElem?_eq_some_iff.1 hi).1;have hH:=h.head;have hsh:=h.short;rw [hd] at hH;refine Rte Try.func24 Try.ntmps24 ?_;refine Su ?_;refine LW.eql_pn rfl rfl rfl rfl ?_;refine Su ?_;refine CW.no rfl (decide_eq_false (by omega)) ?_;refine Su ?_;refine LW.val rfl rfl rfl (Y.slice_array rfl rfl rfl rfl) ?_;refine Su ?_;refine Lc0 rfl rfl (cloneB_ret s.now _ _ (h.now hi)) ?_;rintro u w1 ⟨hO,hx⟩;refine Su ?_;exact QW.body2 Try.results24 rfl rfl ⟨u,rfl,hO,hx⟩
def tickV (b:Bool):Value:=.int .i64 (if b then 0 else 8)
set_option maxRecDepth 8000 in
theorem change_ret (d:DskP) (X V g:Nat) (fs cs:List Value) (f:List SecP→List SecP) (w:World) (h:DiskR w X V d) (hc:d.crash≤1000000) (hcl:d.calls≤1000000)
  (hf:∀w1,Chg [X] w w1→DiskR w1 X V ⟨d.l,d.crash,d.calls+1,d.down⟩→Ret Try.prog g (fs++([]++cs)) w1 (fun _ w2=>DiskR w2 X V ⟨f d.l,d.crash,d.calls+1,d.down⟩∧Chg [X,V] w1 w2)) :
  Ret Try.prog 69 [.pointer (some ⟨X,0,none⟩),.func (.func g) ⟨fs⟩ ⟨cs⟩] w (fun v w'=>v=tickV (d.tick f).2∧DiskR w' X V (d.tick f).1∧Chg [X,V] w w'):=by
 have hH:=h.head;refine Rte Try.func69 Try.ntmps69 ?_;refine Su ?_;refine Lwt fun w1 hc1 hH1=>?_;replace hH1:Blk w1 X [.slice (some ⟨V,0,none⟩) d.l.length d.l.length,.int .i64 (d.crash:Int),.int .i64 ((d.calls+1:Nat):Int),.bool d.down] 58:=hH1;have hY1:=h.row.chg hc1 (by simpa using fun e=>h.ne e.symm);have hD1:DiskR w1 X V ⟨d.l,d.crash,d.calls+1,d.down⟩:=⟨hH1,hY1,h.ne,h.sized,h.long,h.short⟩;have hk1:Chg [X,V] w w1:=Chg.mono hc1 fun k hk _=>by simp at hk;simp [hk]
 refine Su ?_;refine CW.drawG (Ext w1) 15 (fun w' h=>h) (by kernel_rfl) fun wa hxa=>?_;refine Sgx ?_;by_cases h1:1≤d.crash
 ·refine GW.know (t:=17) (c:=true) rfl (decide_eq_true (by omega)) ?_;refine Sgx ?_;refine GW.tail rfl (by kernel_rfl) (fun hS=>?_);replace hH1:=hH1.ext hS;refine Su ?_;by_cases h2:d.calls+1=d.crash
  ·refine CW.yes rfl (decide_eq_true (by omega)) ?_;refine Su ?_;refine Lwt fun w2 hc2 hH2=>?_;refine Su ?_;have e:d.tick f=(⟨d.l,d.crash,d.calls+1,true⟩,false):=by rw [DskP.tick,if_pos ⟨h1,h2⟩]
   rw [e];exact QW.body1 Try.results69 rfl ⟨rfl,⟨hH2,(hY1.ext hS).chg hc2 (by simpa using fun e=>h.ne e.symm),h.ne,h.sized,h.long,h.short⟩,(hk1.ext hS).same (hc2.mono fun k hk _=>by simp at hk;simp [hk])⟩
  ·refine CW.no rfl (decide_eq_false (by omega)) ?_;refine Su ?_;refine LW.call rfl rfl rfl (hf _ (hc1.ext hS) (hD1.ext hS)) ?_;rintro v w2 ⟨hD2,hc2⟩;refine Su ?_;have e:d.tick f=(⟨f d.l,d.crash,d.calls+1,d.down⟩,true):=by rw [DskP.tick,if_neg fun k=>h2 k.2]
   rw [e];exact QW.body1 Try.results69 rfl ⟨rfl,hD2,(hk1.ext hS).same hc2⟩
 ·refine GW.know (t:=17) (c:=false) rfl (decide_eq_false (by omega)) ?_;refine Sgx ?_;refine GW.tail rfl (by kernel_rfl) (fun hS=>?_);replace hH1:=hH1.ext hS;refine Su ?_;refine LW.call rfl rfl rfl (hf _ (hc1.ext hS) (hD1.ext hS)) ?_;rintro v w2 ⟨hD2,hc2⟩;refine Su ?_;have e:d.tick f=(⟨f d.l,d.crash,d.calls+1,d.down⟩,true):=by rw [DskP.tick,if_neg fun k=>h1 k.1]
  rw [e];exact QW.body1 Try.results69 rfl ⟨rfl,hD2,(hk1.ext hS).same hc2⟩
theorem putSec_two {l:List SecP} {i:Nat} {b:List UInt8}:(l.modify i fun s=>⟨b,s.safe,s.loose⟩).modify i (fun s=>⟨s.now,s.safe,true⟩)=putSec i b l:=by
 apply List.ext_getElem?;intro j;rw [putSec_get];simp only [List.getElem?_modify];by_cases h:i=j
 ·subst h;cases l[i]?<;>simp
 ·simp [h]
set_option maxRecDepth 8000 in
theorem Write1_ret (X V A B C i bc:Nat) (bp:Option Addr) (b:List UInt8) (d:DskP) (w:World) (h:DiskR w X V d) (hA:Blk w A [.pointer (some ⟨X,0,none⟩)] 25) (hB:Blk w B [.int .i64 (i:Int)] 3) (hC:Blk w C [.slice bp b.length bc] 23) (hb:BytesR w (.slice bp b.length bc) b) (hbl:b.length=64) (hi:i<d.l.length) (hBY:V≠A∧V≠B) :
  Ret Try.prog 70 [.pointer (some ⟨A,0,none⟩),.pointer (some ⟨B,0,none⟩),.pointer (some ⟨C,0,none⟩)] w (fun _ w'=>DiskR w' X V ⟨putSec i b d.l,d.crash,d.calls,d.down⟩∧Chg [V] w w'):=by
 obtain ⟨s,hs⟩:∃s,d.l[i]?=some s:=⟨_,List.getElem?_eq_getElem hi⟩;have hsh:=h.short;obtain ⟨z1,z2⟩:=h.at_ hs;have hH:=h.head;have hR:=h.row;have hlen:=dskC_len h.sized;refine Rte Try.func70 Try.ntmps70 ?_;apply CW.seq;refine CW.drawTail 9 (by kernel_rfl) (by kernel_rfl) fun wa hxa=>?_;replace hA:=hA.ext hxa;replace hB:=hB.ext hxa;replace hC:=hC.ext hxa;replace hH:=hH.ext hxa;replace hR:=hR.ext hxa;refine Stu ?_;refine TL.yields rfl rfl rfl (Y.slice_array rfl rfl rfl rfl) ?_;refine Stu ?_;refine TL.nil ?_;refine LW.copy (g:=V) (off:=i*129) (cur:=dskC d.l) (cs:=bcells b) rfl rfl rfl rfl rfl rfl rfl hR (by rw [bcells_len',hbl];rfl) (fun _=>⟨congrArg some (sec_addr V i 0),?_⟩) (by rw [bcells_len',hlen,hbl];omega) (bcells_one b) ?_
 ·rcases BytesQ.cells (hb.ext hxa) with ⟨_,e⟩ | ⟨a,e,hc⟩
  ·omega
  ·exact ⟨a,e,hc⟩
 intro w1 hc1 hR1;rw [dskC_now h.sized hs hbl] at hR1;have hne:=h.ne;have z':Sized (d.l.modify i fun s=>⟨b,s.safe,s.loose⟩):=modify_sized h.sized fun s hs=>⟨hbl,hs.2⟩;have hl':(d.l.modify i fun s=>(⟨b,s.safe,s.loose⟩:SecP)).length=d.l.length:=by simp
 have hs':(d.l.modify i fun s=>(⟨b,s.safe,s.loose⟩:SecP))[i]?=some ⟨b,s.safe,s.loose⟩:=by simp [hs]
 have hlen':=dskC_len z';rw [hl'] at hlen';replace hA:=hA.chg hc1 (by simpa using fun e=>hBY.1 e.symm);replace hB:=hB.chg hc1 (by simpa using fun e=>hBY.2 e.symm);replace hH:=hH.chg hc1 (by simpa using hne);apply LW.nil;apply QW.then_n;refine CW.drawTail 7 (by kernel_rfl) (by kernel_rfl) fun wb hxb=>?_;replace hA:=hA.ext hxb;replace hB:=hB.ext hxb;replace hH:=hH.ext hxb;replace hR1:=hR1.ext hxb;refine Stu ?_;refine TL.nil ?_;refine LW.store (i:=i*129+128) (by show some (Value.pointer (some _))=_;rw [←sec_addr]) rfl rfl hR1 (Nat.ble_eq_true_of_le (by show _+1≤_;rw [hlen'];omega)) rfl rfl fun w2 hc2 hR2=>?_;rw [dskC_loose z' hs',putSec_two] at hR2;replace hH:=hH.chg hc2 (by simpa using hne);apply LW.nil;have hpl:(putSec i b d.l).length=d.l.length:=putSec_len ..;exact QW.body_n (rs:=[]) (vs:=[]) rfl trivial rfl ⟨⟨by rw [hpl];exact hH,hR2,hne,putSec_sized h.sized hbl,by rw [hpl];exact h.long,by rw [hpl];exact hsh⟩,((hxa.chg.same hc1).ext hxb).same hc2⟩
set_option maxRecDepth 8000 in
theorem DWrite_ret (X V i:Nat) (bv:Value) (b:List UInt8) (d:DskP) (w:World) (h:DiskR w X V d) (hd:d.down=false) (hc:d.crash≤1000000) (hcl:d.calls≤1000000) (hb:BytesQ (fun a=>a.block≠X∧a.block≠V) w bv b) (hbl:b.length=64) (hi:i<d.l.length) :
  Ret Try.prog 55 [.pointer (some ⟨X,0,none⟩),.int .i64 (i:Int),bv] w (fun v w'=>v=tickV (d.tick (putSec i b)).2∧DiskR w' X V (d.tick (putSec i b)).1∧Chg [X,V] w w'):=by
 obtain ⟨bp,bc,rfl⟩:=hb.slice;have hsh:=h.short;have hXl:=h.head.lt;have hYl:=h.row.lt;refine Rte Try.func55 Try.ntmps55 ?_;apply CW.seq;apply CW.region;refine Lwb fun A w1 hbA hx1 hA=>?_;replace hA:Blk w1 A [.pointer (some ⟨X,0,none⟩)] 25:=hA;refine Lwb fun B w2 hbB hx2 hB=>?_;replace hB:Blk w2 B [.int .i64 (i:Int)] 3:=hB;refine Lwb fun C w3 hbC hx3 hC=>?_;replace hC:Blk w3 C [.slice bp b.length bc] 23:=hC;have hx03:=(hx1.trans hx2).trans hx3;have hz1:=hx1.size;have hz2:=hx2.size;replace hA:=(hA.ext hx2).ext hx3;replace hB:=hB.ext hx3;have h3:=h.ext hx03;have hb3:=BytesQ.ext hb hx03;have hH:=h3.head;rw [hd] at hH;refine Su ?_;refine LW.eql_pn rfl rfl rfl rfl ?_;refine Su ?_;refine CW.drawG (Ext w3) 16 (fun w' h=>h) (by kernel_rfl) fun wa hxa=>?_;refine Sgx ?_;refine GW.know (t:=18) (c:=false) rfl (decide_eq_false (by omega)) ?_;refine Sgx ?_;refine GW.know (t:=27) (c:=false) rfl (decide_eq_false (by omega)) ?_;refine Sgx ?_;refine GW.tail rfl (by kernel_rfl) (fun hS=>?_);replace hA:=hA.ext hS;replace hB:=hB.ext hS;replace hC:=hC.ext hS;replace hH:=hH.ext hS;refine Su ?_;refine CW.no rfl (by simp [hbl]) ?_;refine Su ?_;have ha:=h3.ext hS;refine Lc0 rfl rfl (change_ret d X V 70 [] [.pointer (some ⟨A,0,none⟩),.pointer (some ⟨B,0,none⟩),.pointer (some ⟨C,0,none⟩)] (putSec i b) _ ha hc hcl ?_) ?_
 ·intro w4 hc4 hD4;have hnX:∀k:Nat,X≠k→k∉[X]:=fun k hk=>by simpa using fun e=>hk e.symm
  have:=Write1_ret X V A B C i bc bp b _ w4 hD4 (hA.chg hc4 (hnX _ (by omega))) (hB.chg hc4 (hnX _ (by omega))) (hC.chg hc4 (hnX _ (by omega))) (BytesQ.of (BytesQ.chg (BytesQ.ext hb3 hS) hc4 fun a hk=>hnX _ fun e=>hk.1 e.symm)) hbl hi ⟨by omega,by omega⟩;exact this.mono fun v w5 ⟨h5,c5⟩=>⟨h5,c5.mono fun k hk _=>by simp at hk;simp [hk]⟩
 rintro v w4 ⟨rfl,h4,c4⟩;refine Su ?_;exact QW.body1 Try.results55 rfl ⟨rfl,h4,((hx03.trans hS).chg).same c4⟩
def settleK (k:Nat) (l:List SecP):List SecP:=settleS (l.take k)++l.drop k
theorem settleK_len (k:Nat) (l:List SecP):(settleK k l).length=l.length:=by
 simp [settleK,settleS];omega
theorem settleK_zero (l:List SecP):settleK 0 l=l:=by simp [settleK,settleS]
theorem settleK_all (l:List SecP):settleK l.length l=settleS l:=by simp [settleK]
theorem settleK_get {k:Nat} {l:List SecP} {s:SecP} (h:l[k]?=some s):(settleK k l)[k]?=some s:=by
 have hk:=(List.getElem?_eq_some_iff.1 h).1;rw [settleK,List.getElem?_append_right (by simp [settleS];omega)];simp [settleS,Nat.min_eq_left (Nat.le_of_lt hk),h]
theorem settleK_succ {k:Nat} {l:List SecP} {s:SecP} (h:l[k]?=some s):settleK (k+1) l=(settleK k l).modify k fun _=>settle1 s:=by
 have hk:=(List.getElem?_eq_some_iff.1 h).1;apply List.ext_getElem?;intro j;rw [List.getElem?_modify];have g:∀(q j:Nat),(settleK q l)[j]?=if j<q then (l[j]?).map settle1 else l[j]?:=fun q j=>by
  unfold settleK settleS;by_cases hj:j<l.length
  ·by_cases hq:j<q
   ·rw [if_pos hq,List.getElem?_append_left (by simp;omega)];simp [hq]
   ·rw [if_neg hq,List.getElem?_append_right (by simp;omega)];simp only [List.length_map,List.length_take,List.getElem?_drop]
    congr 1
    omega
  ·rw [List.getElem?_eq_none (by simp;omega),List.getElem?_eq_none (by omega)]
   split<;>rfl
 rw [g,g];by_cases e:k=j
 ·subst e;simp [h]
 ·by_cases h1:j<k
  ·simp [h1,e,show j<k+1 by omega]
  ·simp [h1,e,show ¬j<k+1 by omega]
theorem settleK_sized {k:Nat} {l:List SecP} (h:Sized l):Sized (settleK k l):=fun s hs=>by
 rcases List.mem_append.1 hs with hs | hs
 ·exact settle_sized (fun x hx=>h x (List.mem_of_mem_take hx)) s hs
 ·exact h s (List.mem_of_mem_drop hs)
theorem settle_two {l:List SecP} {k:Nat} {s:SecP} (h:l[k]?=some s) (hl:s.loose=true):(l.modify k fun x=>⟨x.now,s.now,x.loose⟩).modify k (fun x=>⟨x.now,x.safe,false⟩)=l.modify k fun _=>settle1 s:=by
 apply List.ext_getElem?;intro j;simp only [List.getElem?_modify];by_cases e:k=j
 ·subst e;simp [h,settle1,hl]
 ·simp [e]
set_option maxRecDepth 8000 in
set_option maxHeartbeats 1000000 in
theorem settle_ret (X V:Nat) (d:DskP) (w:World) (h:DiskR w X V d):Ret Try.prog 42 [.pointer (some ⟨X,0,none⟩)] w (fun _ w'=>DiskR w' X V ⟨settleS d.l,d.crash,d.calls,d.down⟩∧Chg [X,V] w w'):=by
 have hH:=h.head;have hne:=h.ne;have hsh:=h.short;generalize hn:d.l.length=n at hH hsh;refine Rte Try.func42 Try.ntmps42 ?_;refine Su ?_;refine CW.loop (ι:=Nat) (fun k w'=>k≤n∧Chg [V] w w'∧Blk w' V (dskC (settleK k d.l)) 88) (fun k=>[(0,.pointer (some ⟨X,0,none⟩)),(7,.int .i64 n),(8,.int .i64 k)]) (fun k=>n - k) 0 ⟨by omega,Chg.refl _ _,by rw [settleK_zero];exact h.row⟩ Sub3 ?_;rintro k w1 ⟨hk,hc1,hR1⟩;replace hH:=hH.chg hc1 (by simpa using hne);refine Su ?_;refine Cwc (fun h1=>?_) fun h1=>?_;rotate_left
 ·have h1:k=n:=by simp at h1;omega
  subst h1;refine Su ?_;rw [←hn,settleK_all] at hR1;exact QW.body_n (rs:=[]) (vs:=[]) rfl trivial rfl ⟨⟨by rw [settle_len,hn];exact hH,hR1,hne,settle_sized h.sized,by rw [settle_len];exact h.long,by rw [settle_len];exact h.short⟩,hc1.mono fun k hk _=>by simp at hk;simp [hk]⟩
 have h1:k<n:=by simp at h1;omega
 obtain ⟨s,hs⟩:∃s,d.l[k]?=some s:=⟨_,List.getElem?_eq_getElem (by omega)⟩;have hs1:=settleK_get hs;have zk:Sized (settleK k d.l):=settleK_sized h.sized;have hlk:(settleK k d.l).length=n:=by rw [settleK_len,hn]
 obtain ⟨z1,z2⟩:=h.at_ hs;have hD1:DiskR w1 X V ⟨settleK k d.l,d.crash,d.calls,d.down⟩:=⟨by rw [hlk];exact hH,hR1,hne,zk,by rw [hlk];have:=h.long;omega,by rw [hlk];omega⟩;have hlo:=hD1.cellA hs1 (by decide) (secC_loose z1 z2);have hlen:=dskC_len zk;rw [hlk] at hlen;refine Su ?_
 cases hl:s.loose with
 | false=>
  rw [hl] at hlo;refine Su ?_;refine QW.again (k+1) ⟨by omega,hc1,?_⟩ Sub3 (by omega);rw [settleK_succ hs];have e:settle1 s=s:=by simp [settle1,hl]
  rw [e,show (settleK k d.l).modify k (fun _=>s)=settleK k d.l from ?_]
  ·exact hR1
  ·apply List.ext_getElem?;intro j;rw [List.getElem?_modify];by_cases e:k=j
   ·subst e;simp [hs1]
   ·simp [e]
 | true=>
  rw [hl] at hlo;refine Su ?_;have hnow:∀j u,(bcells s.now)[j]?=some u→w1.cell? ((((⟨V,0,none⟩:Addr).add (((k:Nat):Int).toNat*129)).add 0).add j)=some u:=fun j u hj=>by
   have hjl:=(List.getElem?_eq_some_iff.1 hj).1;rw [bcells_len'] at hjl;have:=hD1.cellA hs1 (k:=j) (by omega) (by rw [secC_now z1 (by omega)];exact hj);rw [sec_addr] at this;rw [sec_addr,add_addr];exact this
  refine CW.drawG (fun w'=>Chg [V] w1 w'∧∀j u,(bcells s.now)[j]?=some u→w'.cell? ((((⟨V,0,none⟩:Addr).add (((k:Nat):Int).toNat*129)).add 0).add j)=some u) 21 (fun w' hx=>⟨hx.chg,fun j u hj=>cell_ext hx (hnow j u hj)⟩) (by kernel_rfl) fun wa hxa=>?_;refine Sgx ?_;refine GW.take 3 rfl rfl rfl rfl (fun w' hw=>Y.load rfl (hH.chg hw.1 (by simpa using hne)) rfl rfl rfl) rfl rfl (by kernel_rfl) (by kernel_rfl) (by kernel_rfl) (fun _ _ _ h=>h) ?_;refine Sgx ?_;refine GW.take 8 rfl rfl rfl rfl (fun w' hw=>Y.load rfl (hH.chg hw.1 (by simpa using hne)) rfl rfl rfl) rfl rfl (by kernel_rfl) (by kernel_rfl) (by kernel_rfl) (fun _ _ _ h=>h) ?_;refine Sgx ?_;refine GW.take 13 rfl rfl rfl rfl (fun w' hw=>Y.load rfl (hH.chg hw.1 (by simpa using hne)) rfl rfl rfl) rfl rfl (by kernel_rfl) (by kernel_rfl) (by kernel_rfl) (fun _ _ _ h=>h) ?_;refine Sgx ?_;refine GW.take 17 rfl rfl rfl rfl (fun w' hw=>Y.load_cells (cs:=bcells s.now) rfl hw.2 rfl rfl (by rw [bcells_len',z1])) rfl rfl (by kernel_rfl) (by kernel_rfl) (by kernel_rfl) (fun _ _ _ h=>h) ?_;refine Sgx ?_;refine Gko 20 fun hS=>?_;replace hR1:=hR1.ext hxa;refine LW.store_agg (i:=k*129+64) (cs:=bcells s.now) (by show some (Value.pointer (some _))=_;rw [←sec_addr]) rfl (List.all_eq_true.2 (bcells_one s.now)) hR1 (by rw [hlen,bcells_len'];omega) rfl (by rw [bcells_len',z1];rfl) fun w2 hc2 hR2=>?_;rw [dskC_safe zk hs1 z1] at hR2;have zk2:Sized ((settleK k d.l).modify k fun x=>⟨x.now,s.now,x.loose⟩):=modify_sized zk fun x hx=>⟨hx.1,z1⟩;have hlk2:((settleK k d.l).modify k fun x=>(⟨x.now,s.now,x.loose⟩:SecP)).length=n:=by simp [hlk]
  have hs2:((settleK k d.l).modify k fun x=>(⟨x.now,s.now,x.loose⟩:SecP))[k]?=some ⟨s.now,s.now,s.loose⟩:=by simp [hs1]
  have hlen2:=dskC_len zk2;rw [hlk2] at hlen2;have hHa:=(hH.ext hxa).chg hc2 (by simpa using hne);have hD2:DiskR w2 X V ⟨(settleK k d.l).modify k fun x=>⟨x.now,s.now,x.loose⟩,d.crash,d.calls,d.down⟩:=⟨by rw [hlk2];exact hHa,hR2,hne,zk2,by rw [hlk2];have:=h.long;omega,by rw [hlk2];omega⟩;apply LW.nil;refine QW.headed ⟨(hxa.chg).same hc2,fun j u hj=>?_⟩ ?_
  ·have hjl:=(List.getElem?_eq_some_iff.1 hj).1;rw [bcells_len'] at hjl;have:=hD2.cellA hs2 (k:=j) (by omega) (by rw [secC_now (s:=⟨s.now,s.now,s.loose⟩) z1 (by omega)];exact hj);rw [sec_addr] at this;rw [sec_addr,add_addr];exact this
  clear hS;refine GW.tail rfl (by kernel_rfl) (fun hS=>?_);refine Su ?_;refine LW.store (i:=k*129+128) (by show some (Value.pointer (some _))=_;rw [←sec_addr]) rfl rfl hR2 (Nat.ble_eq_true_of_le (by show _+1≤_;rw [hlen2];omega)) rfl rfl fun w3 hc3 hR3=>?_;rw [dskC_loose zk2 hs2,settle_two hs1 hl,←settleK_succ hs] at hR3;refine Su ?_;exact QW.again (k+1) ⟨by omega,((hc1.ext hxa).same hc2).same hc3,hR3⟩ Sub3 (by omega)
theorem Sync_ret (X V:Nat) (d:DskP) (w:World) (h:DiskR w X V d) (hd:d.down=false) (hc:d.crash≤1000000) (hcl:d.calls≤1000000) :
  Ret Try.prog 56 [.pointer (some ⟨X,0,none⟩)] w (fun v w'=>v=tickV (d.tick settleS).2∧DiskR w' X V (d.tick settleS).1∧Chg [X,V] w w'):=by
 have hH:=h.head;rw [hd] at hH;refine Rte Try.func56 Try.ntmps56 ?_;refine Su ?_;refine LW.eql_pn rfl rfl rfl rfl ?_;refine Su ?_;refine Lc0 rfl rfl (change_ret d X V 42 [.pointer (some ⟨X,0,none⟩)] [] settleS _ h hc hcl fun w1 _ h1=>settle_ret X V _ w1 h1) ?_;rintro v w1 ⟨rfl,h1,c1⟩;refine Su ?_;exact QW.body1 Try.results56 rfl ⟨rfl,h1,c1⟩
open Go Go.E Go.RowKit
theorem grown_of {w w':World} (h:Ext w w'):w.grownBy w' none:=⟨h.os,h.tape,h.output,h.size,fun k hk _=>h.block k hk (by simp)⟩
theorem CIwide {m:Nat} {P:Program} {c:Code} {Q:Exit→Act→World→Prop} {D:List Deferred} {n:Nat} {Ev:Env} {w:World} (h:CW P c Q D n Ev w):E.CI Fence.wide m P c Q D n Ev w:=by
 unfold CW at h;unfold E.CI;exact fun a ha=>wpIn_wide.2 (h a ha)
def chL (n k:Nat):Nat:=min 64 (n - k*64)
def chE (a:Addr) (n:Nat) (k:Nat):List Value:=[.slice (some (a.add (k*64*1))) (chL n k) (chL n k)]
def RiseOk {n:Nat} (pre:List (Fin n)):Prop:=∀(i:Nat) (x:Fin n),pre[i]?=some x→x.val=i
theorem RiseOk.push {n:Nat} {pre:List (Fin n)} {x:Fin n} (h:RiseOk pre) (hx:x.val=pre.length):RiseOk (pre++[x]):=fun i y hi=>by
 rcases Nat.lt_trichotomy i pre.length with h1 | h1 | h1
 ·rw [List.getElem?_append_left h1] at hi;exact h i y hi
 ·subst h1;rw [List.getElem?_append_right (Nat.le_refl _)] at hi;simp at hi;rw [←hi];exact hx
 ·rw [List.getElem?_eq_none (by simp;omega)] at hi;cases hi
theorem Chunk_ret (p:Option Addr) (n c:Nat) (w:World):Ret Try.prog 54 [.slice p n c,.int .i64 64] w (fun v w'=>∃A B,v=.func (.func 68) ⟨[]⟩ ⟨[.pointer (some ⟨A,0,none⟩),.pointer (some ⟨B,0,none⟩)]⟩∧Blk w' A [.slice p n c] 23∧Blk w' B [.int .i64 64] 3∧w.heap.size≤A∧w.heap.size≤B∧Ext w w'):=by
 refine Rte Try.func54 Try.ntmps54 ?_;apply CW.seq;apply CW.region;refine Lwb fun A w1 hbA hx1 hA=>?_;replace hA:Blk w1 A [.slice p n c] 23:=hA;refine Lwb fun B w2 hbB hx2 hB=>?_;replace hB:Blk w2 B [.int .i64 64] 3:=hB;have hz:=hx1.size;refine Su ?_;exact QW.body1 Try.results54 rfl ⟨A,B,rfl,hA.ext hx2,hB,by omega,by omega,hx1.trans hx2⟩
set_option maxRecDepth 8000 in
set_option maxHeartbeats 1000000 in
theorem chunk_stops (a:Addr) (n c A B N:Nat) (ok:Nat→Prop) (w0:World) (hn:n≤10000000) (hc:n≤c) (hN:N*64<n+64∧n≤N*64) (hA:Blk w0 A [.slice (some a) n c] 23) (hB:Blk w0 B [.int .i64 64] 3) (hokA:ok A) (hokB:ok B) (hlt:∀b,ok b→b<w0.heap.size) :
  SeqStopsK Fence.wide 3 Try.prog 68 ⟨[.pointer (some ⟨A,0,none⟩),.pointer (some ⟨B,0,none⟩)]⟩ (fun x=>⟨chE a n x.val⟩) (KeptOn ok) (fun ys:List (Fin N)=>ys.length=N∧RiseOk ys) (fun ys=>RiseOk ys) N w0:=by
 intro l J Jx W hW hJ hJx hY h0;have hF:=wide_w;have hWk:KeptOn ok w0 W:=fun b hb=>hW.block b (hlt b hb);refine CallsIn.enterI (args:=[.func (.yield l) #[] #[],.pointer (some ⟨A,0,none⟩),.pointer (some ⟨B,0,none⟩)]) Try.func68 rfl Try.ntmps68 hF rfl rfl ?_;refine Sgi ?_;refine E.CI.loop (ι:=List (Fin N)) (fun x w'=>KeptOn ok w0 w'∧J x w'∧x.length≤N∧RiseOk x) (fun x=>[(0,.func (.yield l) #[] #[]),(1,.pointer (some ⟨A,0,none⟩)),(2,.pointer (some ⟨B,0,none⟩)),(4,.int .i64 ((x.length*64:Nat):Int))]) (fun x=>N - x.length) [] ⟨hWk,h0,by simp,fun i x h=>by simp at h⟩ Sub4 ?_;rintro pre w1 ⟨hkp,hJ1,hlen,hok⟩;have hA1:=hkp.blk hokA hA;have hB1:=hkp.blk hokB hB;obtain ⟨k,hk⟩:∃k,pre.length=k:=⟨_,rfl⟩;rw [hk] at hlen;show E.CI _ _ _ _ _ _ _ [(0,.func (.yield l) #[] #[]),(1,.pointer (some ⟨A,0,none⟩)),(2,.pointer (some ⟨B,0,none⟩)),(4,.int .i64 ((pre.length*64:Nat):Int))] _;rw [hk];refine Sgi ?_;refine E.CI.cond rfl (fun h1=>?_) (fun h1=>?_);rotate_left
 ·have h1:n≤k*64:=by simp at h1;omega
  refine Sgi ?_;exact QW.bodyI (.inr rfl) rfl ⟨⟨_,rfl⟩,.inl ⟨pre,⟨by omega,hok⟩,hJ1⟩⟩
 have h1:k*64<n:=by simp at h1;omega
 have hkN:k<N:=by omega
 refine Sgi ?_;refine CIwide ?_;refine CW.drawG (Ext w1) 6 (fun w' h=>h) (by kernel_rfl) fun wa hxa=>?_;refine GW.take 0 rfl rfl rfl rfl (fun w' hw=>Y.load rfl (hB1.ext hw) rfl rfl rfl) rfl rfl (by kernel_rfl) (by kernel_rfl) (by kernel_rfl) (fun _ _ _ h=>h) ?_;refine GW.take 1 rfl rfl rfl rfl (fun w' hw=>Y.load rfl (hA1.ext hw) rfl rfl rfl) rfl rfl (by kernel_rfl) (by kernel_rfl) (by kernel_rfl) (fun _ _ _ h=>h) ?_;refine Gkp 2 ?_;refine GW.take 3 rfl rfl rfl rfl (fun _ _=>Y.slice_from (i:=k*64) rfl rfl rfl rfl rfl (by omega)) rfl rfl (by kernel_rfl) (by kernel_rfl) (by kernel_rfl) (fun _ _ _ h=>h) ?_;refine Gkp 4 ?_;refine GW.take 5 rfl rfl rfl rfl (fun _ _=>Y.min (c:=((chL n k:Nat):Int)) rfl rfl (by unfold chL;omega)) rfl rfl (by kernel_rfl) (by kernel_rfl) (by kernel_rfl) (fun _ _ _ h=>h) ?_;refine GW.tail rfl (by kernel_rfl) (fun hS=>?_);have hJa:J pre wa:=hJ pre w1 wa none hJ1 (grown_of hS) (fun r e=>by cases e);have hka:KeptOn ok w0 wa:=fun b hb=>(hS.block b (by
  have h2:=hkp b hb;rw [Array.getElem?_eq_getElem (hlt b hb)] at h2;exact (Array.getElem?_eq_some_iff.1 h2).1) (by simp)).trans (hkp b hb)
 have hAa:=hA1.ext hS;have hBa:=hB1.ext hS;refine Su ?_;apply QW.then_i;have hy:=hY pre ⟨k,hkN⟩ wa hJa (by rw [hk];exact hkN);have hcl:chL n k≤64∧k*64+chL n k≤n∧0<chL n k:=by unfold chL;omega
 refine Sgi ?_;refine E.LI.val hF rfl rfl (fun c h=>by cases h) rfl (Y.slice_three (i:=k*64) (j:=k*64+chL n k) (q:=k*64+chL n k) rfl rfl rfl rfl rfl rfl rfl (by omega) (Nat.le_refl _) (by omega)) ?_;rw [if_neg (show ¬k*64+chL n k=k*64 by omega),Nat.add_sub_cancel_left];refine Sgi ?_;refine E.LI.yield hF rfl rfl rfl hy ?_;rintro e w2 (⟨rfl,hJ2,hk2⟩ | ⟨rfl,hJx2⟩)
 ·refine ⟨_,rfl,?_⟩;refine Sgi ?_;refine E.CI.cond rfl (fun h2=>by cases h2) (fun _=>?_);have hB2:=(hka.trans hk2).blk hokB hB;refine Sgi ?_;have e1:(pre++[(⟨k,hkN⟩:Fin N)]).length=k+1:=by rw [List.length_append,hk];rfl
  have h4:(pre++[(⟨k,hkN⟩:Fin N)]).length≤N:=by rw [e1];exact hkN
  have h5:N - (pre++[(⟨k,hkN⟩:Fin N)]).length<N - k:=by rw [e1];omega
  have h6:some (Value.int .i64 (((k*64:Nat):Int)+64))=some (Value.int .i64 (((pre++[(⟨k,hkN⟩:Fin N)]).length*64:Nat):Int)):=by rw [e1];congr 2;omega
  refine QW.again (pre++[⟨k,hkN⟩]) ⟨hka.trans hk2,hJ2,h4,hok.push hk.symm⟩ ?_ h5;show Sub [(0,.func (.yield l) #[] #[]),(1,.pointer (some ⟨A,0,none⟩)),(2,.pointer (some ⟨B,0,none⟩)),(4,.int .i64 (((pre++[(⟨k,hkN⟩:Fin N)]).length*64:Nat):Int))] _;refine Sub.cons rfl ?_;refine Sub.cons rfl ?_;refine Sub.cons rfl ?_;refine Sub.cons ?_ Sub.nil;exact h6
 ·refine ⟨_,rfl,?_⟩;refine Sgi ?_;refine E.CI.cond rfl (fun _=>?_) (fun h2=>by cases h2);refine Sgi ?_;exact QW.bodyI (.inl rfl) rfl ⟨⟨_,rfl⟩,.inr ⟨_,hok.push hk.symm,hJx2⟩⟩
end Go.Proofs.Ytabjahlbcoigcaa
