/-
  Joined by program out of the texts LexM LexN V8 ParL1 ParL2 Tree.
-/
import Derived.Test.YtefaigjfkddelaaGreatDoorCkA
import Derived.Test.YtefaigjfkddelaaGreatDoorTab
import Derived.Test.YtefaigjfkddelaaGreatDoorCkE
import Derived.DataElems
namespace Go.Proofs.YtefaigjfkddelaaGreatDoor
open Go Go.E
theorem LK (acc:Int) (l:List UInt8) {z:Int} (h0:0≤z) (h1:z≤255):B9 acc (l++[ch z])=10*B9 acc l+(z - 48):=by
 rw [G4,Eu h0 h1]
theorem FD:∀(l:List UInt8) (acc:Int),0≤acc→(∀c∈l,48≤c.toNat)→B9 acc l=0→acc=0∧∀c∈l,c.toNat=48
 | [],acc,_,_,h=>⟨h,by simp⟩
 | c::r,acc,ha,hd,h=>by
  have hc:=hd c (by simp);obtain ⟨e,hr⟩:=FD r (10*acc+((c.toNat:Int) - 48)) (by omega) (λx hx=>hd x (by simp [hx])) h;exact ⟨by omega,λx hx=>by
   simp only [List.mem_cons] at hx;rcases hx with rfl | hx
   ·omega
   ·exact hr x hx⟩
theorem EF (p:Int→Bool):∀(a b:List UInt8),(∀c∈a,p (c.toNat:Int)=true)→Al p (a++b)=a++Al p b
 | [],_,_=>rfl
 | c::a,b,h=>by
  have hc:=h c (by simp);have ih:=EF p a b (λd hd=>h d (by simp [hd]));simp only [Al] at ih ⊢;simp [hc,ih]
def Dn:List (List UInt8):=[[60,62],[60,61],[62,61]]
def VU:List UInt8:=[43,45,42,47,38,61,60,62,40,41,44,58]
def VT (z:Int):Bool:=decide (z=43∨z=45∨z=42∨z=47∨z=38∨z=61∨z=60∨z=62∨z=40∨z=41∨z=44∨z=58)
theorem Vx:∀n:Fin 256,decide (UInt8.ofNat n.val∈VU)=VT (n.val:Int):=by decide +kernel
theorem VV (c:UInt8):decide (c∈VU)=VT (c.toNat:Int):=by
 have:=Vx ⟨c.toNat,c.toNat_lt⟩
 simpa using this
theorem Ou:AN=Dn++VU.map λc=>[c]:=rfl
theorem L6 (c:UInt8):∀l:List UInt8,l.find? (λx=>x == c)=if c∈l then some c else none
 | []=>rfl
 | d::r=>by
  have ih:=L6 c r;by_cases h:d=c
  ·subst h;simp [List.find?]
  ·have h':¬c=d:=λe=>h e.symm;have hb:(d == c)=false:=by simpa using h
   simp only [List.find?,hb,ih,List.mem_cons,h',false_or]
theorem RP {l:List UInt8} (h:(l.take 2)∈Dn):AN.find? (λs=>Lib.hasPrefix l s)=some (l.take 2):=by
 match l,h with
 | [],h=>simp [Dn] at h
 | [_],h=>simp [Dn] at h
 | c::d::r,h=>
  simp only [List.take,Dn,List.mem_cons,List.cons.injEq,and_true,List.not_mem_nil,or_false] at h;rcases h with ⟨rfl,rfl⟩ | ⟨rfl,rfl⟩ | ⟨rfl,rfl⟩<;>rfl
theorem Ot {l:List UInt8} (hl:l≠[]) (hn:l.take 2∉Dn):AN.find? (λs=>Lib.hasPrefix l s)=if VT (Ae l 0) then some (l.take 1) else none:=by
 cases l with
 | nil=>exact absurd rfl hl
 | cons c r=>
  have h1:Dn.find? (λs=>Lib.hasPrefix (c::r) s)=none:=by
   rw [List.find?_eq_none];intro p hp hh;have h2:p.length=2:=by
    have:∀p∈Dn,p.length=2:=by decide
    exact this p hp
   have h3:=List.prefix_iff_eq_take.1 (List.isPrefixOf_iff_prefix.1 hh);rw [h2] at h3;exact hn (h3 ▸ hp)
  have h2:(λs=>Lib.hasPrefix (c::r) s) ∘ (λc:UInt8=>[c])=λx=>x == c:=by
   funext x
   simp [Lib.hasPrefix,List.isPrefixOf]
  rw [Ou,List.find?_append,h1,List.find?_map,h2,L6];have h3:VT (Ae (c::r) 0)=decide (c∈VU):=(VV c).symm;rw [h3];by_cases hm:c∈VU
  ·simp [hm]
  ·simp [hm]
theorem OJ {l:List UInt8} (h:Ae l 0≠35):Lib.hasPrefix l GM=false:=by
 cases l with
 | nil=>rfl
 | cons c r=>
  have hc:c≠35:=by
   rintro rfl;exact h rfl
  simp [Lib.hasPrefix,GM,List.isPrefixOf];exact λe=>absurd e.symm hc
theorem Vd (c:Int):EW c=(Jh c||decide (c=36)):=rfl
theorem UE (x:Ak):(CL x).length=9:=rfl
theorem Nk:Tryz.prog.eqGuardType Tryz.prog.depth 113=false:=by kernel_rfl
theorem PM (x y:Cn) (d:Nat) (w:World):(Op.equalIn (d+2) 113 (.agg ⟨Cr x⟩) (.agg ⟨Cr y⟩)).run Tryz.prog w=.ok (decide (x=y)) w:=by
 obtain ⟨s1,c1,r1,a1,b1⟩:=x;obtain ⟨s2,c2,r2,a2,b2⟩:=y;have ht:Tryz.prog.underlying 113=some (.struct (Tryz.prog.fieldsOf 113)):=by simp [Program.fieldsOf,Tryz.underlying113]
 have hp:Tryz.prog.stoodInHeld 113=false:=by kernel_rfl
 simp only [Cr];rw [run_equalIn_agg w (d+1) _ _ _ ht hp];simp only [Program.fieldsOf,Tryz.underlying113];refine (FS (by decide) (AY (v:=Ap s1) rfl rfl rfl w) (AY (v:=Ap s2) rfl rfl rfl w) (Vg rfl rfl _ _ w)
  (FS (by decide) (AY (v:=.int .i64 c1) rfl rfl rfl w) (AY (v:=.int .i64 c2) rfl rfl rfl w) (S9 rfl rfl _ _ w)
  (FS (by decide) (AY (v:=.int .i64 r1) rfl rfl rfl w) (AY (v:=.int .i64 r2) rfl rfl rfl w) (S9 rfl rfl _ _ w)
  (FS (by decide) (AY (v:=.bool a1) rfl rfl rfl w) (AY (v:=.bool a2) rfl rfl rfl w) (PL rfl rfl _ _ w)
  (FS (by decide) (AY (v:=.bool b1) rfl rfl rfl w) (AY (v:=.bool b2) rfl rfl rfl w) (PL rfl rfl _ _ w)
  (Ue _ _ _ w)))))).trans ?_
 refine congrArg (λb=>Result.ok b w) ?_;rw [Bool.eq_iff_iff];simp only [Bool.and_eq_true,decide_eq_true_eq,Cn.mk.injEq,and_true]
theorem Ej:∀(n u:Nat),u≤n→(∀c∈Lib.decDigits u,Av (c.toNat:Int)=true)∧Lib.decDigits u≠[]∧B9 0 (Lib.decDigits u)=u∧(u≠0→Ae (Lib.decDigits u) 0≠48)∧(u=0→(Lib.decDigits u).length=1)
 | n,u,hn=>by
  by_cases h:u<10
  ·rw [BV h];have e:((ch (48+(u:Int))).toNat:Int)=48+u:=Eu (by omega) (by omega);refine ⟨?_,by simp,?_,λh0=>?_,λ_=>rfl⟩
   ·intro c hc;simp only [List.mem_singleton] at hc;subst hc;rw [e];simp [Av];omega
   ·have:=LK 0 [] (z:=48+(u:Int)) (by omega) (by omega);rw [List.nil_append] at this;rw [this];have:B9 0 []=0:=rfl;omega
   ·have:Ae [ch (48+(u:Int))] 0=48+u:=e;omega
  ·rw [Dk (by omega)]
   match n with
   | 0=>omega
   | n+1=>
    obtain ⟨a1,a2,a3,a4,_⟩:=Ej n (u / 10) (by omega);have hr:(48+(u:Int) % 10)≤57∧48≤(48+(u:Int) % 10):=by omega
    have e:((ch (48+(u:Int) % 10)).toNat:Int)=48+(u:Int) % 10:=Eu (by omega) (by omega);refine ⟨?_,by simp,?_,λ_=>?_,λh0=>by omega⟩
    ·intro c hc;rw [List.mem_append] at hc;rcases hc with hc | hc
     ·exact a1 c hc
     ·simp only [List.mem_singleton] at hc;subst hc;rw [e];simp [Av];omega
    ·rw [LK _ _ (by omega) (by omega),a3];omega
    ·rw [Bg (List.length_pos_iff.2 a2)];exact a4 (by omega)
theorem Fd {k:Int} (h:0≤k):Lib.itoa k=Lib.decDigits k.toNat:=by
 unfold Lib.itoa;rw [if_neg (by omega)]
theorem S8 {l:List UInt8} (hl:l≠[]) (hd:∀c∈l,Av (c.toNat:Int)=true):Ae l 0≠32:=by
 obtain ⟨c,hm,e⟩:=Et (List.length_pos_iff.2 hl);have:=hd c hm;rw [←e] at this;simp [Av] at this;omega
theorem T6 {R:List UInt8} (h:R.head?≠some 34):AA (34::R)=some ([],1):=by
 cases R with
 | nil=>rfl
 | cons d r=>
  have:d≠34:=λe=>h (by rw [e];rfl);simp [AA,this]
theorem Qx (R:List UInt8):AA (34::34::R)=(AA R).map λx=>(34::x.1,x.2+2):=by simp [AA]
theorem T3 {c:UInt8} (h1:c≠34) (h2:¬c<32) (R:List UInt8):AA (c::R)=(AA R).map λx=>(c::x.1,x.2+1):=by
 cases R with
 | nil=>simp [AA,h1]
 | cons d r=>simp [AA,h1,h2]
theorem RJ {c:UInt8} (h1:c≠34) (h2:c<32) (R:List UInt8):AA (c::R)=none:=by
 cases R with
 | nil=>simp [AA,h1]
 | cons d r=>simp [AA,h1,h2]
theorem TA {s:List UInt8} (h:s∈AN):s.length=1∨s∈Dn:=by
 have:∀s∈AN,s.length=1∨s∈Dn:=by decide
 exact this s h
theorem D7 {tok:List UInt8} (h:tok≠[]) (R:List UInt8):Ae (tok++R) 0=Ae tok 0:=Bg (List.length_pos_iff.2 h)
def V8 (k:IntKind) (w:World) (v:Value) (zs:List Int):Prop:=
 zs.length≤9223372036854775807∧(v=.slice none 0 0∧zs=[]∨∃a cap,v=.slice (some a) zs.length cap∧∀i z,zs[i]?=some z→w.cell? (a.add i)=some (.int k z))
theorem V8.slice {k:IntKind} {w:World} {v:Value} {zs:List Int} (h:V8 k w v zs):∃p c,v=.slice p zs.length c:=by
 obtain ⟨h0,⟨rfl,rfl⟩ | ⟨a,cap,e,h⟩⟩:=h
 ·exact ⟨_,_,rfl⟩
 ·exact ⟨_,_,e⟩
structure Ab where
 kind:Int
 num:Int:=0
 text:List UInt8:=[]
 ref:Cn:=AF
 to:Cn:=AF
 kids:List Int:=[]
deriving DecidableEq
structure Bw where
 at_:Nat
 out:List Ab
 deep:Nat
inductive FL where
 | ok (s:Bw) (p:Nat)
 | err (e:Int)
inductive E7 where
 | lev (n:Nat)
 | loop (n:Nat) (a:Nat)
 | unary
 | prim
 | args (name:List UInt8) (ks:List Int)
def TI:Ak:=⟨0,[],0,AF,0⟩
def Aa (T:List Ak) (s:Bw):Ak:=T.getD s.at_ TI
def BD (T:List Ak) (s:Bw) (x:List UInt8):Bool:=decide ((Aa T s).kind=5)&&decide ((Aa T s).text=x)
def An (s:Bw):Bw:={s with at_:=s.at_+1}
def Aq (s:Bw):Bw:={s with deep:=s.deep+1}
def BP (s:Bw):Bw:={s with deep:=s.deep - 1}
def Bq (s:Bw) (n:Ab):Bw:={s with out:=s.out++[n]}
def Bo:Nat→List (List UInt8)
 | 0=>[[61],[60,62],[60],[60,61],[62],[62,61]]
 | 1=>[[38]]
 | 2=>[[43],[45]]
 | _=>[[42],[47]]
def A6:Nat→List Int
 | 0=>[9,10,11,12,13,14]
 | 1=>[15]
 | 2=>[16,17]
 | _=>[18,19]
def GH (T:List Ak) (s:Bw) (n:Nat):Option Nat:=if (Aa T s).kind=5 then (Bo n).findIdx? (λx=>decide (x=(Aa T s).text)) else none
def below (n:Nat):E7:=if n<3 then .lev (n+1) else .unary
def Bk (a b:Cn):Bool:=decide (b.sheet=[])&&decide (a.col≤b.col)&&decide (a.row≤b.row)
def Db:List UInt8:=[84,82,85,69]
def C3:List UInt8:=[70,65,76,83,69]
inductive PE (T:List Ak):E7→Bw→FL→Prop
 | lev_err {n s e}:PE T (below n) s (.err e)→PE T (.lev n) s (.err e)
 | lev_ok {n s s1 a r}:PE T (below n) s (.ok s1 a)→PE T (.loop n a) s1 r→PE T (.lev n) s r
 | loop_end {n s a}:GH T s n=none→PE T (.loop n a) s (.ok s a)
 | loop_err {n s a i e}:GH T s n=some i→PE T (below n) (An s) (.err e)→PE T (.loop n a) s (.err e)
 | loop_go {n:Nat} {s:Bw} {a i:Nat} {s1:Bw} {b:Nat} {r:FL}:GH T s n=some i→PE T (below n) (An s) (.ok s1 b)→PE T (.loop n s1.out.length) (Bq s1 {kind:=(A6 n).getD i 0,kids:=[(a:Int),(b:Int)]}) r→PE T (.loop n a) s r
 | un_prim {s r}:BD T s [45]=false→PE T .prim s r→PE T .unary s r
 | un_deep {s}:BD T s [45]=true→12≤s.deep→PE T .unary s (.err 6)
 | un_err {s e}:BD T s [45]=true→s.deep<12→PE T .unary (Aq (An s)) (.err e)→PE T .unary s (.err e)
 | un_ok {s s1:Bw} {a:Nat}:BD T s [45]=true→s.deep<12→PE T .unary (Aq (An s)) (.ok s1 a)→PE T .unary s (.ok (Bq (BP s1) {kind:=8,kids:=[(a:Int)]}) s1.out.length)
 | pr_sign {s}:(Aa T s).kind=5→(Aa T s).text≠[40]→PE T .prim s (.err 5)
 | pr_deep {s}:BD T s [40]=true→12≤s.deep→PE T .prim s (.err 6)
 | pr_err {s e}:BD T s [40]=true→s.deep<12→PE T (.lev 0) (Aq (An s)) (.err e)→PE T .prim s (.err e)
 | pr_open {s s1 a}:BD T s [40]=true→s.deep<12→PE T (.lev 0) (Aq (An s)) (.ok s1 a)→BD T s1 [41]=false→PE T .prim s (.err 5)
 | pr_ok {s s1 a}:BD T s [40]=true→s.deep<12→PE T (.lev 0) (Aq (An s)) (.ok s1 a)→BD T s1 [41]=true→PE T .prim s (.ok (BP (An s1)) a)
 | pr_end {s}:(Aa T s).kind=0→PE T .prim s (.err 5)
 | pr_num {s}:(Aa T s).kind=1→PE T .prim s (.ok (Bq (An s) {kind:=1,num:=(Aa T s).num}) s.out.length)
 | pr_text {s}:(Aa T s).kind=2→PE T .prim s (.ok (Bq (An s) {kind:=2,text:=(Aa T s).text}) s.out.length)
 | pr_dead {s}:(Aa T s).kind=6→PE T .prim s (.ok (Bq (An s) {kind:=4}) s.out.length)
 | pr_ref {s}:(Aa T s).kind=4→BD T (An s) [58]=false→PE T .prim s (.ok (Bq (An s) {kind:=5,ref:=(Aa T s).ref}) s.out.length)
 | pr_range {s}:(Aa T s).kind=4→BD T (An s) [58]=true→(Aa T (An (An s))).kind=4→Bk (Aa T s).ref (Aa T (An (An s))).ref=true→
   PE T .prim s (.ok (Bq (An (An (An s))) {kind:=6,ref:=(Aa T s).ref,to:=(Aa T (An (An s))).ref}) s.out.length)
 | pr_norange {s}:(Aa T s).kind=4→BD T (An s) [58]=true→((Aa T (An (An s))).kind≠4∨Bk (Aa T s).ref (Aa T (An (An s))).ref=false)→PE T .prim s (.err 5)
 | pr_true {s}:(Aa T s).kind=3→(Aa T s).text=Db→PE T .prim s (.ok (Bq (An s) {kind:=3,num:=1}) s.out.length)
 | pr_false {s}:(Aa T s).kind=3→(Aa T s).text=C3→PE T .prim s (.ok (Bq (An s) {kind:=3}) s.out.length)
 | pr_nocall {s}:(Aa T s).kind=3→(Aa T s).text≠Db→(Aa T s).text≠C3→BD T (An s) [40]=false→PE T .prim s (.err 5)
 | pr_calldeep {s}:(Aa T s).kind=3→(Aa T s).text≠Db→(Aa T s).text≠C3→BD T (An s) [40]=true→12≤s.deep→PE T .prim s (.err 6)
 | pr_call0 {s}:(Aa T s).kind=3→(Aa T s).text≠Db→(Aa T s).text≠C3→BD T (An s) [40]=true→s.deep<12→BD T (Aq (An (An s))) [41]=true→
   PE T .prim s (.ok (Bq (BP (An (Aq (An (An s))))) {kind:=7,text:=(Aa T s).text}) s.out.length)
 | pr_call {s r}:(Aa T s).kind=3→(Aa T s).text≠Db→(Aa T s).text≠C3→BD T (An s) [40]=true→s.deep<12→BD T (Aq (An (An s))) [41]=false→
   PE T (.args (Aa T s).text []) (Aq (An (An s))) r→PE T .prim s r
 | ar_err {x ks s e}:PE T (.lev 0) s (.err e)→PE T (.args x ks) s (.err e)
 | ar_go {x ks s s1} {a:Nat} {r}:PE T (.lev 0) s (.ok s1 a)→BD T s1 [44]=true→PE T (.args x (ks++[(a:Int)])) (An s1) r→PE T (.args x ks) s r
 | ar_open {x ks s s1 a}:PE T (.lev 0) s (.ok s1 a)→BD T s1 [44]=false→BD T s1 [41]=false→PE T (.args x ks) s (.err 5)
 | ar_end {x ks s s1} {a:Nat}:PE T (.lev 0) s (.ok s1 a)→BD T s1 [44]=false→BD T s1 [41]=true→PE T (.args x ks) s (.ok (Bq (BP (An s1)) {kind:=7,text:=x,kids:=ks++[(a:Int)]}) s1.out.length)
def CQ (T:List Ak) (o:Except Int (List Ab)):Prop:=
 match o with
 | .error e=>PE T (.lev 0) ⟨0,[],0⟩ (.err e)∨e=5∧∃s a,PE T (.lev 0) ⟨0,[],0⟩ (.ok s a)∧(Aa T s).kind≠0
 | .ok l=>∃s a,PE T (.lev 0) ⟨0,[],0⟩ (.ok s a)∧(Aa T s).kind=0∧s.out=l
def Ac (ks:List Int):List Value:=ks.map λk=>.int .i64 k
def BK (w:World) (kv:Value) (ks:List Int):Prop:=kv=.slice none 0 0∧ks=[]∨∃b cap sp,kv=.slice (some ⟨b,0,none⟩) ks.length cap∧Blk w b (Ac ks++sp) 3
structure NV where
 node:Ab
 kv:Value
def Cu (x:NV):List Value:=[.int .i64 x.node.kind,.int .i64 x.node.num,Ap x.node.text,Ap x.node.ref.sheet,.int .i64 x.node.ref.col,.int .i64 x.node.ref.row,.bool x.node.ref.ac,.bool x.node.ref.ar,Ap x.node.to.sheet,.int .i64 x.node.to.col,.int .i64 x.node.to.row,.bool x.node.to.ac,.bool x.node.to.ar,x.kv]
theorem Ti (x:NV):(Cu x).length=14:=rfl
structure Fr (w w':World):Prop where
 size:w.heap.size≤w'.heap.size
 blk:∀b l T,Blk w b l T→T≠167→T≠139→Blk w' b l T
theorem Fr.trans {a b c:World} (h:Fr a b) (k:Fr b c):Fr a c:=⟨Nat.le_trans h.size k.size,λx l T hx h1 h2=>k.blk x l T (h.blk x l T hx h1 h2) h1 h2⟩
theorem Fr.ext {a b:World} (h:Ag a b):Fr a b:=⟨h.size,λ_ _ _ hx _ _=>hx.ext h⟩
theorem _root_.Go.E.Blk.inj {w:World} {b:Nat} {l l':List Value} {T T':TypeId} (h:Blk w b l T) (k:Blk w b l' T'):T=T':=by
 have:=h.symm.trans k;simp only [Option.some.injEq,Obj.cells.injEq] at this;exact this.2.1
theorem Fr.chg {S:List Nat} {a b:World} (h:Chg S a b) (hs:∀k∈S,∀l T,Blk a k l T→T=167∨T=139):Fr a b:=
 ⟨h.size,λx l T hx h1 h2=>hx.chg h (λhm=>by rcases hs x hm l T hx with e | e<;>contradiction)⟩
theorem BK.fr {w w':World} {kv:Value} {ks:List Int} (h:BK w kv ks) (f:Fr w w'):BK w' kv ks:=by
 rcases h with h | ⟨b,cap,sp,e,hb⟩
 ·exact .inl h
 ·exact .inr ⟨b,cap,sp,e,f.blk _ _ _ hb (by decide) (by decide)⟩
structure C7 where
 T:List Ak
 tb:Nat
 tcap:Nat
 tsp:List Value
 rb:Nat
 w0:World
def C7.tokv (c:C7):Value:=.slice (some ⟨c.tb,0,none⟩) c.T.length c.tcap
structure C7.Ok (c:C7):Prop where
 tok:Blk c.w0 c.tb (c.T.flatMap CL++c.tsp) 115
 len:c.T.length≤301
 last:∀i,i<c.T.length→(c.T.getD i TI).kind≠0→i+1<c.T.length
 kinds:∀t∈c.T,0≤t.kind∧t.kind≤6
 new:c.w0.heap.size≤c.rb
def Rd (c:C7) (X:List Nat) (w:World) (s:Bw):Prop:=
 Ag c.w0 w∧s.at_<c.T.length∧s.deep≤12∧s.out.length≤s.at_∧∃(outv:Value) (nvs:List NV),Blk w c.rb [c.tokv,.int .i64 s.at_,outv,.int .i64 s.deep] 167∧
  Ay w c.w0.heap.size 139 14 outv nvs.length (nvs.flatMap Cu)∧nvs.map NV.node=s.out∧∀x∈nvs,BK w x.kv x.node.kids∧∀b∈Ad x.kv,b∉X
theorem Rd.ext {c:C7} {X:List Nat} {w w':World} {s:Bw} (h:Rd c X w s) (x:Ag w w'):Rd c X w' s:=by
 obtain ⟨h0,h1,h2,h3,outv,nvs,hB,ho,hm,hk⟩:=h;exact ⟨h0.trans x,h1,h2,h3,outv,nvs,hB.ext x,ho.ext x,hm,λy hy=>⟨(hk y hy).1.fr (.ext x),(hk y hy).2⟩⟩
theorem Rd.set {c:C7} {X:List Nat} (hc:c.Ok) {w w':World} {s s':Bw} {outv:Value} {nvs:List NV} (h0:Ag c.w0 w) (ho:Ay w c.w0.heap.size 139 14 outv nvs.length (nvs.flatMap Cu)) (hm:nvs.map NV.node=s.out) (hk:∀x∈nvs,BK w x.kv x.node.kids∧∀b∈Ad x.kv,b∉X)
  (hB0:Blk w c.rb [c.tokv,.int .i64 s.at_,outv,.int .i64 s.deep] 167) (hch:Chg [c.rb] w w') (hB:Blk w' c.rb [c.tokv,.int .i64 s'.at_,outv,.int .i64 s'.deep] 167)
  (hso:s'.out=s.out) (h1:s'.at_<c.T.length) (h2:s'.deep≤12) (h3:s'.out.length≤s'.at_):Rd c X w' s'∧Fr w w':=by
 have hf:Fr w w':=Fr.chg hch (λk hk l T hb=>by simp at hk;subst hk;exact .inl (hb.inj hB0));refine ⟨⟨h0.step hch (by simpa using hc.new),h1,h2,h3,outv,nvs,hB,ho.chg hch (λj hj hb=>?_),by rw [hm,hso],λx hx=>⟨(hk x hx).1.fr hf,(hk x hx).2⟩⟩,hf⟩;simp only [List.mem_singleton] at hb;subst hb;obtain ⟨hl,⟨rfl,_⟩ | ⟨g,cap,sp,rfl,hg,_⟩⟩:=ho
 ·simp [Ad] at hj
 ·simp [Ad] at hj;have e:=hg.inj (hj ▸ hB0);exact absurd e (by decide)
theorem F3 {c:C7} {X:List Nat} (hc:c.Ok) {w:World} {s:Bw} (h:Rd c X w s):AL Tryz.prog 126 [.pointer (some ⟨c.rb,0,none⟩)] w (λv w'=>v=.agg ⟨CL (Aa c.T s)⟩∧Ag w w'):=by
 obtain ⟨h0,h1,h2,h3,outv,nvs,hB,ho,hm,hk⟩:=h;have hT:=hc.tok.ext h0;have hg:c.T[s.at_]?=some (Aa c.T s):=by simp [Aa,List.getD_eq_getElem?_getD,List.getElem?_eq_getElem h1]
 refine Br Tryz.func126 Tryz.ntmps126 ?_;refine Sa ?_;refine D4 λR w1 a2 hx hR=>?_;replace hB:=hB.ext hx;replace hT:=hT.ext hx;refine Sa ?_;refine CW.drawTail 10 (by kernel_rfl) (by kernel_rfl) λw2 a0=>?_;replace hB:=hB.ext a0;replace hT:=hT.ext a0;replace hR:=hR.ext a0;unfold C7.tokv at hB;refine WF ?_;refine TL.yields rfl rfl rfl (Y.load_agg (cs:=CL (Aa c.T s)) (i:=0+s.at_*9) rfl hT rfl rfl rfl (by rw [Nat.zero_add];exact SE UE hg)) ?_;refine TL.nil ?_;show LW _ _ _ [_] _ _ _ _;refine Cj λw3 a1 hR=>?_;replace hR:Blk w3 R (CL (Aa c.T s)) 115:=hR;refine Sa ?_;exact QW.body_c Tryz.results126 rfl hR rfl rfl rfl ⟨rfl,(hx.trans a0).step a1 (by simp;omega)⟩
abbrev pv (e:Int):Value:=.iface 163 (.int .i64 e)
theorem Fc (b:Nat) (e:Int) (w:World):Eo Tryz.prog 127 [.pointer (some ⟨b,0,none⟩),.int .i64 e] w (λ_ _=>False) (λv w'=>v=pv e∧Ag w w'):=by
 refine Eo.enter Tryz.func127 rfl Tryz.ntmps127 (by kernel_rfl) rfl ?_;refine Sa ?_;refine LW.mkIface rfl rfl rfl rfl ?_;refine Sa ?_;refine LW.panic rfl ?_
 (repeat (first | apply QW.then_panic | apply QW.blk_panic))
 exact QW.panicP ⟨rfl,Chg.refl _ _⟩
theorem Ju {c:C7} (hc:c.Ok) {s:Bw} (h1:s.at_<c.T.length) (hk:(Aa c.T s).kind≠0):s.at_+1<c.T.length:=hc.last _ h1 hk
theorem SO {T:List Ak} {s:Bw} {x:List UInt8} (h:BD T s x=true):(Aa T s).kind=5∧(Aa T s).text=x:=by
 simpa [BD] using h
def Ji (T:List Ak) (s:Bw) (x:List UInt8):Bw:=if BD T s x then An s else s
theorem Js {c:C7} {X:List Nat} (hc:c.Ok) {w:World} {s:Bw} (h:Rd c X w s) (x:List UInt8):AL Tryz.prog 270 [.pointer (some ⟨c.rb,0,none⟩),Ap x] w
  (λv w'=>v=.bool (BD c.T s x)∧Rd c X w' (Ji c.T s x)∧Fr w w'):=by
 refine Br Tryz.func270 Tryz.ntmps270 ?_;refine Sa ?_;refine AE rfl rfl (F3 hc h) ?_;rintro v w1 ⟨rfl,a4⟩;replace h:=h.ext a4;refine Sa ?_;refine D4 λC w2 ad a7 hC=>?_;refine Sa ?_;refine Cj λw3 a8 hC=>?_;replace hC:Blk w3 C (CL (Aa c.T s)) 115:=hC;have a5:Ag w w3:=(a4.trans a7).step a8 (by simp;have:=a4.size;omega);have a6:Ag w1 w3:=a7.step a8 (by simp;omega);replace h:=h.ext a6;have a9:=hc.len;refine Sa ?_;refine DU (λh1=>?_) λh1=>?_
 ·have h1:(Aa c.T s).kind≠5:=by simpa using h1
  have hi:BD c.T s x=false:=by simp [BD,h1]
  refine Sa ?_;exact QW.body1 Tryz.results270 rfl ⟨by rw [hi],by rw [Ji,hi];exact h,.ext a5⟩
 have h1:(Aa c.T s).kind=5:=by simpa using h1
 refine Sa ?_;refine A4 (λh2=>?_) λh2=>?_
 ·have h2:(Aa c.T s).text≠x:=by simpa using h2
  have hi:BD c.T s x=false:=by simp [BD,h2]
  refine Sa ?_;exact QW.body1 Tryz.results270 rfl ⟨by rw [hi],by rw [Ji,hi];exact h,.ext a5⟩
 have h2:(Aa c.T s).text=x:=by simpa using h2
 have hi:BD c.T s x=true:=by simp [BD,h1,h2]
 obtain ⟨a0,a1,a2,a3,outv,nvs,hB,ho,hm,hk⟩:=h;have aa:=Ju hc a1 (by omega);have ab:=hB;refine Sa ?_;refine CH λw4 ac hB=>?_;replace hB:Blk w4 c.rb [c.tokv,.int .i64 ((s.at_+1:Nat):Int),outv,.int .i64 s.deep] 167:=hB;obtain ⟨hr,hf⟩:=Rd.set hc (s:=s) (s':=An s) a0 ho hm hk ab ac hB rfl aa a2 (by show s.out.length≤s.at_+1;omega);refine Sa ?_;exact QW.body1 Tryz.results270 rfl ⟨by rw [hi],by rw [Ji,hi];exact hr,(Fr.ext a5).trans hf⟩
theorem FZ {c:C7} {X:List Nat} (hc:c.Ok) {w:World} {s:Bw} (h:Rd c X w s) (x:List UInt8):Eo Tryz.prog 265 [.pointer (some ⟨c.rb,0,none⟩),Ap x] w
  (λv w'=>v=.tuple #[]∧BD c.T s x=true∧Rd c X w' (An s)∧Fr w w') (λv w'=>v=pv 5∧BD c.T s x=false∧Ag c.w0 w'):=by
 refine Eo.enter Tryz.func265 rfl Tryz.ntmps265 (by kernel_rfl) rfl ?_;refine Sa ?_;refine AE rfl rfl (Js hc h x) ?_;rintro v w1 ⟨rfl,hr,hf⟩;refine Sa ?_;refine A4 (λh1=>?_) λh1=>?_
 ·have h1:BD c.T s x=false:=by simpa using h1
  rw [Ji,h1,if_neg (by simp)] at hr;refine Sa ?_;refine LW.callP0 rfl rfl (Fc c.rb 5 w1) ?_ (λ_ _ hh=>hh.elim);rintro v w2 ⟨rfl,a0⟩
  (repeat (first | apply QW.then_panic | apply QW.blk_panic))
  exact QW.panicP ⟨rfl,h1,hr.1.trans a0⟩
 ·have h1:BD c.T s x=true:=by simpa using h1
  rw [Ji,if_pos h1] at hr;refine Sa ?_;exact QW.bodyP0n Tryz.results265 ⟨rfl,h1,hr,hf⟩
theorem Ku {c:C7} {X:List Nat} (hc:c.Ok) {w:World} {s:Bw} (h:Rd c X w s) (x:List UInt8):Eo Tryz.prog 257 [.pointer (some ⟨c.rb,0,none⟩),Ap x] w
  (λv w'=>v=.tuple #[]∧BD c.T s x=true∧s.deep<12∧Rd c X w' (Aq (An s))∧Fr w w')
  (λv w'=>Ag c.w0 w'∧(v=pv 6∧BD c.T s x=true∧12≤s.deep∨v=pv 5∧BD c.T s x=false)):=by
 have aa:=h.2.2.1;have ab:=hc.len;refine Eo.enter Tryz.func257 rfl Tryz.ntmps257 (by kernel_rfl) rfl ?_;refine Sa ?_;refine AE rfl rfl (F3 hc h) ?_;rintro v w1 ⟨rfl,a6⟩;replace h:=h.ext a6;refine Sa ?_;refine D4 λC w2 ai a8 hC=>?_;refine Sa ?_;refine Cj λw3 a9 hC=>?_;replace hC:Blk w3 C (CL (Aa c.T s)) 115:=hC;have ac:Ag w w3:=(a6.trans a8).step a9 (by simp;have:=a6.size;omega);have a7:Ag w1 w3:=a8.step a9 (by simp;omega);replace h:=h.ext a7;refine Sa ?_;refine DU (λh1=>?_) λh1=>?_
 ·have h1:(Aa c.T s).kind=5:=by simpa using h1
  refine Sa ?_;refine DU (λh2=>?_) λh2=>?_
  ·have h2:(Aa c.T s).text=x:=by simpa using h2
   have hi:BD c.T s x=true:=by simp [BD,h1,h2]
   have hh:=h;obtain ⟨a0,a1,a2,a3,outv,nvs,hB,ho,hm,hk⟩:=hh;refine Sa ?_;refine A4 (λh3=>?_) λh3=>?_
   ·have h3:12≤s.deep:=by simp at h3;omega
    refine Sa ?_;refine LW.callP0 rfl rfl (Fc c.rb 6 w3) ?_ (λ_ _ hh=>hh.elim);rintro v w4 ⟨rfl,a5⟩
    (repeat (first | apply QW.then_panic | apply QW.blk_panic))
    exact QW.panicP ⟨h.1.trans a5,.inl ⟨rfl,hi,h3⟩⟩
   ·have h3:s.deep<12:=by simp at h3;omega
    clear hB ho hm hk;refine Sa ?_;refine LW.callP0 rfl rfl (FZ hc h x) ?_ ?_
    ·rintro v w4 ⟨rfl,a4,a5⟩
     (repeat (first | apply QW.then_panic | apply QW.blk_panic))
     exact QW.panicP ⟨a5,.inr ⟨rfl,a4⟩⟩
    rintro v w4 ⟨rfl,a4,hr,hf⟩;have ad:=hr;obtain ⟨a0,a1,a2,a3,outv,nvs,hB,ho,hm,hk⟩:=ad;have ae:=hB;simp only [An] at hB;refine Sa ?_;refine CH λw5 af hB=>?_;replace hB:Blk w5 c.rb [c.tokv,.int .i64 (An s).at_,outv,.int .i64 ((s.deep+1:Nat):Int)] 167:=hB;obtain ⟨ag,ah⟩:=Rd.set hc (s:=An s) (s':=Aq (An s)) a0 ho hm hk ae af hB rfl a1 (by show s.deep+1≤12;omega) a3;refine Sa ?_;exact QW.bodyP0n Tryz.results257 ⟨rfl,a4,h3,ag,((Fr.ext ac).trans hf).trans ah⟩
  ·have h2:(Aa c.T s).text≠x:=by simpa using h2
   have hi:BD c.T s x=false:=by simp [BD,h2]
   refine Sa ?_;refine Sa ?_;refine LW.callP0 rfl rfl (FZ hc h x) ?_ ?_
   ·rintro v w4 ⟨rfl,a4,a5⟩
    (repeat (first | apply QW.then_panic | apply QW.blk_panic))
    exact QW.panicP ⟨a5,.inr ⟨rfl,a4⟩⟩
   rintro v w4 ⟨rfl,a4,hr,hf⟩;rw [hi] at a4;cases a4
 ·have h1:(Aa c.T s).kind≠5:=by simpa using h1
  have hi:BD c.T s x=false:=by simp [BD,h1]
  refine Sa ?_;refine Sa ?_;refine LW.callP0 rfl rfl (FZ hc h x) ?_ ?_
  ·rintro v w4 ⟨rfl,a4,a5⟩
   (repeat (first | apply QW.then_panic | apply QW.blk_panic))
   exact QW.panicP ⟨a5,.inr ⟨rfl,a4⟩⟩
  rintro v w4 ⟨rfl,a4,hr,hf⟩;rw [hi] at a4;cases a4
theorem BK.one {w:World} {kv:Value} {ks:List Int} (h:BK w kv ks):kv.oneCell'=true:=by
 rcases h with ⟨rfl,_⟩ | ⟨b,cap,sp,rfl,_⟩<;>rfl
theorem Jt {c:C7} {X:List Nat} (hc:c.Ok) {w:World} {s:Bw} (h:Rd c X w s) (x:NV) (hx:BK w x.kv x.node.kids) (hxX:∀b∈Ad x.kv,b∉X) (hs:s.out.length+1≤s.at_):AL Tryz.prog 202 [.pointer (some ⟨c.rb,0,none⟩),.agg ⟨Cu x⟩] w
  (λv w'=>v=.int .i64 s.out.length∧Rd c X w' (Bq s x.node)∧Fr w w'):=by
 have au:=hc.len;obtain ⟨a0,a1,a2,a3,outv,nvs,hB,ho,hm,hk⟩:=h;have am:nvs.length=s.out.length:=by rw [←hm];simp
 obtain ⟨p1,q1,e1⟩:=ho.slice;subst e1;have av:x.kv.oneCell'=true:=hx.one;have an:(Cu x).all (·.oneCell')=true:=by
  simp only [Cu,List.all_cons,av];rfl
 refine Br Tryz.func202 Tryz.ntmps202 ?_;refine Sa ?_;refine Ei λC w1 aw ap hC=>?_;replace hC:Blk w1 C (Cu x) 139:=hC;replace hB:=hB.ext ap;refine Sa ?_;refine CW.drawAny (by kernel_rfl) λw2 ao=>?_;replace hB:=hB.ext ao;replace hC:=hC.ext ao;have ac:=ap.trans ao;have ax:=ac.size;refine AW.take 0 rfl rfl rfl rfl (λw=>Y.pure rfl) rfl rfl (by kernel_rfl) (by kernel_rfl) (by kernel_rfl) (λ_ _ _ h=>h) ?_;refine AW.take 1 rfl rfl rfl rfl (λw=>Y.pure rfl) rfl rfl (by kernel_rfl) (by kernel_rfl) (by kernel_rfl) (λ_ _ _ h=>h) ?_;refine AW.take 2 rfl rfl rfl rfl (λw=>Y.pure rfl) rfl rfl (by kernel_rfl) (by kernel_rfl) (by kernel_rfl) (λ_ _ _ h=>h) ?_;refine AW.take 3 rfl rfl rfl rfl (λw=>Y.pure rfl) rfl rfl (by kernel_rfl) (by kernel_rfl) (by kernel_rfl) (λ_ _ _ h=>h) ?_;refine AW.two 4 5 (by kernel_rfl) rfl rfl rfl rfl ?_ ?_
 ·refine Sa ?_;apply QW.any;refine AW.one 5 (by kernel_rfl) rfl rfl ?_;refine Sa ?_;apply QW.any;refine AW.one 6 (by kernel_rfl) rfl rfl ?_;refine DG λA w3 aq ad hA=>?_;replace hA:Blk w3 A (Cu x) 139:=hA;have ae:=hB.ext ad;have a4:=ac.trans ad;have ar:=a4.size;have a6:=ho.ext a4;refine Sa ?_;apply QW.any;refine AW.one 7 (by kernel_rfl) rfl rfl ?_;refine LW.append rfl rfl rfl rfl rfl rfl a6 (by have:=a0.size;omega) hA rfl an rfl (by show (nvs.length+1)*137≤140737488355328;omega) rfl ?_;intro v' w4 a7 a8 ag;have ah:c.rb∉Ad (Value.slice p1 nvs.length q1):=λhm=>by
   obtain ⟨_,⟨e,_⟩ | ⟨g,cap,sp,e,hg,_⟩⟩:=a6
   ·rw [e] at hm;simp [Ad] at hm
   ·rw [e] at hm;simp [Ad] at hm;exact absurd (hg.inj (hm ▸ ae)) (by decide)
  have ai:Fr w3 w4:=Fr.chg a7 (λk hk l T hb=>by
   obtain ⟨_,⟨e,_⟩ | ⟨g,cap,sp,e,hg,_⟩⟩:=a6
   ·rw [e] at hk;simp [Ad] at hk
   ·rw [e] at hk;simp [Ad] at hk;subst hk;exact .inr (hb.inj hg))
  have a5:=ae.chg a7 ah;have aj:Ag c.w0 w4:=(a0.trans a4).step a7 (λk hk=>(a6.lt hk).1);obtain ⟨p2,q2,e2⟩:=a8.slice;subst e2;refine Sa ?_;apply QW.any;refine AW.one 8 (by kernel_rfl) rfl rfl ?_;refine Sa ?_;apply QW.any;refine AW.one 9 (by kernel_rfl) rfl rfl ?_;refine Sa ?_;apply QW.any;refine AW.one 10 (by kernel_rfl) rfl rfl ?_;have af:=a5;refine CH λw5 a9 a5=>?_;replace a5:Blk w5 c.rb [c.tokv,.int .i64 s.at_,.slice p2 (nvs.length+1) q2,.int .i64 s.deep] 167:=a5;have aa:∀j,j∈Ad (Value.slice p2 (nvs.length+1) q2)→j∉[c.rb]:=λj hj hb=>by
   simp only [List.mem_singleton] at hb;subst hb;obtain ⟨_,⟨e,_⟩ | ⟨g,cap,sp,e,hg,_⟩⟩:=a8
   ·rw [e] at hj;simp [Ad] at hj
   ·rw [e] at hj;simp [Ad] at hj;exact absurd (hg.inj (hj ▸ af)) (by decide)
  have ak:Fr w4 w5:=Fr.chg a9 (λk hk l T hb=>by simp at hk;subst hk;exact .inl (hb.inj af));have ab:Fr w w5:=((Fr.ext a4).trans ai).trans ak;have al:=a8.chg a9 aa;apply LW.nil;apply QW.any;refine AW.done (by kernel_rfl) ?_;refine Sa ?_;refine QW.body1 Tryz.results202 rfl ⟨by rw [←am];congr 1;omega,⟨aj.step a9 (by simpa using hc.new),a1,a2,by simp [Bq];omega,.slice p2 (nvs.length+1) q2,nvs++[x],a5,by simpa using al,by simp [Bq,hm],?_⟩,ab⟩;intro y hy;rw [List.mem_append] at hy;rcases hy with hy | hy
  ·exact ⟨(hk y hy).1.fr ab,(hk y hy).2⟩
  ·simp only [List.mem_singleton] at hy;subst hy;exact ⟨hx.fr ab,hxX⟩
 ·refine Sa ?_;apply QW.any;refine AW.two 4 6 (by kernel_rfl) rfl rfl rfl rfl ?_ ?_
  ·refine Sa ?_;apply QW.any;refine AW.one 6 (by kernel_rfl) rfl rfl ?_;refine DG λA w3 aq ad hA=>?_;replace hA:Blk w3 A (Cu x) 139:=hA;have ae:=hB.ext ad;have a4:=ac.trans ad;have ar:=a4.size;have a6:=ho.ext a4;refine Sa ?_;apply QW.any;refine AW.one 7 (by kernel_rfl) rfl rfl ?_;refine LW.append rfl rfl rfl rfl rfl rfl a6 (by have:=a0.size;omega) hA rfl an rfl (by show (nvs.length+1)*137≤140737488355328;omega) rfl ?_;intro v' w4 a7 a8 ag;have ah:c.rb∉Ad (Value.slice p1 nvs.length q1):=λhm=>by
    obtain ⟨_,⟨e,_⟩ | ⟨g,cap,sp,e,hg,_⟩⟩:=a6
    ·rw [e] at hm;simp [Ad] at hm
    ·rw [e] at hm;simp [Ad] at hm;exact absurd (hg.inj (hm ▸ ae)) (by decide)
   have ai:Fr w3 w4:=Fr.chg a7 (λk hk l T hb=>by
    obtain ⟨_,⟨e,_⟩ | ⟨g,cap,sp,e,hg,_⟩⟩:=a6
    ·rw [e] at hk;simp [Ad] at hk
    ·rw [e] at hk;simp [Ad] at hk;subst hk;exact .inr (hb.inj hg))
   have a5:=ae.chg a7 ah;have aj:Ag c.w0 w4:=(a0.trans a4).step a7 (λk hk=>(a6.lt hk).1);obtain ⟨p2,q2,e2⟩:=a8.slice;subst e2;refine Sa ?_;apply QW.any;refine AW.one 8 (by kernel_rfl) rfl rfl ?_;refine Sa ?_;apply QW.any;refine AW.one 9 (by kernel_rfl) rfl rfl ?_;refine Sa ?_;apply QW.any;refine AW.one 10 (by kernel_rfl) rfl rfl ?_;have af:=a5;refine CH λw5 a9 a5=>?_;replace a5:Blk w5 c.rb [c.tokv,.int .i64 s.at_,.slice p2 (nvs.length+1) q2,.int .i64 s.deep] 167:=a5;have aa:∀j,j∈Ad (Value.slice p2 (nvs.length+1) q2)→j∉[c.rb]:=λj hj hb=>by
    simp only [List.mem_singleton] at hb;subst hb;obtain ⟨_,⟨e,_⟩ | ⟨g,cap,sp,e,hg,_⟩⟩:=a8
    ·rw [e] at hj;simp [Ad] at hj
    ·rw [e] at hj;simp [Ad] at hj;exact absurd (hg.inj (hj ▸ af)) (by decide)
   have ak:Fr w4 w5:=Fr.chg a9 (λk hk l T hb=>by simp at hk;subst hk;exact .inl (hb.inj af));have ab:Fr w w5:=((Fr.ext a4).trans ai).trans ak;have al:=a8.chg a9 aa;apply LW.nil;apply QW.any;refine AW.done (by kernel_rfl) ?_;refine Sa ?_;refine QW.body1 Tryz.results202 rfl ⟨by rw [←am];congr 1;omega,⟨aj.step a9 (by simpa using hc.new),a1,a2,by simp [Bq];omega,.slice p2 (nvs.length+1) q2,nvs++[x],a5,by simpa using al,by simp [Bq,hm],?_⟩,ab⟩;intro y hy;rw [List.mem_append] at hy;rcases hy with hy | hy
   ·exact ⟨(hk y hy).1.fr ab,(hk y hy).2⟩
   ·simp only [List.mem_singleton] at hy;subst hy;exact ⟨hx.fr ab,hxX⟩
  ·refine DG λA w3 aq ad hA=>?_;replace hA:Blk w3 A (Cu x) 139:=hA;have ae:=hB.ext ad;have a4:=ac.trans ad;have ar:=a4.size;have a6:=ho.ext a4;refine Sa ?_;apply QW.any;refine AW.one 4 (by kernel_rfl) rfl rfl ?_;refine Sa ?_;apply QW.any;refine AW.one 7 (by kernel_rfl) rfl rfl ?_;refine LW.append rfl rfl rfl rfl rfl rfl a6 (by have:=a0.size;omega) hA rfl an rfl (by show (nvs.length+1)*137≤140737488355328;omega) rfl ?_;intro v' w4 a7 a8 ag;have ah:c.rb∉Ad (Value.slice p1 nvs.length q1):=λhm=>by
    obtain ⟨_,⟨e,_⟩ | ⟨g,cap,sp,e,hg,_⟩⟩:=a6
    ·rw [e] at hm;simp [Ad] at hm
    ·rw [e] at hm;simp [Ad] at hm;exact absurd (hg.inj (hm ▸ ae)) (by decide)
   have ai:Fr w3 w4:=Fr.chg a7 (λk hk l T hb=>by
    obtain ⟨_,⟨e,_⟩ | ⟨g,cap,sp,e,hg,_⟩⟩:=a6
    ·rw [e] at hk;simp [Ad] at hk
    ·rw [e] at hk;simp [Ad] at hk;subst hk;exact .inr (hb.inj hg))
   have a5:=ae.chg a7 ah;have aj:Ag c.w0 w4:=(a0.trans a4).step a7 (λk hk=>(a6.lt hk).1);obtain ⟨p2,q2,e2⟩:=a8.slice;subst e2;refine Sa ?_;apply QW.any;refine AW.one 8 (by kernel_rfl) rfl rfl ?_;refine Sa ?_;apply QW.any;refine AW.one 9 (by kernel_rfl) rfl rfl ?_;refine Sa ?_;apply QW.any;refine AW.one 10 (by kernel_rfl) rfl rfl ?_;have af:=a5;refine CH λw5 a9 a5=>?_;replace a5:Blk w5 c.rb [c.tokv,.int .i64 s.at_,.slice p2 (nvs.length+1) q2,.int .i64 s.deep] 167:=a5;have aa:∀j,j∈Ad (Value.slice p2 (nvs.length+1) q2)→j∉[c.rb]:=λj hj hb=>by
    simp only [List.mem_singleton] at hb;subst hb;obtain ⟨_,⟨e,_⟩ | ⟨g,cap,sp,e,hg,_⟩⟩:=a8
    ·rw [e] at hj;simp [Ad] at hj
    ·rw [e] at hj;simp [Ad] at hj;exact absurd (hg.inj (hj ▸ af)) (by decide)
   have ak:Fr w4 w5:=Fr.chg a9 (λk hk l T hb=>by simp at hk;subst hk;exact .inl (hb.inj af));have ab:Fr w w5:=((Fr.ext a4).trans ai).trans ak;have al:=a8.chg a9 aa;apply LW.nil;apply QW.any;refine AW.done (by kernel_rfl) ?_;refine Sa ?_;refine QW.body1 Tryz.results202 rfl ⟨by rw [←am];congr 1;omega,⟨aj.step a9 (by simpa using hc.new),a1,a2,by simp [Bq];omega,.slice p2 (nvs.length+1) q2,nvs++[x],a5,by simpa using al,by simp [Bq,hm],?_⟩,ab⟩;intro y hy;rw [List.mem_append] at hy;rcases hy with hy | hy
   ·exact ⟨(hk y hy).1.fr ab,(hk y hy).2⟩
   ·simp only [List.mem_singleton] at hy;subst hy;exact ⟨hx.fr ab,hxX⟩
theorem GO {α:Type} (p:α→Bool) (d:α):∀(l:List α) (k:Nat),k<l.length→(∀j,j<k→p (l.getD j d)=false)→p (l.getD k d)=true→l.findIdx? p=some k
 | [],k,hk,_,_=>by simp at hk
 | x::r,0,_,_,h=>by
  have h:p x=true:=h
  simp [List.findIdx?_cons,h]
 | x::r,k+1,hk,hn,h=>by
  have h0:p x=false:=hn 0 (by omega);have ih:=GO p d r k (by simpa using hk) (λj hj=>hn (j+1) (by omega)) h;simp [List.findIdx?_cons,h0,ih]
theorem HB {α:Type} (p:α→Bool) (d:α):∀(l:List α),(∀j,j<l.length→p (l.getD j d)=false)→l.findIdx? p=none
 | [],_=>rfl
 | x::r,hn=>by
  have h0:p x=false:=hn 0 (by simp);have ih:=HB p d r (λj hj=>hn (j+1) (by simp;omega));simp [List.findIdx?_cons,h0,ih]
def Wn:Option Nat→Int
 | some i=>i
 | none=>-1
theorem Rc (xs:List (List UInt8)) (hl:xs.length≤100) (s:List UInt8) (b cap:Nat) (w:World) (hB:Blk w b (xs.map Ap) 9):AL Tryz.prog 201 [.slice (some ⟨b,0,none⟩) xs.length cap,Ap s] w
  (λv w'=>v=.int .i64 (Wn (xs.findIdx? (λx=>decide (x=s))))∧Ag w w'):=by
 refine Br Tryz.func201 Tryz.ntmps201 ?_;refine Sa ?_;refine CW.loop (ι:=Nat) (λk w'=>k≤xs.length∧Ag w w'∧∀j,j<k→decide (xs.getD j []=s)=false) (λk=>[(0,.slice (some ⟨b,0,none⟩) xs.length cap),(1,Ap s),(7,.int .i64 xs.length),(8,.int .i64 k)]) (λk=>xs.length - k) 0 ⟨by omega,Chg.refl _ _,by omega⟩ BU ?_;rintro k w1 ⟨hk,hx,a0⟩;replace hB:=hB.ext hx;refine Sa ?_;refine A4 (λh1=>?_) λh1=>?_
 ·have h1:k<xs.length:=by simp at h1;omega
  have hv:(xs.map Ap)[k]?=some (Ap (xs.getD k [])):=by simp [List.getD_eq_getElem?_getD,List.getElem?_eq_getElem h1]
  refine Sa ?_;refine LW.idx_slice (j:=k) rfl rfl rfl rfl rfl (by omega) (by omega) (by show 0+_*1=_;omega) rfl ?_;refine LW.load rfl hB hv rfl rfl rfl ?_;refine Sa ?_;refine A4 (λh2=>?_) λh2=>?_
  ·have h2:decide (xs.getD k []=s)=true:=by simpa using (by simpa using h2:s=xs.getD k []).symm
   refine Sa ?_;refine QW.body1 Tryz.results201 rfl ⟨?_,hx⟩;rw [GO (λx=>decide (x=s)) [] xs k h1 a0 h2];rfl
  ·have h2:decide (xs.getD k []=s)=false:=by
    have h2:¬s=xs.getD k []:=by simpa using h2
    simpa using λe=>h2 e.symm
   refine Sa ?_;refine QW.again (k+1) ⟨by omega,hx,λj hj=>?_⟩ BU (by omega);by_cases e:j=k
   ·subst e;exact h2
   ·exact a0 j (by omega)
 ·have h1:k=xs.length:=by simp at h1;omega
  subst h1;refine Sa ?_;refine QW.body1 Tryz.results201 rfl ⟨?_,hx⟩;rw [HB (λx=>decide (x=s)) [] xs a0];rfl
theorem K7 (a b:Cn) (w:World):AL Tryz.prog 182 [.agg ⟨Cr a⟩,.agg ⟨Cr b⟩] w (λv w'=>v=.bool (Bk a b)∧Ag w w'):=by
 refine Br Tryz.func182 Tryz.ntmps182 ?_;refine Sa ?_;refine Ei λA w1 a2 a1 hA=>?_;replace hA:Blk w1 A (Cr a) 113:=hA;refine Sa ?_;refine Ei λB w2 a3 a0 hB=>?_;replace hB:Blk w2 B (Cr b) 113:=hB;replace hA:=hA.ext a0;have hx:=a1.trans a0;refine Sa ?_;refine DU (λh1=>?_) λh1=>?_
 ·refine Sa ?_;refine DU (λh2=>?_) λh2=>?_
  all_goals
   refine Sa ?_;refine QW.body1 Tryz.results182 rfl ⟨?_,hx⟩;simp [Bk,h1,h2]
 ·refine Sa ?_;refine QW.body1 Tryz.results182 rfl ⟨?_,hx⟩;simp [Bk,h1]
def Wj (c:C7) (X:List Nat) (m:E7) (s:Bw) (w:World) (v:Value) (w':World):Prop:=
 ∃(s':Bw) (p:Nat),v=.int .i64 (p:Int)∧PE c.T m s (.ok s' p)∧Rd c X w' s'∧Fr w w'∧s.at_<s'.at_∧s'.deep=s.deep∧s.at_+s'.out.length≤s'.at_+s.out.length
def Vb (c:C7) (m:E7) (s:Bw) (v:Value) (w':World):Prop:=∃e,v=pv e∧PE c.T m s (.err e)∧Ag c.w0 w'
def PC (c:C7) (f:Nat) (m:E7) (s:Bw):Prop:=∀w X,(∀b∈X,b<w.heap.size)→Rd c X w s→Eo Tryz.prog f [.pointer (some ⟨c.rb,0,none⟩)] w (Wj c X m s w) (Vb c m s)
theorem Wo (n:Nat):(Bo n).length=(A6 n).length∧(Bo n).length≤6:=by
 match n with
 | 0 | 1 | 2 | n+3=>exact ⟨rfl,by simp [Bo]⟩
theorem OL {α:Type} {p:α→Bool} {l:List α} {i:Nat} (h:l.findIdx? p=some i):i<l.length:=(List.findIdx?_eq_some_iff_findIdx_eq.1 h).1
theorem Rd.len {c:C7} {X:List Nat} {w:World} {s:Bw} (h:Rd c X w s):s.at_<c.T.length∧s.deep≤12∧s.out.length≤s.at_:=⟨h.2.1,h.2.2.1,h.2.2.2.1⟩
theorem Gu {c:C7} {X:List Nat} (hc:c.Ok) (n fB sb kb:Nat) (s:Bw) (w:World) (hX:∀b∈X,b<w.heap.size) (h:Rd c X w s) (hsb:Blk w sb ((Bo n).map Ap) 9) (hkb:Blk w kb (Ac (A6 n)) 3)
  (h1:PC c fB (below n) s) (h2:∀s',s.at_<s'.at_→s'.deep=s.deep→PC c fB (below n) s') :
  Eo Tryz.prog 169 [.pointer (some ⟨c.rb,0,none⟩),.agg ⟨[.func (.func fB) #[.pointer (some ⟨c.rb,0,none⟩)] #[],.slice (some ⟨sb,0,none⟩) (Bo n).length (Bo n).length,.slice (some ⟨kb,0,none⟩) (A6 n).length (A6 n).length]⟩] w
   (Wj c X (.lev n) s w) (Vb c (.lev n) s):=by
 have al:=hc.len;obtain ⟨av,aw⟩:=Wo n;refine Eo.enter Tryz.func169 rfl Tryz.ntmps169 (by kernel_rfl) rfl ?_;refine Sa ?_;refine Ei λL w1 ax a9 hL=>?_;replace hsb:=hsb.ext a9;replace hkb:=hkb.ext a9;replace h:=h.ext a9;have ac:=Fr.ext a9;refine Sa ?_;refine LW.callP rfl rfl rfl (h1 w1 X (λb hb=>Nat.lt_of_lt_of_le (hX b hb) a9.size) h) ?_ ?_
 ·rintro v w2 ⟨e,rfl,hp,hx⟩
  (repeat (first | apply QW.then_panic | apply QW.blk_panic))
  exact QW.panicP ⟨e,rfl,.lev_err hp,hx⟩
 rintro v w2 ⟨s1,a,rfl,hp,hr,hf,g1,g2,g3⟩;refine Sa ?_;refine CW.loop (ι:=Bw×Nat) (λk w'=>s.at_<k.1.at_∧k.1.deep=s.deep∧s.at_+k.1.out.length≤k.1.at_+s.out.length∧Rd c X w' k.1∧Fr w1 w'∧∀r,PE c.T (.loop n k.2) k.1 r→PE c.T (.lev n) s r) (λk=>[(0,.pointer (some ⟨c.rb,0,none⟩)),(3,.pointer (some ⟨L,0,none⟩)),(5,.int .i64 (k.2:Int))]) (λk=>c.T.length - k.1.at_) (s1,a)
  ⟨g1,g2,g3,hr,hf,λr hl=>.lev_ok hp hl⟩ C0 ?_
 clear hr hp g1 g2 g3 hf a s1 w2;rintro ⟨t,a⟩ w2 ⟨g1,g2,g3,hr,hf,a5⟩;simp only at g1 g2 g3 hr a5;show CW _ _ _ _ _ [(0,.pointer (some ⟨c.rb,0,none⟩)),(3,.pointer (some ⟨L,0,none⟩)),(5,.int .i64 (a:Int))] _;have a6:=hf.blk _ _ _ hL (by decide) (by decide);have a7:=hf.blk _ _ _ hsb (by decide) (by decide);have a4:=hf.blk _ _ _ hkb (by decide) (by decide);obtain ⟨q1,q2,q3⟩:=hr.len;obtain ⟨r1,r2,r3⟩:=h.len;refine Sa ?_;refine AE rfl rfl (F3 hc hr) ?_;rintro v w3 ⟨rfl,aj⟩;refine Sa ?_;refine D4 λC w4 ay am hC=>?_;refine Sa ?_;refine Cj λw5 an hC=>?_;replace hC:Blk w5 C (CL (Aa c.T t)) 115:=hC;have aa:Ag w2 w5:=(aj.trans am).step an (by simp;have:=aj.size;omega);replace a6:=a6.ext aa;replace a7:=a7.ext aa;replace a4:=a4.ext aa;replace hr:=hr.ext aa;replace hf:=hf.trans (.ext aa);refine Sa ?_;refine A4 (λhk=>?_) λhk=>?_
 ·have hk:(Aa c.T t).kind=5:=by simpa using hk
  refine Sa ?_;refine AE rfl rfl (Rc (Bo n) (by omega) (Aa c.T t).text sb _ _ a7) ?_;rintro v w6 ⟨rfl,ad⟩;replace a6:=a6.ext ad;replace a4:=a4.ext ad;replace hr:=hr.ext ad;replace hf:=hf.trans (.ext ad);have a8:GH c.T t n=(Bo n).findIdx? (λx=>decide (x=(Aa c.T t).text)):=by rw [GH,if_pos hk]
  cases hi:(Bo n).findIdx? (λx=>decide (x=(Aa c.T t).text)) with
  | none=>
   rw [hi] at a8;simp only [Wn];refine Sa ?_
   exact QW.bodyP1 Tryz.results169 rfl ⟨t,a,rfl,a5 _ (.loop_end a8),hr,ac.trans hf,g1,g2,g3⟩
  | some i=>
   rw [hi] at a8;have az:=OL hi;simp only [Wn];refine Sa ?_;obtain ⟨a0,a1,a2,a3,outv,nvs,hB,ho,hm,ab⟩:=hr;have ao:=Ju hc a1 (by omega);have ap:=hB;refine Sa ?_;refine CH λw7 aq hB=>?_;replace hB:Blk w7 c.rb [c.tokv,.int .i64 (An t).at_,outv,.int .i64 t.deep] 167:=hB;obtain ⟨hr,ae⟩:=Rd.set hc (s:=t) (s':=An t) a0 ho hm ab ap aq hB rfl ao a2 (by show t.out.length≤t.at_+1;omega);replace hf:=hf.trans ae;replace a6:=ae.blk _ _ _ a6 (by decide) (by decide);replace a4:=ae.blk _ _ _ a4 (by decide) (by decide);refine Sa ?_;refine LW.callP rfl rfl rfl (h2 (An t) (by show s.at_<t.at_+1;omega) g2 w7 X (λb hb=>Nat.lt_of_lt_of_le (hX b hb) (ac.trans hf).size) hr) ?_ ?_
   ·rintro v w8 ⟨e,rfl,hp,hx⟩
    (repeat (first | apply QW.then_panic | apply QW.blk_panic))
    exact QW.panicP ⟨e,rfl,a5 _ (.loop_err a8 hp),hx⟩
   rintro v w8 ⟨s1,b,rfl,hp,af,ag,k1,k2,k3⟩;have k1':t.at_+1<s1.at_:=k1;have k3':t.at_+1+s1.out.length≤s1.at_+t.out.length:=k3;replace hf:=hf.trans ag;have b0:=(ac.trans hf).size;replace a6:=ag.blk _ _ _ a6 (by decide) (by decide);replace a4:=ag.blk _ _ _ a4 (by decide) (by decide);have ar:(Ac (A6 n))[i]?=some (.int .i64 ((A6 n).getD i 0)):=by simp [Ac,List.getD_eq_getElem?_getD,List.getElem?_eq_getElem (show i<(A6 n).length by omega)]
   refine Sa ?_;refine LW.idx_slice (j:=i) rfl rfl rfl rfl rfl (by omega) (by omega) (by show 0+_*1=_;omega) rfl ?_;refine LW.load rfl a4 ar rfl rfl rfl ?_;refine Sa ?_;refine DG λK w9 b1 ak hK=>?_;replace hK:Blk w9 K (Ac [(a:Int),(b:Int)]) 3:=hK;replace af:=af.ext ak;replace hf:=hf.trans (.ext ak);refine Sa ?_;refine LW.call0 (vs:=[.pointer (some ⟨c.rb,0,none⟩),.agg ⟨Cu ⟨{kind:=(A6 n).getD i 0,kids:=[(a:Int),(b:Int)]},.slice (some ⟨K,0,none⟩) 2 2⟩⟩]) rfl rfl (Jt hc af ⟨{kind:=(A6 n).getD i 0,kids:=[(a:Int),(b:Int)]},.slice (some ⟨K,0,none⟩) 2 2⟩ (.inr ⟨K,2,[],rfl,by rw [List.append_nil];exact hK⟩) (λb hb au=>by
    have h3:=hX b au;simp [Ad] at hb;omega) (by omega)) ?_
   rintro v b2 ⟨rfl,ah,ai⟩;refine Sa ?_;refine QW.again (Bq s1 {kind:=(A6 n).getD i 0,kids:=[(a:Int),(b:Int)]},s1.out.length) ⟨by show s.at_<s1.at_;omega,k2.trans g2,by simp [Bq];omega,ah,hf.trans ai,λr hl=>a5 r (.loop_go a8 hp hl)⟩ C0 (by show c.T.length - s1.at_<c.T.length - t.at_;omega)
 ·have hk:(Aa c.T t).kind≠5:=by simpa using hk
  have a8:GH c.T t n=none:=by rw [GH,if_neg hk]
  refine Sa ?_;exact QW.bodyP1 Tryz.results169 rfl ⟨t,a,rfl,a5 _ (.loop_end a8),hr,ac.trans hf,g1,g2,g3⟩
theorem SA {c:C7} (hc:c.Ok) (s:Bw) (h1:PC c 170 (below 0) s) (h2:∀s',s.at_<s'.at_→s'.deep=s.deep→PC c 170 (below 0) s') :
  PC c 125 (.lev 0) s:=by
 intro w X hX h;refine Eo.enter Tryz.func125 rfl Tryz.ntmps125 (by kernel_rfl) rfl ?_;refine Sa ?_;refine DG λA w1 a2 a1 hA=>?_;replace hA:Blk w1 A ((Bo 0).map Ap) 9:=hA;refine Sa ?_;refine DG λB w2 a3 a0 hB=>?_;replace hB:Blk w2 B (Ac (A6 0)) 3:=hB;have hx:=a1.trans a0;refine Sa ?_;refine LW.callP0 (vs:=[.pointer (some ⟨c.rb,0,none⟩),.agg ⟨[.func (.func 170) #[.pointer (some ⟨c.rb,0,none⟩)] #[],.slice (some ⟨A,0,none⟩) 6 6,.slice (some ⟨B,0,none⟩) 6 6]⟩]) rfl rfl
  (Gu hc 0 170 A B s w2 (λb hb=>Nat.lt_of_lt_of_le (hX b hb) hx.size) (h.ext hx) (hA.ext a0) hB h1 h2) ?_ ?_
 ·rintro v w3 hp
  (repeat (first | apply QW.then_panic | apply QW.blk_panic))
  exact QW.panicP hp
 rintro v w3 ⟨s',p,rfl,hp,hr,hf,g1,g2,g3⟩;refine Sa ?_;exact QW.bodyP1 Tryz.results125 rfl ⟨s',p,rfl,hp,hr,(Fr.ext hx).trans hf,g1,g2,g3⟩
theorem Ud {c:C7} (hc:c.Ok) (s:Bw) (h1:PC c 203 (below 1) s) (h2:∀s',s.at_<s'.at_→s'.deep=s.deep→PC c 203 (below 1) s') :
  PC c 170 (.lev 1) s:=by
 intro w X hX h;refine Eo.enter Tryz.func170 rfl Tryz.ntmps170 (by kernel_rfl) rfl ?_;refine Sa ?_;refine DG λA w1 a2 a1 hA=>?_;replace hA:Blk w1 A ((Bo 1).map Ap) 9:=hA;refine Sa ?_;refine DG λB w2 a3 a0 hB=>?_;replace hB:Blk w2 B (Ac (A6 1)) 3:=hB;have hx:=a1.trans a0;refine Sa ?_;refine LW.callP0 (vs:=[.pointer (some ⟨c.rb,0,none⟩),.agg ⟨[.func (.func 203) #[.pointer (some ⟨c.rb,0,none⟩)] #[],.slice (some ⟨A,0,none⟩) 1 1,.slice (some ⟨B,0,none⟩) 1 1]⟩]) rfl rfl
  (Gu hc 1 203 A B s w2 (λb hb=>Nat.lt_of_lt_of_le (hX b hb) hx.size) (h.ext hx) (hA.ext a0) hB h1 h2) ?_ ?_
 ·rintro v w3 hp
  (repeat (first | apply QW.then_panic | apply QW.blk_panic))
  exact QW.panicP hp
 rintro v w3 ⟨s',p,rfl,hp,hr,hf,g1,g2,g3⟩;refine Sa ?_;exact QW.bodyP1 Tryz.results170 rfl ⟨s',p,rfl,hp,hr,(Fr.ext hx).trans hf,g1,g2,g3⟩
theorem UC {c:C7} (hc:c.Ok) (s:Bw) (h1:PC c 223 (below 2) s) (h2:∀s',s.at_<s'.at_→s'.deep=s.deep→PC c 223 (below 2) s') :
  PC c 203 (.lev 2) s:=by
 intro w X hX h;refine Eo.enter Tryz.func203 rfl Tryz.ntmps203 (by kernel_rfl) rfl ?_;refine Sa ?_;refine DG λA w1 a2 a1 hA=>?_;replace hA:Blk w1 A ((Bo 2).map Ap) 9:=hA;refine Sa ?_;refine DG λB w2 a3 a0 hB=>?_;replace hB:Blk w2 B (Ac (A6 2)) 3:=hB;have hx:=a1.trans a0;refine Sa ?_;refine LW.callP0 (vs:=[.pointer (some ⟨c.rb,0,none⟩),.agg ⟨[.func (.func 223) #[.pointer (some ⟨c.rb,0,none⟩)] #[],.slice (some ⟨A,0,none⟩) 2 2,.slice (some ⟨B,0,none⟩) 2 2]⟩]) rfl rfl
  (Gu hc 2 223 A B s w2 (λb hb=>Nat.lt_of_lt_of_le (hX b hb) hx.size) (h.ext hx) (hA.ext a0) hB h1 h2) ?_ ?_
 ·rintro v w3 hp
  (repeat (first | apply QW.then_panic | apply QW.blk_panic))
  exact QW.panicP hp
 rintro v w3 ⟨s',p,rfl,hp,hr,hf,g1,g2,g3⟩;refine Sa ?_;exact QW.bodyP1 Tryz.results203 rfl ⟨s',p,rfl,hp,hr,(Fr.ext hx).trans hf,g1,g2,g3⟩
theorem TG {c:C7} (hc:c.Ok) (s:Bw) (h1:PC c 243 (below 3) s) (h2:∀s',s.at_<s'.at_→s'.deep=s.deep→PC c 243 (below 3) s') :
  PC c 223 (.lev 3) s:=by
 intro w X hX h;refine Eo.enter Tryz.func223 rfl Tryz.ntmps223 (by kernel_rfl) rfl ?_;refine Sa ?_;refine DG λA w1 a2 a1 hA=>?_;replace hA:Blk w1 A ((Bo 3).map Ap) 9:=hA;refine Sa ?_;refine DG λB w2 a3 a0 hB=>?_;replace hB:Blk w2 B (Ac (A6 3)) 3:=hB;have hx:=a1.trans a0;refine Sa ?_;refine LW.callP0 (vs:=[.pointer (some ⟨c.rb,0,none⟩),.agg ⟨[.func (.func 243) #[.pointer (some ⟨c.rb,0,none⟩)] #[],.slice (some ⟨A,0,none⟩) 2 2,.slice (some ⟨B,0,none⟩) 2 2]⟩]) rfl rfl
  (Gu hc 3 243 A B s w2 (λb hb=>Nat.lt_of_lt_of_le (hX b hb) hx.size) (h.ext hx) (hA.ext a0) hB h1 h2) ?_ ?_
 ·rintro v w3 hp
  (repeat (first | apply QW.then_panic | apply QW.blk_panic))
  exact QW.panicP hp
 rintro v w3 ⟨s',p,rfl,hp,hr,hf,g1,g2,g3⟩;refine Sa ?_;exact QW.bodyP1 Tryz.results223 rfl ⟨s',p,rfl,hp,hr,(Fr.ext hx).trans hf,g1,g2,g3⟩
theorem RY {c:C7} (hc:c.Ok) (s:Bw) (h1:PC c 256 .prim s) (h2:∀s',s.at_<s'.at_→PC c 243 .unary s') :
  PC c 243 .unary s:=by
 intro w X hX h;have ag:=hc.len;refine Eo.enter Tryz.func243 rfl Tryz.ntmps243 (by kernel_rfl) rfl ?_;refine Sa ?_;refine AE rfl rfl (F3 hc h) ?_;rintro v w1 ⟨rfl,a7⟩;replace h:=h.ext a7;refine Sa ?_;refine D4 λC w2 ao ab hC=>?_;refine Sa ?_;refine Cj λw3 ac hC=>?_;replace hC:Blk w3 C (CL (Aa c.T s)) 115:=hC;have a6:Ag w w3:=(a7.trans ab).step ac (by simp;have:=a7.size;omega);have a8:Ag w1 w3:=ab.step ac (by simp;omega);replace h:=h.ext a8;replace hX:∀b∈X,b<w3.heap.size:=λb hb=>Nat.lt_of_lt_of_le (hX b hb) a6.size;refine Sa ?_;refine DU (λhk=>?_) λhk=>?_
 ·have hk:(Aa c.T s).kind≠5:=by simpa using hk
  have hi:BD c.T s [45]=false:=by simp [BD,hk]
  refine Sa ?_;refine LW.callP0 rfl rfl (h1 w3 X hX h) ?_ ?_
  ·rintro v w4 ⟨e,rfl,hp,a4⟩
   (repeat (first | apply QW.then_panic | apply QW.blk_panic))
   exact QW.panicP ⟨e,rfl,.un_prim hi hp,a4⟩
  rintro v w4 ⟨s',p,rfl,hp,hr,hf,g1,g2,g3⟩;refine Sa ?_;exact QW.bodyP1 Tryz.results243 rfl ⟨s',p,rfl,.un_prim hi hp,hr,(Fr.ext a6).trans hf,g1,g2,g3⟩
 have hk:(Aa c.T s).kind=5:=by simpa using hk
 refine Sa ?_;refine A4 (λht=>?_) λht=>?_
 ·have ht:(Aa c.T s).text≠[45]:=by simpa using ht
  have hi:BD c.T s [45]=false:=by simp [BD,ht]
  refine Sa ?_;refine LW.callP0 rfl rfl (h1 w3 X hX h) ?_ ?_
  ·rintro v w4 ⟨e,rfl,hp,a4⟩
   (repeat (first | apply QW.then_panic | apply QW.blk_panic))
   exact QW.panicP ⟨e,rfl,.un_prim hi hp,a4⟩
  rintro v w4 ⟨s',p,rfl,hp,hr,hf,g1,g2,g3⟩;refine Sa ?_;exact QW.bodyP1 Tryz.results243 rfl ⟨s',p,rfl,.un_prim hi hp,hr,(Fr.ext a6).trans hf,g1,g2,g3⟩
 have ht:(Aa c.T s).text=[45]:=by simpa using ht
 have hi:BD c.T s [45]=true:=by simp [BD,hk,ht]
 refine Sa ?_;refine LW.callP0 rfl rfl (Ku hc h [45]) ?_ ?_
 ·rintro v w4 ⟨a4,⟨rfl,_,hd⟩ | ⟨rfl,hn⟩⟩
  ·(repeat (first | apply QW.then_panic | apply QW.blk_panic))
   exact QW.panicP ⟨6,rfl,.un_deep hi hd,a4⟩
  ·rw [hi] at hn;cases hn
 rintro v w4 ⟨rfl,_,hd,hr,hf⟩;refine Sa ?_;refine LW.callP0 rfl rfl (h2 (Aq (An s)) (by show s.at_<s.at_+1;omega) w4 X (λb hb=>Nat.lt_of_lt_of_le (hX b hb) hf.size) hr) ?_ ?_
 ·rintro v w5 ⟨e,rfl,hp,ah⟩
  (repeat (first | apply QW.then_panic | apply QW.blk_panic))
  exact QW.panicP ⟨e,rfl,.un_err hi hd hp,ah⟩
 rintro v w5 ⟨s1,a,rfl,hp,ai,ad,g1,g2,g3⟩;have g1':s.at_+1<s1.at_:=g1;have g2':s1.deep=s.deep+1:=g2;have g3':s.at_+1+s1.out.length≤s1.at_+s.out.length:=g3;have hl:=h.len;obtain ⟨a0,a1,a2,a3,outv,nvs,hB,ho,hm,a5⟩:=ai;have aj:=hB;refine Sa ?_;refine CH λw6 ak hB=>?_;have e6:(s1.deep:Int) - 1=(((BP s1).deep:Nat):Int):=by show (s1.deep:Int) - 1=((s1.deep - 1:Nat):Int);omega
 replace hB:Blk w6 c.rb [c.tokv,.int .i64 s1.at_,outv,.int .i64 ((s1.deep:Int) - 1)] 167:=hB;rw [e6] at hB;obtain ⟨a9,ae⟩:=Rd.set hc (s:=s1) (s':=BP s1) a0 ho hm a5 aj ak hB rfl a1 (by show s1.deep - 1≤12;omega) a3;have aa:=(((Fr.ext a6).trans hf).trans ad).trans ae;have ap:=((hf.trans ad).trans ae).size;refine Sa ?_;refine DG λK w7 aq af hK=>?_;replace hK:Blk w7 K (Ac [(a:Int)]) 3:=hK;replace a9:=a9.ext af;replace aa:=aa.trans (.ext af);refine Sa ?_;refine LW.call0 (vs:=[.pointer (some ⟨c.rb,0,none⟩),.agg ⟨Cu ⟨{kind:=8,kids:=[(a:Int)]},.slice (some ⟨K,0,none⟩) 1 1⟩⟩]) rfl rfl (Jt hc a9 ⟨{kind:=8,kids:=[(a:Int)]},.slice (some ⟨K,0,none⟩) 1 1⟩ (.inr ⟨K,1,[],rfl,by rw [List.append_nil];exact hK⟩) (λb hb al=>by
  have h3:=hX b al;simp [Ad] at hb;omega) (by show s1.out.length+1≤s1.at_;omega)) ?_
 rintro v w8 ⟨rfl,am,an⟩;refine Sa ?_;exact QW.bodyP1 Tryz.results243 rfl ⟨Bq (BP s1) {kind:=8,kids:=[(a:Int)]},s1.out.length,rfl,.un_ok hi hd hp,am,aa.trans an,by show s.at_<s1.at_;omega,by show s1.deep - 1=s.deep;omega,by simp [Bq,BP];omega⟩
theorem DQ {c:C7} {X:List Nat} (hc:c.Ok) {w:World} {s:Bw} (h:Rd c X w s) (n:Ab) (hn:n.kids=[]) (hs:s.out.length+1≤s.at_):AL Tryz.prog 202 [.pointer (some ⟨c.rb,0,none⟩),.agg ⟨Cu ⟨n,.slice none 0 0⟩⟩] w
  (λv w'=>v=.int .i64 s.out.length∧Rd c X w' (Bq s n)∧Fr w w'):=Jt hc h ⟨n,.slice none 0 0⟩ (.inl ⟨rfl,hn⟩) (by simp [Ad]) hs
theorem U7 {c:C7} {X:List Nat} (hc:c.Ok) (s:Bw) (a:Cn) (w:World) (h:Rd c X w s) (hs:s.out.length+1≤s.at_):Eo Tryz.prog 266 [.pointer (some ⟨c.rb,0,none⟩),.agg ⟨Cr a⟩] w
  (λv w'=>v=.int .i64 s.out.length∧Fr w w'∧(BD c.T s [58]=false∧Rd c X w' (Bq s {kind:=5,ref:=a})∨
   BD c.T s [58]=true∧(Aa c.T (An s)).kind=4∧Bk a (Aa c.T (An s)).ref=true∧Rd c X w' (Bq (An (An s)) {kind:=6,ref:=a,to:=(Aa c.T (An s)).ref})))
  (λv w'=>v=pv 5∧Ag c.w0 w'∧BD c.T s [58]=true∧((Aa c.T (An s)).kind≠4∨Bk a (Aa c.T (An s)).ref=false)):=by
 have aa:=hc.len;refine Eo.enter Tryz.func266 rfl Tryz.ntmps266 (by kernel_rfl) rfl ?_;refine Sa ?_;refine Ei λA w1 am a8 hA=>?_;replace hA:Blk w1 A (Cr a) 113:=hA;replace h:=h.ext a8;refine Sa ?_;refine AE rfl rfl (Js hc h [58]) ?_;rintro v w2 ⟨rfl,hr,hf⟩;replace hA:=hf.blk _ _ _ hA (by decide) (by decide);replace hf:=(Fr.ext a8).trans hf;refine Sa ?_;refine A4 (λh1=>?_) λh1=>?_
 ·have h1:BD c.T s [58]=false:=by simpa using h1
  rw [Ji,h1,if_neg (by simp)] at hr;refine Sa ?_;refine LW.call0 (vs:=[.pointer (some ⟨c.rb,0,none⟩),.agg ⟨Cu ⟨{kind:=5,ref:=a},.slice none 0 0⟩⟩]) rfl rfl (DQ hc hr {kind:=5,ref:=a} rfl hs) ?_;rintro v w3 ⟨rfl,ab,ac⟩;refine Sa ?_;exact QW.bodyP1 Tryz.results266 rfl ⟨rfl,hf.trans ac,.inl ⟨h1,ab⟩⟩
 have h1:BD c.T s [58]=true:=by simpa using h1
 rw [Ji,if_pos h1] at hr;refine Sa ?_;refine AE rfl rfl (F3 hc hr) ?_;rintro v w3 ⟨rfl,a9⟩;refine Sa ?_;refine D4 λC w4 an ad hC=>?_;refine Sa ?_;refine Cj λw5 ae hC=>?_;replace hC:Blk w5 C (CL (Aa c.T (An s))) 115:=hC;have a6:Ag w2 w5:=(a9.trans ad).step ae (by simp;have:=a9.size;omega);replace hA:=hA.ext a6;replace hr:=hr.ext a6;replace hf:=hf.trans (.ext a6);refine Sa ?_;refine DU (λh2=>?_) λh2=>?_
 ·have h2:(Aa c.T (An s)).kind≠4:=by simpa using h2
  refine Sa ?_;refine LW.callP0 rfl rfl (Fc c.rb 5 w5) ?_ (λ_ _ hh=>hh.elim);rintro v w6 ⟨rfl,a4⟩
  (repeat (first | apply QW.then_panic | apply QW.blk_panic))
  exact QW.panicP ⟨rfl,hr.1.trans a4,h1,.inl h2⟩
 have h2:(Aa c.T (An s)).kind=4:=by simpa using h2
 refine Sa ?_;refine LW.load_agg (cs:=Cr (Aa c.T (An s)).ref) rfl hC rfl rfl rfl ⟨rfl,rfl,rfl,rfl,rfl,trivial⟩ rfl ?_;refine Sa ?_;refine AE rfl rfl (K7 a (Aa c.T (An s)).ref w5) ?_;rintro v w6 ⟨rfl,a4⟩;replace hA:=hA.ext a4;replace hC:=hC.ext a4;replace hr:=hr.ext a4;replace hf:=hf.trans (.ext a4);refine Sa ?_;refine A4 (λh3=>?_) λh3=>?_
 ·have h3:Bk a (Aa c.T (An s)).ref=false:=by simpa using h3
  refine Sa ?_;refine LW.callP0 rfl rfl (Fc c.rb 5 w6) ?_ (λ_ _ hh=>hh.elim);rintro v w7 ⟨rfl,af⟩
  (repeat (first | apply QW.then_panic | apply QW.blk_panic))
  exact QW.panicP ⟨rfl,hr.1.trans af,h1,.inr h3⟩
 have h3:Bk a (Aa c.T (An s)).ref=true:=by simpa using h3
 obtain ⟨a0,a1,a2,a3,outv,nvs,hB,ho,hm,a5⟩:=hr;have ag:=Ju hc a1 (by omega);have ah:=hB;have a1':s.at_+1<c.T.length:=a1;simp only [An] at hB;refine Sa ?_;refine CH λw7 ai hB=>?_;replace hB:Blk w7 c.rb [c.tokv,.int .i64 (An (An s)).at_,outv,.int .i64 s.deep] 167:=hB;obtain ⟨aj,a7⟩:=Rd.set hc (s:=An s) (s':=An (An s)) a0 ho hm a5 ah ai hB rfl ag a2 (by show s.out.length≤s.at_+1+1;omega);replace hA:=a7.blk _ _ _ hA (by decide) (by decide);replace hC:=a7.blk _ _ _ hC (by decide) (by decide);refine Sa ?_;refine LW.load_agg (cs:=Cr (Aa c.T (An s)).ref) rfl hC rfl rfl rfl ⟨rfl,rfl,rfl,rfl,rfl,trivial⟩ rfl ?_;refine Sa ?_;refine LW.call0 (vs:=[.pointer (some ⟨c.rb,0,none⟩),.agg ⟨Cu ⟨{kind:=6,ref:=a,to:=(Aa c.T (An s)).ref},.slice none 0 0⟩⟩]) rfl rfl (DQ hc aj {kind:=6,ref:=a,to:=(Aa c.T (An s)).ref} rfl (by show s.out.length+1≤s.at_+1+1;omega)) ?_;rintro v w8 ⟨rfl,ak,al⟩;refine Sa ?_;exact QW.bodyP1 Tryz.results266 rfl ⟨rfl,(hf.trans a7).trans al,.inr ⟨h1,h2,h3,ak⟩⟩
theorem Ay.fr {w w':World} {lo e size n:Nat} {v:Value} {xs:List Value} (h:Ay w lo e size v n xs) (f:Fr w w') (h1:e≠167) (h2:e≠139):Ay w' lo e size v n xs:=by
 obtain ⟨hl,h | ⟨g,cap,sp,rfl,hB,a1,a2,a3⟩⟩:=h
 ·exact ⟨hl,.inl h⟩
 ·exact ⟨hl,.inr ⟨g,cap,sp,rfl,f.blk _ _ _ hB h1 h2,a1,a2,a3⟩⟩
theorem NO {w:World} {lo:Nat} {kv:Value} {ks:List Int} (h:Ay w lo 3 1 kv ks.length (Ac ks)):BK w kv ks:=by
 obtain ⟨hl,⟨h1,h2⟩ | ⟨g,cap,sp,rfl,hB,a1,a2,a3⟩⟩:=h
 ·exact .inl ⟨h1,List.eq_nil_of_length_eq_zero h2⟩
 ·exact .inr ⟨g,cap,sp,rfl,hB⟩
theorem U3 {w:World} {lo:Nat} {kv:Value} {ks:List Int} {a:Nat} (h:Ay w lo 3 1 kv (ks.length+1) (Ac ks++[.int .i64 (a:Int)])):Ay w lo 3 1 kv (ks++[(a:Int)]).length (Ac (ks++[(a:Int)])):=by
 simpa [Ac] using h
theorem Ay.type {w:World} {lo e size n:Nat} {v:Value} {xs:List Value} (h:Ay w lo e size v n xs) {b:Nat} (hb:b∈Ad v) {l:List Value} {T:TypeId} (k:Blk w b l T):T=e:=by
 obtain ⟨hl,⟨rfl,_⟩ | ⟨g,cap,sp,rfl,hB,a1,a2,a3⟩⟩:=h
 ·simp [Ad] at hb
 ·simp [Ad] at hb;subst hb;exact k.inj hB
theorem Rd.grow {c:C7} {X X':List Nat} {w:World} {s:Bw} (h:Rd c X w s) (hX:∀b∈X',b∈X∨w.heap.size≤b):Rd c X' w s:=by
 obtain ⟨h0,h1,h2,h3,outv,nvs,hB,ho,hm,hk⟩:=h;refine ⟨h0,h1,h2,h3,outv,nvs,hB,ho,hm,λy hy=>⟨(hk y hy).1,λb hb a0=>?_⟩⟩;rcases hX b a0 with hx | hx
 ·exact (hk y hy).2 b hb hx
 ·rcases (hk y hy).1 with ⟨e,_⟩ | ⟨g,cap,sp,e,hg⟩
  ·rw [e] at hb;simp [Ad] at hb
  ·rw [e] at hb;simp [Ad] at hb;have:=hg.lt;omega
theorem Rd.other {c:C7} {X S:List Nat} {w w':World} {s:Bw} (h:Rd c X w s) (k:Chg S w w') (hS:∀b∈S,c.w0.heap.size≤b∧b∈X∧∀l T,Blk w b l T→T=3):Rd c X w' s:=by
 obtain ⟨h0,h1,h2,h3,outv,nvs,hB,ho,hm,hk⟩:=h;refine ⟨h0.step k (λb hb=>(hS b hb).1),h1,h2,h3,outv,nvs,hB.chg k (λhb=>absurd ((hS _ hb).2.2 _ _ hB) (by decide)),ho.chg k (λb hb a0=>?_),hm,λy hy=>⟨?_,(hk y hy).2⟩⟩
 ·obtain ⟨_,⟨e,_⟩ | ⟨g,cap,sp,e,hg,_⟩⟩:=ho
  ·rw [e] at hb;simp [Ad] at hb
  ·rw [e] at hb;simp [Ad] at hb;subst hb;exact absurd ((hS _ a0).2.2 _ _ hg) (by decide)
 ·rcases (hk y hy).1 with e | ⟨g,cap,sp,e,hg⟩
  ·exact .inl e
  ·exact .inr ⟨g,cap,sp,e,hg.chg k (λhb=>(hk y hy).2 g (by rw [e];simp [Ad]) (hS _ hb).2.1)⟩
theorem R9 {c:C7} (hc:c.Ok) (s:Bw) (hk:(Aa c.T s).kind=3) (hE:∀s',s.at_<s'.at_→PC c 125 (.lev 0) s') (w:World) (X:List Nat) (hX:∀b∈X,b<w.heap.size) (h:Rd c X w (An s)) (hs:s.out.length≤s.at_) :
  Eo Tryz.prog 267 [.pointer (some ⟨c.rb,0,none⟩),Ap (Aa c.T s).text] w (Wj c X .prim s w) (Vb c .prim s):=by
 have b3:=hc.len;have bg:=h.1.size;refine Eo.enter Tryz.func267 rfl Tryz.ntmps267 (by kernel_rfl) rfl ?_;refine Sa ?_;refine A4 (λh1=>?_) λh1=>?_
 ·have h1:(Aa c.T s).text=Db:=of_decide_eq_true h1;refine Sa ?_;refine LW.call0 (vs:=[.pointer (some ⟨c.rb,0,none⟩),.agg ⟨Cu ⟨{kind:=3,num:=1},.slice none 0 0⟩⟩]) rfl rfl (DQ hc h {kind:=3,num:=1} rfl (by show s.out.length+1≤s.at_+1;omega)) ?_;rintro v w1 ⟨rfl,hr,hf⟩;refine Sa ?_;exact QW.bodyP1 Tryz.results267 rfl ⟨_,_,rfl,.pr_true hk h1,hr,hf,by show s.at_<s.at_+1;omega,rfl,by simp [Bq,An];omega⟩
 have h1:(Aa c.T s).text≠Db:=of_decide_eq_false h1;refine Sa ?_;refine A4 (λh2=>?_) λh2=>?_
 ·have h2:(Aa c.T s).text=C3:=of_decide_eq_true h2;refine Sa ?_;refine LW.call0 (vs:=[.pointer (some ⟨c.rb,0,none⟩),.agg ⟨Cu ⟨{kind:=3},.slice none 0 0⟩⟩]) rfl rfl (DQ hc h {kind:=3} rfl (by show s.out.length+1≤s.at_+1;omega)) ?_;rintro v w1 ⟨rfl,hr,hf⟩;refine Sa ?_;exact QW.bodyP1 Tryz.results267 rfl ⟨_,_,rfl,.pr_false hk h2,hr,hf,by show s.at_<s.at_+1;omega,rfl,by simp [Bq,An];omega⟩
 have h2:(Aa c.T s).text≠C3:=of_decide_eq_false h2;refine Sa ?_;refine LW.callP0 rfl rfl (Ku hc h [40]) ?_ ?_
 ·rintro v w1 ⟨ax,⟨rfl,hi,hd⟩ | ⟨rfl,hn⟩⟩
  ·(repeat (first | apply QW.then_panic | apply QW.blk_panic))
   exact QW.panicP ⟨6,rfl,.pr_calldeep hk h1 h2 hi hd,ax⟩
  ·(repeat (first | apply QW.then_panic | apply QW.blk_panic))
   exact QW.panicP ⟨5,rfl,.pr_nocall hk h1 h2 hn,ax⟩
 rintro v w1 ⟨rfl,hi,hd,hr,hf⟩;have hd:s.deep<12:=hd;refine Sa ?_;refine AE rfl rfl (Js hc hr [41]) ?_;rintro v w2 ⟨rfl,ad,ay⟩;replace hf:=hf.trans ay;refine Sa ?_;refine A4 (λh3=>?_) λh3=>?_;rotate_left
 ·have h3:BD c.T (Aq (An (An s))) [41]=true:=by simpa using h3
  rw [Ji,if_pos h3] at ad;obtain ⟨a0,a1,a2,a3,outv,nvs,hB,ho,hm,a7⟩:=ad;have ai:=hB;refine Sa ?_;refine CH λw3 b4 hB=>?_;have e3:((An (Aq (An (An s)))).deep:Int) - 1=((s.deep:Nat):Int):=by show ((s.deep+1:Nat):Int) - 1=_;omega
  replace hB:Blk w3 c.rb [c.tokv,.int .i64 (An (Aq (An (An s)))).at_,outv,.int .i64 (((An (Aq (An (An s)))).deep:Int) - 1)] 167:=hB;rw [e3] at hB;obtain ⟨a8,ag⟩:=Rd.set hc (s:=An (Aq (An (An s)))) (s':=BP (An (Aq (An (An s))))) a0 ho hm a7 ai b4 hB rfl a1 (by show s.deep+1 - 1≤12;omega) a3;refine Sa ?_;refine LW.call0 (vs:=[.pointer (some ⟨c.rb,0,none⟩),.agg ⟨Cu ⟨{kind:=7,text:=(Aa c.T s).text},.slice none 0 0⟩⟩]) rfl rfl (DQ hc a8 {kind:=7,text:=(Aa c.T s).text} rfl (by show s.out.length+1≤s.at_+1+1+1;omega)) ?_;rintro v w4 ⟨rfl,b5,b6⟩;refine Sa ?_;exact QW.bodyP1 Tryz.results267 rfl ⟨_,_,rfl,.pr_call0 hk h1 h2 hi hd h3,b5,(hf.trans ag).trans b6,by show s.at_<s.at_+1+1+1;omega,rfl,by show s.at_+(s.out++[_]).length≤s.at_+1+1+1+s.out.length;simp;omega⟩
 have h3:BD c.T (Aq (An (An s))) [41]=false:=by simpa using h3
 rw [Ji,h3,if_neg (by simp)] at ad;refine Sa ?_;refine LW.callP0 rfl rfl (hE (Aq (An (An s))) (by show s.at_<s.at_+1+1;omega) w2 X (λb hb=>Nat.lt_of_lt_of_le (hX b hb) hf.size) ad) ?_ ?_
 ·rintro v w3 ⟨e,rfl,hp,b7⟩
  (repeat (first | apply QW.then_panic | apply QW.blk_panic))
  exact QW.panicP ⟨e,rfl,.pr_call hk h1 h2 hi hd h3 (.ar_err hp),b7⟩
 rintro v w3 ⟨t,a,rfl,hp,a8,ag,g1,g2,g3⟩;have g1:s.at_+1+1<t.at_:=g1;have g2:t.deep=s.deep+1:=g2;have g3:s.at_+1+1+t.out.length≤t.at_+s.out.length:=g3;replace hf:=hf.trans ag;refine Sa ?_;refine DG λA w4 az aj hA=>?_;replace hA:Blk w4 A [.int .i64 (a:Int)] 3:=hA;replace a8:=a8.ext aj;replace hf:=hf.trans (.ext aj);have b8:=hf.size;refine Sa ?_;refine LW.append rfl rfl rfl rfl rfl rfl (Ay.nil w4 c.w0.heap.size 3 1) (by omega) hA rfl rfl rfl (by decide) rfl ?_;intro kv w5 ak b0 a6;replace a8:=(a8.grow (X':=Ad kv++X) (λb hb=>by
  rw [List.mem_append] at hb;rcases hb with hb | hb
  ·rcases a6 b hb with hh | hh
   ·simp [Ad] at hh
   ·exact .inr hh
  ·exact .inl hb)).ext ak
 replace hf:=hf.trans (.ext ak);have b9:=hf.size;refine Sa ?_;refine CW.loop (ι:=Bw×List Int×Value) (λk w'=>s.at_+1+1<k.1.at_∧k.1.deep=s.deep+1∧s.at_+1+1+k.1.out.length≤k.1.at_+s.out.length∧k.2.1.length≤k.1.at_∧Rd c (Ad k.2.2++X) w' k.1∧Fr w w'∧Ay w' c.w0.heap.size 3 1 k.2.2 k.2.1.length (Ac k.2.1)∧(∀b∈Ad k.2.2,w.heap.size≤b)∧
   ∃u ks0 a,k.2.1=ks0++[((a:Nat):Int)]∧PE c.T (.lev 0) u (.ok k.1 a)∧∀r,PE c.T (.args (Aa c.T s).text ks0) u r→PE c.T .prim s r) (λk=>[(0,.pointer (some ⟨c.rb,0,none⟩)),(1,Ap (Aa c.T s).text),(5,k.2.2)]) (λk=>c.T.length - k.1.at_) (t,[(a:Int)],kv)
  ⟨g1,g2,g3,by simp;omega,a8,hf,b0,λb hb=>by
   rcases a6 b hb with hh | hh
   ·simp [Ad] at hh
   ·omega,_,[],a,rfl,hp,λr hr=>.pr_call hk h1 h2 hi hd h3 hr⟩ C0 ?_
 clear a8 hp g1 g2 g3 hf b0 a6 ak hA aj az b8 b9 ag ad hr ay;rintro ⟨t,ks,kv⟩ w6 ⟨g1,g2,g3,g4,hr,hf,ho,a4,u,ks0,a,al,hp,a5⟩;simp only at g1 g2 g3 g4 hr ho a4 al hp;show CW _ _ _ _ _ [(0,.pointer (some ⟨c.rb,0,none⟩)),(1,Ap (Aa c.T s).text),(5,kv)] _;have bh:=hr.len;have bi:=hf.size;refine Sa ?_;refine AE rfl rfl (Js hc hr [44]) ?_;rintro v w7 ⟨rfl,ah,b1⟩;have am:=Ay.fr ho b1 (by decide) (by decide);replace hf:=hf.trans b1;have ba:=hf.size;refine Sa ?_;refine A4 (λh4=>?_) λh4=>?_
 ·have h4:BD c.T t [44]=true:=h4;rw [Ji,if_pos h4] at ah;refine Sa ?_;refine LW.callP0 rfl rfl (hE (An t) (by show s.at_<t.at_+1;omega) w7 (Ad kv++X) (λb hb=>by
   rw [List.mem_append] at hb;rcases hb with hb | hb
   ·exact (am.lt hb).2
   ·exact Nat.lt_of_lt_of_le (hX b hb) ba) ah) ?_ ?_
  ·rintro v w8 ⟨e,rfl,an,ao⟩
   (repeat (first | apply QW.then_panic | apply QW.blk_panic))
   exact QW.panicP ⟨e,rfl,a5 _ (.ar_go hp h4 (.ar_err an)),ao⟩
  rintro v w8 ⟨t',a',rfl,an,ae,af,k1,k2,k3⟩;have k1:t.at_+1<t'.at_:=k1;have k2:t'.deep=t.deep:=k2;have k3:t.at_+1+t'.out.length≤t'.at_+t.out.length:=k3;have ap:=Ay.fr am af (by decide) (by decide);replace hf:=hf.trans af;refine Sa ?_;refine DG λA w9 az aq hA=>?_;replace hA:Blk w9 A [.int .i64 (a':Int)] 3:=hA;replace ae:=ae.ext aq;replace hf:=hf.trans (.ext aq);have ac:=ap.ext aq;have bb:=hf.size;refine Sa ?_;refine LW.append rfl rfl rfl rfl rfl rfl ac (by omega) hA rfl rfl rfl (by show (ks.length+1)*9≤140737488355328;omega) rfl ?_;intro kv' ar a9 au a6;have aa:Rd c (Ad kv'++X) ar t':=by
   have h5:=ae.grow (X':=Ad kv++(Ad kv'++X)) (λb hb=>by
    simp only [List.mem_append] at hb ⊢;rcases hb with hb | hb | hb
    ·exact .inl (.inl hb)
    ·rcases a6 b hb with hh | hh
     ·exact .inl (.inl hh)
     ·exact .inr hh
    ·exact .inl (.inr hb))
   have h6:=h5.other a9 (λb hb=>⟨(ac.lt hb).1,List.mem_append_left _ hb,λl T k=>Ay.type ac hb k⟩);exact h6.grow (λb hb=>.inl (List.mem_append_right _ hb))
  have ab:Fr w ar:=⟨Nat.le_trans bb a9.size,λb l T hb n1 n2=>(hf.blk b l T hb n1 n2).chg a9 (λhm=>by
   have:=a4 b hm;have:=hb.lt;omega)⟩
  refine Sa ?_;refine QW.again (t',ks++[(a':Int)],kv') ⟨by show s.at_+1+1<t'.at_;omega,k2.trans g2,by show s.at_+1+1+t'.out.length≤t'.at_+s.out.length;omega,by show (ks++[_]).length≤t'.at_;simp;omega,aa,ab,U3 au,λb hb=>?_,An t,ks,a',rfl,an,λr hr=>a5 r (.ar_go hp h4 (by rw [←al];exact hr))⟩ C0 (by show c.T.length - t'.at_<c.T.length - t.at_;omega);rcases a6 b hb with hh | hh
  ·exact a4 b hh
  ·omega
 have h4:BD c.T t [44]=false:=h4;rw [Ji,h4,if_neg (by simp)] at ah;refine Sa ?_;refine LW.callP0 rfl rfl (FZ hc ah [41]) ?_ ?_
 ·rintro v w8 ⟨rfl,hn,ao⟩
  (repeat (first | apply QW.then_panic | apply QW.blk_panic))
  exact QW.panicP ⟨5,rfl,a5 _ (.ar_open hp h4 hn),ao⟩
 rintro v w8 ⟨rfl,h5,ae,af⟩;have ap:=Ay.fr am af (by decide) (by decide);replace hf:=hf.trans af;obtain ⟨a0,a1,a2,a3,outv,nvs,hB,bc,hm,a7⟩:=ae;have ai:=hB;refine Sa ?_;refine CH λw9 bd hB=>?_;have e9:(t.deep:Int) - 1=((s.deep:Nat):Int):=by omega
 replace hB:Blk w9 c.rb [c.tokv,.int .i64 (An t).at_,outv,.int .i64 ((t.deep:Int) - 1)] 167:=hB;rw [e9] at hB;have av:(BP (An t)).deep=s.deep:=by show t.deep - 1=s.deep;omega
 rw [←av] at hB;obtain ⟨be,b2⟩:=Rd.set hc (s:=An t) (s':=BP (An t)) a0 bc hm a7 ai bd hB rfl a1 (by rw [av];omega) a3;have ac:=Ay.fr ap b2 (by decide) (by decide);replace hf:=hf.trans b2;have aw:Rd c X w9 (BP (An t)):=be.grow (λb hb=>.inl (List.mem_append_right _ hb));obtain ⟨kp,kq,rfl⟩:=ac.slice;refine Sa ?_;refine LW.call0 (vs:=[.pointer (some ⟨c.rb,0,none⟩),.agg ⟨Cu ⟨{kind:=7,text:=(Aa c.T s).text,kids:=ks},.slice kp ks.length kq⟩⟩]) rfl rfl (Jt hc aw ⟨{kind:=7,text:=(Aa c.T s).text,kids:=ks},.slice kp ks.length kq⟩ (NO ac) (λb hb bf=>by
  have:=a4 b hb;have:=hX b bf;omega) (by show t.out.length+1≤t.at_+1;omega)) ?_
 rintro v ar ⟨rfl,aa,ab⟩;refine Sa ?_;refine QW.bodyP1 Tryz.results267 rfl ⟨Bq (BP (An t)) {kind:=7,text:=(Aa c.T s).text,kids:=ks},t.out.length,rfl,a5 _ ?_,aa,hf.trans ab,by show s.at_<t.at_+1;omega,av,by show s.at_+(t.out++[_]).length≤t.at_+1+s.out.length;simp;omega⟩;rw [al];exact .ar_end hp h4 h5
theorem RU {c:C7} (hc:c.Ok) {s:Bw} (h:s.at_<c.T.length):0≤(Aa c.T s).kind∧(Aa c.T s).kind≤6:=by
 have:Aa c.T s=c.T[s.at_]:=by simp [Aa,List.getD_eq_getElem?_getD,List.getElem?_eq_getElem h]
 rw [this];exact hc.kinds _ (List.getElem_mem h)
theorem Tt {c:C7} (hc:c.Ok) (s:Bw) (hE:∀s',s.at_<s'.at_→PC c 125 (.lev 0) s'):PC c 256 .prim s:=by
 intro w X hX h;have ah:=hc.len;have aa:=RU hc h.2.1;refine Eo.enter Tryz.func256 rfl Tryz.ntmps256 (by kernel_rfl) rfl ?_;refine Sa ?_;refine AE rfl rfl (F3 hc h) ?_;rintro v w1 ⟨rfl,ab⟩;replace h:=h.ext ab;refine Sa ?_;refine D4 λC w2 av ae hC=>?_;refine Sa ?_;refine Cj λw3 af hC=>?_;replace hC:Blk w3 C (CL (Aa c.T s)) 115:=hC;have ag:Ag w w3:=(ab.trans ae).step af (by simp;have:=ab.size;omega);have ac:Ag w1 w3:=ae.step af (by simp;omega);replace h:=h.ext ac;replace hX:∀b∈X,b<w3.heap.size:=λb hb=>Nat.lt_of_lt_of_le (hX b hb) ag.size;have hf:=Fr.ext ag;have hl:=h.len;refine Sa ?_;refine A4 (λh5=>?_) λh5=>?_
 ·have h5:(Aa c.T s).kind=5:=by simpa using h5
  refine Sa ?_;refine LW.callP0 rfl rfl (Ku hc h [40]) ?_ ?_
  ·rintro v w4 ⟨a7,⟨rfl,hi,hd⟩ | ⟨rfl,hn⟩⟩
   ·(repeat (first | apply QW.then_panic | apply QW.blk_panic))
    exact QW.panicP ⟨6,rfl,.pr_deep hi hd,a7⟩
   ·(repeat (first | apply QW.then_panic | apply QW.blk_panic))
    exact QW.panicP ⟨5,rfl,.pr_sign h5 (by simpa [BD,h5] using hn),a7⟩
  rintro v w4 ⟨rfl,hi,hd,hr,a6⟩;replace hf:=hf.trans a6;refine Sa ?_;refine LW.callP0 rfl rfl (hE (Aq (An s)) (by show s.at_<s.at_+1;omega) w4 X (λb hb=>Nat.lt_of_lt_of_le (hX b hb) a6.size) hr) ?_ ?_
  ·rintro v w5 ⟨e,rfl,hp,ad⟩
   (repeat (first | apply QW.then_panic | apply QW.blk_panic))
   exact QW.panicP ⟨e,rfl,.pr_err hi hd hp,ad⟩
  rintro v w5 ⟨s1,a,rfl,hp,ai,a5,g1,g2,g3⟩;have g1':s.at_+1<s1.at_:=g1;have g2':s1.deep=s.deep+1:=g2;have g3':s.at_+1+s1.out.length≤s1.at_+s.out.length:=g3;replace hf:=hf.trans a5;refine Sa ?_;refine LW.callP0 rfl rfl (FZ hc ai [41]) ?_ ?_
  ·rintro v w6 ⟨rfl,hn,aj⟩
   (repeat (first | apply QW.then_panic | apply QW.blk_panic))
   exact QW.panicP ⟨5,rfl,.pr_open hi hd hp hn,aj⟩
  rintro v w6 ⟨rfl,h6,ak,al⟩;replace hf:=hf.trans al;obtain ⟨a0,a1,a2,a3,outv,nvs,hB,ho,hm,a4⟩:=ak;have a8:=hB;refine Sa ?_;refine CH λw7 am hB=>?_;replace hB:Blk w7 c.rb [c.tokv,.int .i64 (An s1).at_,outv,.int .i64 ((s1.deep:Int) - 1)] 167:=hB;have e7:(s1.deep:Int) - 1=(((BP (An s1)).deep:Nat):Int):=by show (s1.deep:Int) - 1=((s1.deep - 1:Nat):Int);omega
  rw [e7] at hB;obtain ⟨an,ao⟩:=Rd.set hc (s:=An s1) (s':=BP (An s1)) a0 ho hm a4 a8 am hB rfl a1 (by show s1.deep - 1≤12;omega) a3;refine Sa ?_;exact QW.bodyP1 Tryz.results256 rfl ⟨BP (An s1),a,rfl,.pr_ok hi hd hp h6,an,hf.trans ao,by show s.at_<s1.at_+1;omega,by show s1.deep - 1=s.deep;omega,by show s.at_+s1.out.length≤s1.at_+1+s.out.length;omega⟩
 have h5:(Aa c.T s).kind≠5:=by simpa using h5
 refine Sa ?_;refine A4 (λh0=>?_) λh0=>?_
 ·have h0:(Aa c.T s).kind=0:=by simpa using h0
  refine Sa ?_;refine LW.callP0 rfl rfl (Fc c.rb 5 w3) ?_ (λ_ _ hh=>hh.elim);rintro v w4 ⟨rfl,a7⟩
  (repeat (first | apply QW.then_panic | apply QW.blk_panic))
  exact QW.panicP ⟨5,rfl,.pr_end h0,h.1.trans a7⟩
 have h0:(Aa c.T s).kind≠0:=by simpa using h0
 obtain ⟨a0,a1,a2,a3,outv,nvs,hB,ho,hm,a4⟩:=h;have ap:=Ju hc a1 h0;have a8:=hB;refine Sa ?_;refine CH λw4 aq hB=>?_;replace hB:Blk w4 c.rb [c.tokv,.int .i64 (An s).at_,outv,.int .i64 s.deep] 167:=hB;obtain ⟨h,a6⟩:=Rd.set hc (s:=s) (s':=An s) a0 ho hm a4 a8 aq hB rfl ap a2 (by show s.out.length≤s.at_+1;omega);clear a8 hB ho hm a4;replace hf:=hf.trans a6;replace hC:=a6.blk _ _ _ hC (by decide) (by decide);replace hX:∀b∈X,b<w4.heap.size:=λb hb=>Nat.lt_of_lt_of_le (hX b hb) a6.size;have a9:(An s).out.length+1≤(An s).at_:=by show s.out.length+1≤s.at_+1;omega
 have q1:s.at_<s.at_+1:=by omega
 have q3:∀n:Ab,s.at_+(s.out++[n]).length≤s.at_+1+s.out.length:=λn=>by simp;omega
 refine Sa ?_;refine A4 (λh1=>?_) λh1=>?_
 ·have h1:(Aa c.T s).kind=1:=by simpa using h1
  refine Sa ?_;refine LW.call0 (vs:=[.pointer (some ⟨c.rb,0,none⟩),.agg ⟨Cu ⟨{kind:=1,num:=(Aa c.T s).num},.slice none 0 0⟩⟩]) rfl rfl (DQ hc h {kind:=1,num:=(Aa c.T s).num} rfl a9) ?_;rintro v w5 ⟨rfl,hr,a5⟩;refine Sa ?_;exact QW.bodyP1 Tryz.results256 rfl ⟨_,_,rfl,.pr_num h1,hr,hf.trans a5,q1,rfl,q3 _⟩
 have h1:(Aa c.T s).kind≠1:=by simpa using h1
 refine Sa ?_;refine A4 (λh2=>?_) λh2=>?_
 ·have h2:(Aa c.T s).kind=2:=by simpa using h2
  refine Sa ?_;refine LW.call0 (vs:=[.pointer (some ⟨c.rb,0,none⟩),.agg ⟨Cu ⟨{kind:=2,text:=(Aa c.T s).text},.slice none 0 0⟩⟩]) rfl rfl (DQ hc h {kind:=2,text:=(Aa c.T s).text} rfl a9) ?_;rintro v w5 ⟨rfl,hr,a5⟩;refine Sa ?_;exact QW.bodyP1 Tryz.results256 rfl ⟨_,_,rfl,.pr_text h2,hr,hf.trans a5,q1,rfl,q3 _⟩
 have h2:(Aa c.T s).kind≠2:=by simpa using h2
 refine Sa ?_;refine A4 (λh6=>?_) λh6=>?_
 ·have h6:(Aa c.T s).kind=6:=by simpa using h6
  refine Sa ?_;refine LW.call0 (vs:=[.pointer (some ⟨c.rb,0,none⟩),.agg ⟨Cu ⟨{kind:=4},.slice none 0 0⟩⟩]) rfl rfl (DQ hc h {kind:=4} rfl a9) ?_;rintro v w5 ⟨rfl,hr,a5⟩;refine Sa ?_;exact QW.bodyP1 Tryz.results256 rfl ⟨_,_,rfl,.pr_dead h6,hr,hf.trans a5,q1,rfl,q3 _⟩
 have h6:(Aa c.T s).kind≠6:=by simpa using h6
 refine Sa ?_;refine A4 (λh4=>?_) λh4=>?_
 ·have h4:(Aa c.T s).kind=4:=by simpa using h4
  refine Sa ?_;refine LW.load_agg (cs:=Cr (Aa c.T s).ref) rfl hC rfl rfl rfl ⟨rfl,rfl,rfl,rfl,rfl,trivial⟩ rfl ?_;refine Sa ?_;refine LW.callP0 rfl rfl (U7 hc (An s) (Aa c.T s).ref w4 h a9) ?_ ?_
  ·rintro v w5 ⟨rfl,ad,hi,hn⟩
   (repeat (first | apply QW.then_panic | apply QW.blk_panic))
   exact QW.panicP ⟨5,rfl,.pr_norange h4 hi hn,ad⟩
  rintro v w5 ⟨rfl,a5,⟨hi,hr⟩ | ⟨hi,ar,au,hr⟩⟩
  ·refine Sa ?_;exact QW.bodyP1 Tryz.results256 rfl ⟨_,_,rfl,.pr_ref h4 hi,hr,hf.trans a5,q1,rfl,q3 _⟩
  ·refine Sa ?_;exact QW.bodyP1 Tryz.results256 rfl ⟨_,_,rfl,.pr_range h4 hi ar au,hr,hf.trans a5,by show s.at_<s.at_+1+1+1;omega,rfl,by show s.at_+(s.out++[_]).length≤s.at_+1+1+1+s.out.length;simp;omega⟩
 have h4:(Aa c.T s).kind≠4:=by simpa using h4
 have h3:(Aa c.T s).kind=3:=by omega
 refine Sa ?_;refine LW.callP0 rfl rfl (R9 hc s h3 hE w4 X hX h a3) ?_ ?_
 ·rintro v w5 hp
  (repeat (first | apply QW.then_panic | apply QW.blk_panic))
  exact QW.panicP hp
 rintro v w5 ⟨s',p,rfl,hp,hr,a5,k1,k2,k3⟩;refine Sa ?_;exact QW.bodyP1 Tryz.results256 rfl ⟨s',p,rfl,hp,hr,hf.trans a5,k1,k2,k3⟩
theorem Qs {c:C7} (hc:c.Ok):∀(m:Nat) (s:Bw),c.T.length - s.at_≤m→
  PC c 125 (.lev 0) s∧PC c 170 (.lev 1) s∧PC c 203 (.lev 2) s∧PC c 223 (.lev 3) s∧PC c 243 .unary s∧PC c 256 .prim s
 | 0,s,hm=>by
  have key:∀f m,PC c f m s:=λf m w X hX h=>absurd h.2.1 (by omega)
  exact ⟨key _ _,key _ _,key _ _,key _ _,key _ _,key _ _⟩
 | m+1,s,hm=>by
  by_cases hs:s.at_<c.T.length
  ·have ih:=λ(s':Bw) (h:s.at_<s'.at_)=>Qs hc m s' (by omega);have hp:=Tt hc s (λs' h=>(ih s' h).1);have hu:=RY hc s hp (λs' h=>(ih s' h).2.2.2.2.1);have ht:=TG hc s hu (λs' h _=>(ih s' h).2.2.2.2.1);have hsu:=UC hc s ht (λs' h _=>(ih s' h).2.2.2.1);have hca:=Ud hc s hsu (λs' h _=>(ih s' h).2.2.1);exact ⟨SA hc s hca (λs' h _=>(ih s' h).2.1),hca,hsu,ht,hu,hp⟩
  ·have key:∀f m,PC c f m s:=λf m w X hX h=>absurd h.2.1 hs;exact ⟨key _ _,key _ _,key _ _,key _ _,key _ _,key _ _⟩
theorem Ru {l:List UInt8} {t:Ak} {k:Nat} (h:C5 l=some (t,k)):1≤t.kind∧t.kind≤6:=by
 unfold C5 at h
 split at h
 ·rw [(Ks h).2];decide
 ·split at h
  ·unfold Fs at h
   cases e:AA (l.drop 1) with
   | none=>rw [e] at h;cases h
   | some x=>
    rw [e] at h;simp only [Option.map_some,Option.some.injEq,Prod.mk.injEq] at h;rw [←h.1];simp
  ·split at h
   ·unfold Gm at h;simp only at h
    split at h
    ·simp only [Option.some.injEq,Prod.mk.injEq] at h;rw [←h.1];simp
    ·split at h
     ·simp only [Option.some.injEq,Prod.mk.injEq] at h;rw [←h.1];simp
     ·cases h
   ·unfold FG at h
    split at h
    ·simp only [Option.some.injEq,Prod.mk.injEq] at h;rw [←h.1];simp
    ·cases e:AN.find? λs=>Lib.hasPrefix l s with
     | none=>rw [e] at h;cases h
     | some x=>
      rw [e] at h;simp only [Option.map_some,Option.some.injEq,Prod.mk.injEq] at h;rw [←h.1];simp
theorem Ke:∀(n:Nat) (l:List UInt8) (a:Nat) {out:List Ak},l.length≤n→EQ l a=some out→
  out≠[]∧(∀t∈out,0≤t.kind∧t.kind≤6)∧∀i,i<out.length→(out.getD i TI).kind≠0→i+1<out.length
 | n,l,a,out,hn,h=>by
  cases e:l.drop (Al Hv l).length with
  | nil=>
   rw [Ff e] at h;simp only [Option.some.injEq] at h;subst h;refine ⟨by simp,by simp,λi hi hk=>?_⟩;simp at hi;subst hi
   simp at hk
  | cons c r=>
   have hl:=congrArg List.length e;simp at hl
   cases ho:C5 (c::r) with
   | none=>rw [FV e (by simp) ho] at h;cases h
   | some x=>
    obtain ⟨t,k⟩:=x;have hk:=Fh (by simp) ho;have hkind:=Ru ho;rw [G1 e (by simp) ho hk] at h
    cases hr:EQ ((c::r).drop k) (a+(Al Hv l).length+k) with
    | none=>rw [hr] at h;cases h
    | some y=>
     rw [hr] at h;simp only [Option.map_some,Option.some.injEq] at h;subst h
     match n with
     | 0=>omega
     | n+1=>
      have hd:((c::r).drop k).length=r.length+1 - k:=by simp
      obtain ⟨y0,y1,y2⟩:=Ke n ((c::r).drop k) _ (by rw [hd];omega) hr;refine ⟨by simp,λt' ht'=>?_,λi hi a0=>?_⟩
      ·simp only [List.mem_cons] at ht';rcases ht' with rfl | ht'
       ·exact ⟨by show 0≤t.kind;omega,hkind.2⟩
       ·exact y1 t' ht'
      ·have a1:=List.length_pos_iff.2 y0
       cases i with
       | zero=>simp;omega
       | succ i=>
        have:=y2 i (by simpa using hi) (by simpa using a0)
        simpa using this
theorem IG (L E:Nat) (e:Int) (x y:Value) (w:World) (hL:Blk w L [x] 79) (hE:Blk w E [y] 120) :
  CallsD Tryz.prog 124 ⟨[.pointer (some ⟨L,0,none⟩),.pointer (some ⟨E,0,none⟩)]⟩ (.panicking [{v:=pv e,recovered:=false}]) w
   (λr u w'=>r=.returned (.tuple #[])∧u=.panicking [{v:=pv e,recovered:=true}]∧Blk w' L [.slice none 0 0] 79∧Blk w' E [.int .i64 e] 120∧Chg [L,E] w w'):=by
 have a0:L≠E:=λh=>by subst h;exact absurd (hL.inj hE) (by decide)
 refine GQ (u':=.panicking [{v:=pv e,recovered:=true}]) (v:=pv e) Tryz.func124 rfl Tryz.ntmps124 rfl rfl rfl (λc₀ cs hu=>by simp [recoverD,hu]) (λc₀ cs=>?_);refine Sa ?_;refine LW.typeAssert rfl rfl rfl rfl ?_;refine Sa ?_;refine CH λw1 a1 hL=>?_;replace hE:=hE.chg a1 (by simpa using a0.symm);refine Sa ?_;refine CH λw2 a2 hE=>?_;replace hL:=hL.chg a2 (by simpa using a0);refine Sa ?_;exact QW.bodyS Tryz.results124 ⟨rfl,rfl,hL,hE,(Chg.trans a1 a2).mono (by simp)⟩
theorem OI (L E:Nat) (w:World) :
  CallsD Tryz.prog 124 ⟨[.pointer (some ⟨L,0,none⟩),.pointer (some ⟨E,0,none⟩)]⟩ .returning w (λr u w'=>r=.returned (.tuple #[])∧u=.returning∧w'=w):=by
 refine GQ (u':=.returning) (v:=.nilIface) Tryz.func124 rfl Tryz.ntmps124 rfl rfl rfl (λc₀ cs hu=>by
  have:recoverD (c₀::cs)=none:=by simp [recoverD,hu]
  rw [this];cases c₀;simp_all) (λc₀ cs=>?_)
 refine Sa ?_;exact QW.bodyS Tryz.results124 ⟨rfl,rfl,rfl⟩
def Ls (w:World) (lo:Nat) (sv:Value) (l:List Ab):Prop:=
 ∃nvs:List NV,Ay w lo 139 14 sv nvs.length (nvs.flatMap Cu)∧nvs.map NV.node=l∧∀x∈nvs,BK w x.kv x.node.kids
abbrev VB (w:World) (lo:Nat) (v:Value) (o:Except Int (List Ab)):Prop:=match o with
 | .error e=>v=.tuple #[.slice none 0 0,.int .i64 e]
 | .ok l=>∃sv,v=.tuple #[sv,.int .i64 0]∧Ls w lo sv l
def Df (s:List UInt8) (v:Value) (w:World) (lo:Nat):Prop:=
 if 300<s.length then v=.tuple #[.slice none 0 0,.int .i64 4]
 else match He s with
  | none=>v=.tuple #[.slice none 0 0,.int .i64 5]
  | some T=>∃o,CQ T o∧VB w lo v o
theorem Lw (s:List UInt8) (hs:s.length≤9223372036854775807) (w:World) (g:Cm w):AL Tryz.prog 86 [Ap s] w (λv w'=>Df s v w' w.heap.size∧Ag w w'):=by
 have ar:BF Tryz.prog 124=true:=by kernel_rfl
 refine AL.enterD Tryz.func86 rfl Tryz.ntmps86 (by kernel_rfl) rfl ?_;refine Sa ?_;refine D4 λL w1 bc ad hL=>?_;have bd:=hL.lt;refine Sa ?_;refine D4 λE w2 be b1 hE=>?_;replace hL:=hL.ext b1;have a7:L≠E:=by omega
 have ai:=ad.trans b1;refine Sa ?_;refine AE rfl rfl (TX s hs w2 (g.ext ai)) ?_;rintro v w3 ⟨hv,au⟩;replace hL:=hL.ext au;replace hE:=hE.ext au;have ae:=ai.trans au;by_cases a4:300<s.length
 ·rw [O4,if_pos a4] at hv;subst hv;have aj:∀w',Df s (.tuple #[.slice none 0 0,.int .i64 4]) w' w.heap.size:=λw'=>by rw [Df,if_pos a4]
  refine Sa ?_;refine CH λw4 af hE=>?_;replace hL:=hL.chg af (by simpa using a7);have ab:Ag w w4:=ae.step af (by simp;have:=ad.size;omega);refine Sa ?_;refine CW.drawAny (by kernel_rfl) λw5 a8=>?_;replace hL:=hL.ext a8;replace hE:=hE.ext a8;refine AW.two 0 1 (by kernel_rfl) rfl rfl rfl rfl ?_ ?_
  ·refine Sa ?_;apply QW.any;refine AW.one 1 (by kernel_rfl) rfl rfl ?_;refine CH λw6 a9 hL=>?_;replace hE:=hE.chg a9 (by simpa using a7.symm);apply LW.nil;apply QW.any;refine AW.one 2 (by kernel_rfl) rfl rfl ?_;refine CH λw7 aa hE=>?_;replace hL:=hL.chg aa (by simpa using a7);have ac:Ag w w7:=((ab.trans a8).step a9 (by simp;omega)).step aa (by simp;have:=ad.size;omega);apply LW.nil;apply QW.any;refine AW.done (by kernel_rfl) ?_;refine Sa ?_;refine QW.bodyD0 (rs:=[.cell 2 79,.cell 3 120]) (vs:=[.slice none 0 0,_]) Tryz.results86 ⟨⟨L,rfl,AD rfl rfl hL rfl⟩,⟨E,rfl,AD rfl rfl hE rfl⟩,trivial⟩ rfl ⟨aj w7,ac⟩
  ·refine CH λw6 a9 hL=>?_;replace hE:=hE.chg a9 (by simpa using a7.symm);apply LW.nil;apply QW.any;refine AW.one 0 (by kernel_rfl) rfl rfl ?_;refine Sa ?_;apply QW.any;refine AW.one 2 (by kernel_rfl) rfl rfl ?_;refine CH λw7 aa hE=>?_;replace hL:=hL.chg aa (by simpa using a7);have ac:Ag w w7:=((ab.trans a8).step a9 (by simp;omega)).step aa (by simp;have:=ad.size;omega);apply LW.nil;apply QW.any;refine AW.done (by kernel_rfl) ?_;refine Sa ?_;refine QW.bodyD0 (rs:=[.cell 2 79,.cell 3 120]) (vs:=[.slice none 0 0,_]) Tryz.results86 ⟨⟨L,rfl,AD rfl rfl hL rfl⟩,⟨E,rfl,AD rfl rfl hE rfl⟩,trivial⟩ rfl ⟨aj w7,ac⟩
 cases a5:He s with
 | none=>
  rw [O4,if_neg a4,a5] at hv;subst hv;have aj:∀w',Df s (.tuple #[.slice none 0 0,.int .i64 5]) w' w.heap.size:=λw'=>by rw [Df,if_neg a4,a5]
  refine Sa ?_;refine CH λw4 af hE=>?_;replace hL:=hL.chg af (by simpa using a7);have ab:Ag w w4:=ae.step af (by simp;have:=ad.size;omega);refine Sa ?_;refine CW.drawAny (by kernel_rfl) λw5 a8=>?_;replace hL:=hL.ext a8;replace hE:=hE.ext a8;refine AW.two 0 1 (by kernel_rfl) rfl rfl rfl rfl ?_ ?_
  ·refine Sa ?_;apply QW.any;refine AW.one 1 (by kernel_rfl) rfl rfl ?_;refine CH λw6 a9 hL=>?_;replace hE:=hE.chg a9 (by simpa using a7.symm);apply LW.nil;apply QW.any;refine AW.one 2 (by kernel_rfl) rfl rfl ?_;refine CH λw7 aa hE=>?_;replace hL:=hL.chg aa (by simpa using a7);have ac:Ag w w7:=((ab.trans a8).step a9 (by simp;omega)).step aa (by simp;have:=ad.size;omega);apply LW.nil;apply QW.any;refine AW.done (by kernel_rfl) ?_;refine Sa ?_;refine QW.bodyD0 (rs:=[.cell 2 79,.cell 3 120]) (vs:=[.slice none 0 0,_]) Tryz.results86 ⟨⟨L,rfl,AD rfl rfl hL rfl⟩,⟨E,rfl,AD rfl rfl hE rfl⟩,trivial⟩ rfl ⟨aj w7,ac⟩
  ·refine CH λw6 a9 hL=>?_;replace hE:=hE.chg a9 (by simpa using a7.symm);apply LW.nil;apply QW.any;refine AW.one 0 (by kernel_rfl) rfl rfl ?_;refine Sa ?_;apply QW.any;refine AW.one 2 (by kernel_rfl) rfl rfl ?_;refine CH λw7 aa hE=>?_;replace hL:=hL.chg aa (by simpa using a7);have ac:Ag w w7:=((ab.trans a8).step a9 (by simp;omega)).step aa (by simp;have:=ad.size;omega);apply LW.nil;apply QW.any;refine AW.done (by kernel_rfl) ?_;refine Sa ?_
   refine QW.bodyD0 (rs:=[.cell 2 79,.cell 3 120]) (vs:=[.slice none 0 0,_]) Tryz.results86 ⟨⟨L,rfl,AD rfl rfl hL rfl⟩,⟨E,rfl,AD rfl rfl hE rfl⟩,trivial⟩ rfl ⟨aj w7,ac⟩
 | some T=>
 rw [O4,if_neg a4,a5] at hv;obtain ⟨sv,rfl,av⟩:=hv;obtain ⟨k0,k1,k2⟩:=Ke _ s 0 (Nat.le_refl _) a5;have bf:=SX a5;obtain ⟨tb,tcap,tsp,rfl,hT,_⟩:=av.get (List.length_pos_iff.2 k0);have bg:=ae.size;refine Sa ?_;refine CH λw4 af hE=>?_;have aw:tb≠E:=λh=>by subst h;exact absurd (hT.inj (by assumption:Blk w3 tb [_] 120)) (by decide)
 replace hL:=hL.chg af (by simpa using a7);replace hT:=hT.chg af (by simpa using aw);have ab:Ag w w4:=ae.step af (by simp;have:=ad.size;omega);refine Sa ?_;refine LW.defer rfl rfl ?_;refine Sa ?_;have bh:=hL.lt;have bi:=hE.lt;have bj:w.heap.size≤L∧w.heap.size≤E:=by have:=ad.size;omega
 refine Ei λR w5 bk a8 hR=>?_;obtain ⟨c,ak⟩:∃c:C7,c=⟨T,tb,tcap,tsp,R,w4⟩:=⟨_,rfl⟩;have hc:c.Ok:=by
  subst ak;exact ⟨hT,by show T.length≤301;omega,k2,k1,by show w4.heap.size≤R;omega⟩
 have ah:c.T=T:=by rw [ak]
 have an:c.rb=R:=by rw [ak]
 have ao:c.w0=w4:=by rw [ak]
 have b2:Rd c [] w5 ⟨0,[],0⟩:=by
  refine ⟨by rw [ao];exact a8,by rw [ah];exact List.length_pos_iff.2 k0,by simp,by simp,.slice none 0 0,[],?_,Ay.nil _ _ _ _,rfl,by simp⟩;rw [an,C7.tokv,ak];exact hR
 have ag:=(Qs hc _ ⟨0,[],0⟩ (Nat.le_refl _)).1 w5 [] (by simp) b2;rw [an] at ag;refine Sa ?_;refine LW.callP0 rfl rfl ag ?_ ?_
 ·rintro v w6 ⟨e,rfl,hp,a6⟩;rw [ao] at a6;have ax:CQ T (.error e):=.inl (by rw [←ah];exact hp)
  (repeat (first | apply QW.then_panic | apply QW.blk_panic))
  refine QW.panicD1 (rs:=[.cell 2 79,.cell 3 120]) Tryz.results86 ar ?_;refine (IG L E _ _ _ _ (hL.ext a6) (hE.ext a6)).mono ?_;rintro e' u w' ⟨rfl,rfl,ay,az,b0⟩;refine ⟨rfl,rfl,[.slice none 0 0,_],⟨⟨L,rfl,AD rfl rfl ay rfl⟩,⟨E,rfl,AD rfl rfl az rfl⟩,trivial⟩,?_,(ab.trans a6).step b0 (by simp;omega)⟩;rw [Df,if_neg a4,a5];exact ⟨_,ax,rfl⟩
 rintro v w6 ⟨s1,p,rfl,hp,hr,hf,_,_,_⟩;have a6:Ag w4 w6:=by have:=hr.1;rwa [ao] at this
 have al:=F3 hc hr;rw [an] at al;refine Sa ?_;refine AE rfl rfl al ?_;rintro v w7 ⟨rfl,ac⟩;replace hr:=hr.ext ac;replace a6:=a6.trans ac;refine Sa ?_;refine LW.field1 (v:=.int .i64 (Aa c.T s1).kind) rfl rfl rfl rfl rfl rfl rfl rfl ?_;refine Sa ?_;refine A4 (λhk=>?_) λhk=>?_
 ·have hk:(Aa c.T s1).kind≠0:=by simpa using hk
  have ax:CQ T (.error 5):=.inr ⟨rfl,s1,p,by rw [←ah];exact hp,by rw [←ah];exact hk⟩;refine Sa ?_;refine LW.callP0 rfl rfl (Fc R 5 w7) ?_ (λ_ _ hh=>hh.elim);rintro v w8 ⟨rfl,b3⟩;replace a6:=a6.trans b3
  (repeat (first | apply QW.then_panic | apply QW.blk_panic))
  refine QW.panicD1 (rs:=[.cell 2 79,.cell 3 120]) Tryz.results86 ar ?_;refine (IG L E _ _ _ _ (hL.ext a6) (hE.ext a6)).mono ?_;rintro e' u w' ⟨rfl,rfl,ay,az,b0⟩;refine ⟨rfl,rfl,[.slice none 0 0,_],⟨⟨L,rfl,AD rfl rfl ay rfl⟩,⟨E,rfl,AD rfl rfl az rfl⟩,trivial⟩,?_,(ab.trans a6).step b0 (by simp;omega)⟩;rw [Df,if_neg a4,a5];exact ⟨_,ax,rfl⟩
 ·have hk:(Aa c.T s1).kind=0:=by simpa using hk
  obtain ⟨a0,a1,a2,a3,outv,nvs,hB,ho,hm,am⟩:=hr;rw [an] at hB;rw [ao] at ho;replace hL:=hL.ext a6;replace hE:=hE.ext a6;obtain ⟨q1,q2,rfl⟩:=ho.slice;refine Sa ?_;have b4:∀b,b∈Ad (Value.slice q1 nvs.length q2)→b∉[L]:=λb hb h=>by
   simp only [List.mem_singleton] at h;subst h;exact absurd (Ay.type ho hb hL) (by decide)
  have b5:∀x∈nvs,BK w7 x.kv x.node.kids:=λx hx=>(am x hx).1;have b6:=hL;refine CH λw8 ap hL=>?_;have b7:∀b l T',Blk w7 b l T'→T'≠79→Blk w8 b l T':=λb l T' hb h=>hb.chg ap (λhm=>by simp at hm;subst hm;exact h (hb.inj b6));replace hE:=hE.chg ap (by simpa using a7.symm);replace ho:=ho.chg ap b4;have b8:∀b,b∈Ad (Value.slice q1 nvs.length q2)→b∉[E]:=λb hb h=>by
   simp only [List.mem_singleton] at h;subst h;exact absurd (Ay.type ho hb hE) (by decide)
  have b9:=hE;refine Sa ?_;refine CH λw9 aq hE=>?_;have ba:∀b l T',Blk w8 b l T'→T'≠120→Blk w9 b l T':=λb l T' hb h=>hb.chg aq (λhm=>by simp at hm;subst hm;exact h (hb.inj b9));replace hL:=hL.chg aq (by simpa using a7);replace ho:=ho.chg aq b8;have bb:Ag w w9:=((ab.trans a6).step ap (by simp;omega)).step aq (by simp;omega);refine Sa ?_;refine QW.bodyD1 (rs:=[.cell 2 79,.cell 3 120]) Tryz.results86 ar ?_;refine (OI L E w9).mono ?_;rintro e u w' ⟨rfl,rfl,rfl⟩;refine ⟨rfl,rfl,[.slice q1 nvs.length q2,.int .i64 0],⟨⟨L,rfl,AD rfl rfl hL rfl⟩,⟨E,rfl,AD rfl rfl hE rfl⟩,trivial⟩,?_,bb⟩;rw [Df,if_neg a4,a5];refine ⟨.ok s1.out,⟨s1,p,by rw [←ah];exact hp,by rw [←ah];exact hk,rfl⟩,.slice q1 nvs.length q2,rfl,nvs,?_,hm,λx hx=>?_⟩
  ·exact ho.low (by have:=ab.size;omega)
  ·rcases b5 x hx with h | ⟨b,cap,sp,e1,hb⟩
   ·exact .inl h
   ·exact .inr ⟨b,cap,sp,e1,ba _ _ _ (b7 _ _ _ hb (by decide)) (by decide)⟩
def KW (l:List UInt8):Bool:=decide (∀j,j<l.length→32≤Ae l j)
theorem NU (s:List UInt8) (hs:s.length≤1000000) (w:World):AL Tryz.prog 179 [Ap s] w (λv w'=>v=.bool (KW s)∧Ag w w'):=by
 refine Br Tryz.func179 Tryz.ntmps179 ?_;refine Sa ?_;refine CW.loop (ι:=Nat) (λk w'=>k≤s.length∧Ag w w'∧∀j,j<k→32≤Ae s j) (λk=>[(0,Ap s),(5,.int .i64 s.length),(6,.int .i64 k)]) (λk=>s.length - k) 0 ⟨by omega,Chg.refl _ _,by omega⟩ C0 ?_;rintro k w1 ⟨hk,hx,a0⟩;refine Sa ?_;refine A4 (λh1=>?_) λh1=>?_
 ·have h1:k<s.length:=by simp at h1;omega
  refine Sa ?_;refine A4 (λh2=>?_) λh2=>?_
  ·have h2:Ae s k<32:=by simpa using h2
   refine Sa ?_;refine QW.body1 Tryz.results179 rfl ⟨?_,hx⟩;have:KW s=false:=by
    simp only [KW,decide_eq_false_iff_not];intro hh;have:=hh k h1;omega
   rw [this]
  ·have h2:¬Ae s k<32:=by simpa using h2
   refine Sa ?_;refine QW.again (k+1) ⟨by omega,hx,λj hj=>?_⟩ C0 (by omega);by_cases e:j=k
   ·subst e;omega
   ·exact a0 j (by omega)
 ·have h1:k=s.length:=by simp at h1;omega
  subst h1;refine Sa ?_;refine QW.body1 Tryz.results179 rfl ⟨?_,hx⟩;have:KW s=true:=by simp only [KW,decide_eq_true_eq];exact a0
  rw [this]
def Co (s:List UInt8):Bool:=KP s&&!AQ s&&!decide (s=Db)&&!decide (s=C3)
theorem Po (s:List UInt8):∃x,FE s=.tuple #[K8 x,.bool (AQ s)]:=by
 unfold FE;cases AQ s
 ·exact ⟨NZ,rfl⟩
 ·exact ⟨Dj s,rfl⟩
theorem RX (s:List UInt8) (hs:s.length≤1000) (w:World) (g:Cm w):AL Tryz.prog 180 [Ap s] w (λv w'=>v=.bool (Co s)∧Ag w w'):=by
 refine Br Tryz.func180 Tryz.ntmps180 ?_;refine Sa ?_;refine AE rfl rfl (MP s hs w g) ?_;rintro v w1 ⟨rfl,hx⟩;obtain ⟨x,a1⟩:=Po s;rw [a1];refine Sa ?_;refine D4 λF w2 a5 a2 hF=>?_;have hz:=hx.size;refine Sa ?_;refine Cj λw3 a3 hF=>?_;have a4:Ag w w3:=(hx.trans a2).step a3 (by simp;omega);refine Sa ?_;refine AE rfl rfl (LD s w3 (by omega)) ?_;rintro v w4 ⟨rfl,a0⟩;replace a0:=a4.trans a0;refine Sa ?_;refine DU (λh1=>?_) λh1=>?_
 ·have h1:KP s=true:=h1;refine Sa ?_;refine DU (λh2=>?_) λh2=>?_
  ·have h2:AQ s=false:=by simpa using h2
   refine Sa ?_;refine DU (λh3=>?_) λh3=>?_
   ·refine Sa ?_;refine QW.body1 Tryz.results180 rfl ⟨?_,a0⟩;have h3:¬s=Db:=by simpa [Db] using h3
    by_cases h4:s=[70,65,76,83,69]<;>simp [Co,h1,h2,h3,C3,h4]
   ·refine Sa ?_;refine QW.body1 Tryz.results180 rfl ⟨?_,a0⟩;have h3:s=Db:=by simpa [Db] using h3
    simp [Co,h3]
  ·have h2:AQ s=true:=by simpa using h2
   refine Sa ?_;refine QW.body1 Tryz.results180 rfl ⟨?_,a0⟩;simp [Co,h2]
 ·have h1:KP s=false:=h1;refine Sa ?_;refine QW.body1 Tryz.results180 rfl ⟨?_,a0⟩;simp [Co,h1]
def C2 (k:Int):Int:=if k<1∨19<k then -2 else if k=7 then -1 else if k=8 then 1 else if 8<k then 2 else 0
theorem Q2 (k:Int) (w:World):AL Tryz.prog 133 [.int .i64 k] w (λv w'=>v=.int .i64 (C2 k)∧Ag w w'):=by
 refine Br Tryz.func133 Tryz.ntmps133 ?_;refine Sa ?_;refine DU (λh1=>?_) λh1=>?_
 ·have h1:k<1:=by simpa using h1
  refine Sa ?_;exact QW.body1 Tryz.results133 rfl ⟨by rw [C2,if_pos (.inl h1)],Chg.refl _ _⟩
 have h1:¬k<1:=by simpa using h1
 refine Sa ?_;refine A4 (λh2=>?_) λh2=>?_
 ·have h2:19<k:=by simpa using h2
  refine Sa ?_;exact QW.body1 Tryz.results133 rfl ⟨by rw [C2,if_pos (.inr h2)],Chg.refl _ _⟩
 have h2:¬19<k:=by simpa using h2
 have hn:¬(k<1∨19<k):=by omega
 refine Sa ?_;refine A4 (λh3=>?_) λh3=>?_
 ·have h3:k=7:=by simpa using h3
  refine Sa ?_;exact QW.body1 Tryz.results133 rfl ⟨by rw [C2,if_neg hn,if_pos h3],Chg.refl _ _⟩
 have h3:¬k=7:=by simpa using h3
 refine Sa ?_;refine A4 (λh4=>?_) λh4=>?_
 ·have h4:k=8:=by simpa using h4
  refine Sa ?_;exact QW.body1 Tryz.results133 rfl ⟨by rw [C2,if_neg hn,if_neg h3,if_pos h4],Chg.refl _ _⟩
 have h4:¬k=8:=by simpa using h4
 refine Sa ?_;refine A4 (λh5=>?_) λh5=>?_
 ·have h5:8<k:=by simpa using h5
  refine Sa ?_;exact QW.body1 Tryz.results133 rfl ⟨by rw [C2,if_neg hn,if_neg h3,if_neg h4,if_pos h5],Chg.refl _ _⟩
 ·have h5:¬8<k:=by simpa using h5
  refine Sa ?_;exact QW.body1 Tryz.results133 rfl ⟨by rw [C2,if_neg hn,if_neg h3,if_neg h4,if_neg h5],Chg.refl _ _⟩
def AU (w:World) (v:Value) (zs:List Int):Prop:=
 zs.length≤9223372036854775806∧(v=.slice none 0 0∧zs=[]∨∃a cap,v=.slice (some a) zs.length cap∧∀i z,zs[i]?=some z→w.cell? (a.add i)=some (.int .i64 z))
theorem AU.ext {w w':World} {v:Value} {zs:List Int} (h:AU w v zs) (x:Ag w w'):AU w' v zs:=by
 obtain ⟨h0,h | ⟨a,cap,e,h⟩⟩:=h
 ·exact ⟨h0,.inl h⟩
 ·exact ⟨h0,.inr ⟨a,cap,e,λi z hz=>Aw x (h i z hz)⟩⟩
theorem AU.slice {w:World} {v:Value} {zs:List Int} (h:AU w v zs):∃p c,v=.slice p zs.length c:=by
 obtain ⟨h0,⟨rfl,rfl⟩ | ⟨a,cap,e,h⟩⟩:=h
 ·exact ⟨_,_,rfl⟩
 ·exact ⟨_,_,e⟩
theorem AU.at {w:World} {p:Option Addr} {c:Nat} {zs:List Int} (h:AU w (.slice p zs.length c) zs) {i:Nat} (hi:i<zs.length):∃a,p=some a∧w.cell? (a.add i)=some (.int .i64 (zs.getD i 0)):=by
 obtain ⟨h0,⟨e,e2⟩ | ⟨a,cap,e,h⟩⟩:=h
 ·rw [e2] at hi;simp at hi
 ·simp only [Value.slice.injEq] at e;exact ⟨a,e.1,h i _ (by simp [List.getD_eq_getElem?_getD,List.getElem?_eq_getElem hi])⟩
theorem ME {a b:List Int} {k:Nat} (ha:k<a.length) (hb:k<b.length) (h:a.take k=b.take k) (hk:a.getD k 0=b.getD k 0):a.take (k+1)=b.take (k+1):=by
 rw [List.take_add_one,List.take_add_one,h,List.getElem?_eq_getElem ha,List.getElem?_eq_getElem hb];simp [List.getD_eq_getElem?_getD,List.getElem?_eq_getElem ha,List.getElem?_eq_getElem hb] at hk;rw [hk]
theorem QN (a b:List Int) (va vb:Value) (w:World) (ha:AU w va a) (hb:AU w vb b):AL Tryz.prog 134 [va,vb] w (λv w'=>v=.bool (decide (a=b))∧Ag w w'):=by
 obtain ⟨pa,ca,rfl⟩:=ha.slice;obtain ⟨pb,cb,rfl⟩:=hb.slice;have a4:=ha.1;have a5:=hb.1;refine Br Tryz.func134 Tryz.ntmps134 ?_;refine Sa ?_;refine A4 (λh1=>?_) λh1=>?_
 ·have h1:a.length≠b.length:=by simp at h1;omega
  refine Sa ?_;refine QW.body1 Tryz.results134 rfl ⟨?_,Chg.refl _ _⟩;have:a≠b:=λe=>h1 (by rw [e]);simp [this]
 have h1:a.length=b.length:=by simp at h1;omega
 refine Sa ?_;refine CW.loop (ι:=Nat) (λk w'=>k≤a.length∧Ag w w'∧a.take k=b.take k) (λk=>[(0,.slice pa a.length ca),(1,.slice pb b.length cb),(12,.int .i64 a.length),(13,.int .i64 k)]) (λk=>a.length - k) 0 ⟨by omega,Chg.refl _ _,rfl⟩ BU ?_;rintro k w1 ⟨hk,hx,a0⟩;replace ha:=ha.ext hx;replace hb:=hb.ext hx;refine Sa ?_;refine A4 (λh2=>?_) λh2=>?_
 ·have h2:k<a.length:=by simp at h2;omega
  obtain ⟨aa,rfl,a1⟩:=ha.at h2;obtain ⟨ab,rfl,a2⟩:=hb.at (show k<b.length by omega);refine Sa ?_;refine Lr ?_;refine Sq ?_;refine QL.yields rfl rfl rfl (λ_ _=>Y.idx_addr rfl rfl rfl rfl rfl (by omega) (by omega)) ?_;refine QL.yields rfl rfl rfl (λw' hw=>Y.load_cell rfl (by show w'.cell? (aa.add (k*1))=_;rw [Nat.mul_one];exact Aw hw a1) rfl rfl) ?_;refine Sq ?_;refine QL.yields rfl rfl rfl (λ_ _=>Y.idx_addr rfl rfl rfl rfl rfl (by omega) (by omega)) ?_;refine QL.yields rfl rfl rfl (λw' hw=>Y.load_cell rfl (by show w'.cell? (ab.add (k*1))=_;rw [Nat.mul_one];exact Aw hw a2) rfl rfl) ?_;refine Sq ?_;refine QL.nil λw2 a3=>?_;replace hx:=hx.trans a3;refine Sa ?_;refine A4 (λh3=>?_) λh3=>?_
  ·have h3:a.getD k 0≠b.getD k 0:=by simpa using h3
   refine Sa ?_;refine QW.body1 Tryz.results134 rfl ⟨?_,hx⟩;have:a≠b:=λe=>h3 (by rw [e]);simp [this]
  ·have h3:a.getD k 0=b.getD k 0:=by simpa using h3
   refine Sa ?_;exact QW.again (k+1) ⟨by omega,hx,ME h2 (by omega) a0 h3⟩ BU (by omega)
 ·have h2:k=a.length:=by simp at h2;omega
  subst h2;refine Sa ?_;refine QW.body1 Tryz.results134 rfl ⟨?_,hx⟩;have:a=b:=by rwa [List.take_length,h1,List.take_length] at a0
  simp [this]
def G6 (n:Ab):Bool:=
 if n.kind=1 then decide (0≤n.num) else if n.kind=3 then decide (n.num=0)||decide (n.num=1) else if n.kind=2 then KW n.text else if n.kind=7 then Co n.text
 else if n.kind=5 then AV n.ref else if n.kind=6 then AV n.ref&&(AV n.to&&Bk n.ref n.to) else true
def AO (n:Ab):Ab:=
 if n.kind=1 then {n with num:=0} else if n.kind=3 then {n with num:=0} else if n.kind=2 then {n with text:=[]} else if n.kind=7 then {n with text:=[]}
 else if n.kind=5 then {n with ref:=AF} else if n.kind=6 then {n with ref:=AF,to:=AF} else n
def A3 (n:Ab):Bool:=G6 n&&(decide ((AO n).num=0)&&(decide ((AO n).text=[])&&(decide ((AO n).ref=AF)&&decide ((AO n).to=AF))))
theorem R4 (n:Ab) (p:Option Addr) (k c:Nat) (w:World) (g:Cm w) (ht:n.text.length≤1000) (hr:n.ref.sheet.length≤9223372036854775807) (hto:n.to.sheet.length≤9223372036854775807):AL Tryz.prog 135 [.agg ⟨Cu ⟨n,.slice p k c⟩⟩] w (λv w'=>v=.bool (A3 n)∧Ag w w'):=by
 refine Br Tryz.func135 Tryz.ntmps135 ?_;apply CW.seq;apply CW.region;refine Sl ?_;refine Ei λA w1 ad a6 hA=>?_;replace hA:Blk w1 A (Cu ⟨n,.slice p k c⟩) 139:=hA;refine Sl ?_;apply LW.nil;apply QW.then_n;apply CW.seq;apply CW.region;refine Sl ?_;refine D4 λC w2 ae a7 hC=>?_;have af:=a6.size;have a3:A≠C:=by have:=hA.lt;omega
 replace hA:=hA.ext a7;refine Sl ?_;refine Cj λw3 a8 hC=>?_;replace hC:Blk w3 C (Cu ⟨n,.slice p k c⟩) 139:=hC;replace hA:=hA.chg a8 (by simpa using a3);have hx:Ag w w3:=(a6.trans a7).step a8 (by simp;omega);apply LW.nil;apply QW.then_n;apply CW.seq;apply CW.region;refine Sl ?_;apply LW.nil;apply QW.then_n;have a2:w.heap.size≤C:=by omega
 refine CW.seq_cut (ι:=Unit) (λ_ w'=>Ag w w'∧Blk w' C (Cu ⟨AO n,.slice p k c⟩) 139) (λ_=>[(3,.pointer (some ⟨C,0,none⟩)),(4,.bool (G6 n))]) ?_ ?_
 ·refine Sa ?_;refine A4 (λh1=>?_) λh1=>?_
  ·have h1:n.kind=1:=by simpa using h1
   have hb:AO n={n with num:=0}:=by simp [AO,h1]
   have ho:G6 n=decide (0≤n.num):=by simp [G6,h1]
   refine CW.drawHeld (λw'=>Blk w' A (Cu ⟨n,.slice p k c⟩) 139) (λw' h=>hA.ext h) (by kernel_rfl) λw4 a0=>?_;refine HW.take 0 rfl rfl rfl rfl (λw _=>Y.pure rfl) rfl (by kernel_rfl) (by kernel_rfl) (by kernel_rfl) (λ_ _ _ h=>h) ?_;refine HW.take 1 rfl rfl rfl rfl (λw hw=>Y.load rfl hw rfl rfl rfl) rfl (by kernel_rfl) (by kernel_rfl) (by kernel_rfl) (λ_ _ _ h=>h) ?_;refine HW.take 2 rfl rfl rfl rfl (λw _=>Y.pure rfl) rfl (by kernel_rfl) (by kernel_rfl) (by kernel_rfl) (λ_ _ _ h=>h) ?_;refine HW.take 3 rfl rfl rfl rfl (λw _=>Y.pure rfl) rfl (by kernel_rfl) (by kernel_rfl) (by kernel_rfl) (λ_ _ _ h=>h) ?_;replace hC:=hC.ext a0;refine HW.one 4 (by kernel_rfl) rfl rfl (λhS=>?_);refine CH λw5 a1 hC=>?_;apply LW.nil;refine QW.held (hS.chg a1 (by simpa using a3)) ?_;refine HW.one 5 (by kernel_rfl) rfl rfl (λhS=>?_);refine Sl ?_;apply LW.nil;refine QW.held hS ?_;refine HW.done (by kernel_rfl) ?_;refine Sa ?_;exact QW.head () ⟨(hx.trans a0).step a1 (by simpa using a2),by rw [hb];exact hC⟩ (Af.cons rfl (Af.cons (by rw [ho];rfl) Af.nil))
  have h1:n.kind≠1:=by simpa using h1
  refine Sa ?_;refine A4 (λh3=>?_) λh3=>?_
  ·have h3:n.kind=3:=by simpa using h3
   have hb:AO n={n with num:=0}:=by simp [AO,h3]
   have ho:G6 n=(decide (n.num=0)||decide (n.num=1)):=by simp [G6,h3]
   refine CW.drawHeld (λw'=>Blk w' A (Cu ⟨n,.slice p k c⟩) 139) (λw' h=>hA.ext h) (by kernel_rfl) λw4 a0=>?_;replace hC:=hC.ext a0;refine HW.take 0 rfl rfl rfl rfl (λw _=>Y.pure rfl) rfl (by kernel_rfl) (by kernel_rfl) (by kernel_rfl) (λ_ _ _ h=>h) ?_;refine HW.take 1 rfl rfl rfl rfl (λw hw=>Y.load rfl hw rfl rfl rfl) rfl (by kernel_rfl) (by kernel_rfl) (by kernel_rfl) (λ_ _ _ h=>h) ?_;refine HW.take 2 rfl rfl rfl rfl (λw _=>Y.pure rfl) rfl (by kernel_rfl) (by kernel_rfl) (by kernel_rfl) (λ_ _ _ h=>h) ?_;refine HW.take 3 rfl rfl rfl rfl (λw _=>Y.pure rfl) rfl (by kernel_rfl) (by kernel_rfl) (by kernel_rfl) (λ_ _ _ h=>h) ?_;by_cases hz:n.num=0
   ·refine HW.know (t:=19) (c:=true) rfl (by simpa using hz) ?_;refine HW.skip 4 rfl rfl rfl rfl rfl rfl rfl rfl (by kernel_rfl) (by kernel_rfl) (by kernel_rfl) (λ_ _ _ h=>h) ?_;refine HW.skip 5 rfl rfl rfl rfl rfl rfl rfl rfl (by kernel_rfl) (by kernel_rfl) (by kernel_rfl) (λ_ _ _ h=>h) ?_;refine HW.skip 6 rfl rfl rfl rfl rfl rfl rfl rfl (by kernel_rfl) (by kernel_rfl) (by kernel_rfl) (λ_ _ _ h=>h) ?_;refine HW.take 7 rfl rfl rfl rfl (λw _=>Y.pure rfl) rfl (by kernel_rfl) (by kernel_rfl) (by kernel_rfl) (λ_ _ _ h=>h) ?_;refine HW.take 8 rfl rfl rfl rfl (λw _=>Y.pure rfl) rfl (by kernel_rfl) (by kernel_rfl) (by kernel_rfl) (λ_ _ _ h=>h) ?_;refine HW.one 9 (by kernel_rfl) rfl rfl (λhS=>?_);refine CH λw5 a1 hC=>?_;apply LW.nil;refine QW.held (hS.chg a1 (by simpa using a3)) ?_;refine HW.one 10 (by kernel_rfl) rfl rfl (λhS=>?_);refine Sl ?_;apply LW.nil;refine QW.held hS ?_;refine HW.done (by kernel_rfl) ?_;refine Sa ?_;exact QW.head () ⟨(hx.trans a0).step a1 (by simpa using a2),by rw [hb];exact hC⟩ (Af.cons rfl (Af.cons (by rw [ho,hz];rfl) Af.nil))
   ·refine HW.know (t:=19) (c:=false) rfl (by simpa using hz) ?_;refine HW.takeW 4 rfl rfl rfl rfl (λw _=>Y.pure rfl) rfl (by kernel_rfl) (by kernel_rfl) (by kernel_rfl) (λ_ _ _ h=>h) ?_;refine HW.takeW 5 rfl rfl rfl rfl (λw hw=>Y.load rfl hw rfl rfl rfl) rfl (by kernel_rfl) (by kernel_rfl) (by kernel_rfl) (λ_ _ _ h=>h) ?_;refine HW.takeW 6 rfl rfl rfl rfl (λw _=>Y.pure rfl) rfl (by kernel_rfl) (by kernel_rfl) (by kernel_rfl) (λ_ _ _ h=>h) ?_;refine HW.take 7 rfl rfl rfl rfl (λw _=>Y.pure rfl) rfl (by kernel_rfl) (by kernel_rfl) (by kernel_rfl) (λ_ _ _ h=>h) ?_;refine HW.take 8 rfl rfl rfl rfl (λw _=>Y.pure rfl) rfl (by kernel_rfl) (by kernel_rfl) (by kernel_rfl) (λ_ _ _ h=>h) ?_;refine HW.one 9 (by kernel_rfl) rfl rfl (λhS=>?_);refine CH λw5 a1 hC=>?_;apply LW.nil;refine QW.held (hS.chg a1 (by simpa using a3)) ?_;refine HW.one 10 (by kernel_rfl) rfl rfl (λhS=>?_);refine Sl ?_;apply LW.nil;refine QW.held hS ?_;refine HW.done (by kernel_rfl) ?_;refine Sa ?_;exact QW.head () ⟨(hx.trans a0).step a1 (by simpa using a2),by rw [hb];exact hC⟩ (Af.cons rfl (Af.cons (by rw [ho];simp [hz];rfl) Af.nil))
  have h3:n.kind≠3:=by simpa using h3
  refine Sa ?_;refine A4 (λh2=>?_) λh2=>?_
  ·have h2:n.kind=2:=by simpa using h2
   have hb:AO n={n with text:=[]}:=by simp [AO,h2]
   have ho:G6 n=KW n.text:=by simp [G6,h2]
   refine Sa ?_;refine AE rfl rfl (NU n.text (by omega) w3) ?_;rintro v w4 ⟨rfl,a0⟩;replace hC:=hC.ext a0;refine Sa ?_;refine CH λw5 a1 hC=>?_;refine Sa ?_;exact QW.head () ⟨(hx.trans a0).step a1 (by simpa using a2),by rw [hb];exact hC⟩ (Af.cons rfl (Af.cons (by rw [ho];rfl) Af.nil))
  have h2:n.kind≠2:=by simpa using h2
  refine Sa ?_;refine A4 (λh7=>?_) λh7=>?_
  ·have h7:n.kind=7:=by simpa using h7
   have hb:AO n={n with text:=[]}:=by simp [AO,h7]
   have ho:G6 n=Co n.text:=by simp [G6,h7]
   refine Sa ?_;refine AE rfl rfl (RX n.text ht w3 (g.ext hx)) ?_;rintro v w4 ⟨rfl,a0⟩;replace hC:=hC.ext a0;refine Sa ?_;refine CH λw5 a1 hC=>?_;refine Sa ?_;exact QW.head () ⟨(hx.trans a0).step a1 (by simpa using a2),by rw [hb];exact hC⟩ (Af.cons rfl (Af.cons (by rw [ho];rfl) Af.nil))
  have h7:n.kind≠7:=by simpa using h7
  refine Sa ?_;refine A4 (λh5=>?_) λh5=>?_
  ·have h5:n.kind=5:=by simpa using h5
   have hb:AO n={n with ref:=AF}:=by simp [AO,h5]
   have ho:G6 n=AV n.ref:=by simp [G6,h5]
   refine Sa ?_;refine LW.load_agg (cs:=Cr n.ref) rfl hA rfl rfl rfl ⟨rfl,rfl,rfl,rfl,rfl,trivial⟩ rfl ?_;refine Sa ?_;refine LW.call0 (vs:=[K8 n.ref]) rfl rfl (Jn n.ref (by omega) w3) ?_;rintro v w4 ⟨rfl,a0⟩;replace hC:=hC.ext a0;refine Sa ?_;refine LW.store_agg (cs:=Cr AF) rfl rfl rfl hC (Nat.le_of_ble_eq_true rfl) rfl rfl λw5 a1 hC=>?_;refine Sa ?_;exact QW.head () ⟨(hx.trans a0).step a1 (by simpa using a2),by rw [hb];exact hC⟩ (Af.cons rfl (Af.cons (by rw [ho];rfl) Af.nil))
  have h5:n.kind≠5:=by simpa using h5
  refine Sa ?_;refine A4 (λh6=>?_) λh6=>?_
  ·have h6:n.kind=6:=by simpa using h6
   have hb:AO n={n with ref:=AF,to:=AF}:=by simp [AO,h6]
   have ho:G6 n=(AV n.ref&&(AV n.to&&Bk n.ref n.to)):=by simp [G6,h6]
   refine Sa ?_;refine LW.store_agg (cs:=Cr AF) rfl rfl rfl hC (Nat.le_of_ble_eq_true rfl) rfl rfl λw4 a9 hC=>?_;replace hA:=hA.chg a9 (by simpa using a3);refine Sa ?_;refine LW.store_agg (cs:=Cr AF) rfl rfl rfl hC (Nat.le_of_ble_eq_true rfl) rfl rfl λw5 a1 hC=>?_;replace hA:=hA.chg a1 (by simpa using a3);replace hC:Blk w5 C (Cu ⟨{n with ref:=AF,to:=AF},.slice p k c⟩) 139:=hC;have ac:Ag w w5:=(hx.step a9 (by simpa using a2)).step a1 (by simpa using a2);refine Sa ?_;refine LW.load_agg (cs:=Cr n.ref) rfl hA rfl rfl rfl ⟨rfl,rfl,rfl,rfl,rfl,trivial⟩ rfl ?_;refine Sa ?_;refine LW.call0 (vs:=[K8 n.ref]) rfl rfl (Jn n.ref (by omega) w5) ?_;rintro v w6 ⟨rfl,a4⟩;replace hA:=hA.ext a4;replace hC:=hC.ext a4;replace a4:=ac.trans a4;refine Sa ?_;refine DU (λk1=>?_) λk1=>?_
   ·have k1:AV n.ref=true:=k1;refine Sa ?_;refine LW.load_agg (cs:=Cr n.to) rfl hA rfl rfl rfl ⟨rfl,rfl,rfl,rfl,rfl,trivial⟩ rfl ?_;refine Sa ?_;refine LW.call0 (vs:=[K8 n.to]) rfl rfl (Jn n.to (by omega) w6) ?_;rintro v w7 ⟨rfl,a5⟩;replace hA:=hA.ext a5;replace hC:=hC.ext a5;replace a5:=a4.trans a5;refine Sa ?_;refine DU (λk2=>?_) λk2=>?_
    ·have k2:AV n.to=true:=k2;refine Sa ?_;refine LW.load_agg (cs:=Cr n.ref) rfl hA rfl rfl rfl ⟨rfl,rfl,rfl,rfl,rfl,trivial⟩ rfl ?_;refine Sa ?_;refine LW.load_agg (cs:=Cr n.to) rfl hA rfl rfl rfl ⟨rfl,rfl,rfl,rfl,rfl,trivial⟩ rfl ?_;refine Sa ?_;refine AE rfl rfl (K7 n.ref n.to w7) ?_;rintro v w8 ⟨rfl,aa⟩;replace hC:=hC.ext aa;refine Sa ?_;exact QW.head () ⟨a5.trans aa,by rw [hb];exact hC⟩ (Af.cons rfl (Af.cons (by rw [ho,k1,k2];rfl) Af.nil))
    ·have k2:AV n.to=false:=k2;refine Sa ?_;exact QW.head () ⟨a5,by rw [hb];exact hC⟩ (Af.cons rfl (Af.cons (by rw [ho,k1,k2];rfl) Af.nil))
   ·have k1:AV n.ref=false:=k1;refine Sa ?_;exact QW.head () ⟨a4,by rw [hb];exact hC⟩ (Af.cons rfl (Af.cons (by rw [ho,k1];rfl) Af.nil))
  have h6:n.kind≠6:=by simpa using h6
  have hb:AO n=n:=by simp [AO,h1,h2,h3,h5,h6,h7]
  have ho:G6 n=true:=by simp [G6,h1,h2,h3,h5,h6,h7]
  refine Sa ?_;exact QW.head () ⟨hx,by rw [hb];exact hC⟩ (Af.cons rfl (Af.cons (by rw [ho];rfl) Af.nil))
 rintro _ w4 ⟨a0,ab⟩;clear hA hC;refine Sa ?_;refine DU (λq1=>?_) λq1=>?_
 ·have q1:G6 n=true:=q1;refine Sa ?_;refine DU (λq2=>?_) λq2=>?_
  ·have q2:(AO n).num=0:=by simpa using q2
   refine Sa ?_;refine DU (λq3=>?_) λq3=>?_
   ·have q3:(AO n).text=[]:=by simpa using q3
    refine Sa ?_;refine LW.load_agg (cs:=Cr (AO n).ref) rfl ab rfl rfl rfl ⟨rfl,rfl,rfl,rfl,rfl,trivial⟩ rfl ?_;refine Sa ?_;refine LW.eql_agg (ys:=Cr AF) rfl rfl Nk (λw'=>PM (AO n).ref AF 9998 w') rfl ?_;refine Sa ?_;refine DU (λq4=>?_) λq4=>?_
    ·have q4:(AO n).ref=AF:=by simpa using q4
     refine Sa ?_;refine LW.load_agg (cs:=Cr (AO n).to) rfl ab rfl rfl rfl ⟨rfl,rfl,rfl,rfl,rfl,trivial⟩ rfl ?_;refine Sa ?_;refine LW.eql_agg (ys:=Cr AF) rfl rfl Nk (λw'=>PM (AO n).to AF 9998 w') rfl ?_;refine Sa ?_;refine QW.body1 Tryz.results135 rfl ⟨?_,a0⟩;simp [A3,q1,q2,q3,q4]
    ·have q4:¬(AO n).ref=AF:=by simpa using q4
     refine Sa ?_;refine QW.body1 Tryz.results135 rfl ⟨?_,a0⟩;simp [A3,q4]
   ·have q3:¬(AO n).text=[]:=by simpa using q3
    refine Sa ?_;refine QW.body1 Tryz.results135 rfl ⟨?_,a0⟩;simp [A3,q3]
  ·have q2:¬(AO n).num=0:=by simpa using q2
   refine Sa ?_;refine QW.body1 Tryz.results135 rfl ⟨?_,a0⟩;simp [A3,q2]
 ·have q1:G6 n=false:=q1;refine Sa ?_;refine QW.body1 Tryz.results135 rfl ⟨?_,a0⟩;simp [A3,q1]
def Ck (w:World) (v:Value) (l:List Ab):Prop:=
 l.length≤100000∧(v=.slice none 0 0∧l=[]∨∃a cap,v=.slice (some a) l.length cap∧∀i nd,l[i]?=some nd→∃kv,AU w kv nd.kids∧∀j u,(Cu ⟨nd,kv⟩)[j]?=some u→w.cell? ((a.add (i*14)).add j)=some u)
theorem Ck.ext {w w':World} {v:Value} {l:List Ab} (h:Ck w v l) (x:Ag w w'):Ck w' v l:=by
 obtain ⟨h0,h | ⟨a,cap,e,h⟩⟩:=h
 ·exact ⟨h0,.inl h⟩
 ·exact ⟨h0,.inr ⟨a,cap,e,λi nd hi=>let ⟨kv,hk,hc⟩:=h i nd hi;⟨kv,hk.ext x,λj u hj=>Aw x (hc j u hj)⟩⟩⟩
theorem Ck.slice {w:World} {v:Value} {l:List Ab} (h:Ck w v l):∃p c,v=.slice p l.length c:=by
 obtain ⟨h0,⟨rfl,rfl⟩ | ⟨a,cap,e,h⟩⟩:=h
 ·exact ⟨_,_,rfl⟩
 ·exact ⟨_,_,e⟩
theorem Ck.at {w:World} {p:Option Addr} {c:Nat} {l:List Ab} (h:Ck w (.slice p l.length c) l) {i:Nat} {nd:Ab} (hi:l[i]?=some nd) :
  ∃a kp kc,p=some a∧AU w (.slice kp nd.kids.length kc) nd.kids∧∀j u,(Cu ⟨nd,.slice kp nd.kids.length kc⟩)[j]?=some u→w.cell? ((a.add (i*14)).add j)=some u:=by
 obtain ⟨h0,⟨e,e2⟩ | ⟨a,cap,e,h⟩⟩:=h
 ·rw [e2] at hi;simp at hi
 ·simp only [Value.slice.injEq] at e;obtain ⟨kv,hk,hc⟩:=h i nd hi;obtain ⟨kp,kc,rfl⟩:=hk.slice;exact ⟨a,kp,kc,e.1,hk,hc⟩
theorem AG (l:List Int):(Ac l).length=l.length:=by simp [Ac]
theorem GZ {l:List Int} {i:Nat} {z:Int} (h:l[i]?=some z):(Ac l)[i]?=some (.int .i64 z):=by simp [Ac,h]
theorem Ay.from_ {w:World} {lo n c:Nat} {p:Option Addr} {zs:List Int} (h:Ay w lo 3 1 (.slice p n c) n (Ac zs)) (hb:zs.length≤100000) {i:Nat} (hi:i≤n):AU w (.slice (if c=i then p else p.map (·.add (i*1))) (n - i) (c - i)) (zs.drop i):=by
 obtain ⟨hl,⟨e,hn⟩ | ⟨g,cap,sp,e,hB,h1,h2,h3⟩⟩:=h
 ·simp only [Value.slice.injEq] at e;obtain ⟨rfl,e2,rfl⟩:=e;subst hn;have:i=0:=by omega
  subst this;have:zs=[]:=by simpa [Ac] using hl
  subst this;exact ⟨by simp,.inl ⟨by simp,rfl⟩⟩
 ·simp only [Value.slice.injEq] at e;obtain ⟨rfl,_,rfl⟩:=e;rw [AG] at hl;have a0:zs.length=n:=by omega
  refine ⟨by simp;omega,.inr ⟨if c=i then ⟨g,0,none⟩ else (⟨g,0,none⟩:Addr).add (i*1),c - i,?_,λj z hz=>?_⟩⟩
  ·rw [List.length_drop,a0]
   split<;>rfl
  ·rw [List.getElem?_drop] at hz;have hj:i+j<zs.length:=by
    rcases Nat.lt_or_ge (i+j) zs.length with h | h
    ·exact h
    ·rw [List.getElem?_eq_none h] at hz;cases hz
   have a1:c≠i:=by omega
   rw [if_neg a1,Addr.add_add];refine hB.getElem _ _ ?_;rw [List.getElem?_append_left (by rw [AG];omega),Nat.mul_one];exact GZ hz
theorem Ay.cells {w:World} {lo n c:Nat} {p:Option Addr} {zs:List Int} (h:Ay w lo 3 1 (.slice p n c) n (Ac zs)) {i:Nat} (hi:i≤n):p=none∧i=0∨∃a,p=some a∧∀j u,(Ac (zs.take i))[j]?=some u→w.cell? (a.add j)=some u:=by
 obtain ⟨hl,⟨e,hn⟩ | ⟨g,cap,sp,e,hB,h1,h2,h3⟩⟩:=h
 ·simp only [Value.slice.injEq] at e;exact .inl ⟨e.1,by omega⟩
 ·simp only [Value.slice.injEq] at e;refine .inr ⟨_,e.1,λj u hu=>hB.getElem _ _ ?_⟩;have e1:Ac (zs.take i)=(Ac zs).take i:=by simp [Ac,List.map_take]
  rw [e1] at hu;have hj:j<i:=by
   rcases Nat.lt_or_ge j i with h | h
   ·exact h
   ·rw [List.getElem?_take_eq_none h] at hu;cases hu
  rw [List.getElem?_take_of_lt hj] at hu;have a0:j<(Ac zs).length:=by
   rcases Nat.lt_or_ge j (Ac zs).length with h | h
   ·exact h
   ·rw [List.getElem?_eq_none h] at hu;cases hu
  rw [List.getElem?_append_left a0];exact hu
theorem Ay.cap_ {w:World} {lo n c:Nat} {p:Option Addr} {zs:List Value} (h:Ay w lo 3 1 (.slice p n c) n zs):n≤c:=by
 obtain ⟨hl,⟨e,hn⟩ | ⟨g,cap,sp,e,hB,h1,h2,h3⟩⟩:=h
 ·omega
 ·simp only [Value.slice.injEq] at e;omega
def Hb (n:Ab):Int:=if C2 n.kind=-1 then n.kids.length else C2 n.kind
def CP (i:Nat) (st:List Int) (n:Ab):Option (List Int):=
 if Hb n=n.kids.length∧n.kids.length≤st.length∧st.drop (st.length - n.kids.length)=n.kids∧A3 n=true then some (st.take (st.length - n.kids.length)++[(i:Int)]) else none
def AR:Nat→List Int→List Ab→Option (List Int)
 | _,st,[]=>some st
 | i,st,n::t=>match CP i st n with
  | some st'=>AR (i+1) st' t
  | none=>none
def BI (l:List Ab):Bool:=match AR 0 [] l with
 | some st=>decide (st.length=1)
 | none=>false
def Dw (l:List Ab):Prop:=∀nd∈l,nd.text.length≤1000∧nd.ref.sheet.length≤1000∧nd.to.sheet.length≤1000
def Mk (l:List Ab):Prop:=∀nd∈l,nd.text.length≤1000∧nd.ref.sheet.length≤9223372036854775807∧nd.to.sheet.length≤9223372036854775807
theorem Dw.t {l:List Ab} (h:Dw l):Mk l:=λnd hn=>by
 obtain ⟨h1,h2,h3⟩:=h nd hn;exact ⟨h1,by omega,by omega⟩
theorem MR (l:List Ab) (v:Value) (w:World) (g:Cm w) (hN:Ck w v l) (hs:Mk l):AL Tryz.prog 95 [v] w (λv' w'=>v'=.bool (BI l)∧Ag w w'):=by
 obtain ⟨p,c,rfl⟩:=hN.slice;have hl:=hN.1;refine Br Tryz.func95 Tryz.ntmps95 ?_;refine Sa ?_;refine CW.loop (ι:=Nat×List Int×Option Addr×Nat) (λx w'=>x.1≤l.length∧x.2.1.length≤x.1∧Ag w w'∧AR 0 [] l=AR x.1 x.2.1 (l.drop x.1)∧Ay w' w.heap.size 3 1 (.slice x.2.2.1 x.2.1.length x.2.2.2) x.2.1.length (Ac x.2.1))
  (λx=>[(3,.slice x.2.2.1 x.2.1.length x.2.2.2),(8,.slice p l.length c),(9,.int .i64 l.length),(10,.int .i64 x.1)]) (λx=>l.length - x.1) (0,[],none,0) ⟨by omega,by simp,Chg.refl _ _,rfl,Ay.nil _ _ _ _⟩ BU ?_
 rintro ⟨i,st,sp,sc⟩ w1 ⟨hi,ae,hx,a1,ho⟩;dsimp only at hi ae a1 ho ⊢;replace hN:=hN.ext hx;refine Sa ?_;refine A4 (λh1=>?_) λh1=>?_
 ·have h1:i<l.length:=by simp at h1;omega
  obtain ⟨nd,a6⟩:∃nd,l[i]?=some nd:=⟨_,List.getElem?_eq_getElem h1⟩;obtain ⟨a,kp,kc,rfl,hk,a4⟩:=hN.at a6;obtain ⟨af,ag,ah⟩:=hs nd (List.mem_of_getElem? a6);refine Sa ?_;refine LW.idx_addr rfl rfl rfl rfl rfl (by omega) (by omega) rfl ?_;refine LW.load_cells (cs:=Cu ⟨nd,.slice kp nd.kids.length kc⟩) rfl a4 rfl rfl rfl rfl ?_;refine Sa ?_;refine D4 λC w2 al ab hC=>?_;refine Sa ?_;refine Cj λw3 ai hC=>?_;replace hC:Blk w3 C (Cu ⟨nd,.slice kp nd.kids.length kc⟩) 139:=hC;refine Sa ?_;refine AE rfl rfl (Q2 nd.kind w3) ?_;rintro v w4 ⟨rfl,ac⟩;replace hC:=hC.ext ac;have aj:=hx.size;have ak:=ab.size;have a3:Ag w1 w4:=(ab.step ai (by simp;omega)).trans ac;replace hk:=hk.ext a3;replace ho:=ho.ext a3;replace hx:=hx.trans a3;refine Sl ?_;apply LW.nil;apply QW.then_n;refine CW.seq_cut (ι:=Unit) (λ_ w'=>w'=w4) (λ_=>[(3,.slice sp st.length sc),(4,.int .i64 i),(5,.pointer (some ⟨C,0,none⟩)),(6,.int .i64 (Hb nd)),(8,.slice (some a) l.length c),(9,.int .i64 l.length),(10,.int .i64 i)]) ?_ ?_
  ·refine Sa ?_;refine A4 (λh2=>?_) λh2=>?_
   ·have h2:C2 nd.kind=-1:=by simpa using h2
    refine Sa ?_;exact QW.head () rfl (by have:Hb nd=nd.kids.length:=if_pos h2;rw [this];exact (Af.cons rfl (Af.cons rfl (Af.cons rfl (Af.cons rfl (Af.cons rfl (Af.cons rfl (Af.cons rfl (Af.nil)))))))))
   ·have h2:¬C2 nd.kind=-1:=by simpa using h2
    refine Sa ?_;exact QW.head () rfl (by have:Hb nd=C2 nd.kind:=if_neg h2;rw [this];exact (Af.cons rfl (Af.cons rfl (Af.cons rfl (Af.cons rfl (Af.cons rfl (Af.cons rfl (Af.cons rfl (Af.nil)))))))))
  rintro _ w5 rfl;have am:=hk.1;refine Sa ?_;refine CW.drawHeld (λw'=>Blk w' C (Cu ⟨nd,.slice kp nd.kids.length kc⟩) 139) (λw' h=>hC.ext h) (by kernel_rfl) λw6 a7=>?_;replace hC:=hC.ext a7;replace hk:=hk.ext a7;replace ho:=ho.ext a7;replace hx:=hx.trans a7;refine Sh ?_;have a2:l.drop i=nd::l.drop (i+1):=by rw [List.drop_eq_getElem_cons h1];congr 1;rw [List.getElem?_eq_getElem h1] at a6;exact Option.some.inj a6
  have a0:¬(Hb nd=nd.kids.length∧nd.kids.length≤st.length∧st.drop (st.length - nd.kids.length)=nd.kids∧A3 nd=true)→AR i st (l.drop i)=none:=λh=>by rw [a2,AR,CP,if_neg h]
  by_cases n1:Hb nd=nd.kids.length
  case neg=>
   refine HW.know (t:=34) (c:=true) rfl (by simpa using n1) ?_;refine Sh ?_;refine HW.done (by kernel_rfl) ?_;refine Sa ?_;refine QW.body1 Tryz.results95 rfl ⟨?_,hx⟩;rw [BI,a1,a0 (λh=>n1 h.1)]
  by_cases n2:nd.kids.length≤st.length
  case neg=>
   refine HW.know (t:=34) (c:=false) rfl (by simpa using n1) ?_;refine Sh ?_;refine HW.know (t:=38) (c:=true) rfl (by simp;omega) ?_;refine Sh ?_;refine HW.done (by kernel_rfl) ?_;refine Sa ?_;refine QW.body1 Tryz.results95 rfl ⟨?_,hx⟩;rw [BI,a1,a0 (λh=>n2 h.2.1)]
  refine HW.know (t:=34) (c:=false) rfl (by simpa using n1) ?_;refine Sh ?_;refine HW.know (t:=38) (c:=false) rfl (by simp;omega) ?_;refine Sh ?_;refine HW.takeW 12 rfl rfl rfl rfl (λw _=>Y.slice_from (i:=st.length - nd.kids.length) rfl (by show some (Value.int .i64 _)=some (Value.int .i64 _);congr 2;omega) rfl rfl rfl (by omega)) rfl (by kernel_rfl) (by kernel_rfl) (by kernel_rfl) (λ_ _ _ h=>h) ?_;refine Sh ?_;refine HW.one 15 (by kernel_rfl) rfl rfl (λhS=>?_);refine Sl ?_;refine AE rfl rfl (QN (st.drop (st.length - nd.kids.length)) nd.kids _ _ w6 (Ay.from_ ho (by omega) (by omega)) hk) ?_;rintro v w7 ⟨rfl,a8⟩;refine Sl ?_;apply LW.nil;replace hC:=hC.ext a8;replace hk:=hk.ext a8;replace ho:=ho.ext a8;replace hx:=hx.trans a8;refine QW.held hC ?_;by_cases n3:st.drop (st.length - nd.kids.length)=nd.kids
  case neg=>
   refine HW.know (t:=44) (c:=false) rfl (by simpa using n3) ?_;refine Sh ?_;refine HW.done (by kernel_rfl) ?_;refine Sa ?_;refine QW.body1 Tryz.results95 rfl ⟨?_,hx⟩;rw [BI,a1,a0 (λh=>n3 h.2.2.1)]
  refine HW.know (t:=44) (c:=true) rfl (by simpa using n3) ?_;refine Sh ?_;refine HW.one 20 (by kernel_rfl) rfl rfl (λhS=>?_);refine Sl ?_;refine AE rfl rfl (R4 nd kp nd.kids.length kc w7 (g.ext hx) af ag ah) ?_;rintro v w8 ⟨rfl,a9⟩;refine Sl ?_;apply LW.nil;replace hC:=hC.ext a9;replace ho:=ho.ext a9;replace hx:=hx.trans a9;refine QW.held hC ?_;by_cases n4:A3 nd=true
  case neg=>
   refine HW.know (t:=49) (c:=false) rfl (by simpa using n4) ?_;refine Sh ?_;refine HW.done (by kernel_rfl) ?_;refine Sa ?_;refine QW.body1 Tryz.results95 rfl ⟨?_,hx⟩;rw [BI,a1,a0 (λh=>n4 h.2.2.2)]
  refine HW.know (t:=49) (c:=true) rfl n4 ?_;refine Sh ?_;refine HW.done (by kernel_rfl) ?_;refine Sa ?_;refine LW.slice_to (i:=st.length - nd.kids.length) rfl (by show some (Value.int .i64 _)=some (Value.int .i64 _);congr 2;omega) (by show some (Value.int .i64 _)=some (Value.int .i64 _);congr 2;omega) rfl rfl rfl ?_ rfl ?_
  ·have:=Ay.cap_ ho;omega
  refine Sa ?_;refine DG λB w9 an ad hB=>?_;replace ho:=ho.ext ad;replace hx:=hx.trans ad;refine LW.append_full (xs:=Ac (st.take (st.length - nd.kids.length))) (lo:=w.heap.size) rfl rfl rfl rfl rfl (by exact rfl) ?_ (Ay.cells ho (by omega)) hx.size hB (by exact rfl) (by exact rfl) (by exact rfl) ?_ rfl λv' ao aa a5=>?_
  ·rw [AG,List.length_take];show _=(st.length - nd.kids.length)*1;omega
  ·show (st.length - nd.kids.length+1)*(8+1)≤_;omega
  refine Sa ?_;obtain ⟨p',c',rfl⟩:=a5.slice;have e1:Ac (st.take (st.length - nd.kids.length))++[.int .i64 (i:Int)]=Ac (st.take (st.length - nd.kids.length)++[(i:Int)]):=by simp [Ac]
  have e2:(st.take (st.length - nd.kids.length)++[(i:Int)]).length=st.length - nd.kids.length+1:=by simp [List.length_take]
  refine QW.again (i+1,st.take (st.length - nd.kids.length)++[(i:Int)],p',c') ⟨by omega,by rw [e2];omega,hx.trans aa,?_,?_⟩ ?_ (by omega)
  ·rw [a1,a2,AR,CP,if_pos ⟨n1,n2,n3,n4⟩]
  ·dsimp only;rw [e2,←e1];exact a5
  ·dsimp only;rw [e2];exact BU
 ·have h1:i=l.length:=by simp at h1;omega
  subst h1;refine Sa ?_;refine QW.body1 Tryz.results95 rfl ⟨?_,hx⟩;rw [List.drop_length] at a1;rw [BI,a1];have:decide ((st.length:Int)=1)=decide (st.length=1):=decide_eq_decide.mpr (by omega);exact congrArg Value.bool this
theorem Sj (l:List Ab) (v:Value) (w:World) (g:Cm w) (hN:Ck w v l) (hs:Dw l):AL Tryz.prog 95 [v] w (λv' w'=>v'=.bool (BI l)∧Ag w w'):=MR l v w g hN hs.t
end Go.Proofs.YtefaigjfkddelaaGreatDoor
