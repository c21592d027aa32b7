/-
  Joined by program out of the texts LexM LexN Y5 ParL1 ParL2 Tree.
-/
import Derived.Test.YtcjjcnecopnpcaaGreatDoorMxA
import Derived.Test.YtcjjcnecopnpcaaGreatDoorTab
import Derived.Test.YtcjjcnecopnpcaaGreatDoorMxE
import Derived.DataElems
namespace Go.Proofs.YtcjjcnecopnpcaaGreatDoor
open Tryz
open Go Go.E
theorem O7(acc:Int)(l:List UInt8){z:Int}(h0:0≤z)(h1:z≤255):Cq acc (l++[ch z])=10*Cq acc l+(z - 48):=by
 rw[IC,F4 h0 h1]
theorem H5:∀(l:List UInt8) (acc:Int),0≤acc→(∀c∈l,48≤c.toNat)→Cq acc l=0→acc=0∧∀c∈l,c.toNat=48
 | [],acc,_,_,h=>⟨h,by simp⟩
 | c::r,acc,ha,hd,h=>by
  have hc:=hd c AdM;obtain⟨e,hr⟩:=H5 r (10*acc+((c.toNat:Int) - 48)) AdE (λx hx=>hd x Ae9) h;exact⟨by omega,λx hx=>by
   simp only[AaT] at hx;rcases hx with rfl | hx
   ·omega
   ·exact hr x hx⟩
theorem FZ(p:Int→Bool):∀(a b:List UInt8),(∀c∈a,p (c.toNat:Int)=true)→As p (a++b)=a++As p b
 | [],_,_=>rfl
 | c::a,b,h=>by
  have hc:=h c AdM;have ih:=FZ p a b (λd hd=>h d (by simp[hd]));simp only[As] at ih ⊢;simp[hc,ih]
def Ee:List (List UInt8):=[[60,62],[60,61],[62,61]]
def sgT:List UInt8:=[43,45,42,47,38,61,60,62,40,41,44,58]
def sgB(z:Int):Bool:=decide (z=43∨z=45∨z=42∨z=47∨z=38∨z=61∨z=60∨z=62∨z=40∨z=41∨z=44∨z=58)
theorem Aak:∀n:Fin 256,decide (UInt8.ofNat n.val∈sgT)=sgB (n.val:Int):=by decide +kernel
theorem AaH(c:UInt8):decide (c∈sgT)=sgB (c.toNat:Int):=by
 have:=Aak ⟨c.toNat,c.toNat_lt⟩
 simpa using this
theorem RT:Bk=Ee++sgT.map λc=>[c]:=rfl
theorem Om(c:UInt8):∀l:List UInt8,l.find? (λx=>x == c)=if c∈l then some c else none
 | []=>rfl
 | d::r=>by
  have ih:=Om c r;by_cases h:d=c
  ·subst h;simp[List.find?]
  ·have h':¬c=d:=λe=>h e.symm;have hb:(d == c)=false:=by simpa using h
   simp only[List.find?,hb,ih,AaT,h',false_or]
theorem Wn{l:List UInt8}(h:(l.take 2)∈Ee):Bk.find? (λs=>Lib.hasPrefix l s)=some (l.take 2):=by
 match l,h with
 | [],h=>simp[Ee] at h
 | [_],h=>simp[Ee] at h
 | c::d::r,h=>
  simp only[List.take,Ee,AaT,Acu,and_true,Abu,or_false] at h;rcases h with ⟨rfl,rfl⟩ | ⟨rfl,rfl⟩ | ⟨rfl,rfl⟩<;>rfl
theorem RS{l:List UInt8}(hl:l≠[])(hn:l.take 2∉Ee):Bk.find? (λs=>Lib.hasPrefix l s)=if sgB (Aj l 0) then some (l.take 1) else none:=by
 cases l with
 | nil=>exact absurd rfl hl
 | cons c r=>
  have h1:Ee.find? (λs=>Lib.hasPrefix (c::r) s)=none:=by
   rw[List.find?_eq_none];intro p hp hh;have h2:p.length=2:=by
    have:∀p∈Ee,p.length=2:=AdH
    exact this p hp
   have h3:=List.prefix_iff_eq_take.1 (Adt.1 hh);rw[h2] at h3;exact hn (h3 ▸ hp)
  have h2:(λs=>Lib.hasPrefix (c::r) s) ∘ (λc:UInt8=>[c])=λx=>x == c:=by
   funext x
   simp[Lib.hasPrefix,List.isPrefixOf]
  rw[RT,List.find?_append,h1,List.find?_map,h2,Om];have h3:sgB (Aj (c::r) 0)=decide (c∈sgT):=(AaH c).symm;rw[h3];by_cases hm:c∈sgT
  ·simp[hm]
  ·simp[hm]
theorem SH{l:List UInt8}(h:Aj l 0≠35):Lib.hasPrefix l Jc=false:=by
 cases l with
 | nil=>rfl
 | cons c r=>
  have hc:c≠35:=by
   rintro rfl;exact h rfl
  simp[Lib.hasPrefix,Jc,List.isPrefixOf];exact λe=>absurd e.symm hc
theorem ZP(c:Int):Gq c=(LP c||decide (c=36)):=rfl
theorem Zr(x:Ap):(DA x).length=9:=rfl
theorem Q9:prog.eqGuardType prog.depth 187=false:=by kernel_rfl
theorem Ul(x y:Da)(d:Nat)(w:World):(Op.equalIn (d+2) 187 (.agg ⟨Dc x⟩) (.agg ⟨Dc y⟩)).run prog w=.ok (decide (x=y)) w:=by
 obtain⟨s1,c1,r1,a1,b1⟩:=x;obtain⟨s2,c2,r2,a2,b2⟩:=y;have ht:prog.underlying 187=some (.struct (prog.fieldsOf 187)):=by simp[Program.fieldsOf,underlying187]
 have hp:prog.stoodInHeld 187=false:=by kernel_rfl
 simp only[Dc];rw[run_equalIn_agg w (d+1) _ _ _ ht hp];simp only[Program.fieldsOf,underlying187];refine(HO AdH (B3 (v:=Ao s1) rfl rfl rfl w) (B3 (v:=Ao s2) rfl rfl rfl w) (K8 rfl rfl _ _ w)
  (HO AdH (B3 (v:=.int .i64 c1) rfl rfl rfl w) (B3 (v:=.int .i64 c2) rfl rfl rfl w) (Mz rfl rfl _ _ w)
  (HO AdH (B3 (v:=.int .i64 r1) rfl rfl rfl w) (B3 (v:=.int .i64 r2) rfl rfl rfl w) (Mz rfl rfl _ _ w)
  (HO AdH (B3 (v:=.bool a1) rfl rfl rfl w) (B3 (v:=.bool a2) rfl rfl rfl w) (Uk rfl rfl _ _ w)
  (HO AdH (B3 (v:=.bool b1) rfl rfl rfl w) (B3 (v:=.bool b2) rfl rfl rfl w) (Uk rfl rfl _ _ w)
  (YE _ _ _ w)))))).trans ?_
 refine congrArg (λb=>Result.ok b w) ?_;rw[AcT];simp only[AaY,decide_eq_true_eq,Da.mk.injEq,and_true]
theorem Pf(k:Int)(w:World):AF prog 19 [.int .i64 k] w (λv w'=>v=.int .i64 k∧Ai w w'):=by
 refine Bj func19 ntmps19 ?_;refine Sa ?_;exact QW.body1 rfl rfl ⟨rfl,Chg.refl _ _⟩
theorem Ft:∀(n u:Nat),u≤n→(∀c∈Lib.decDigits u,A6 (c.toNat:Int)=true)∧Lib.decDigits u≠[]∧Cq 0 (Lib.decDigits u)=u∧(u≠0→Aj (Lib.decDigits u) 0≠48)∧(u=0→(Lib.decDigits u).length=1)
 | n,u,hn=>by
  by_cases h:u<10
  ·rw[CH h];have e:((ch (48+(u:Int))).toNat:Int)=48+u:=F4 AdE AdE;refine⟨?_,by simp,?_,λh0=>?_,λ_=>rfl⟩
   ·intro c hc;simp only[Aad] at hc;subst hc;rw[e];simp[A6];omega
   ·have:=O7 0 [] (z:=48+(u:Int)) AdE AdE;rw[Ab5] at this;rw[this];have:Cq 0 []=0:=rfl;omega
   ·have:Aj [ch (48+(u:Int))] 0=48+u:=e;omega
  ·rw[DZ AdE]
   match n with
   | 0=>omega
   | n+1=>
    obtain⟨a1,a2,a3,a4,_⟩:=Ft n (u / 10) AdE;have hr:(48+(u:Int) % 10)≤57∧48≤(48+(u:Int) % 10):=AdE
    have e:((ch (48+(u:Int) % 10)).toNat:Int)=48+(u:Int) % 10:=F4 AdE AdE;refine⟨?_,by simp,?_,λ_=>?_,λh0=>by omega⟩
    ·intro c hc;rw[Abf] at hc;rcases hc with hc | hc
     ·exact a1 c hc
     ·simp only[Aad] at hc;subst hc;rw[e];simp[A6];omega
    ·rw[O7 _ _ AdE AdE,a3];omega
    ·rw[BG (Ab8.2 a2)];exact a4 AdE
theorem Gz{k:Int}(h:0≤k):Lib.itoa k=Lib.decDigits k.toNat:=by
 unfold Lib.itoa;rw[if_neg AdE]
theorem WY{l:List UInt8}(hl:l≠[])(hd:∀c∈l,A6 (c.toNat:Int)=true):Aj l 0≠32:=by
 obtain⟨c,hm,e⟩:=F3 (Ab8.2 hl);have:=hd c hm;rw[←e] at this;simp[A6] at this;omega
theorem Yl{R:List UInt8}(h:R.head?≠some 34):AP (34::R)=some ([],1):=by
 cases R with
 | nil=>rfl
 | cons d r=>
  have:d≠34:=λe=>h (by rw[e];rfl);simp[AP,this]
theorem UD(R:List UInt8):AP (34::34::R)=(AP R).map λx=>(34::x.1,x.2+2):=by simp[AP]
theorem Yi{c:UInt8}(h1:c≠34)(h2:¬c<32)(R:List UInt8):AP (c::R)=(AP R).map λx=>(c::x.1,x.2+1):=by
 cases R with
 | nil=>simp[AP,h1]
 | cons d r=>simp[AP,h1,h2]
theorem Wi{c:UInt8}(h1:c≠34)(h2:c<32)(R:List UInt8):AP (c::R)=none:=by
 cases R with
 | nil=>simp[AP,h1]
 | cons d r=>simp[AP,h1,h2]
theorem Yq{s:List UInt8}(h:s∈Bk):s.length=1∨s∈Ee:=by
 have:∀s∈Bk,s.length=1∨s∈Ee:=AdH
 exact this s h
theorem Eu{tok:List UInt8}(h:tok≠[])(R:List UInt8):Aj (tok++R) 0=Aj tok 0:=BG (Ab8.2 h)
def Y5(k:IntKind)(w:World)(v:Value)(zs:List Int):Prop:=
 zs.length≤9223372036854775807∧(v=.slice none 0 0∧zs=[]∨∃a cap,v=.slice (some a) zs.length cap∧∀i z,zs[i]?=some z→w.cell? (a.add i)=some (.int k z))
theorem Y5.ext{k:IntKind}{w w':World}{v:Value}{zs:List Int}(h:Y5 k w v zs)(x:Ai w w'):Y5 k w' v zs:=by
 obtain⟨h0,h | ⟨a,cap,e,h⟩⟩:=h
 ·exact⟨h0,.inl h⟩
 ·exact⟨h0,.inr ⟨a,cap,e,λi z hz=>A0 x (h i z hz)⟩⟩
structure Ah where
 kind:Int
 num:Int:=0
 text:List UInt8:=[]
 ref:Da:=Ba
 to:Da:=Ba
 kids:List Int:=[]
deriving DecidableEq
structure Ch where
 at_:Nat
 out:List Ah
 deep:Nat
inductive HG where
 | ok (s:Ch) (p:Nat)
 | err (e:Int)
inductive FQ where
 | lev (n:Nat)
 | loop (n:Nat) (a:Nat)
 | unary
 | prim
 | args (name:List UInt8) (ks:List Int)
def Yw:Ap:=⟨0,[],0,Ba,0⟩
def Ad(T:List Ap)(s:Ch):Ap:=T.getD s.at_ Yw
def Cu(T:List Ap)(s:Ch)(x:List UInt8):Bool:=decide ((Ad T s).kind=5)&&decide ((Ad T s).text=x)
def Ax(s:Ch):Ch:={s with at_:=s.at_+1}
def Az(s:Ch):Ch:={s with deep:=s.deep+1}
def CE(s:Ch):Ch:={s with deep:=s.deep - 1}
def BS(s:Ch)(n:Ah):Ch:={s with out:=s.out++[n]}
def BQ:Nat→List (List UInt8)
 | 0=>[[61],[60,62],[60],[60,61],[62],[62,61]]
 | 1=>[[38]]
 | 2=>[[43],[45]]
 | _=>[[42],[47]]
def AL:Nat→List Int
 | 0=>[9,10,11,12,13,14]
 | 1=>[15]
 | 2=>[16,17]
 | _=>[18,19]
def IV(T:List Ap)(s:Ch)(n:Nat):Option Nat:=if (Ad T s).kind=5 then(BQ n).findIdx? (λx=>decide (x=(Ad T s).text)) else none
def below(n:Nat):FQ:=if n<3 then .lev (n+1) else .unary
def BL(a b:Da):Bool:=decide (b.sheet=[])&&decide (a.col≤b.col)&&decide (a.row≤b.row)
def DR:List UInt8:=[84,82,85,69]
def Dm:List UInt8:=[70,65,76,83,69]
inductive PE (T:List Ap):FQ→Ch→HG→Prop
 | lev_err {n s e}:PE T (below n) s (.err e)→PE T (.lev n) s (.err e)
 | lev_ok {n s s1 a r}:PE T (below n) s (.ok s1 a)→PE T (.loop n a) s1 r→PE T (.lev n) s r
 | loop_end {n s a}:IV T s n=none→PE T (.loop n a) s (.ok s a)
 | loop_err {n s a i e}:IV T s n=some i→PE T (below n) (Ax s) (.err e)→PE T (.loop n a) s (.err e)
 | loop_go {n:Nat} {s:Ch} {a i:Nat} {s1:Ch} {b:Nat} {r:HG}:IV T s n=some i→PE T (below n) (Ax s) (.ok s1 b)→PE T (.loop n s1.out.length) (BS s1 {kind:=(AL n).getD i 0,kids:=[(a:Int),(b:Int)]}) r→PE T (.loop n a) s r
 | un_prim {s r}:Cu T s [45]=false→PE T .prim s r→PE T .unary s r
 | un_deep {s}:Cu T s [45]=true→12≤s.deep→PE T .unary s (.err 6)
 | un_err {s e}:Cu T s [45]=true→s.deep<12→PE T .unary (Az (Ax s)) (.err e)→PE T .unary s (.err e)
 | un_ok {s s1:Ch} {a:Nat}:Cu T s [45]=true→s.deep<12→PE T .unary (Az (Ax s)) (.ok s1 a)→PE T .unary s (.ok (BS (CE s1) {kind:=8,kids:=[(a:Int)]}) s1.out.length)
 | pr_sign {s}:(Ad T s).kind=5→(Ad T s).text≠[40]→PE T .prim s (.err 5)
 | pr_deep {s}:Cu T s [40]=true→12≤s.deep→PE T .prim s (.err 6)
 | pr_err {s e}:Cu T s [40]=true→s.deep<12→PE T (.lev 0) (Az (Ax s)) (.err e)→PE T .prim s (.err e)
 | pr_open {s s1 a}:Cu T s [40]=true→s.deep<12→PE T (.lev 0) (Az (Ax s)) (.ok s1 a)→Cu T s1 [41]=false→PE T .prim s (.err 5)
 | pr_ok {s s1 a}:Cu T s [40]=true→s.deep<12→PE T (.lev 0) (Az (Ax s)) (.ok s1 a)→Cu T s1 [41]=true→PE T .prim s (.ok (CE (Ax s1)) a)
 | pr_end {s}:(Ad T s).kind=0→PE T .prim s (.err 5)
 | pr_num {s}:(Ad T s).kind=1→PE T .prim s (.ok (BS (Ax s) {kind:=1,num:=(Ad T s).num}) s.out.length)
 | pr_text {s}:(Ad T s).kind=2→PE T .prim s (.ok (BS (Ax s) {kind:=2,text:=(Ad T s).text}) s.out.length)
 | pr_dead {s}:(Ad T s).kind=6→PE T .prim s (.ok (BS (Ax s) {kind:=4}) s.out.length)
 | pr_ref {s}:(Ad T s).kind=4→Cu T (Ax s) [58]=false→PE T .prim s (.ok (BS (Ax s) {kind:=5,ref:=(Ad T s).ref}) s.out.length)
 | pr_range {s}:(Ad T s).kind=4→Cu T (Ax s) [58]=true→(Ad T (Ax (Ax s))).kind=4→BL (Ad T s).ref (Ad T (Ax (Ax s))).ref=true→
   PE T .prim s (.ok (BS (Ax (Ax (Ax s))) {kind:=6,ref:=(Ad T s).ref,to:=(Ad T (Ax (Ax s))).ref}) s.out.length)
 | pr_norange {s}:(Ad T s).kind=4→Cu T (Ax s) [58]=true→((Ad T (Ax (Ax s))).kind≠4∨BL (Ad T s).ref (Ad T (Ax (Ax s))).ref=false)→PE T .prim s (.err 5)
 | pr_true {s}:(Ad T s).kind=3→(Ad T s).text=DR→PE T .prim s (.ok (BS (Ax s) {kind:=3,num:=1}) s.out.length)
 | pr_false {s}:(Ad T s).kind=3→(Ad T s).text=Dm→PE T .prim s (.ok (BS (Ax s) {kind:=3}) s.out.length)
 | pr_nocall {s}:(Ad T s).kind=3→(Ad T s).text≠DR→(Ad T s).text≠Dm→Cu T (Ax s) [40]=false→PE T .prim s (.err 5)
 | pr_calldeep {s}:(Ad T s).kind=3→(Ad T s).text≠DR→(Ad T s).text≠Dm→Cu T (Ax s) [40]=true→12≤s.deep→PE T .prim s (.err 6)
 | pr_call0 {s}:(Ad T s).kind=3→(Ad T s).text≠DR→(Ad T s).text≠Dm→Cu T (Ax s) [40]=true→s.deep<12→Cu T (Az (Ax (Ax s))) [41]=true→
   PE T .prim s (.ok (BS (CE (Ax (Az (Ax (Ax s))))) {kind:=7,text:=(Ad T s).text}) s.out.length)
 | pr_call {s r}:(Ad T s).kind=3→(Ad T s).text≠DR→(Ad T s).text≠Dm→Cu T (Ax s) [40]=true→s.deep<12→Cu T (Az (Ax (Ax s))) [41]=false→
   PE T (.args (Ad T s).text []) (Az (Ax (Ax s))) r→PE T .prim s r
 | ar_err {x ks s e}:PE T (.lev 0) s (.err e)→PE T (.args x ks) s (.err e)
 | ar_go {x ks s s1} {a:Nat} {r}:PE T (.lev 0) s (.ok s1 a)→Cu T s1 [44]=true→PE T (.args x (ks++[(a:Int)])) (Ax s1) r→PE T (.args x ks) s r
 | ar_open {x ks s s1 a}:PE T (.lev 0) s (.ok s1 a)→Cu T s1 [44]=false→Cu T s1 [41]=false→PE T (.args x ks) s (.err 5)
 | ar_end {x ks s s1} {a:Nat}:PE T (.lev 0) s (.ok s1 a)→Cu T s1 [44]=false→Cu T s1 [41]=true→PE T (.args x ks) s (.ok (BS (CE (Ax s1)) {kind:=7,text:=x,kids:=ks++[(a:Int)]}) s1.out.length)
def DF(T:List Ap)(o:Except Int (List Ah)):Prop:=
 match o with
 | .error e=>PE T (.lev 0) ⟨0,[],0⟩ (.err e)∨e=5∧∃s a,PE T (.lev 0) ⟨0,[],0⟩ (.ok s a)∧(Ad T s).kind≠0
 | .ok l=>∃s a,PE T (.lev 0) ⟨0,[],0⟩ (.ok s a)∧(Ad T s).kind=0∧s.out=l
def Af(ks:List Int):List Value:=ks.map λk=>.int .i64 k
def C7(w:World)(kv:Value)(ks:List Int):Prop:=kv=.slice none 0 0∧ks=[]∨∃b cap sp,kv=.slice (some ⟨b,0,none⟩) ks.length cap∧Blk w b (Af ks++sp) 3
structure NV where
 node:Ah
 kv:Value
def Df(x:NV):List Value:=[.int .i64 x.node.kind,.int .i64 x.node.num,Ao x.node.text,Ao x.node.ref.sheet,.int .i64 x.node.ref.col,.int .i64 x.node.ref.row,.bool x.node.ref.ac,.bool x.node.ref.ar,Ao x.node.to.sheet,.int .i64 x.node.to.col,.int .i64 x.node.to.row,.bool x.node.to.ac,.bool x.node.to.ar,x.kv]
theorem XA(x:NV):(Df x).length=14:=rfl
structure Fr(w w':World):Prop where
 size:w.heap.size≤w'.heap.size
 blk:∀b l T,Blk w b l T→T≠212→T≠189→Blk w' b l T
theorem Fr.trans{a b c:World}(h:Fr a b)(k:Fr b c):Fr a c:=⟨Abr h.size k.size,λx l T hx h1 h2=>k.blk x l T (h.blk x l T hx h1 h2) h1 h2⟩
theorem Fr.ext{a b:World}(h:Ai a b):Fr a b:=⟨h.size,λ_ _ _ hx _ _=>hx.ext h⟩
theorem _root_.Go.E.Blk.inj{w:World}{b:Nat}{l l':List Value}{T T':TypeId}(h:Blk w b l T)(k:Blk w b l' T'):T=T':=by
 have:=h.symm.trans k;simp only[Aar,Obj.cells.injEq] at this;exact this.2.1
theorem Fr.chg{S:List Nat}{a b:World}(h:Chg S a b)(hs:∀k∈S,∀l T,Blk a k l T→T=212∨T=189):Fr a b:=
 ⟨h.size,λx l T hx h1 h2=>hx.chg h (λhm=>by rcases hs x hm l T hx with e | e<;>contradiction)⟩
theorem C7.fr{w w':World}{kv:Value}{ks:List Int}(h:C7 w kv ks)(f:Fr w w'):C7 w' kv ks:=by
 rcases h with h | ⟨b,cap,sp,e,hb⟩
 ·exact .inl h
 ·exact .inr ⟨b,cap,sp,e,f.blk _ _ _ hb AdH AdH⟩
structure Du where
 T:List Ap
 tb:Nat
 tcap:Nat
 tsp:List Value
 rb:Nat
 w0:World
def Du.tokv(c:Du):Value:=.slice (some ⟨c.tb,0,none⟩) c.T.length c.tcap
structure Du.Ok(c:Du):Prop where
 tok:Blk c.w0 c.tb (c.T.flatMap DA++c.tsp) 203
 len:c.T.length≤301
 last:∀i,i<c.T.length→(c.T.getD i Yw).kind≠0→i+1<c.T.length
 kinds:∀t∈c.T,0≤t.kind∧t.kind≤6
 new:c.w0.heap.size≤c.rb
def Rd(c:Du)(X:List Nat)(w:World)(s:Ch):Prop:=
 Ai c.w0 w∧s.at_<c.T.length∧s.deep≤12∧s.out.length≤s.at_∧∃(outv:Value) (nvs:List NV),Blk w c.rb [c.tokv,.int .i64 s.at_,outv,.int .i64 s.deep] 212∧
  E.Own w c.w0.heap.size 189 14 outv nvs.length (nvs.flatMap Df)∧nvs.map NV.node=s.out∧∀x∈nvs,C7 w x.kv x.node.kids∧∀b∈Ac x.kv,b∉X
theorem Rd.ext{c:Du}{X:List Nat}{w w':World}{s:Ch}(h:Rd c X w s)(x:Ai w w'):Rd c X w' s:=by
 obtain⟨h0,h1,h2,h3,outv,nvs,hB,ho,hm,hk⟩:=h;exact⟨h0.trans x,h1,h2,h3,outv,nvs,hB.ext x,ho.ext x,hm,λy hy=>⟨(hk y hy).1.fr (.ext x),(hk y hy).2⟩⟩
theorem Rd.set{c:Du}{X:List Nat}(hc:c.Ok){w w':World}{s s':Ch}{outv:Value}{nvs:List NV}(h0:Ai c.w0 w)(ho:E.Own w c.w0.heap.size 189 14 outv nvs.length (nvs.flatMap Df))(hm:nvs.map NV.node=s.out)(hk:∀x∈nvs,C7 w x.kv x.node.kids∧∀b∈Ac x.kv,b∉X)
  (hB0:Blk w c.rb [c.tokv,.int .i64 s.at_,outv,.int .i64 s.deep] 212) (hch:Chg [c.rb] w w') (hB:Blk w' c.rb [c.tokv,.int .i64 s'.at_,outv,.int .i64 s'.deep] 212)
  (hso:s'.out=s.out) (h1:s'.at_<c.T.length) (h2:s'.deep≤12) (h3:s'.out.length≤s'.at_):Rd c X w' s'∧Fr w w':=by
 have hf:Fr w w':=Fr.chg hch (λk hk l T hb=>by simp at hk;subst hk;exact .inl (hb.inj hB0));refine⟨⟨h0.step hch Aey,h1,h2,h3,outv,nvs,hB,ho.chg hch (λj hj hb=>?_),by rw[hm,hso],λx hx=>⟨(hk x hx).1.fr hf,(hk x hx).2⟩⟩,hf⟩;simp only[Aad] at hb;subst hb;obtain⟨hl,⟨rfl,_⟩ | ⟨g,cap,sp,rfl,hg,_⟩⟩:=ho
 ·simp[Ac] at hj
 ·simp[Ac] at hj;have e:=hg.inj (hj ▸ hB0);exact absurd e AdH
theorem GY{c:Du}{X:List Nat}(hc:c.Ok){w:World}{s:Ch}(h:Rd c X w s):AF prog 153 [.pointer (some ⟨c.rb,0,none⟩)] w (λv w'=>v=.agg ⟨DA (Ad c.T s)⟩∧Ai w w'):=by
 obtain⟨h0,h1,h2,h3,outv,nvs,hB,ho,hm,hk⟩:=h;have hT:=hc.tok.ext h0;have hg:c.T[s.at_]?=some (Ad c.T s):=by simp[Ad,Aap h1]
 refine Bj func153 ntmps153 ?_;refine Sa ?_;refine Bo λR w1 a2 hx hR=>?_;replace hB:=hB.ext hx;replace hT:=hT.ext hx;refine Sa ?_;refine CW.drawTail 10 AdF AdF λw2 a0=>?_;replace hB:=hB.ext a0;replace hT:=hT.ext a0;replace hR:=hR.ext a0;unfold Du.tokv at hB;refine Stz ?_;refine TL.yields rfl rfl rfl (Y.load_agg (cs:=DA (Ad c.T s)) (i:=0+s.at_*9) rfl hT rfl rfl rfl (by rw[AbC];exact Xe Zr hg)) ?_;refine TL.nil ?_;show LW _ _ _ [_] _ _ _ _;refine AD λw3 a1 hR=>?_;replace hR:Blk w3 R (DA (Ad c.T s)) 203:=hR;refine Sa ?_;exact QW.body_c rfl rfl hR rfl rfl rfl ⟨rfl,(hx.trans a0).step a1 AdG⟩
abbrev pv(e:Int):Value:=.iface 208 (.int .i64 e)
theorem Gx(b:Nat)(e:Int)(w:World):Fz prog 154 [.pointer (some ⟨b,0,none⟩),.int .i64 e] w (λ_ _=>False) (λv w'=>v=pv e∧Ai w w'):=by
 refine Fz.enter func154 rfl ntmps154 AdF rfl ?_;refine Sa ?_;refine LW.mkIface rfl rfl rfl rfl ?_;refine Sa ?_;refine LW.panic rfl ?_
 (repeat (first | apply QW.then_panic | apply QW.blk_panic))
 exact QW.panicP ⟨rfl,Chg.refl _ _⟩
theorem Me{c:Du}(hc:c.Ok){s:Ch}(h1:s.at_<c.T.length)(hk:(Ad c.T s).kind≠0):s.at_+1<c.T.length:=hc.last _ h1 hk
theorem Xq{T:List Ap}{s:Ch}{x:List UInt8}(h:Cu T s x=true):(Ad T s).kind=5∧(Ad T s).text=x:=by
 simpa[Cu] using h
def LQ(T:List Ap)(s:Ch)(x:List UInt8):Ch:=if Cu T s x then Ax s else s
theorem Mc{c:Du}{X:List Nat}(hc:c.Ok){w:World}{s:Ch}(h:Rd c X w s)(x:List UInt8):AF prog 321 [.pointer (some ⟨c.rb,0,none⟩),Ao x] w
  (λv w'=>v=.bool (Cu c.T s x)∧Rd c X w' (LQ c.T s x)∧Fr w w'):=by
 refine Bj func321 ntmps321 ?_;refine Sa ?_;refine Ay rfl rfl (GY hc h) ?_;rintro v w1 ⟨rfl,a4⟩;replace h:=h.ext a4;refine Sa ?_;refine Bo λC w2 ad a7 hC=>?_;refine Sa ?_;refine AD λw3 a8 hC=>?_;replace hC:Blk w3 C (DA (Ad c.T s)) 203:=hC;have a5:Ai w w3:=(a4.trans a7).step a8 (by simp;have:=a4.size;omega);have a6:Ai w1 w3:=a7.step a8 AdG;replace h:=h.ext a6;have a9:=hc.len;refine Sa ?_;refine ES (λh1=>?_) λh1=>?_
 ·have h1:(Ad c.T s).kind≠5:=by simpa using h1
  have hi:Cu c.T s x=false:=by simp[Cu,h1]
  refine Sa ?_;exact QW.body1 rfl rfl ⟨by rw[hi],by rw[LQ,hi];exact h,.ext a5⟩
 have h1:(Ad c.T s).kind=5:=by simpa using h1
 refine Sa ?_;refine A8 (λh2=>?_) λh2=>?_
 ·have h2:(Ad c.T s).text≠x:=by simpa using h2
  have hi:Cu c.T s x=false:=by simp[Cu,h2]
  refine Sa ?_;exact QW.body1 rfl rfl ⟨by rw[hi],by rw[LQ,hi];exact h,.ext a5⟩
 have h2:(Ad c.T s).text=x:=by simpa using h2
 have hi:Cu c.T s x=true:=by simp[Cu,h1,h2]
 obtain⟨a0,a1,a2,a3,outv,nvs,hB,ho,hm,hk⟩:=h;have aa:=Me hc a1 AdE;have ab:=hB;refine Sa ?_;refine CR λw4 ac hB=>?_;replace hB:Blk w4 c.rb [c.tokv,.int .i64 ((s.at_+1:Nat):Int),outv,.int .i64 s.deep] 212:=hB;obtain⟨hr,hf⟩:=Rd.set hc (s:=s) (s':=Ax s) a0 ho hm hk ab ac hB rfl aa a2 (by show s.out.length≤s.at_+1;omega);refine Sa ?_;exact QW.body1 rfl rfl ⟨by rw[hi],by rw[LQ,hi];exact hr,(Fr.ext a5).trans hf⟩
theorem HU{c:Du}{X:List Nat}(hc:c.Ok){w:World}{s:Ch}(h:Rd c X w s)(x:List UInt8):Fz prog 312 [.pointer (some ⟨c.rb,0,none⟩),Ao x] w
  (λv w'=>v=.tuple #[]∧Cu c.T s x=true∧Rd c X w' (Ax s)∧Fr w w') (λv w'=>v=pv 5∧Cu c.T s x=false∧Ai c.w0 w'):=by
 refine Fz.enter func312 rfl ntmps312 AdF rfl ?_;refine Sa ?_;refine Ay rfl rfl (Mc hc h x) ?_;rintro v w1 ⟨rfl,hr,hf⟩;refine Sa ?_;refine A8 (λh1=>?_) λh1=>?_
 ·have h1:Cu c.T s x=false:=by simpa using h1
  rw[LQ,h1,if_neg AdM] at hr;refine Sa ?_;refine LW.callP0 rfl rfl (Gx c.rb 5 w1) ?_ (λ_ _ hh=>hh.elim);rintro v w2 ⟨rfl,a0⟩
  (repeat (first | apply QW.then_panic | apply QW.blk_panic))
  exact QW.panicP ⟨rfl,h1,hr.1.trans a0⟩
 ·have h1:Cu c.T s x=true:=by simpa using h1
  rw[LQ,if_pos h1] at hr;refine Sa ?_;exact QW.bodyP0n results312 ⟨rfl,h1,hr,hf⟩
theorem MY{c:Du}{X:List Nat}(hc:c.Ok){w:World}{s:Ch}(h:Rd c X w s)(x:List UInt8):Fz prog 304 [.pointer (some ⟨c.rb,0,none⟩),Ao x] w
  (λv w'=>v=.tuple #[]∧Cu c.T s x=true∧s.deep<12∧Rd c X w' (Az (Ax s))∧Fr w w')
  (λv w'=>Ai c.w0 w'∧(v=pv 6∧Cu c.T s x=true∧12≤s.deep∨v=pv 5∧Cu c.T s x=false)):=by
 have aa:=h.2.2.1;have ab:=hc.len;refine Fz.enter func304 rfl ntmps304 AdF rfl ?_;refine Sa ?_;refine Ay rfl rfl (GY hc h) ?_;rintro v w1 ⟨rfl,a6⟩;replace h:=h.ext a6;refine Sa ?_;refine Bo λC w2 ai a8 hC=>?_;refine Sa ?_;refine AD λw3 a9 hC=>?_;replace hC:Blk w3 C (DA (Ad c.T s)) 203:=hC;have ac:Ai w w3:=(a6.trans a8).step a9 (by simp;have:=a6.size;omega);have a7:Ai w1 w3:=a8.step a9 AdG;replace h:=h.ext a7;refine Sa ?_;refine ES (λh1=>?_) λh1=>?_
 ·have h1:(Ad c.T s).kind=5:=by simpa using h1
  refine Sa ?_;refine ES (λh2=>?_) λh2=>?_
  ·have h2:(Ad c.T s).text=x:=by simpa using h2
   have hi:Cu c.T s x=true:=by simp[Cu,h1,h2]
   have hh:=h;obtain⟨a0,a1,a2,a3,outv,nvs,hB,ho,hm,hk⟩:=hh;refine Sa ?_;refine A8 (λh3=>?_) λh3=>?_
   ·have h3:12≤s.deep:=by simp at h3;omega
    refine Sa ?_;refine LW.callP0 rfl rfl (Gx c.rb 6 w3) ?_ (λ_ _ hh=>hh.elim);rintro v w4 ⟨rfl,a5⟩
    (repeat (first | apply QW.then_panic | apply QW.blk_panic))
    exact QW.panicP ⟨h.1.trans a5,.inl ⟨rfl,hi,h3⟩⟩
   ·have h3:s.deep<12:=by simp at h3;omega
    clear hB ho hm hk;refine Sa ?_;refine LW.callP0 rfl rfl (HU hc h x) ?_ ?_
    ·rintro v w4 ⟨rfl,a4,a5⟩
     (repeat (first | apply QW.then_panic | apply QW.blk_panic))
     exact QW.panicP ⟨a5,.inr ⟨rfl,a4⟩⟩
    rintro v w4 ⟨rfl,a4,hr,hf⟩;have ad:=hr;obtain⟨a0,a1,a2,a3,outv,nvs,hB,ho,hm,hk⟩:=ad;have ae:=hB;simp only[Ax] at hB;refine Sa ?_;refine CR λw5 af hB=>?_;replace hB:Blk w5 c.rb [c.tokv,.int .i64 (Ax s).at_,outv,.int .i64 ((s.deep+1:Nat):Int)] 212:=hB;obtain⟨ag,ah⟩:=Rd.set hc (s:=Ax s) (s':=Az (Ax s)) a0 ho hm hk ae af hB rfl a1 AdY a3;refine Sa ?_;exact QW.bodyP0n results304 ⟨rfl,a4,h3,ag,((Fr.ext ac).trans hf).trans ah⟩
  ·have h2:(Ad c.T s).text≠x:=by simpa using h2
   have hi:Cu c.T s x=false:=by simp[Cu,h2]
   refine Sa ?_;refine Sa ?_;refine LW.callP0 rfl rfl (HU hc h x) ?_ ?_
   ·rintro v w4 ⟨rfl,a4,a5⟩
    (repeat (first | apply QW.then_panic | apply QW.blk_panic))
    exact QW.panicP ⟨a5,.inr ⟨rfl,a4⟩⟩
   rintro v w4 ⟨rfl,a4,hr,hf⟩;rw[hi] at a4;cases a4
 ·have h1:(Ad c.T s).kind≠5:=by simpa using h1
  have hi:Cu c.T s x=false:=by simp[Cu,h1]
  refine Sa ?_;refine Sa ?_;refine LW.callP0 rfl rfl (HU hc h x) ?_ ?_
  ·rintro v w4 ⟨rfl,a4,a5⟩
   (repeat (first | apply QW.then_panic | apply QW.blk_panic))
   exact QW.panicP ⟨a5,.inr ⟨rfl,a4⟩⟩
  rintro v w4 ⟨rfl,a4,hr,hf⟩;rw[hi] at a4;cases a4
theorem C7.one{w:World}{kv:Value}{ks:List Int}(h:C7 w kv ks):kv.oneCell'=true:=by
 rcases h with ⟨rfl,_⟩ | ⟨b,cap,sp,rfl,_⟩<;>rfl
theorem Md{c:Du}{X:List Nat}(hc:c.Ok){w:World}{s:Ch}(h:Rd c X w s)(x:NV)(hx:C7 w x.kv x.node.kids)(hxX:∀b∈Ac x.kv,b∉X)(hs:s.out.length+1≤s.at_):AF prog 236 [.pointer (some ⟨c.rb,0,none⟩),.agg ⟨Df x⟩] w
  (λv w'=>v=.int .i64 s.out.length∧Rd c X w' (BS s x.node)∧Fr w w'):=by
 have au:=hc.len;obtain⟨a0,a1,a2,a3,outv,nvs,hB,ho,hm,hk⟩:=h;have am:nvs.length=s.out.length:=by rw[←hm];simp
 obtain⟨p1,q1,e1⟩:=ho.slice;subst e1;have av:x.kv.oneCell'=true:=hx.one;have an:(Df x).all (·.oneCell')=true:=by
  simp only[Df,List.all_cons,av];rfl
 refine Bj func236 ntmps236 ?_;refine Sa ?_;refine CM λC w1 aw ap hC=>?_;replace hC:Blk w1 C (Df x) 189:=hC;replace hB:=hB.ext ap;refine Sa ?_;refine CW.drawAny AdF λw2 ao=>?_;replace hB:=hB.ext ao;replace hC:=hC.ext ao;have ac:=ap.trans ao;have ax:=ac.size;refine AW.take 0 rfl rfl rfl rfl (λw=>Y.pure rfl) rfl rfl AdF AdF AdF (λ_ _ _ h=>h) ?_;refine AW.take 1 rfl rfl rfl rfl (λw=>Y.pure rfl) rfl rfl AdF AdF AdF (λ_ _ _ h=>h) ?_;refine AW.take 2 rfl rfl rfl rfl (λw=>Y.pure rfl) rfl rfl AdF AdF AdF (λ_ _ _ h=>h) ?_;refine AW.take 3 rfl rfl rfl rfl (λw=>Y.pure rfl) rfl rfl AdF AdF AdF (λ_ _ _ h=>h) ?_;refine AW.two 4 5 AdF rfl rfl rfl rfl ?_ ?_
 ·refine Sa ?_;apply QW.any;refine AW.one 5 AdF rfl rfl ?_;refine Sa ?_;apply QW.any;refine AW.one 6 AdF rfl rfl ?_;refine Dt λA w3 aq ad hA=>?_;replace hA:Blk w3 A (Df x) 189:=hA;have ae:=hB.ext ad;have a4:=ac.trans ad;have ar:=a4.size;have a6:=ho.ext a4;refine Sa ?_;apply QW.any;refine AW.one 7 AdF rfl rfl ?_;refine LW.append rfl rfl rfl rfl rfl rfl a6 Aes hA rfl an rfl Aeg rfl ?_;intro v' w4 a7 a8 ag;have ah:c.rb∉Ac (Value.slice p1 nvs.length q1):=λhm=>by
   obtain⟨_,⟨e,_⟩ | ⟨g,cap,sp,e,hg,_⟩⟩:=a6
   ·rw[e] at hm;simp[Ac] at hm
   ·rw[e] at hm;simp[Ac] at hm;exact absurd (hg.inj (hm ▸ ae)) AdH
  have ai:Fr w3 w4:=Fr.chg a7 (λk hk l T hb=>by
   obtain⟨_,⟨e,_⟩ | ⟨g,cap,sp,e,hg,_⟩⟩:=a6
   ·rw[e] at hk;simp[Ac] at hk
   ·rw[e] at hk;simp[Ac] at hk;subst hk;exact .inr (hb.inj hg))
  have a5:=ae.chg a7 ah;have aj:Ai c.w0 w4:=(a0.trans a4).step a7 (λk hk=>(a6.lt hk).1);obtain⟨p2,q2,e2⟩:=a8.slice;subst e2;refine Sa ?_;apply QW.any;refine AW.one 8 AdF rfl rfl ?_;refine Sa ?_;apply QW.any;refine AW.one 9 AdF rfl rfl ?_;refine Sa ?_;apply QW.any;refine AW.one 10 AdF rfl rfl ?_;have af:=a5;refine CR λw5 a9 a5=>?_;replace a5:Blk w5 c.rb [c.tokv,.int .i64 s.at_,.slice p2 (nvs.length+1) q2,.int .i64 s.deep] 212:=a5;have aa:∀j,j∈Ac (Value.slice p2 (nvs.length+1) q2)→j∉[c.rb]:=λj hj hb=>by
   simp only[Aad] at hb;subst hb;obtain⟨_,⟨e,_⟩ | ⟨g,cap,sp,e,hg,_⟩⟩:=a8
   ·rw[e] at hj;simp[Ac] at hj
   ·rw[e] at hj;simp[Ac] at hj;exact absurd (hg.inj (hj ▸ af)) AdH
  have ak:Fr w4 w5:=Fr.chg a9 (λk hk l T hb=>by simp at hk;subst hk;exact .inl (hb.inj af));have ab:Fr w w5:=((Fr.ext a4).trans ai).trans ak;have al:=a8.chg a9 aa;apply LW.nil;apply QW.any;refine AW.done AdF ?_;refine Sa ?_;refine QW.body1 rfl rfl ⟨by rw[←am];congr 1;omega,⟨aj.step a9 Aey,a1,a2,by simp[BS];omega,.slice p2 (nvs.length+1) q2,nvs++[x],a5,by simpa using al,by simp[BS,hm],?_⟩,ab⟩;intro y hy;rw[Abf] at hy;rcases hy with hy | hy
  ·exact⟨(hk y hy).1.fr ab,(hk y hy).2⟩
  ·simp only[Aad] at hy;subst hy;exact⟨hx.fr ab,hxX⟩
 ·refine Sa ?_;apply QW.any;refine AW.two 4 6 AdF rfl rfl rfl rfl ?_ ?_
  ·refine Sa ?_;apply QW.any;refine AW.one 6 AdF rfl rfl ?_;refine Dt λA w3 aq ad hA=>?_;replace hA:Blk w3 A (Df x) 189:=hA;have ae:=hB.ext ad;have a4:=ac.trans ad;have ar:=a4.size;have a6:=ho.ext a4;refine Sa ?_;apply QW.any;refine AW.one 7 AdF rfl rfl ?_;refine LW.append rfl rfl rfl rfl rfl rfl a6 Aes hA rfl an rfl Aeg rfl ?_;intro v' w4 a7 a8 ag;have ah:c.rb∉Ac (Value.slice p1 nvs.length q1):=λhm=>by
    obtain⟨_,⟨e,_⟩ | ⟨g,cap,sp,e,hg,_⟩⟩:=a6
    ·rw[e] at hm;simp[Ac] at hm
    ·rw[e] at hm;simp[Ac] at hm;exact absurd (hg.inj (hm ▸ ae)) AdH
   have ai:Fr w3 w4:=Fr.chg a7 (λk hk l T hb=>by
    obtain⟨_,⟨e,_⟩ | ⟨g,cap,sp,e,hg,_⟩⟩:=a6
    ·rw[e] at hk;simp[Ac] at hk
    ·rw[e] at hk;simp[Ac] at hk;subst hk;exact .inr (hb.inj hg))
   have a5:=ae.chg a7 ah;have aj:Ai c.w0 w4:=(a0.trans a4).step a7 (λk hk=>(a6.lt hk).1);obtain⟨p2,q2,e2⟩:=a8.slice;subst e2;refine Sa ?_;apply QW.any;refine AW.one 8 AdF rfl rfl ?_;refine Sa ?_;apply QW.any;refine AW.one 9 AdF rfl rfl ?_;refine Sa ?_;apply QW.any;refine AW.one 10 AdF rfl rfl ?_;have af:=a5;refine CR λw5 a9 a5=>?_;replace a5:Blk w5 c.rb [c.tokv,.int .i64 s.at_,.slice p2 (nvs.length+1) q2,.int .i64 s.deep] 212:=a5;have aa:∀j,j∈Ac (Value.slice p2 (nvs.length+1) q2)→j∉[c.rb]:=λj hj hb=>by
    simp only[Aad] at hb;subst hb;obtain⟨_,⟨e,_⟩ | ⟨g,cap,sp,e,hg,_⟩⟩:=a8
    ·rw[e] at hj;simp[Ac] at hj
    ·rw[e] at hj;simp[Ac] at hj;exact absurd (hg.inj (hj ▸ af)) AdH
   have ak:Fr w4 w5:=Fr.chg a9 (λk hk l T hb=>by simp at hk;subst hk;exact .inl (hb.inj af));have ab:Fr w w5:=((Fr.ext a4).trans ai).trans ak;have al:=a8.chg a9 aa;apply LW.nil;apply QW.any;refine AW.done AdF ?_;refine Sa ?_;refine QW.body1 rfl rfl ⟨by rw[←am];congr 1;omega,⟨aj.step a9 Aey,a1,a2,by simp[BS];omega,.slice p2 (nvs.length+1) q2,nvs++[x],a5,by simpa using al,by simp[BS,hm],?_⟩,ab⟩;intro y hy;rw[Abf] at hy;rcases hy with hy | hy
   ·exact⟨(hk y hy).1.fr ab,(hk y hy).2⟩
   ·simp only[Aad] at hy;subst hy;exact⟨hx.fr ab,hxX⟩
  ·refine Dt λA w3 aq ad hA=>?_;replace hA:Blk w3 A (Df x) 189:=hA;have ae:=hB.ext ad;have a4:=ac.trans ad;have ar:=a4.size;have a6:=ho.ext a4;refine Sa ?_;apply QW.any;refine AW.one 4 AdF rfl rfl ?_;refine Sa ?_;apply QW.any;refine AW.one 7 AdF rfl rfl ?_;refine LW.append rfl rfl rfl rfl rfl rfl a6 Aes hA rfl an rfl Aeg rfl ?_;intro v' w4 a7 a8 ag;have ah:c.rb∉Ac (Value.slice p1 nvs.length q1):=λhm=>by
    obtain⟨_,⟨e,_⟩ | ⟨g,cap,sp,e,hg,_⟩⟩:=a6
    ·rw[e] at hm;simp[Ac] at hm
    ·rw[e] at hm;simp[Ac] at hm;exact absurd (hg.inj (hm ▸ ae)) AdH
   have ai:Fr w3 w4:=Fr.chg a7 (λk hk l T hb=>by
    obtain⟨_,⟨e,_⟩ | ⟨g,cap,sp,e,hg,_⟩⟩:=a6
    ·rw[e] at hk;simp[Ac] at hk
    ·rw[e] at hk;simp[Ac] at hk;subst hk;exact .inr (hb.inj hg))
   have a5:=ae.chg a7 ah;have aj:Ai c.w0 w4:=(a0.trans a4).step a7 (λk hk=>(a6.lt hk).1);obtain⟨p2,q2,e2⟩:=a8.slice;subst e2;refine Sa ?_;apply QW.any;refine AW.one 8 AdF rfl rfl ?_;refine Sa ?_;apply QW.any;refine AW.one 9 AdF rfl rfl ?_;refine Sa ?_;apply QW.any;refine AW.one 10 AdF rfl rfl ?_;have af:=a5;refine CR λw5 a9 a5=>?_;replace a5:Blk w5 c.rb [c.tokv,.int .i64 s.at_,.slice p2 (nvs.length+1) q2,.int .i64 s.deep] 212:=a5;have aa:∀j,j∈Ac (Value.slice p2 (nvs.length+1) q2)→j∉[c.rb]:=λj hj hb=>by
    simp only[Aad] at hb;subst hb;obtain⟨_,⟨e,_⟩ | ⟨g,cap,sp,e,hg,_⟩⟩:=a8
    ·rw[e] at hj;simp[Ac] at hj
    ·rw[e] at hj;simp[Ac] at hj;exact absurd (hg.inj (hj ▸ af)) AdH
   have ak:Fr w4 w5:=Fr.chg a9 (λk hk l T hb=>by simp at hk;subst hk;exact .inl (hb.inj af));have ab:Fr w w5:=((Fr.ext a4).trans ai).trans ak;have al:=a8.chg a9 aa;apply LW.nil;apply QW.any;refine AW.done AdF ?_;refine Sa ?_;refine QW.body1 rfl rfl ⟨by rw[←am];congr 1;omega,⟨aj.step a9 Aey,a1,a2,by simp[BS];omega,.slice p2 (nvs.length+1) q2,nvs++[x],a5,by simpa using al,by simp[BS,hm],?_⟩,ab⟩;intro y hy;rw[Abf] at hy;rcases hy with hy | hy
   ·exact⟨(hk y hy).1.fr ab,(hk y hy).2⟩
   ·simp only[Aad] at hy;subst hy;exact⟨hx.fr ab,hxX⟩
theorem Je{α:Type}(p:α→Bool)(d:α):∀(l:List α) (k:Nat),k<l.length→(∀j,j<k→p (l.getD j d)=false)→p (l.getD k d)=true→l.findIdx? p=some k
 | [],k,hk,_,_=>by simp at hk
 | x::r,0,_,_,h=>by
  have h:p x=true:=h
  simp[AcV,h]
 | x::r,k+1,hk,hn,h=>by
  have h0:p x=false:=hn 0 AdE;have ih:=Je p d r k (by simpa using hk) (λj hj=>hn (j+1) AdE) h;simp[AcV,h0,ih]
theorem JN{α:Type}(p:α→Bool)(d:α):∀(l:List α),(∀j,j<l.length→p (l.getD j d)=false)→l.findIdx? p=none
 | [],_=>rfl
 | x::r,hn=>by
  have h0:p x=false:=hn 0 AdM;have ih:=JN p d r (λj hj=>hn (j+1) AdG);simp[AcV,h0,ih]
def ixZ:Option Nat→Int
 | some i=>i
 | none=>-1
theorem V1(xs:List (List UInt8))(hl:xs.length≤100)(s:List UInt8)(b cap:Nat)(w:World)(hB:Blk w b (xs.map Ao) 9):AF prog 235 [.slice (some ⟨b,0,none⟩) xs.length cap,Ao s] w
  (λv w'=>v=.int .i64 (ixZ (xs.findIdx? (λx=>decide (x=s))))∧Ai w w'):=by
 refine Bj func235 ntmps235 ?_;refine Sa ?_;refine CW.loop (ι:=Nat) (λk w'=>k≤xs.length∧Ai w w'∧∀j,j<k→decide (xs.getD j []=s)=false) (λk=>[(0,.slice (some ⟨b,0,none⟩) xs.length cap),(1,Ao s),(7,.int .i64 xs.length),(8,.int .i64 k)]) (λk=>xs.length - k) 0 ⟨by omega,Chg.refl _ _,by omega⟩ Bx ?_;rintro k w1 ⟨hk,hx,a0⟩;replace hB:=hB.ext hx;refine Sa ?_;refine A8 (λh1=>?_) λh1=>?_
 ·have h1:k<xs.length:=by simp at h1;omega
  have hv:(xs.map Ao)[k]?=some (Ao (xs.getD k [])):=by simp[Aap h1]
  refine Sa ?_;refine LW.idx_slice (j:=k) rfl rfl rfl rfl rfl AdE AdE (by show 0+_*1=_;omega) rfl ?_;refine LW.load rfl hB hv rfl rfl rfl ?_;refine Sa ?_;refine A8 (λh2=>?_) λh2=>?_
  ·have h2:decide (xs.getD k []=s)=true:=by simpa using(by simpa using h2:s=xs.getD k []).symm
   refine Sa ?_;refine QW.body1 rfl rfl ⟨?_,hx⟩;rw[Je (λx=>decide (x=s)) [] xs k h1 a0 h2];rfl
  ·have h2:decide (xs.getD k []=s)=false:=by
    have h2:¬s=xs.getD k []:=by simpa using h2
    simpa using λe=>h2 e.symm
   refine Sa ?_;refine QW.again (k+1) ⟨by omega,hx,λj hj=>?_⟩ Bx AdE;by_cases e:j=k
   ·subst e;exact h2
   ·exact a0 j AdE
 ·have h1:k=xs.length:=by simp at h1;omega
  subst h1;refine Sa ?_;refine QW.body1 rfl rfl ⟨?_,hx⟩;rw[JN (λx=>decide (x=s)) [] xs a0];rfl
theorem Nq(a b:Da)(w:World):AF prog 241 [.agg ⟨Dc a⟩,.agg ⟨Dc b⟩] w (λv w'=>v=.bool (BL a b)∧Ai w w'):=by
 refine Bj func241 ntmps241 ?_;refine Sa ?_;refine CM λA w1 a2 a1 hA=>?_;replace hA:Blk w1 A (Dc a) 187:=hA;refine Sa ?_;refine CM λB w2 a3 a0 hB=>?_;replace hB:Blk w2 B (Dc b) 187:=hB;replace hA:=hA.ext a0;have hx:=a1.trans a0;refine Sa ?_;refine ES (λh1=>?_) λh1=>?_
 ·refine Sa ?_;refine ES (λh2=>?_) λh2=>?_
  all_goals
   refine Sa ?_;refine QW.body1 rfl rfl ⟨?_,hx⟩;simp[BL,h1,h2]
 ·refine Sa ?_;refine QW.body1 rfl rfl ⟨?_,hx⟩;simp[BL,h1]
def POk(c:Du)(X:List Nat)(m:FQ)(s:Ch)(w:World)(v:Value)(w':World):Prop:=
 ∃(s':Ch) (p:Nat),v=.int .i64 (p:Int)∧PE c.T m s (.ok s' p)∧Rd c X w' s'∧Fr w w'∧s.at_<s'.at_∧s'.deep=s.deep∧s.at_+s'.out.length≤s'.at_+s.out.length
def ZL(c:Du)(m:FQ)(s:Ch)(v:Value)(w':World):Prop:=∃e,v=pv e∧PE c.T m s (.err e)∧Ai c.w0 w'
def PC(c:Du)(f:Nat)(m:FQ)(s:Ch):Prop:=∀w X,(∀b∈X,b<w.heap.size)→Rd c X w s→Fz prog f [.pointer (some ⟨c.rb,0,none⟩)] w (POk c X m s w) (ZL c m s)
theorem AaW(n:Nat):(BQ n).length=(AL n).length∧(BQ n).length≤6:=by
 match n with
 | 0 | 1 | 2 | n+3=>exact⟨rfl,by simp[BQ]⟩
theorem SJ{α:Type}{p:α→Bool}{l:List α}{i:Nat}(h:l.findIdx? p=some i):i<l.length:=(List.findIdx?_eq_some_iff_findIdx_eq.1 h).1
theorem Rd.len{c:Du}{X:List Nat}{w:World}{s:Ch}(h:Rd c X w s):s.at_<c.T.length∧s.deep≤12∧s.out.length≤s.at_:=⟨h.2.1,h.2.2.1,h.2.2.2.1⟩
theorem Iw{c:Du}{X:List Nat}(hc:c.Ok)(n fB sb kb:Nat)(s:Ch)(w:World)(hX:∀b∈X,b<w.heap.size)(h:Rd c X w s)(hsb:Blk w sb ((BQ n).map Ao) 9)(hkb:Blk w kb (Af (AL n)) 3)
  (h1:PC c fB (below n) s) (h2:∀s',s.at_<s'.at_→s'.deep=s.deep→PC c fB (below n) s') :
  Fz prog 196 [.pointer (some ⟨c.rb,0,none⟩),.agg ⟨[.func (.func fB) #[.pointer (some ⟨c.rb,0,none⟩)] #[],.slice (some ⟨sb,0,none⟩) (BQ n).length (BQ n).length,.slice (some ⟨kb,0,none⟩) (AL n).length (AL n).length]⟩] w
   (POk c X (.lev n) s w) (ZL c (.lev n) s):=by
 have al:=hc.len;obtain⟨av,aw⟩:=AaW n;refine Fz.enter func196 rfl ntmps196 AdF rfl ?_;refine Sa ?_;refine CM λL w1 ax a9 hL=>?_;replace hsb:=hsb.ext a9;replace hkb:=hkb.ext a9;replace h:=h.ext a9;have ac:=Fr.ext a9;refine Sa ?_;refine LW.callP rfl rfl rfl (h1 w1 X (λb hb=>Abv (hX b hb) a9.size) h) ?_ ?_
 ·rintro v w2 ⟨e,rfl,hp,hx⟩
  (repeat (first | apply QW.then_panic | apply QW.blk_panic))
  exact QW.panicP ⟨e,rfl,.lev_err hp,hx⟩
 rintro v w2 ⟨s1,a,rfl,hp,hr,hf,g1,g2,g3⟩;refine Sa ?_;refine CW.loop (ι:=Ch×Nat) (λk w'=>s.at_<k.1.at_∧k.1.deep=s.deep∧s.at_+k.1.out.length≤k.1.at_+s.out.length∧Rd c X w' k.1∧Fr w1 w'∧∀r,PE c.T (.loop n k.2) k.1 r→PE c.T (.lev n) s r) (λk=>[(0,.pointer (some ⟨c.rb,0,none⟩)),(3,.pointer (some ⟨L,0,none⟩)),(5,.int .i64 (k.2:Int))]) (λk=>c.T.length - k.1.at_) (s1,a)
  ⟨g1,g2,g3,hr,hf,λr hl=>.lev_ok hp hl⟩ CF ?_
 clear hr hp g1 g2 g3 hf a s1 w2;rintro⟨t,a⟩ w2 ⟨g1,g2,g3,hr,hf,a5⟩;simp only at g1 g2 g3 hr a5;show CW _ _ _ _ _ [(0,.pointer (some ⟨c.rb,0,none⟩)),(3,.pointer (some ⟨L,0,none⟩)),(5,.int .i64 (a:Int))] _;have a6:=hf.blk _ _ _ hL AdH AdH;have a7:=hf.blk _ _ _ hsb AdH AdH;have a4:=hf.blk _ _ _ hkb AdH AdH;obtain⟨q1,q2,q3⟩:=hr.len;obtain⟨r1,r2,r3⟩:=h.len;refine Sa ?_;refine Ay rfl rfl (GY hc hr) ?_;rintro v w3 ⟨rfl,aj⟩;refine Sa ?_;refine Bo λC w4 ay am hC=>?_;refine Sa ?_;refine AD λw5 an hC=>?_;replace hC:Blk w5 C (DA (Ad c.T t)) 203:=hC;have aa:Ai w2 w5:=(aj.trans am).step an (by simp;have:=aj.size;omega);replace a6:=a6.ext aa;replace a7:=a7.ext aa;replace a4:=a4.ext aa;replace hr:=hr.ext aa;replace hf:=hf.trans (.ext aa);refine Sa ?_;refine A8 (λhk=>?_) λhk=>?_
 ·have hk:(Ad c.T t).kind=5:=by simpa using hk
  refine Sa ?_;refine Ay rfl rfl (V1 (BQ n) AdE (Ad c.T t).text sb _ _ a7) ?_;rintro v w6 ⟨rfl,ad⟩;replace a6:=a6.ext ad;replace a4:=a4.ext ad;replace hr:=hr.ext ad;replace hf:=hf.trans (.ext ad);have a8:IV c.T t n=(BQ n).findIdx? (λx=>decide (x=(Ad c.T t).text)):=by rw[IV,if_pos hk]
  cases hi:(BQ n).findIdx? (λx=>decide (x=(Ad c.T t).text)) with
  | none=>
   rw[hi] at a8;simp only[ixZ];refine Sa ?_
   exact QW.bodyP1 rfl rfl ⟨t,a,rfl,a5 _ (.loop_end a8),hr,ac.trans hf,g1,g2,g3⟩
  | some i=>
   rw[hi] at a8;have az:=SJ hi;simp only[ixZ];refine Sa ?_;obtain⟨a0,a1,a2,a3,outv,nvs,hB,ho,hm,ab⟩:=hr;have ao:=Me hc a1 AdE;have ap:=hB;refine Sa ?_;refine CR λw7 aq hB=>?_;replace hB:Blk w7 c.rb [c.tokv,.int .i64 (Ax t).at_,outv,.int .i64 t.deep] 212:=hB;obtain⟨hr,ae⟩:=Rd.set hc (s:=t) (s':=Ax t) a0 ho hm ab ap aq hB rfl ao a2 (by show t.out.length≤t.at_+1;omega);replace hf:=hf.trans ae;replace a6:=ae.blk _ _ _ a6 AdH AdH;replace a4:=ae.blk _ _ _ a4 AdH AdH;refine Sa ?_;refine LW.callP rfl rfl rfl (h2 (Ax t) (by show s.at_<t.at_+1;omega) g2 w7 X (λb hb=>Abv (hX b hb) (ac.trans hf).size) hr) ?_ ?_
   ·rintro v w8 ⟨e,rfl,hp,hx⟩
    (repeat (first | apply QW.then_panic | apply QW.blk_panic))
    exact QW.panicP ⟨e,rfl,a5 _ (.loop_err a8 hp),hx⟩
   rintro v w8 ⟨s1,b,rfl,hp,af,ag,k1,k2,k3⟩;have k1':t.at_+1<s1.at_:=k1;have k3':t.at_+1+s1.out.length≤s1.at_+t.out.length:=k3;replace hf:=hf.trans ag;have b0:=(ac.trans hf).size;replace a6:=ag.blk _ _ _ a6 AdH AdH;replace a4:=ag.blk _ _ _ a4 AdH AdH;have ar:(Af (AL n))[i]?=some (.int .i64 ((AL n).getD i 0)):=by simp[Af,Aap (show i<(AL n).length by omega)]
   refine Sa ?_;refine LW.idx_slice (j:=i) rfl rfl rfl rfl rfl AdE AdE (by show 0+_*1=_;omega) rfl ?_;refine LW.load rfl a4 ar rfl rfl rfl ?_;refine Sa ?_;refine Dt λK w9 b1 ak hK=>?_;replace hK:Blk w9 K (Af [(a:Int),(b:Int)]) 3:=hK;replace af:=af.ext ak;replace hf:=hf.trans (.ext ak);refine Sa ?_;refine LW.call0 (vs:=[.pointer (some ⟨c.rb,0,none⟩),.agg ⟨Df ⟨{kind:=(AL n).getD i 0,kids:=[(a:Int),(b:Int)]},.slice (some ⟨K,0,none⟩) 2 2⟩⟩]) rfl rfl (Md hc af ⟨{kind:=(AL n).getD i 0,kids:=[(a:Int),(b:Int)]},.slice (some ⟨K,0,none⟩) 2 2⟩ (.inr ⟨K,2,[],rfl,by rw[Aby];exact hK⟩) (λb hb au=>by
    have h3:=hX b au;simp[Ac] at hb;omega) AdE) ?_
   rintro v b2 ⟨rfl,ah,ai⟩;refine Sa ?_;refine QW.again (BS s1 {kind:=(AL n).getD i 0,kids:=[(a:Int),(b:Int)]},s1.out.length) ⟨by show s.at_<s1.at_;omega,k2.trans g2,by simp[BS];omega,ah,hf.trans ai,λr hl=>a5 r (.loop_go a8 hp hl)⟩ CF (by show c.T.length - s1.at_<c.T.length - t.at_;omega)
 ·have hk:(Ad c.T t).kind≠5:=by simpa using hk
  have a8:IV c.T t n=none:=by rw[IV,if_neg hk]
  refine Sa ?_;exact QW.bodyP1 rfl rfl ⟨t,a,rfl,a5 _ (.loop_end a8),hr,ac.trans hf,g1,g2,g3⟩
theorem Xb{c:Du}(hc:c.Ok)(s:Ch)(h1:PC c 197 (below 0) s)(h2:∀s',s.at_<s'.at_→s'.deep=s.deep→PC c 197 (below 0) s') :
  PC c 152 (.lev 0) s:=by
 intro w X hX h;refine Fz.enter func152 rfl ntmps152 AdF rfl ?_;refine Sa ?_;refine Dt λA w1 a2 a1 hA=>?_;replace hA:Blk w1 A ((BQ 0).map Ao) 9:=hA;refine Sa ?_;refine Dt λB w2 a3 a0 hB=>?_;replace hB:Blk w2 B (Af (AL 0)) 3:=hB;have hx:=a1.trans a0;refine Sa ?_;refine LW.callP0 (vs:=[.pointer (some ⟨c.rb,0,none⟩),.agg ⟨[.func (.func 197) #[.pointer (some ⟨c.rb,0,none⟩)] #[],.slice (some ⟨A,0,none⟩) 6 6,.slice (some ⟨B,0,none⟩) 6 6]⟩]) rfl rfl
  (Iw hc 0 197 A B s w2 (λb hb=>Abv (hX b hb) hx.size) (h.ext hx) (hA.ext a0) hB h1 h2) ?_ ?_
 ·rintro v w3 hp
  (repeat (first | apply QW.then_panic | apply QW.blk_panic))
  exact QW.panicP hp
 rintro v w3 ⟨s',p,rfl,hp,hr,hf,g1,g2,g3⟩;refine Sa ?_;exact QW.bodyP1 rfl rfl ⟨s',p,rfl,hp,hr,(Fr.ext hx).trans hf,g1,g2,g3⟩
theorem YD{c:Du}(hc:c.Ok)(s:Ch)(h1:PC c 237 (below 1) s)(h2:∀s',s.at_<s'.at_→s'.deep=s.deep→PC c 237 (below 1) s') :
  PC c 197 (.lev 1) s:=by
 intro w X hX h;refine Fz.enter func197 rfl ntmps197 AdF rfl ?_;refine Sa ?_;refine Dt λA w1 a2 a1 hA=>?_;replace hA:Blk w1 A ((BQ 1).map Ao) 9:=hA;refine Sa ?_;refine Dt λB w2 a3 a0 hB=>?_;replace hB:Blk w2 B (Af (AL 1)) 3:=hB;have hx:=a1.trans a0;refine Sa ?_;refine LW.callP0 (vs:=[.pointer (some ⟨c.rb,0,none⟩),.agg ⟨[.func (.func 237) #[.pointer (some ⟨c.rb,0,none⟩)] #[],.slice (some ⟨A,0,none⟩) 1 1,.slice (some ⟨B,0,none⟩) 1 1]⟩]) rfl rfl
  (Iw hc 1 237 A B s w2 (λb hb=>Abv (hX b hb) hx.size) (h.ext hx) (hA.ext a0) hB h1 h2) ?_ ?_
 ·rintro v w3 hp
  (repeat (first | apply QW.then_panic | apply QW.blk_panic))
  exact QW.panicP hp
 rintro v w3 ⟨s',p,rfl,hp,hr,hf,g1,g2,g3⟩;refine Sa ?_;exact QW.bodyP1 rfl rfl ⟨s',p,rfl,hp,hr,(Fr.ext hx).trans hf,g1,g2,g3⟩
theorem Zq{c:Du}(hc:c.Ok)(s:Ch)(h1:PC c 272 (below 2) s)(h2:∀s',s.at_<s'.at_→s'.deep=s.deep→PC c 272 (below 2) s') :
  PC c 237 (.lev 2) s:=by
 intro w X hX h;refine Fz.enter func237 rfl ntmps237 AdF rfl ?_;refine Sa ?_;refine Dt λA w1 a2 a1 hA=>?_;replace hA:Blk w1 A ((BQ 2).map Ao) 9:=hA;refine Sa ?_;refine Dt λB w2 a3 a0 hB=>?_;replace hB:Blk w2 B (Af (AL 2)) 3:=hB;have hx:=a1.trans a0;refine Sa ?_;refine LW.callP0 (vs:=[.pointer (some ⟨c.rb,0,none⟩),.agg ⟨[.func (.func 272) #[.pointer (some ⟨c.rb,0,none⟩)] #[],.slice (some ⟨A,0,none⟩) 2 2,.slice (some ⟨B,0,none⟩) 2 2]⟩]) rfl rfl
  (Iw hc 2 272 A B s w2 (λb hb=>Abv (hX b hb) hx.size) (h.ext hx) (hA.ext a0) hB h1 h2) ?_ ?_
 ·rintro v w3 hp
  (repeat (first | apply QW.then_panic | apply QW.blk_panic))
  exact QW.panicP hp
 rintro v w3 ⟨s',p,rfl,hp,hr,hf,g1,g2,g3⟩;refine Sa ?_;exact QW.bodyP1 rfl rfl ⟨s',p,rfl,hp,hr,(Fr.ext hx).trans hf,g1,g2,g3⟩
theorem Yu{c:Du}(hc:c.Ok)(s:Ch)(h1:PC c 290 (below 3) s)(h2:∀s',s.at_<s'.at_→s'.deep=s.deep→PC c 290 (below 3) s') :
  PC c 272 (.lev 3) s:=by
 intro w X hX h;refine Fz.enter func272 rfl ntmps272 AdF rfl ?_;refine Sa ?_;refine Dt λA w1 a2 a1 hA=>?_;replace hA:Blk w1 A ((BQ 3).map Ao) 9:=hA;refine Sa ?_;refine Dt λB w2 a3 a0 hB=>?_;replace hB:Blk w2 B (Af (AL 3)) 3:=hB;have hx:=a1.trans a0;refine Sa ?_;refine LW.callP0 (vs:=[.pointer (some ⟨c.rb,0,none⟩),.agg ⟨[.func (.func 290) #[.pointer (some ⟨c.rb,0,none⟩)] #[],.slice (some ⟨A,0,none⟩) 2 2,.slice (some ⟨B,0,none⟩) 2 2]⟩]) rfl rfl
  (Iw hc 3 290 A B s w2 (λb hb=>Abv (hX b hb) hx.size) (h.ext hx) (hA.ext a0) hB h1 h2) ?_ ?_
 ·rintro v w3 hp
  (repeat (first | apply QW.then_panic | apply QW.blk_panic))
  exact QW.panicP hp
 rintro v w3 ⟨s',p,rfl,hp,hr,hf,g1,g2,g3⟩;refine Sa ?_;exact QW.bodyP1 rfl rfl ⟨s',p,rfl,hp,hr,(Fr.ext hx).trans hf,g1,g2,g3⟩
theorem W6{c:Du}(hc:c.Ok)(s:Ch)(h1:PC c 303 .prim s)(h2:∀s',s.at_<s'.at_→PC c 290 .unary s') :
  PC c 290 .unary s:=by
 intro w X hX h;have ag:=hc.len;refine Fz.enter func290 rfl ntmps290 AdF rfl ?_;refine Sa ?_;refine Ay rfl rfl (GY hc h) ?_;rintro v w1 ⟨rfl,a7⟩;replace h:=h.ext a7;refine Sa ?_;refine Bo λC w2 ao ab hC=>?_;refine Sa ?_;refine AD λw3 ac hC=>?_;replace hC:Blk w3 C (DA (Ad c.T s)) 203:=hC;have a6:Ai w w3:=(a7.trans ab).step ac (by simp;have:=a7.size;omega);have a8:Ai w1 w3:=ab.step ac AdG;replace h:=h.ext a8;replace hX:∀b∈X,b<w3.heap.size:=λb hb=>Abv (hX b hb) a6.size;refine Sa ?_;refine ES (λhk=>?_) λhk=>?_
 ·have hk:(Ad c.T s).kind≠5:=by simpa using hk
  have hi:Cu c.T s [45]=false:=by simp[Cu,hk]
  refine Sa ?_;refine LW.callP0 rfl rfl (h1 w3 X hX h) ?_ ?_
  ·rintro v w4 ⟨e,rfl,hp,a4⟩
   (repeat (first | apply QW.then_panic | apply QW.blk_panic))
   exact QW.panicP ⟨e,rfl,.un_prim hi hp,a4⟩
  rintro v w4 ⟨s',p,rfl,hp,hr,hf,g1,g2,g3⟩;refine Sa ?_;exact QW.bodyP1 rfl rfl ⟨s',p,rfl,.un_prim hi hp,hr,(Fr.ext a6).trans hf,g1,g2,g3⟩
 have hk:(Ad c.T s).kind=5:=by simpa using hk
 refine Sa ?_;refine A8 (λht=>?_) λht=>?_
 ·have ht:(Ad c.T s).text≠[45]:=by simpa using ht
  have hi:Cu c.T s [45]=false:=by simp[Cu,ht]
  refine Sa ?_;refine LW.callP0 rfl rfl (h1 w3 X hX h) ?_ ?_
  ·rintro v w4 ⟨e,rfl,hp,a4⟩
   (repeat (first | apply QW.then_panic | apply QW.blk_panic))
   exact QW.panicP ⟨e,rfl,.un_prim hi hp,a4⟩
  rintro v w4 ⟨s',p,rfl,hp,hr,hf,g1,g2,g3⟩;refine Sa ?_;exact QW.bodyP1 rfl rfl ⟨s',p,rfl,.un_prim hi hp,hr,(Fr.ext a6).trans hf,g1,g2,g3⟩
 have ht:(Ad c.T s).text=[45]:=by simpa using ht
 have hi:Cu c.T s [45]=true:=by simp[Cu,hk,ht]
 refine Sa ?_;refine LW.callP0 rfl rfl (MY hc h [45]) ?_ ?_
 ·rintro v w4 ⟨a4,⟨rfl,_,hd⟩ | ⟨rfl,hn⟩⟩
  ·(repeat (first | apply QW.then_panic | apply QW.blk_panic))
   exact QW.panicP ⟨6,rfl,.un_deep hi hd,a4⟩
  ·rw[hi] at hn;cases hn
 rintro v w4 ⟨rfl,_,hd,hr,hf⟩;refine Sa ?_;refine LW.callP0 rfl rfl (h2 (Az (Ax s)) (by show s.at_<s.at_+1;omega) w4 X (λb hb=>Abv (hX b hb) hf.size) hr) ?_ ?_
 ·rintro v w5 ⟨e,rfl,hp,ah⟩
  (repeat (first | apply QW.then_panic | apply QW.blk_panic))
  exact QW.panicP ⟨e,rfl,.un_err hi hd hp,ah⟩
 rintro v w5 ⟨s1,a,rfl,hp,ai,ad,g1,g2,g3⟩;have g1':s.at_+1<s1.at_:=g1;have g2':s1.deep=s.deep+1:=g2;have g3':s.at_+1+s1.out.length≤s1.at_+s.out.length:=g3;have hl:=h.len;obtain⟨a0,a1,a2,a3,outv,nvs,hB,ho,hm,a5⟩:=ai;have aj:=hB;refine Sa ?_;refine CR λw6 ak hB=>?_;have e6:(s1.deep:Int) - 1=(((CE s1).deep:Nat):Int):=by show(s1.deep:Int) - 1=((s1.deep - 1:Nat):Int);omega
 replace hB:Blk w6 c.rb [c.tokv,.int .i64 s1.at_,outv,.int .i64 ((s1.deep:Int) - 1)] 212:=hB;rw[e6] at hB;obtain⟨a9,ae⟩:=Rd.set hc (s:=s1) (s':=CE s1) a0 ho hm a5 aj ak hB rfl a1 (by show s1.deep - 1≤12;omega) a3;have aa:=(((Fr.ext a6).trans hf).trans ad).trans ae;have ap:=((hf.trans ad).trans ae).size;refine Sa ?_;refine Dt λK w7 aq af hK=>?_;replace hK:Blk w7 K (Af [(a:Int)]) 3:=hK;replace a9:=a9.ext af;replace aa:=aa.trans (.ext af);refine Sa ?_;refine LW.call0 (vs:=[.pointer (some ⟨c.rb,0,none⟩),.agg ⟨Df ⟨{kind:=8,kids:=[(a:Int)]},.slice (some ⟨K,0,none⟩) 1 1⟩⟩]) rfl rfl (Md hc a9 ⟨{kind:=8,kids:=[(a:Int)]},.slice (some ⟨K,0,none⟩) 1 1⟩ (.inr ⟨K,1,[],rfl,by rw[Aby];exact hK⟩) (λb hb al=>by
  have h3:=hX b al;simp[Ac] at hb;omega) (by show s1.out.length+1≤s1.at_;omega)) ?_
 rintro v w8 ⟨rfl,am,an⟩;refine Sa ?_;exact QW.bodyP1 rfl rfl ⟨BS (CE s1) {kind:=8,kids:=[(a:Int)]},s1.out.length,rfl,.un_ok hi hd hp,am,aa.trans an,by show s.at_<s1.at_;omega,by show s1.deep - 1=s.deep;omega,by simp[BS,CE];omega⟩
theorem EM{c:Du}{X:List Nat}(hc:c.Ok){w:World}{s:Ch}(h:Rd c X w s)(n:Ah)(hn:n.kids=[])(hs:s.out.length+1≤s.at_):AF prog 236 [.pointer (some ⟨c.rb,0,none⟩),.agg ⟨Df ⟨n,.slice none 0 0⟩⟩] w
  (λv w'=>v=.int .i64 s.out.length∧Rd c X w' (BS s n)∧Fr w w'):=Md hc h ⟨n,.slice none 0 0⟩ (.inl ⟨rfl,hn⟩) Aet hs
theorem Zk{c:Du}{X:List Nat}(hc:c.Ok)(s:Ch)(a:Da)(w:World)(h:Rd c X w s)(hs:s.out.length+1≤s.at_):Fz prog 313 [.pointer (some ⟨c.rb,0,none⟩),.agg ⟨Dc a⟩] w
  (λv w'=>v=.int .i64 s.out.length∧Fr w w'∧(Cu c.T s [58]=false∧Rd c X w' (BS s {kind:=5,ref:=a})∨
   Cu c.T s [58]=true∧(Ad c.T (Ax s)).kind=4∧BL a (Ad c.T (Ax s)).ref=true∧Rd c X w' (BS (Ax (Ax s)) {kind:=6,ref:=a,to:=(Ad c.T (Ax s)).ref})))
  (λv w'=>v=pv 5∧Ai c.w0 w'∧Cu c.T s [58]=true∧((Ad c.T (Ax s)).kind≠4∨BL a (Ad c.T (Ax s)).ref=false)):=by
 have aa:=hc.len;refine Fz.enter func313 rfl ntmps313 AdF rfl ?_;refine Sa ?_;refine CM λA w1 am a8 hA=>?_;replace hA:Blk w1 A (Dc a) 187:=hA;replace h:=h.ext a8;refine Sa ?_;refine Ay rfl rfl (Mc hc h [58]) ?_;rintro v w2 ⟨rfl,hr,hf⟩;replace hA:=hf.blk _ _ _ hA AdH AdH;replace hf:=(Fr.ext a8).trans hf;refine Sa ?_;refine A8 (λh1=>?_) λh1=>?_
 ·have h1:Cu c.T s [58]=false:=by simpa using h1
  rw[LQ,h1,if_neg AdM] at hr;refine Sa ?_;refine LW.call0 (vs:=[.pointer (some ⟨c.rb,0,none⟩),.agg ⟨Df ⟨{kind:=5,ref:=a},.slice none 0 0⟩⟩]) rfl rfl (EM hc hr {kind:=5,ref:=a} rfl hs) ?_;rintro v w3 ⟨rfl,ab,ac⟩;refine Sa ?_;exact QW.bodyP1 rfl rfl ⟨rfl,hf.trans ac,.inl ⟨h1,ab⟩⟩
 have h1:Cu c.T s [58]=true:=by simpa using h1
 rw[LQ,if_pos h1] at hr;refine Sa ?_;refine Ay rfl rfl (GY hc hr) ?_;rintro v w3 ⟨rfl,a9⟩;refine Sa ?_;refine Bo λC w4 an ad hC=>?_;refine Sa ?_;refine AD λw5 ae hC=>?_;replace hC:Blk w5 C (DA (Ad c.T (Ax s))) 203:=hC;have a6:Ai w2 w5:=(a9.trans ad).step ae (by simp;have:=a9.size;omega);replace hA:=hA.ext a6;replace hr:=hr.ext a6;replace hf:=hf.trans (.ext a6);refine Sa ?_;refine ES (λh2=>?_) λh2=>?_
 ·have h2:(Ad c.T (Ax s)).kind≠4:=by simpa using h2
  refine Sa ?_;refine LW.callP0 rfl rfl (Gx c.rb 5 w5) ?_ (λ_ _ hh=>hh.elim);rintro v w6 ⟨rfl,a4⟩
  (repeat (first | apply QW.then_panic | apply QW.blk_panic))
  exact QW.panicP ⟨rfl,hr.1.trans a4,h1,.inl h2⟩
 have h2:(Ad c.T (Ax s)).kind=4:=by simpa using h2
 refine Sa ?_;refine LW.load_agg (cs:=Dc (Ad c.T (Ax s)).ref) rfl hC rfl rfl rfl ⟨rfl,rfl,rfl,rfl,rfl,trivial⟩ rfl ?_;refine Sa ?_;refine Ay rfl rfl (Nq a (Ad c.T (Ax s)).ref w5) ?_;rintro v w6 ⟨rfl,a4⟩;replace hA:=hA.ext a4;replace hC:=hC.ext a4;replace hr:=hr.ext a4;replace hf:=hf.trans (.ext a4);refine Sa ?_;refine A8 (λh3=>?_) λh3=>?_
 ·have h3:BL a (Ad c.T (Ax s)).ref=false:=by simpa using h3
  refine Sa ?_;refine LW.callP0 rfl rfl (Gx c.rb 5 w6) ?_ (λ_ _ hh=>hh.elim);rintro v w7 ⟨rfl,af⟩
  (repeat (first | apply QW.then_panic | apply QW.blk_panic))
  exact QW.panicP ⟨rfl,hr.1.trans af,h1,.inr h3⟩
 have h3:BL a (Ad c.T (Ax s)).ref=true:=by simpa using h3
 obtain⟨a0,a1,a2,a3,outv,nvs,hB,ho,hm,a5⟩:=hr;have ag:=Me hc a1 AdE;have ah:=hB;have a1':s.at_+1<c.T.length:=a1;simp only[Ax] at hB;refine Sa ?_;refine CR λw7 ai hB=>?_;replace hB:Blk w7 c.rb [c.tokv,.int .i64 (Ax (Ax s)).at_,outv,.int .i64 s.deep] 212:=hB;obtain⟨aj,a7⟩:=Rd.set hc (s:=Ax s) (s':=Ax (Ax s)) a0 ho hm a5 ah ai hB rfl ag a2 (by show s.out.length≤s.at_+1+1;omega);replace hA:=a7.blk _ _ _ hA AdH AdH;replace hC:=a7.blk _ _ _ hC AdH AdH;refine Sa ?_;refine LW.load_agg (cs:=Dc (Ad c.T (Ax s)).ref) rfl hC rfl rfl rfl ⟨rfl,rfl,rfl,rfl,rfl,trivial⟩ rfl ?_;refine Sa ?_;refine LW.call0 (vs:=[.pointer (some ⟨c.rb,0,none⟩),.agg ⟨Df ⟨{kind:=6,ref:=a,to:=(Ad c.T (Ax s)).ref},.slice none 0 0⟩⟩]) rfl rfl (EM hc aj {kind:=6,ref:=a,to:=(Ad c.T (Ax s)).ref} rfl (by show s.out.length+1≤s.at_+1+1;omega)) ?_;rintro v w8 ⟨rfl,ak,al⟩;refine Sa ?_;exact QW.bodyP1 rfl rfl ⟨rfl,(hf.trans a7).trans al,.inr ⟨h1,h2,h3,ak⟩⟩
theorem Own.fr{w w':World}{lo e size n:Nat}{v:Value}{xs:List Value}(h:E.Own w lo e size v n xs)(f:Fr w w')(h1:e≠212)(h2:e≠189):E.Own w' lo e size v n xs:=by
 obtain⟨hl,h | ⟨g,cap,sp,rfl,hB,a1,a2,a3⟩⟩:=h
 ·exact⟨hl,.inl h⟩
 ·exact⟨hl,.inr ⟨g,cap,sp,rfl,f.blk _ _ _ hB h1 h2,a1,a2,a3⟩⟩
theorem Rp{w:World}{lo:Nat}{kv:Value}{ks:List Int}(h:E.Own w lo 3 1 kv ks.length (Af ks)):C7 w kv ks:=by
 obtain⟨hl,⟨h1,h2⟩ | ⟨g,cap,sp,rfl,hB,a1,a2,a3⟩⟩:=h
 ·exact .inl ⟨h1,Abt h2⟩
 ·exact .inr ⟨g,cap,sp,rfl,hB⟩
theorem Zf{w:World}{lo:Nat}{kv:Value}{ks:List Int}{a:Nat}(h:E.Own w lo 3 1 kv (ks.length+1) (Af ks++[.int .i64 (a:Int)])):E.Own w lo 3 1 kv (ks++[(a:Int)]).length (Af (ks++[(a:Int)])):=by
 simpa[Af] using h
theorem Own.type{w:World}{lo e size n:Nat}{v:Value}{xs:List Value}(h:E.Own w lo e size v n xs){b:Nat}(hb:b∈Ac v){l:List Value}{T:TypeId}(k:Blk w b l T):T=e:=by
 obtain⟨hl,⟨rfl,_⟩ | ⟨g,cap,sp,rfl,hB,a1,a2,a3⟩⟩:=h
 ·simp[Ac] at hb
 ·simp[Ac] at hb;subst hb;exact k.inj hB
theorem Rd.grow{c:Du}{X X':List Nat}{w:World}{s:Ch}(h:Rd c X w s)(hX:∀b∈X',b∈X∨w.heap.size≤b):Rd c X' w s:=by
 obtain⟨h0,h1,h2,h3,outv,nvs,hB,ho,hm,hk⟩:=h;refine⟨h0,h1,h2,h3,outv,nvs,hB,ho,hm,λy hy=>⟨(hk y hy).1,λb hb a0=>?_⟩⟩;rcases hX b a0 with hx | hx
 ·exact(hk y hy).2 b hb hx
 ·rcases(hk y hy).1 with ⟨e,_⟩ | ⟨g,cap,sp,e,hg⟩
  ·rw[e] at hb;simp[Ac] at hb
  ·rw[e] at hb;simp[Ac] at hb;have:=hg.lt;omega
theorem Rd.other{c:Du}{X S:List Nat}{w w':World}{s:Ch}(h:Rd c X w s)(k:Chg S w w')(hS:∀b∈S,c.w0.heap.size≤b∧b∈X∧∀l T,Blk w b l T→T=3):Rd c X w' s:=by
 obtain⟨h0,h1,h2,h3,outv,nvs,hB,ho,hm,hk⟩:=h;refine⟨h0.step k (λb hb=>(hS b hb).1),h1,h2,h3,outv,nvs,hB.chg k (λhb=>absurd ((hS _ hb).2.2 _ _ hB) AdH),ho.chg k (λb hb a0=>?_),hm,λy hy=>⟨?_,(hk y hy).2⟩⟩
 ·obtain⟨_,⟨e,_⟩ | ⟨g,cap,sp,e,hg,_⟩⟩:=ho
  ·rw[e] at hb;simp[Ac] at hb
  ·rw[e] at hb;simp[Ac] at hb;subst hb;exact absurd ((hS _ a0).2.2 _ _ hg) AdH
 ·rcases(hk y hy).1 with e | ⟨g,cap,sp,e,hg⟩
  ·exact .inl e
  ·exact .inr ⟨g,cap,sp,e,hg.chg k (λhb=>(hk y hy).2 g (by rw[e];simp[Ac]) (hS _ hb).2.1)⟩
theorem VZ{c:Du}(hc:c.Ok)(s:Ch)(hk:(Ad c.T s).kind=3)(hE:∀s',s.at_<s'.at_→PC c 152 (.lev 0) s')(w:World)(X:List Nat)(hX:∀b∈X,b<w.heap.size)(h:Rd c X w (Ax s))(hs:s.out.length≤s.at_) :
  Fz prog 314 [.pointer (some ⟨c.rb,0,none⟩),Ao (Ad c.T s).text] w (POk c X .prim s w) (ZL c .prim s):=by
 have b3:=hc.len;have bg:=h.1.size;refine Fz.enter func314 rfl ntmps314 AdF rfl ?_;refine Sa ?_;refine A8 (λh1=>?_) λh1=>?_
 ·have h1:(Ad c.T s).text=DR:=of_decide_eq_true h1;refine Sa ?_;refine LW.call0 (vs:=[.pointer (some ⟨c.rb,0,none⟩),.agg ⟨Df ⟨{kind:=3,num:=1},.slice none 0 0⟩⟩]) rfl rfl (EM hc h {kind:=3,num:=1} rfl (by show s.out.length+1≤s.at_+1;omega)) ?_;rintro v w1 ⟨rfl,hr,hf⟩;refine Sa ?_;exact QW.bodyP1 rfl rfl ⟨_,_,rfl,.pr_true hk h1,hr,hf,by show s.at_<s.at_+1;omega,rfl,by simp[BS,Ax];omega⟩
 have h1:(Ad c.T s).text≠DR:=of_decide_eq_false h1;refine Sa ?_;refine A8 (λh2=>?_) λh2=>?_
 ·have h2:(Ad c.T s).text=Dm:=of_decide_eq_true h2;refine Sa ?_;refine LW.call0 (vs:=[.pointer (some ⟨c.rb,0,none⟩),.agg ⟨Df ⟨{kind:=3},.slice none 0 0⟩⟩]) rfl rfl (EM hc h {kind:=3} rfl (by show s.out.length+1≤s.at_+1;omega)) ?_;rintro v w1 ⟨rfl,hr,hf⟩;refine Sa ?_;exact QW.bodyP1 rfl rfl ⟨_,_,rfl,.pr_false hk h2,hr,hf,by show s.at_<s.at_+1;omega,rfl,by simp[BS,Ax];omega⟩
 have h2:(Ad c.T s).text≠Dm:=of_decide_eq_false h2;refine Sa ?_;refine LW.callP0 rfl rfl (MY hc h [40]) ?_ ?_
 ·rintro v w1 ⟨ax,⟨rfl,hi,hd⟩ | ⟨rfl,hn⟩⟩
  ·(repeat (first | apply QW.then_panic | apply QW.blk_panic))
   exact QW.panicP ⟨6,rfl,.pr_calldeep hk h1 h2 hi hd,ax⟩
  ·(repeat (first | apply QW.then_panic | apply QW.blk_panic))
   exact QW.panicP ⟨5,rfl,.pr_nocall hk h1 h2 hn,ax⟩
 rintro v w1 ⟨rfl,hi,hd,hr,hf⟩;have hd:s.deep<12:=hd;refine Sa ?_;refine Ay rfl rfl (Mc hc hr [41]) ?_;rintro v w2 ⟨rfl,ad,ay⟩;replace hf:=hf.trans ay;refine Sa ?_;refine A8 (λh3=>?_) λh3=>?_;rotate_left
 ·have h3:Cu c.T (Az (Ax (Ax s))) [41]=true:=by simpa using h3
  rw[LQ,if_pos h3] at ad;obtain⟨a0,a1,a2,a3,outv,nvs,hB,ho,hm,a7⟩:=ad;have ai:=hB;refine Sa ?_;refine CR λw3 b4 hB=>?_;have e3:((Ax (Az (Ax (Ax s)))).deep:Int) - 1=((s.deep:Nat):Int):=by show((s.deep+1:Nat):Int) - 1=_;omega
  replace hB:Blk w3 c.rb [c.tokv,.int .i64 (Ax (Az (Ax (Ax s)))).at_,outv,.int .i64 (((Ax (Az (Ax (Ax s)))).deep:Int) - 1)] 212:=hB;rw[e3] at hB;obtain⟨a8,ag⟩:=Rd.set hc (s:=Ax (Az (Ax (Ax s)))) (s':=CE (Ax (Az (Ax (Ax s))))) a0 ho hm a7 ai b4 hB rfl a1 (by show s.deep+1 - 1≤12;omega) a3;refine Sa ?_;refine LW.call0 (vs:=[.pointer (some ⟨c.rb,0,none⟩),.agg ⟨Df ⟨{kind:=7,text:=(Ad c.T s).text},.slice none 0 0⟩⟩]) rfl rfl (EM hc a8 {kind:=7,text:=(Ad c.T s).text} rfl (by show s.out.length+1≤s.at_+1+1+1;omega)) ?_;rintro v w4 ⟨rfl,b5,b6⟩;refine Sa ?_;exact QW.bodyP1 rfl rfl ⟨_,_,rfl,.pr_call0 hk h1 h2 hi hd h3,b5,(hf.trans ag).trans b6,by show s.at_<s.at_+1+1+1;omega,rfl,by show s.at_+(s.out++[_]).length≤s.at_+1+1+1+s.out.length;simp;omega⟩
 have h3:Cu c.T (Az (Ax (Ax s))) [41]=false:=by simpa using h3
 rw[LQ,h3,if_neg AdM] at ad;refine Sa ?_;refine LW.callP0 rfl rfl (hE (Az (Ax (Ax s))) (by show s.at_<s.at_+1+1;omega) w2 X (λb hb=>Abv (hX b hb) hf.size) ad) ?_ ?_
 ·rintro v w3 ⟨e,rfl,hp,b7⟩
  (repeat (first | apply QW.then_panic | apply QW.blk_panic))
  exact QW.panicP ⟨e,rfl,.pr_call hk h1 h2 hi hd h3 (.ar_err hp),b7⟩
 rintro v w3 ⟨t,a,rfl,hp,a8,ag,g1,g2,g3⟩;have g1:s.at_+1+1<t.at_:=g1;have g2:t.deep=s.deep+1:=g2;have g3:s.at_+1+1+t.out.length≤t.at_+s.out.length:=g3;replace hf:=hf.trans ag;refine Sa ?_;refine Dt λA w4 az aj hA=>?_;replace hA:Blk w4 A [.int .i64 (a:Int)] 3:=hA;replace a8:=a8.ext aj;replace hf:=hf.trans (.ext aj);have b8:=hf.size;refine Sa ?_;refine LW.append rfl rfl rfl rfl rfl rfl (Own.nil w4 c.w0.heap.size 3 1) AdE hA rfl rfl rfl AdH rfl ?_;intro kv w5 ak b0 a6;replace a8:=(a8.grow (X':=Ac kv++X) (λb hb=>by
  rw[Abf] at hb;rcases hb with hb | hb
  ·rcases a6 b hb with hh | hh
   ·simp[Ac] at hh
   ·exact .inr hh
  ·exact .inl hb)).ext ak
 replace hf:=hf.trans (.ext ak);have b9:=hf.size;refine Sa ?_;refine CW.loop (ι:=Ch×List Int×Value) (λk w'=>s.at_+1+1<k.1.at_∧k.1.deep=s.deep+1∧s.at_+1+1+k.1.out.length≤k.1.at_+s.out.length∧k.2.1.length≤k.1.at_∧Rd c (Ac k.2.2++X) w' k.1∧Fr w w'∧E.Own w' c.w0.heap.size 3 1 k.2.2 k.2.1.length (Af k.2.1)∧(∀b∈Ac k.2.2,w.heap.size≤b)∧
   ∃u ks0 a,k.2.1=ks0++[((a:Nat):Int)]∧PE c.T (.lev 0) u (.ok k.1 a)∧∀r,PE c.T (.args (Ad c.T s).text ks0) u r→PE c.T .prim s r) (λk=>[(0,.pointer (some ⟨c.rb,0,none⟩)),(1,Ao (Ad c.T s).text),(5,k.2.2)]) (λk=>c.T.length - k.1.at_) (t,[(a:Int)],kv)
  ⟨g1,g2,g3,by simp;omega,a8,hf,b0,λb hb=>by
   rcases a6 b hb with hh | hh
   ·simp[Ac] at hh
   ·omega,_,[],a,rfl,hp,λr hr=>.pr_call hk h1 h2 hi hd h3 hr⟩ CF ?_
 clear a8 hp g1 g2 g3 hf b0 a6 ak hA aj az b8 b9 ag ad hr ay;rintro⟨t,ks,kv⟩ w6 ⟨g1,g2,g3,g4,hr,hf,ho,a4,u,ks0,a,al,hp,a5⟩;simp only at g1 g2 g3 g4 hr ho a4 al hp;show CW _ _ _ _ _ [(0,.pointer (some ⟨c.rb,0,none⟩)),(1,Ao (Ad c.T s).text),(5,kv)] _;have bh:=hr.len;have bi:=hf.size;refine Sa ?_;refine Ay rfl rfl (Mc hc hr [44]) ?_;rintro v w7 ⟨rfl,ah,b1⟩;have am:=Own.fr ho b1 AdH AdH;replace hf:=hf.trans b1;have ba:=hf.size;refine Sa ?_;refine A8 (λh4=>?_) λh4=>?_
 ·have h4:Cu c.T t [44]=true:=h4;rw[LQ,if_pos h4] at ah;refine Sa ?_;refine LW.callP0 rfl rfl (hE (Ax t) (by show s.at_<t.at_+1;omega) w7 (Ac kv++X) (λb hb=>by
   rw[Abf] at hb;rcases hb with hb | hb
   ·exact(am.lt hb).2
   ·exact Abv (hX b hb) ba) ah) ?_ ?_
  ·rintro v w8 ⟨e,rfl,an,ao⟩
   (repeat (first | apply QW.then_panic | apply QW.blk_panic))
   exact QW.panicP ⟨e,rfl,a5 _ (.ar_go hp h4 (.ar_err an)),ao⟩
  rintro v w8 ⟨t',a',rfl,an,ae,af,k1,k2,k3⟩;have k1:t.at_+1<t'.at_:=k1;have k2:t'.deep=t.deep:=k2;have k3:t.at_+1+t'.out.length≤t'.at_+t.out.length:=k3;have ap:=Own.fr am af AdH AdH;replace hf:=hf.trans af;refine Sa ?_;refine Dt λA w9 az aq hA=>?_;replace hA:Blk w9 A [.int .i64 (a':Int)] 3:=hA;replace ae:=ae.ext aq;replace hf:=hf.trans (.ext aq);have ac:=ap.ext aq;have bb:=hf.size;refine Sa ?_;refine LW.append rfl rfl rfl rfl rfl rfl ac AdE hA rfl rfl rfl (by show(ks.length+1)*9≤140737488355328;omega) rfl ?_;intro kv' ar a9 au a6;have aa:Rd c (Ac kv'++X) ar t':=by
   have h5:=ae.grow (X':=Ac kv++(Ac kv'++X)) (λb hb=>by
    simp only[Abf] at hb ⊢;rcases hb with hb | hb | hb
    ·exact .inl (.inl hb)
    ·rcases a6 b hb with hh | hh
     ·exact .inl (.inl hh)
     ·exact .inr hh
    ·exact .inl (.inr hb))
   have h6:=h5.other a9 (λb hb=>⟨(ac.lt hb).1,AbR _ hb,λl T k=>Own.type ac hb k⟩);exact h6.grow (λb hb=>.inl (AbN _ hb))
  have ab:Fr w ar:=⟨Abr bb a9.size,λb l T hb n1 n2=>(hf.blk b l T hb n1 n2).chg a9 (λhm=>by
   have:=a4 b hm;have:=hb.lt;omega)⟩
  refine Sa ?_;refine QW.again (t',ks++[(a':Int)],kv') ⟨by show s.at_+1+1<t'.at_;omega,k2.trans g2,by show s.at_+1+1+t'.out.length≤t'.at_+s.out.length;omega,by show(ks++[_]).length≤t'.at_;simp;omega,aa,ab,Zf au,λb hb=>?_,Ax t,ks,a',rfl,an,λr hr=>a5 r (.ar_go hp h4 (by rw[←al];exact hr))⟩ CF (by show c.T.length - t'.at_<c.T.length - t.at_;omega);rcases a6 b hb with hh | hh
  ·exact a4 b hh
  ·omega
 have h4:Cu c.T t [44]=false:=h4;rw[LQ,h4,if_neg AdM] at ah;refine Sa ?_;refine LW.callP0 rfl rfl (HU hc ah [41]) ?_ ?_
 ·rintro v w8 ⟨rfl,hn,ao⟩
  (repeat (first | apply QW.then_panic | apply QW.blk_panic))
  exact QW.panicP ⟨5,rfl,a5 _ (.ar_open hp h4 hn),ao⟩
 rintro v w8 ⟨rfl,h5,ae,af⟩;have ap:=Own.fr am af AdH AdH;replace hf:=hf.trans af;obtain⟨a0,a1,a2,a3,outv,nvs,hB,bc,hm,a7⟩:=ae;have ai:=hB;refine Sa ?_;refine CR λw9 bd hB=>?_;have e9:(t.deep:Int) - 1=((s.deep:Nat):Int):=AdE
 replace hB:Blk w9 c.rb [c.tokv,.int .i64 (Ax t).at_,outv,.int .i64 ((t.deep:Int) - 1)] 212:=hB;rw[e9] at hB;have av:(CE (Ax t)).deep=s.deep:=by show t.deep - 1=s.deep;omega
 rw[←av] at hB;obtain⟨be,b2⟩:=Rd.set hc (s:=Ax t) (s':=CE (Ax t)) a0 bc hm a7 ai bd hB rfl a1 (by rw[av];omega) a3;have ac:=Own.fr ap b2 AdH AdH;replace hf:=hf.trans b2;have aw:Rd c X w9 (CE (Ax t)):=be.grow (λb hb=>.inl (AbN _ hb));obtain⟨kp,kq,rfl⟩:=ac.slice;refine Sa ?_;refine LW.call0 (vs:=[.pointer (some ⟨c.rb,0,none⟩),.agg ⟨Df ⟨{kind:=7,text:=(Ad c.T s).text,kids:=ks},.slice kp ks.length kq⟩⟩]) rfl rfl (Md hc aw ⟨{kind:=7,text:=(Ad c.T s).text,kids:=ks},.slice kp ks.length kq⟩ (Rp ac) (λb hb bf=>by
  have:=a4 b hb;have:=hX b bf;omega) (by show t.out.length+1≤t.at_+1;omega)) ?_
 rintro v ar ⟨rfl,aa,ab⟩;refine Sa ?_;refine QW.bodyP1 rfl rfl ⟨BS (CE (Ax t)) {kind:=7,text:=(Ad c.T s).text,kids:=ks},t.out.length,rfl,a5 _ ?_,aa,hf.trans ab,by show s.at_<t.at_+1;omega,av,by show s.at_+(t.out++[_]).length≤t.at_+1+s.out.length;simp;omega⟩;rw[al];exact .ar_end hp h4 h5
theorem W4{c:Du}(hc:c.Ok){s:Ch}(h:s.at_<c.T.length):0≤(Ad c.T s).kind∧(Ad c.T s).kind≤6:=by
 have:Ad c.T s=c.T[s.at_]:=by simp[Ad,Aap h]
 rw[this];exact hc.kinds _ (AbL h)
theorem XR{c:Du}(hc:c.Ok)(s:Ch)(hE:∀s',s.at_<s'.at_→PC c 152 (.lev 0) s'):PC c 303 .prim s:=by
 intro w X hX h;have ah:=hc.len;have aa:=W4 hc h.2.1;refine Fz.enter func303 rfl ntmps303 AdF rfl ?_;refine Sa ?_;refine Ay rfl rfl (GY hc h) ?_;rintro v w1 ⟨rfl,ab⟩;replace h:=h.ext ab;refine Sa ?_;refine Bo λC w2 av ae hC=>?_;refine Sa ?_;refine AD λw3 af hC=>?_;replace hC:Blk w3 C (DA (Ad c.T s)) 203:=hC;have ag:Ai w w3:=(ab.trans ae).step af (by simp;have:=ab.size;omega);have ac:Ai w1 w3:=ae.step af AdG;replace h:=h.ext ac;replace hX:∀b∈X,b<w3.heap.size:=λb hb=>Abv (hX b hb) ag.size;have hf:=Fr.ext ag;have hl:=h.len;refine Sa ?_;refine A8 (λh5=>?_) λh5=>?_
 ·have h5:(Ad c.T s).kind=5:=by simpa using h5
  refine Sa ?_;refine LW.callP0 rfl rfl (MY hc h [40]) ?_ ?_
  ·rintro v w4 ⟨a7,⟨rfl,hi,hd⟩ | ⟨rfl,hn⟩⟩
   ·(repeat (first | apply QW.then_panic | apply QW.blk_panic))
    exact QW.panicP ⟨6,rfl,.pr_deep hi hd,a7⟩
   ·(repeat (first | apply QW.then_panic | apply QW.blk_panic))
    exact QW.panicP ⟨5,rfl,.pr_sign h5 (by simpa[Cu,h5] using hn),a7⟩
  rintro v w4 ⟨rfl,hi,hd,hr,a6⟩;replace hf:=hf.trans a6;refine Sa ?_;refine LW.callP0 rfl rfl (hE (Az (Ax s)) (by show s.at_<s.at_+1;omega) w4 X (λb hb=>Abv (hX b hb) a6.size) hr) ?_ ?_
  ·rintro v w5 ⟨e,rfl,hp,ad⟩
   (repeat (first | apply QW.then_panic | apply QW.blk_panic))
   exact QW.panicP ⟨e,rfl,.pr_err hi hd hp,ad⟩
  rintro v w5 ⟨s1,a,rfl,hp,ai,a5,g1,g2,g3⟩;have g1':s.at_+1<s1.at_:=g1;have g2':s1.deep=s.deep+1:=g2;have g3':s.at_+1+s1.out.length≤s1.at_+s.out.length:=g3;replace hf:=hf.trans a5;refine Sa ?_;refine LW.callP0 rfl rfl (HU hc ai [41]) ?_ ?_
  ·rintro v w6 ⟨rfl,hn,aj⟩
   (repeat (first | apply QW.then_panic | apply QW.blk_panic))
   exact QW.panicP ⟨5,rfl,.pr_open hi hd hp hn,aj⟩
  rintro v w6 ⟨rfl,h6,ak,al⟩;replace hf:=hf.trans al;obtain⟨a0,a1,a2,a3,outv,nvs,hB,ho,hm,a4⟩:=ak;have a8:=hB;refine Sa ?_;refine CR λw7 am hB=>?_;replace hB:Blk w7 c.rb [c.tokv,.int .i64 (Ax s1).at_,outv,.int .i64 ((s1.deep:Int) - 1)] 212:=hB;have e7:(s1.deep:Int) - 1=(((CE (Ax s1)).deep:Nat):Int):=by show(s1.deep:Int) - 1=((s1.deep - 1:Nat):Int);omega
  rw[e7] at hB;obtain⟨an,ao⟩:=Rd.set hc (s:=Ax s1) (s':=CE (Ax s1)) a0 ho hm a4 a8 am hB rfl a1 (by show s1.deep - 1≤12;omega) a3;refine Sa ?_;exact QW.bodyP1 rfl rfl ⟨CE (Ax s1),a,rfl,.pr_ok hi hd hp h6,an,hf.trans ao,by show s.at_<s1.at_+1;omega,by show s1.deep - 1=s.deep;omega,by show s.at_+s1.out.length≤s1.at_+1+s.out.length;omega⟩
 have h5:(Ad c.T s).kind≠5:=by simpa using h5
 refine Sa ?_;refine A8 (λh0=>?_) λh0=>?_
 ·have h0:(Ad c.T s).kind=0:=by simpa using h0
  refine Sa ?_;refine LW.callP0 rfl rfl (Gx c.rb 5 w3) ?_ (λ_ _ hh=>hh.elim);rintro v w4 ⟨rfl,a7⟩
  (repeat (first | apply QW.then_panic | apply QW.blk_panic))
  exact QW.panicP ⟨5,rfl,.pr_end h0,h.1.trans a7⟩
 have h0:(Ad c.T s).kind≠0:=by simpa using h0
 obtain⟨a0,a1,a2,a3,outv,nvs,hB,ho,hm,a4⟩:=h;have ap:=Me hc a1 h0;have a8:=hB;refine Sa ?_;refine CR λw4 aq hB=>?_;replace hB:Blk w4 c.rb [c.tokv,.int .i64 (Ax s).at_,outv,.int .i64 s.deep] 212:=hB;obtain⟨h,a6⟩:=Rd.set hc (s:=s) (s':=Ax s) a0 ho hm a4 a8 aq hB rfl ap a2 (by show s.out.length≤s.at_+1;omega);clear a8 hB ho hm a4;replace hf:=hf.trans a6;replace hC:=a6.blk _ _ _ hC AdH AdH;replace hX:∀b∈X,b<w4.heap.size:=λb hb=>Abv (hX b hb) a6.size;have a9:(Ax s).out.length+1≤(Ax s).at_:=by show s.out.length+1≤s.at_+1;omega
 have q1:s.at_<s.at_+1:=AdE
 have q3:∀n:Ah,s.at_+(s.out++[n]).length≤s.at_+1+s.out.length:=λn=>by simp;omega
 refine Sa ?_;refine A8 (λh1=>?_) λh1=>?_
 ·have h1:(Ad c.T s).kind=1:=by simpa using h1
  refine Sa ?_;refine LW.call0 (vs:=[.pointer (some ⟨c.rb,0,none⟩),.agg ⟨Df ⟨{kind:=1,num:=(Ad c.T s).num},.slice none 0 0⟩⟩]) rfl rfl (EM hc h {kind:=1,num:=(Ad c.T s).num} rfl a9) ?_;rintro v w5 ⟨rfl,hr,a5⟩;refine Sa ?_;exact QW.bodyP1 rfl rfl ⟨_,_,rfl,.pr_num h1,hr,hf.trans a5,q1,rfl,q3 _⟩
 have h1:(Ad c.T s).kind≠1:=by simpa using h1
 refine Sa ?_;refine A8 (λh2=>?_) λh2=>?_
 ·have h2:(Ad c.T s).kind=2:=by simpa using h2
  refine Sa ?_;refine LW.call0 (vs:=[.pointer (some ⟨c.rb,0,none⟩),.agg ⟨Df ⟨{kind:=2,text:=(Ad c.T s).text},.slice none 0 0⟩⟩]) rfl rfl (EM hc h {kind:=2,text:=(Ad c.T s).text} rfl a9) ?_;rintro v w5 ⟨rfl,hr,a5⟩;refine Sa ?_;exact QW.bodyP1 rfl rfl ⟨_,_,rfl,.pr_text h2,hr,hf.trans a5,q1,rfl,q3 _⟩
 have h2:(Ad c.T s).kind≠2:=by simpa using h2
 refine Sa ?_;refine A8 (λh6=>?_) λh6=>?_
 ·have h6:(Ad c.T s).kind=6:=by simpa using h6
  refine Sa ?_;refine LW.call0 (vs:=[.pointer (some ⟨c.rb,0,none⟩),.agg ⟨Df ⟨{kind:=4},.slice none 0 0⟩⟩]) rfl rfl (EM hc h {kind:=4} rfl a9) ?_;rintro v w5 ⟨rfl,hr,a5⟩;refine Sa ?_;exact QW.bodyP1 rfl rfl ⟨_,_,rfl,.pr_dead h6,hr,hf.trans a5,q1,rfl,q3 _⟩
 have h6:(Ad c.T s).kind≠6:=by simpa using h6
 refine Sa ?_;refine A8 (λh4=>?_) λh4=>?_
 ·have h4:(Ad c.T s).kind=4:=by simpa using h4
  refine Sa ?_;refine LW.load_agg (cs:=Dc (Ad c.T s).ref) rfl hC rfl rfl rfl ⟨rfl,rfl,rfl,rfl,rfl,trivial⟩ rfl ?_;refine Sa ?_;refine LW.callP0 rfl rfl (Zk hc (Ax s) (Ad c.T s).ref w4 h a9) ?_ ?_
  ·rintro v w5 ⟨rfl,ad,hi,hn⟩
   (repeat (first | apply QW.then_panic | apply QW.blk_panic))
   exact QW.panicP ⟨5,rfl,.pr_norange h4 hi hn,ad⟩
  rintro v w5 ⟨rfl,a5,⟨hi,hr⟩ | ⟨hi,ar,au,hr⟩⟩
  ·refine Sa ?_;exact QW.bodyP1 rfl rfl ⟨_,_,rfl,.pr_ref h4 hi,hr,hf.trans a5,q1,rfl,q3 _⟩
  ·refine Sa ?_;exact QW.bodyP1 rfl rfl ⟨_,_,rfl,.pr_range h4 hi ar au,hr,hf.trans a5,by show s.at_<s.at_+1+1+1;omega,rfl,by show s.at_+(s.out++[_]).length≤s.at_+1+1+1+s.out.length;simp;omega⟩
 have h4:(Ad c.T s).kind≠4:=by simpa using h4
 have h3:(Ad c.T s).kind=3:=AdE
 refine Sa ?_;refine LW.callP0 rfl rfl (VZ hc s h3 hE w4 X hX h a3) ?_ ?_
 ·rintro v w5 hp
  (repeat (first | apply QW.then_panic | apply QW.blk_panic))
  exact QW.panicP hp
 rintro v w5 ⟨s',p,rfl,hp,hr,a5,k1,k2,k3⟩;refine Sa ?_;exact QW.bodyP1 rfl rfl ⟨s',p,rfl,hp,hr,hf.trans a5,k1,k2,k3⟩
theorem UA{c:Du}(hc:c.Ok):∀(m:Nat) (s:Ch),c.T.length - s.at_≤m→
  PC c 152 (.lev 0) s∧PC c 197 (.lev 1) s∧PC c 237 (.lev 2) s∧PC c 272 (.lev 3) s∧PC c 290 .unary s∧PC c 303 .prim s
 | 0,s,hm=>by
  have key:∀f m,PC c f m s:=λf m w X hX h=>absurd h.2.1 AdE
  exact⟨key _ _,key _ _,key _ _,key _ _,key _ _,key _ _⟩
 | m+1,s,hm=>by
  by_cases hs:s.at_<c.T.length
  ·have ih:=λ(s':Ch) (h:s.at_<s'.at_)=>UA hc m s' AdE;have hp:=XR hc s (λs' h=>(ih s' h).1);have hu:=W6 hc s hp (λs' h=>(ih s' h).2.2.2.2.1);have ht:=Yu hc s hu (λs' h _=>(ih s' h).2.2.2.2.1);have hsu:=Zq hc s ht (λs' h _=>(ih s' h).2.2.2.1);have hca:=YD hc s hsu (λs' h _=>(ih s' h).2.2.1);exact⟨Xb hc s hca (λs' h _=>(ih s' h).2.1),hca,hsu,ht,hu,hp⟩
  ·have key:∀f m,PC c f m s:=λf m w X hX h=>absurd h.2.1 hs;exact⟨key _ _,key _ _,key _ _,key _ _,key _ _,key _ _⟩
theorem VJ{l:List UInt8}{t:Ap}{k:Nat}(h:Dp l=some (t,k)):1≤t.kind∧t.kind≤6:=by
 unfold Dp at h
 split at h
 ·rw[(MW h).2];decide
 ·split at h
  ·unfold GF at h
   cases e:AP (l.drop 1) with
   | none=>rw[e] at h;cases h
   | some x=>
    rw[e] at h;simp only[Ab3,Aar,Abz] at h;rw[←h.1];simp
  ·split at h
   ·unfold Ip at h;simp only at h
    split at h
    ·simp only[Aar,Abz] at h;rw[←h.1];simp
    ·split at h
     ·simp only[Aar,Abz] at h;rw[←h.1];simp
     ·cases h
   ·unfold H9 at h
    split at h
    ·simp only[Aar,Abz] at h;rw[←h.1];simp
    ·cases e:Bk.find? λs=>Lib.hasPrefix l s with
     | none=>rw[e] at h;cases h
     | some x=>
      rw[e] at h;simp only[Ab3,Aar,Abz] at h;rw[←h.1];simp
theorem MJ:∀(n:Nat) (l:List UInt8) (a:Nat) {out:List Ap},l.length≤n→Gh l a=some out→
  out≠[]∧(∀t∈out,0≤t.kind∧t.kind≤6)∧∀i,i<out.length→(out.getD i Yw).kind≠0→i+1<out.length
 | n,l,a,out,hn,h=>by
  cases e:l.drop (As JA l).length with
  | nil=>
   rw[G2 e] at h;simp only[Aar] at h;subst h;refine⟨by simp,by simp,λi hi hk=>?_⟩;simp at hi;subst hi
   simp at hk
  | cons c r=>
   have hl:=congrArg List.length e;simp at hl
   cases ho:Dp (c::r) with
   | none=>rw[HR e AdM ho] at h;cases h
   | some x=>
    obtain⟨t,k⟩:=x;have hk:=G6 AdM ho;have hkind:=VJ ho;rw[I5 e AdM ho hk] at h
    cases hr:Gh ((c::r).drop k) (a+(As JA l).length+k) with
    | none=>rw[hr] at h;cases h
    | some y=>
     rw[hr] at h;simp only[Ab3,Aar] at h;subst h
     match n with
     | 0=>omega
     | n+1=>
      have hd:((c::r).drop k).length=r.length+1 - k:=AdM
      obtain⟨y0,y1,y2⟩:=MJ n ((c::r).drop k) _ AeA hr;refine⟨by simp,λt' ht'=>?_,λi hi a0=>?_⟩
      ·simp only[AaT] at ht';rcases ht' with rfl | ht'
       ·exact⟨by show 0≤t.kind;omega,hkind.2⟩
       ·exact y1 t' ht'
      ·have a1:=Ab8.2 y0
       cases i with
       | zero=>simp;omega
       | succ i=>
        have:=y2 i Aep (by simpa using a0)
        simpa using this
theorem Lx(L E:Nat)(e:Int)(x y:Value)(w:World)(hL:Blk w L [x] 141)(hE:Blk w E [y] 28) :
  CallsD prog 151 ⟨[.pointer (some ⟨L,0,none⟩),.pointer (some ⟨E,0,none⟩)]⟩ (.panicking [{v:=pv e,recovered:=false}]) w
   (λr u w'=>r=.returned (.tuple #[])∧u=.panicking [{v:=pv e,recovered:=true}]∧Blk w' L [.slice none 0 0] 141∧Blk w' E [.int .i64 e] 28∧Chg [L,E] w w'):=by
 have a0:L≠E:=λh=>by subst h;exact absurd (hL.inj hE) AdH
 refine Ji (u':=.panicking [{v:=pv e,recovered:=true}]) (v:=pv e) func151 rfl ntmps151 rfl rfl rfl (λc₀ cs hu=>by simp[recoverD,hu]) (λc₀ cs=>?_);refine Sa ?_;refine LW.typeAssert rfl rfl rfl rfl ?_;refine Sa ?_;refine CR λw1 a1 hL=>?_;replace hE:=hE.chg a1 (by simpa using a0.symm);refine Sa ?_;refine CR λw2 a2 hE=>?_;replace hL:=hL.chg a2 (by simpa using a0);refine Sa ?_;exact QW.bodyS results151 ⟨rfl,rfl,hL,hE,(Chg.trans a1 a2).mono AdM⟩
theorem SE(L E:Nat)(w:World) :
  CallsD prog 151 ⟨[.pointer (some ⟨L,0,none⟩),.pointer (some ⟨E,0,none⟩)]⟩ .returning w (λr u w'=>r=.returned (.tuple #[])∧u=.returning∧w'=w):=by
 refine Ji (u':=.returning) (v:=.nilIface) func151 rfl ntmps151 rfl rfl rfl (λc₀ cs hu=>by
  have:recoverD (c₀::cs)=none:=by simp[recoverD,hu]
  rw[this];cases c₀;simp_all) (λc₀ cs=>?_)
 refine Sa ?_;exact QW.bodyS results151 ⟨rfl,rfl,rfl⟩
def NZ(w:World)(lo:Nat)(sv:Value)(l:List Ah):Prop:=
 ∃nvs:List NV,E.Own w lo 189 14 sv nvs.length (nvs.flatMap Df)∧nvs.map NV.node=l∧∀x∈nvs,C7 w x.kv x.node.kids
abbrev Aaz(w:World)(lo:Nat)(v:Value)(o:Except Int (List Ah)):Prop:=match o with
 | .error e=>v=.tuple #[.slice none 0 0,.int .i64 e]
 | .ok l=>∃sv,v=.tuple #[sv,.int .i64 0]∧NZ w lo sv l
def DU(s:List UInt8)(v:Value)(w:World)(lo:Nat):Prop:=
 if 300<s.length then v=.tuple #[.slice none 0 0,.int .i64 4]
 else match Jq s with
  | none=>v=.tuple #[.slice none 0 0,.int .i64 5]
  | some T=>∃o,DF T o∧Aaz w lo v o
theorem Oa(s:List UInt8)(hs:s.length≤9223372036854775807)(w:World)(g:CQ w):AF prog 98 [Ao s] w (λv w'=>DU s v w' w.heap.size∧Ai w w'):=by
 have ar:Cx prog 151=true:=by kernel_rfl
 refine AF.enterD func98 rfl ntmps98 AdF rfl ?_;refine Sa ?_;refine Bo λL w1 bc ad hL=>?_;have bd:=hL.lt;refine Sa ?_;refine Bo λE w2 be b1 hE=>?_;replace hL:=hL.ext b1;have a7:L≠E:=AdE
 have ai:=ad.trans b1;refine Sa ?_;refine Ay rfl rfl (Y9 s hs w2 (g.ext ai)) ?_;rintro v w3 ⟨hv,au⟩;replace hL:=hL.ext au;replace hE:=hE.ext au;have ae:=ai.trans au;by_cases a4:300<s.length
 ·rw[St,if_pos a4] at hv;subst hv;have aj:∀w',DU s (.tuple #[.slice none 0 0,.int .i64 4]) w' w.heap.size:=λw'=>by rw[DU,if_pos a4]
  refine Sa ?_;refine CR λw4 af hE=>?_;replace hL:=hL.chg af Aek;have ab:Ai w w4:=ae.step af Aef;refine Sa ?_;refine CW.drawAny AdF λw5 a8=>?_;replace hL:=hL.ext a8;replace hE:=hE.ext a8;refine AW.two 0 1 AdF rfl rfl rfl rfl ?_ ?_
  ·refine Sa ?_;apply QW.any;refine AW.one 1 AdF rfl rfl ?_;refine CR λw6 a9 hL=>?_;replace hE:=hE.chg a9 Aex;apply LW.nil;apply QW.any;refine AW.one 2 AdF rfl rfl ?_;refine CR λw7 aa hE=>?_;replace hL:=hL.chg aa Aek;have ac:Ai w w7:=((ab.trans a8).step a9 AdG).step aa Aef;apply LW.nil;apply QW.any;refine AW.done AdF ?_;refine Sa ?_;refine QW.bodyD0 (rs:=[.cell 2 141,.cell 3 28]) (vs:=[.slice none 0 0,_]) results98 ⟨⟨L,rfl,AX rfl rfl hL rfl⟩,⟨E,rfl,AX rfl rfl hE rfl⟩,trivial⟩ rfl ⟨aj w7,ac⟩
  ·refine CR λw6 a9 hL=>?_;replace hE:=hE.chg a9 Aex;apply LW.nil;apply QW.any;refine AW.one 0 AdF rfl rfl ?_;refine Sa ?_;apply QW.any;refine AW.one 2 AdF rfl rfl ?_;refine CR λw7 aa hE=>?_;replace hL:=hL.chg aa Aek;have ac:Ai w w7:=((ab.trans a8).step a9 AdG).step aa Aef;apply LW.nil;apply QW.any;refine AW.done AdF ?_;refine Sa ?_;refine QW.bodyD0 (rs:=[.cell 2 141,.cell 3 28]) (vs:=[.slice none 0 0,_]) results98 ⟨⟨L,rfl,AX rfl rfl hL rfl⟩,⟨E,rfl,AX rfl rfl hE rfl⟩,trivial⟩ rfl ⟨aj w7,ac⟩
 cases a5:Jq s with
 | none=>
  rw[St,if_neg a4,a5] at hv;subst hv;have aj:∀w',DU s (.tuple #[.slice none 0 0,.int .i64 5]) w' w.heap.size:=λw'=>by rw[DU,if_neg a4,a5]
  refine Sa ?_;refine CR λw4 af hE=>?_;replace hL:=hL.chg af Aek;have ab:Ai w w4:=ae.step af Aef;refine Sa ?_;refine CW.drawAny AdF λw5 a8=>?_;replace hL:=hL.ext a8;replace hE:=hE.ext a8;refine AW.two 0 1 AdF rfl rfl rfl rfl ?_ ?_
  ·refine Sa ?_;apply QW.any;refine AW.one 1 AdF rfl rfl ?_;refine CR λw6 a9 hL=>?_;replace hE:=hE.chg a9 Aex;apply LW.nil;apply QW.any;refine AW.one 2 AdF rfl rfl ?_;refine CR λw7 aa hE=>?_;replace hL:=hL.chg aa Aek;have ac:Ai w w7:=((ab.trans a8).step a9 AdG).step aa Aef;apply LW.nil;apply QW.any;refine AW.done AdF ?_;refine Sa ?_;refine QW.bodyD0 (rs:=[.cell 2 141,.cell 3 28]) (vs:=[.slice none 0 0,_]) results98 ⟨⟨L,rfl,AX rfl rfl hL rfl⟩,⟨E,rfl,AX rfl rfl hE rfl⟩,trivial⟩ rfl ⟨aj w7,ac⟩
  ·refine CR λw6 a9 hL=>?_;replace hE:=hE.chg a9 Aex;apply LW.nil;apply QW.any;refine AW.one 0 AdF rfl rfl ?_;refine Sa ?_;apply QW.any;refine AW.one 2 AdF rfl rfl ?_;refine CR λw7 aa hE=>?_;replace hL:=hL.chg aa Aek;have ac:Ai w w7:=((ab.trans a8).step a9 AdG).step aa Aef;apply LW.nil;apply QW.any;refine AW.done AdF ?_;refine Sa ?_
   refine QW.bodyD0 (rs:=[.cell 2 141,.cell 3 28]) (vs:=[.slice none 0 0,_]) results98 ⟨⟨L,rfl,AX rfl rfl hL rfl⟩,⟨E,rfl,AX rfl rfl hE rfl⟩,trivial⟩ rfl ⟨aj w7,ac⟩
 | some T=>
 rw[St,if_neg a4,a5] at hv;obtain⟨sv,rfl,av⟩:=hv;obtain⟨k0,k1,k2⟩:=MJ _ s 0 (Abi _) a5;have bf:=X0 a5;obtain⟨tb,tcap,tsp,rfl,hT,_⟩:=av.get (Ab8.2 k0);have bg:=ae.size;refine Sa ?_;refine CR λw4 af hE=>?_;have aw:tb≠E:=λh=>by subst h;exact absurd (hT.inj (by assumption:Blk w3 tb [_] 28)) AdH
 replace hL:=hL.chg af Aek;replace hT:=hT.chg af (by simpa using aw);have ab:Ai w w4:=ae.step af Aef;refine Sa ?_;refine LW.defer rfl rfl ?_;refine Sa ?_;have bh:=hL.lt;have bi:=hE.lt;have bj:w.heap.size≤L∧w.heap.size≤E:=by have:=ad.size;omega
 refine CM λR w5 bk a8 hR=>?_;obtain⟨c,ak⟩:∃c:Du,c=⟨T,tb,tcap,tsp,R,w4⟩:=⟨_,rfl⟩;have hc:c.Ok:=by
  subst ak;exact⟨hT,by show T.length≤301;omega,k2,k1,by show w4.heap.size≤R;omega⟩
 have ah:c.T=T:=by rw[ak]
 have an:c.rb=R:=by rw[ak]
 have ao:c.w0=w4:=by rw[ak]
 have b2:Rd c [] w5 ⟨0,[],0⟩:=by
  refine⟨by rw[ao];exact a8,by rw[ah];exact Ab8.2 k0,by simp,by simp,.slice none 0 0,[],?_,Own.nil _ _ _ _,rfl,by simp⟩;rw[an,Du.tokv,ak];exact hR
 have ag:=(UA hc _ ⟨0,[],0⟩ (Abi _)).1 w5 [] AdM b2;rw[an] at ag;refine Sa ?_;refine LW.callP0 rfl rfl ag ?_ ?_
 ·rintro v w6 ⟨e,rfl,hp,a6⟩;rw[ao] at a6;have ax:DF T (.error e):=.inl (by rw[←ah];exact hp)
  (repeat (first | apply QW.then_panic | apply QW.blk_panic))
  refine QW.panicD1 (rs:=[.cell 2 141,.cell 3 28]) results98 ar ?_;refine(Lx L E _ _ _ _ (hL.ext a6) (hE.ext a6)).mono ?_;rintro e' u w' ⟨rfl,rfl,ay,az,b0⟩;refine⟨rfl,rfl,[.slice none 0 0,_],⟨⟨L,rfl,AX rfl rfl ay rfl⟩,⟨E,rfl,AX rfl rfl az rfl⟩,trivial⟩,?_,(ab.trans a6).step b0 AdG⟩;rw[DU,if_neg a4,a5];exact⟨_,ax,rfl⟩
 rintro v w6 ⟨s1,p,rfl,hp,hr,hf,_,_,_⟩;have a6:Ai w4 w6:=by have:=hr.1;rwa [ao] at this
 have al:=GY hc hr;rw[an] at al;refine Sa ?_;refine Ay rfl rfl al ?_;rintro v w7 ⟨rfl,ac⟩;replace hr:=hr.ext ac;replace a6:=a6.trans ac;refine Sa ?_;refine LW.field1 (v:=.int .i64 (Ad c.T s1).kind) rfl rfl rfl rfl rfl rfl rfl rfl ?_;refine Sa ?_;refine A8 (λhk=>?_) λhk=>?_
 ·have hk:(Ad c.T s1).kind≠0:=by simpa using hk
  have ax:DF T (.error 5):=.inr ⟨rfl,s1,p,by rw[←ah];exact hp,by rw[←ah];exact hk⟩;refine Sa ?_;refine LW.callP0 rfl rfl (Gx R 5 w7) ?_ (λ_ _ hh=>hh.elim);rintro v w8 ⟨rfl,b3⟩;replace a6:=a6.trans b3
  (repeat (first | apply QW.then_panic | apply QW.blk_panic))
  refine QW.panicD1 (rs:=[.cell 2 141,.cell 3 28]) results98 ar ?_;refine(Lx L E _ _ _ _ (hL.ext a6) (hE.ext a6)).mono ?_;rintro e' u w' ⟨rfl,rfl,ay,az,b0⟩;refine⟨rfl,rfl,[.slice none 0 0,_],⟨⟨L,rfl,AX rfl rfl ay rfl⟩,⟨E,rfl,AX rfl rfl az rfl⟩,trivial⟩,?_,(ab.trans a6).step b0 AdG⟩;rw[DU,if_neg a4,a5];exact⟨_,ax,rfl⟩
 ·have hk:(Ad c.T s1).kind=0:=by simpa using hk
  obtain⟨a0,a1,a2,a3,outv,nvs,hB,ho,hm,am⟩:=hr;rw[an] at hB;rw[ao] at ho;replace hL:=hL.ext a6;replace hE:=hE.ext a6;obtain⟨q1,q2,rfl⟩:=ho.slice;refine Sa ?_;have b4:∀b,b∈Ac (Value.slice q1 nvs.length q2)→b∉[L]:=λb hb h=>by
   simp only[Aad] at h;subst h;exact absurd (Own.type ho hb hL) AdH
  have b5:∀x∈nvs,C7 w7 x.kv x.node.kids:=λx hx=>(am x hx).1;have b6:=hL;refine CR λw8 ap hL=>?_;have b7:∀b l T',Blk w7 b l T'→T'≠141→Blk w8 b l T':=λb l T' hb h=>hb.chg ap (λhm=>by simp at hm;subst hm;exact h (hb.inj b6));replace hE:=hE.chg ap Aex;replace ho:=ho.chg ap b4;have b8:∀b,b∈Ac (Value.slice q1 nvs.length q2)→b∉[E]:=λb hb h=>by
   simp only[Aad] at h;subst h;exact absurd (Own.type ho hb hE) AdH
  have b9:=hE;refine Sa ?_;refine CR λw9 aq hE=>?_;have ba:∀b l T',Blk w8 b l T'→T'≠28→Blk w9 b l T':=λb l T' hb h=>hb.chg aq (λhm=>by simp at hm;subst hm;exact h (hb.inj b9));replace hL:=hL.chg aq Aek;replace ho:=ho.chg aq b8;have bb:Ai w w9:=((ab.trans a6).step ap AdG).step aq AdG;refine Sa ?_;refine QW.bodyD1 (rs:=[.cell 2 141,.cell 3 28]) results98 ar ?_;refine(SE L E w9).mono ?_;rintro e u w' ⟨rfl,rfl,rfl⟩;refine⟨rfl,rfl,[.slice q1 nvs.length q2,.int .i64 0],⟨⟨L,rfl,AX rfl rfl hL rfl⟩,⟨E,rfl,AX rfl rfl hE rfl⟩,trivial⟩,?_,bb⟩;rw[DU,if_neg a4,a5];refine⟨.ok s1.out,⟨s1,p,by rw[←ah];exact hp,by rw[←ah];exact hk,rfl⟩,.slice q1 nvs.length q2,rfl,nvs,?_,hm,λx hx=>?_⟩
  ·exact ho.low (by have:=ab.size;omega)
  ·rcases b5 x hx with h | ⟨b,cap,sp,e1,hb⟩
   ·exact .inl h
   ·exact .inr ⟨b,cap,sp,e1,ba _ _ _ (b7 _ _ _ hb AdH) AdH⟩
def NR(l:List UInt8):Bool:=decide (∀j,j<l.length→32≤Aj l j)
theorem Rx(s:List UInt8)(hs:s.length≤1000000)(w:World):AF prog 238 [Ao s] w (λv w'=>v=.bool (NR s)∧Ai w w'):=by
 refine Bj func238 ntmps238 ?_;refine Sa ?_;refine CW.loop (ι:=Nat) (λk w'=>k≤s.length∧Ai w w'∧∀j,j<k→32≤Aj s j) (λk=>[(0,Ao s),(5,.int .i64 s.length),(6,.int .i64 k)]) (λk=>s.length - k) 0 ⟨by omega,Chg.refl _ _,by omega⟩ CF ?_;rintro k w1 ⟨hk,hx,a0⟩;refine Sa ?_;refine A8 (λh1=>?_) λh1=>?_
 ·have h1:k<s.length:=by simp at h1;omega
  refine Sa ?_;refine A8 (λh2=>?_) λh2=>?_
  ·have h2:Aj s k<32:=by simpa using h2
   refine Sa ?_;refine QW.body1 rfl rfl ⟨?_,hx⟩;have:NR s=false:=by
    simp only[NR,decide_eq_false_iff_not];intro hh;have:=hh k h1;omega
   rw[this]
  ·have h2:¬Aj s k<32:=by simpa using h2
   refine Sa ?_;refine QW.again (k+1) ⟨by omega,hx,λj hj=>?_⟩ CF AdE;by_cases e:j=k
   ·subst e;omega
   ·exact a0 j AdE
 ·have h1:k=s.length:=by simp at h1;omega
  subst h1;refine Sa ?_;refine QW.body1 rfl rfl ⟨?_,hx⟩;have:NR s=true:=by simp only[NR,decide_eq_true_eq];exact a0
  rw[this]
def CP(s:List UInt8):Bool:=NH s&&!Br s&&!decide (s=DR)&&!decide (s=Dm)
theorem T9(s:List UInt8):∃x,H6 s=.tuple #[Nr x,.bool (Br s)]:=by
 unfold H6;cases Br s
 ·exact⟨R5,rfl⟩
 ·exact⟨DX s,rfl⟩
theorem W5(s:List UInt8)(hs:s.length≤1000)(w:World)(g:CQ w):AF prog 239 [Ao s] w (λv w'=>v=.bool (CP s)∧Ai w w'):=by
 refine Bj func239 ntmps239 ?_;refine Sa ?_;refine Ay rfl rfl (Ql s hs w g) ?_;rintro v w1 ⟨rfl,hx⟩;obtain⟨x,a1⟩:=T9 s;rw[a1];refine Sa ?_;refine Bo λF w2 a5 a2 hF=>?_;have hz:=hx.size;refine Sa ?_;refine AD λw3 a3 hF=>?_;have a4:Ai w w3:=(hx.trans a2).step a3 AdG;refine Sa ?_;refine Ay rfl rfl (O1 s w3 AdE) ?_;rintro v w4 ⟨rfl,a0⟩;replace a0:=a4.trans a0;refine Sa ?_;refine ES (λh1=>?_) λh1=>?_
 ·have h1:NH s=true:=h1;refine Sa ?_;refine ES (λh2=>?_) λh2=>?_
  ·have h2:Br s=false:=by simpa using h2
   refine Sa ?_;refine ES (λh3=>?_) λh3=>?_
   ·refine Sa ?_;refine QW.body1 rfl rfl ⟨?_,a0⟩;have h3:¬s=DR:=by simpa[DR] using h3
    by_cases h4:s=[70,65,76,83,69]<;>simp[CP,h1,h2,h3,Dm,h4]
   ·refine Sa ?_;refine QW.body1 rfl rfl ⟨?_,a0⟩;have h3:s=DR:=by simpa[DR] using h3
    simp[CP,h3]
  ·have h2:Br s=true:=by simpa using h2
   refine Sa ?_;refine QW.body1 rfl rfl ⟨?_,a0⟩;simp[CP,h2]
 ·have h1:NH s=false:=h1;refine Sa ?_;refine QW.body1 rfl rfl ⟨?_,a0⟩;simp[CP,h1]
def Dl(k:Int):Int:=if k<1∨19<k then -2 else if k=7 then -1 else if k=8 then 1 else if 8<k then 2 else 0
theorem UI(k:Int)(w:World):AF prog 198 [.int .i64 k] w (λv w'=>v=.int .i64 (Dl k)∧Ai w w'):=by
 refine Bj func198 ntmps198 ?_;refine Sa ?_;refine ES (λh1=>?_) λh1=>?_
 ·have h1:k<1:=by simpa using h1
  refine Sa ?_;exact QW.body1 rfl rfl ⟨by rw[Dl,if_pos (.inl h1)],Chg.refl _ _⟩
 have h1:¬k<1:=by simpa using h1
 refine Sa ?_;refine A8 (λh2=>?_) λh2=>?_
 ·have h2:19<k:=by simpa using h2
  refine Sa ?_;exact QW.body1 rfl rfl ⟨by rw[Dl,if_pos (.inr h2)],Chg.refl _ _⟩
 have h2:¬19<k:=by simpa using h2
 have hn:¬(k<1∨19<k):=AdE
 refine Sa ?_;refine A8 (λh3=>?_) λh3=>?_
 ·have h3:k=7:=by simpa using h3
  refine Sa ?_;exact QW.body1 rfl rfl ⟨by rw[Dl,if_neg hn,if_pos h3],Chg.refl _ _⟩
 have h3:¬k=7:=by simpa using h3
 refine Sa ?_;refine A8 (λh4=>?_) λh4=>?_
 ·have h4:k=8:=by simpa using h4
  refine Sa ?_;exact QW.body1 rfl rfl ⟨by rw[Dl,if_neg hn,if_neg h3,if_pos h4],Chg.refl _ _⟩
 have h4:¬k=8:=by simpa using h4
 refine Sa ?_;refine A8 (λh5=>?_) λh5=>?_
 ·have h5:8<k:=by simpa using h5
  refine Sa ?_;exact QW.body1 rfl rfl ⟨by rw[Dl,if_neg hn,if_neg h3,if_neg h4,if_pos h5],Chg.refl _ _⟩
 ·have h5:¬8<k:=by simpa using h5
  refine Sa ?_;exact QW.body1 rfl rfl ⟨by rw[Dl,if_neg hn,if_neg h3,if_neg h4,if_neg h5],Chg.refl _ _⟩
def AY(w:World)(v:Value)(zs:List Int):Prop:=
 zs.length≤9223372036854775806∧(v=.slice none 0 0∧zs=[]∨∃a cap,v=.slice (some a) zs.length cap∧∀i z,zs[i]?=some z→w.cell? (a.add i)=some (.int .i64 z))
theorem AY.ext{w w':World}{v:Value}{zs:List Int}(h:AY w v zs)(x:Ai w w'):AY w' v zs:=by
 obtain⟨h0,h | ⟨a,cap,e,h⟩⟩:=h
 ·exact⟨h0,.inl h⟩
 ·exact⟨h0,.inr ⟨a,cap,e,λi z hz=>A0 x (h i z hz)⟩⟩
theorem AY.slice{w:World}{v:Value}{zs:List Int}(h:AY w v zs):∃p c,v=.slice p zs.length c:=by
 obtain⟨h0,⟨rfl,rfl⟩ | ⟨a,cap,e,h⟩⟩:=h
 ·exact⟨_,_,rfl⟩
 ·exact⟨_,_,e⟩
theorem AY.at{w:World}{p:Option Addr}{c:Nat}{zs:List Int}(h:AY w (.slice p zs.length c) zs){i:Nat}(hi:i<zs.length):∃a,p=some a∧w.cell? (a.add i)=some (.int .i64 (zs.getD i 0)):=by
 obtain⟨h0,⟨e,e2⟩ | ⟨a,cap,e,h⟩⟩:=h
 ·rw[e2] at hi;simp at hi
 ·simp only[AbM] at e;exact⟨a,e.1,h i _ (by simp[Aap hi])⟩
theorem PQ{a b:List Int}{k:Nat}(ha:k<a.length)(hb:k<b.length)(h:a.take k=b.take k)(hk:a.getD k 0=b.getD k 0):a.take (k+1)=b.take (k+1):=by
 rw[Ab7,Ab7,h,Aap ha,Aap hb];simp[Aap ha,Aap hb] at hk;rw[hk]
theorem Vl(a b:List Int)(va vb:Value)(w:World)(ha:AY w va a)(hb:AY w vb b):AF prog 199 [va,vb] w (λv w'=>v=.bool (decide (a=b))∧Ai w w'):=by
 obtain⟨pa,ca,rfl⟩:=ha.slice;obtain⟨pb,cb,rfl⟩:=hb.slice;have a4:=ha.1;have a5:=hb.1;refine Bj func199 ntmps199 ?_;refine Sa ?_;refine A8 (λh1=>?_) λh1=>?_
 ·have h1:a.length≠b.length:=by simp at h1;omega
  refine Sa ?_;refine QW.body1 rfl rfl ⟨?_,Chg.refl _ _⟩;have:a≠b:=λe=>h1 (by rw[e]);simp[this]
 have h1:a.length=b.length:=by simp at h1;omega
 refine Sa ?_;refine CW.loop (ι:=Nat) (λk w'=>k≤a.length∧Ai w w'∧a.take k=b.take k) (λk=>[(0,.slice pa a.length ca),(1,.slice pb b.length cb),(12,.int .i64 a.length),(13,.int .i64 k)]) (λk=>a.length - k) 0 ⟨by omega,Chg.refl _ _,rfl⟩ Bx ?_;rintro k w1 ⟨hk,hx,a0⟩;replace ha:=ha.ext hx;replace hb:=hb.ext hx;refine Sa ?_;refine A8 (λh2=>?_) λh2=>?_
 ·have h2:k<a.length:=by simp at h2;omega
  obtain⟨aa,rfl,a1⟩:=ha.at h2;obtain⟨ab,rfl,a2⟩:=hb.at (show k<b.length by omega);refine Sa ?_;refine LU ?_;refine Sq ?_;refine QL.yields rfl rfl rfl (λ_ _=>Y.idx_addr rfl rfl rfl rfl rfl AdE AdE) ?_;refine QL.yields rfl rfl rfl (λw' hw=>Y.load_cell rfl (by show w'.cell? (aa.add (k*1))=_;rw[Acr];exact A0 hw a1) rfl rfl) ?_;refine Sq ?_;refine QL.yields rfl rfl rfl (λ_ _=>Y.idx_addr rfl rfl rfl rfl rfl AdE AdE) ?_;refine QL.yields rfl rfl rfl (λw' hw=>Y.load_cell rfl (by show w'.cell? (ab.add (k*1))=_;rw[Acr];exact A0 hw a2) rfl rfl) ?_;refine Sq ?_;refine QL.nil λw2 a3=>?_;replace hx:=hx.trans a3;refine Sa ?_;refine A8 (λh3=>?_) λh3=>?_
  ·have h3:a.getD k 0≠b.getD k 0:=by simpa using h3
   refine Sa ?_;refine QW.body1 rfl rfl ⟨?_,hx⟩;have:a≠b:=λe=>h3 (by rw[e]);simp[this]
  ·have h3:a.getD k 0=b.getD k 0:=by simpa using h3
   refine Sa ?_;exact QW.again (k+1) ⟨by omega,hx,PQ h2 AdE a0 h3⟩ Bx AdE
 ·have h2:k=a.length:=by simp at h2;omega
  subst h2;refine Sa ?_;refine QW.body1 rfl rfl ⟨?_,hx⟩;have:a=b:=by rwa [AbH,h1,AbH] at a0
  simp[this]
def IE(n:Ah):Bool:=
 if n.kind=1 then decide (0≤n.num) else if n.kind=3 then decide (n.num=0)||decide (n.num=1) else if n.kind=2 then NR n.text else if n.kind=7 then CP n.text
 else if n.kind=5 then Bz n.ref else if n.kind=6 then Bz n.ref&&(Bz n.to&&BL n.ref n.to) else true
def Bl(n:Ah):Ah:=
 if n.kind=1 then {n with num:=0} else if n.kind=3 then {n with num:=0} else if n.kind=2 then {n with text:=[]} else if n.kind=7 then {n with text:=[]}
 else if n.kind=5 then {n with ref:=Ba} else if n.kind=6 then {n with ref:=Ba,to:=Ba} else n
def AB(n:Ah):Bool:=IE n&&(decide ((Bl n).num=0)&&(decide ((Bl n).text=[])&&(decide ((Bl n).ref=Ba)&&decide ((Bl n).to=Ba))))
theorem VR(n:Ah)(p:Option Addr)(k c:Nat)(w:World)(g:CQ w)(ht:n.text.length≤1000)(hr:n.ref.sheet.length≤9223372036854775807)(hto:n.to.sheet.length≤9223372036854775807):AF prog 200 [.agg ⟨Df ⟨n,.slice p k c⟩⟩] w (λv w'=>v=.bool (AB n)∧Ai w w'):=by
 refine Bj func200 ntmps200 ?_;apply CW.seq;apply CW.region;refine Sl ?_;refine CM λA w1 ad a6 hA=>?_;replace hA:Blk w1 A (Df ⟨n,.slice p k c⟩) 189:=hA;refine Sl ?_;apply LW.nil;apply QW.then_n;apply CW.seq;apply CW.region;refine Sl ?_;refine Bo λC w2 ae a7 hC=>?_;have af:=a6.size;have a3:A≠C:=by have:=hA.lt;omega
 replace hA:=hA.ext a7;refine Sl ?_;refine AD λw3 a8 hC=>?_;replace hC:Blk w3 C (Df ⟨n,.slice p k c⟩) 189:=hC;replace hA:=hA.chg a8 Ae0;have hx:Ai w w3:=(a6.trans a7).step a8 AdG;apply LW.nil;apply QW.then_n;apply CW.seq;apply CW.region;refine Sl ?_;apply LW.nil;apply QW.then_n;have a2:w.heap.size≤C:=AdE
 refine CW.seq_cut (ι:=Unit) (λ_ w'=>Ai w w'∧Blk w' C (Df ⟨Bl n,.slice p k c⟩) 189) (λ_=>[(3,.pointer (some ⟨C,0,none⟩)),(4,.bool (IE n))]) ?_ ?_
 ·refine Sa ?_;refine A8 (λh1=>?_) λh1=>?_
  ·have h1:n.kind=1:=by simpa using h1
   have hb:Bl n={n with num:=0}:=by simp[Bl,h1]
   have ho:IE n=decide (0≤n.num):=by simp[IE,h1]
   refine CW.drawHeld (λw'=>Blk w' A (Df ⟨n,.slice p k c⟩) 189) (λw' h=>hA.ext h) AdF λw4 a0=>?_;refine HW.take 0 rfl rfl rfl rfl (λw _=>Y.pure rfl) rfl AdF AdF AdF (λ_ _ _ h=>h) ?_;refine HW.take 1 rfl rfl rfl rfl (λw hw=>Y.load rfl hw rfl rfl rfl) rfl AdF AdF AdF (λ_ _ _ h=>h) ?_;refine HW.take 2 rfl rfl rfl rfl (λw _=>Y.pure rfl) rfl AdF AdF AdF (λ_ _ _ h=>h) ?_;refine HW.take 3 rfl rfl rfl rfl (λw _=>Y.pure rfl) rfl AdF AdF AdF (λ_ _ _ h=>h) ?_;replace hC:=hC.ext a0;refine HW.one 4 AdF rfl rfl (λhS=>?_);refine CR λw5 a1 hC=>?_;apply LW.nil;refine QW.held (hS.chg a1 Ae0) ?_;refine HW.one 5 AdF rfl rfl (λhS=>?_);refine Sl ?_;apply LW.nil;refine QW.held hS ?_;refine HW.done AdF ?_;refine Sa ?_;exact QW.head () ⟨(hx.trans a0).step a1 Aeq,by rw[hb];exact hC⟩ (Al.cons rfl (Al.cons (by rw[ho];rfl) Al.nil))
  have h1:n.kind≠1:=by simpa using h1
  refine Sa ?_;refine A8 (λh3=>?_) λh3=>?_
  ·have h3:n.kind=3:=by simpa using h3
   have hb:Bl n={n with num:=0}:=by simp[Bl,h3]
   have ho:IE n=(decide (n.num=0)||decide (n.num=1)):=by simp[IE,h3]
   refine CW.drawHeld (λw'=>Blk w' A (Df ⟨n,.slice p k c⟩) 189) (λw' h=>hA.ext h) AdF λw4 a0=>?_;replace hC:=hC.ext a0;refine HW.take 0 rfl rfl rfl rfl (λw _=>Y.pure rfl) rfl AdF AdF AdF (λ_ _ _ h=>h) ?_;refine HW.take 1 rfl rfl rfl rfl (λw hw=>Y.load rfl hw rfl rfl rfl) rfl AdF AdF AdF (λ_ _ _ h=>h) ?_;refine HW.take 2 rfl rfl rfl rfl (λw _=>Y.pure rfl) rfl AdF AdF AdF (λ_ _ _ h=>h) ?_;refine HW.take 3 rfl rfl rfl rfl (λw _=>Y.pure rfl) rfl AdF AdF AdF (λ_ _ _ h=>h) ?_;by_cases hz:n.num=0
   ·refine HW.know (t:=19) (c:=true) rfl (by simpa using hz) ?_;refine HW.skip 4 rfl rfl rfl rfl rfl rfl rfl rfl AdF AdF AdF (λ_ _ _ h=>h) ?_;refine HW.skip 5 rfl rfl rfl rfl rfl rfl rfl rfl AdF AdF AdF (λ_ _ _ h=>h) ?_;refine HW.skip 6 rfl rfl rfl rfl rfl rfl rfl rfl AdF AdF AdF (λ_ _ _ h=>h) ?_;refine HW.take 7 rfl rfl rfl rfl (λw _=>Y.pure rfl) rfl AdF AdF AdF (λ_ _ _ h=>h) ?_;refine HW.take 8 rfl rfl rfl rfl (λw _=>Y.pure rfl) rfl AdF AdF AdF (λ_ _ _ h=>h) ?_;refine HW.one 9 AdF rfl rfl (λhS=>?_);refine CR λw5 a1 hC=>?_;apply LW.nil;refine QW.held (hS.chg a1 Ae0) ?_;refine HW.one 10 AdF rfl rfl (λhS=>?_);refine Sl ?_;apply LW.nil;refine QW.held hS ?_;refine HW.done AdF ?_;refine Sa ?_;exact QW.head () ⟨(hx.trans a0).step a1 Aeq,by rw[hb];exact hC⟩ (Al.cons rfl (Al.cons (by rw[ho,hz];rfl) Al.nil))
   ·refine HW.know (t:=19) (c:=false) rfl (by simpa using hz) ?_;refine HW.takeW 4 rfl rfl rfl rfl (λw _=>Y.pure rfl) rfl AdF AdF AdF (λ_ _ _ h=>h) ?_;refine HW.takeW 5 rfl rfl rfl rfl (λw hw=>Y.load rfl hw rfl rfl rfl) rfl AdF AdF AdF (λ_ _ _ h=>h) ?_;refine HW.takeW 6 rfl rfl rfl rfl (λw _=>Y.pure rfl) rfl AdF AdF AdF (λ_ _ _ h=>h) ?_;refine HW.take 7 rfl rfl rfl rfl (λw _=>Y.pure rfl) rfl AdF AdF AdF (λ_ _ _ h=>h) ?_;refine HW.take 8 rfl rfl rfl rfl (λw _=>Y.pure rfl) rfl AdF AdF AdF (λ_ _ _ h=>h) ?_;refine HW.one 9 AdF rfl rfl (λhS=>?_);refine CR λw5 a1 hC=>?_;apply LW.nil;refine QW.held (hS.chg a1 Ae0) ?_;refine HW.one 10 AdF rfl rfl (λhS=>?_);refine Sl ?_;apply LW.nil;refine QW.held hS ?_;refine HW.done AdF ?_;refine Sa ?_;exact QW.head () ⟨(hx.trans a0).step a1 Aeq,by rw[hb];exact hC⟩ (Al.cons rfl (Al.cons (by rw[ho];simp[hz];rfl) Al.nil))
  have h3:n.kind≠3:=by simpa using h3
  refine Sa ?_;refine A8 (λh2=>?_) λh2=>?_
  ·have h2:n.kind=2:=by simpa using h2
   have hb:Bl n={n with text:=[]}:=by simp[Bl,h2]
   have ho:IE n=NR n.text:=by simp[IE,h2]
   refine Sa ?_;refine Ay rfl rfl (Rx n.text AdE w3) ?_;rintro v w4 ⟨rfl,a0⟩;replace hC:=hC.ext a0;refine Sa ?_;refine CR λw5 a1 hC=>?_;refine Sa ?_;exact QW.head () ⟨(hx.trans a0).step a1 Aeq,by rw[hb];exact hC⟩ (Al.cons rfl (Al.cons (by rw[ho];rfl) Al.nil))
  have h2:n.kind≠2:=by simpa using h2
  refine Sa ?_;refine A8 (λh7=>?_) λh7=>?_
  ·have h7:n.kind=7:=by simpa using h7
   have hb:Bl n={n with text:=[]}:=by simp[Bl,h7]
   have ho:IE n=CP n.text:=by simp[IE,h7]
   refine Sa ?_;refine Ay rfl rfl (W5 n.text ht w3 (g.ext hx)) ?_;rintro v w4 ⟨rfl,a0⟩;replace hC:=hC.ext a0;refine Sa ?_;refine CR λw5 a1 hC=>?_;refine Sa ?_;exact QW.head () ⟨(hx.trans a0).step a1 Aeq,by rw[hb];exact hC⟩ (Al.cons rfl (Al.cons (by rw[ho];rfl) Al.nil))
  have h7:n.kind≠7:=by simpa using h7
  refine Sa ?_;refine A8 (λh5=>?_) λh5=>?_
  ·have h5:n.kind=5:=by simpa using h5
   have hb:Bl n={n with ref:=Ba}:=by simp[Bl,h5]
   have ho:IE n=Bz n.ref:=by simp[IE,h5]
   refine Sa ?_;refine LW.load_agg (cs:=Dc n.ref) rfl hA rfl rfl rfl ⟨rfl,rfl,rfl,rfl,rfl,trivial⟩ rfl ?_;refine Sa ?_;refine LW.call0 (vs:=[Nr n.ref]) rfl rfl (LV n.ref AdE w3) ?_;rintro v w4 ⟨rfl,a0⟩;replace hC:=hC.ext a0;refine Sa ?_;refine LW.store_agg (cs:=Dc Ba) rfl rfl rfl hC (Abq rfl) rfl rfl λw5 a1 hC=>?_;refine Sa ?_;exact QW.head () ⟨(hx.trans a0).step a1 Aeq,by rw[hb];exact hC⟩ (Al.cons rfl (Al.cons (by rw[ho];rfl) Al.nil))
  have h5:n.kind≠5:=by simpa using h5
  refine Sa ?_;refine A8 (λh6=>?_) λh6=>?_
  ·have h6:n.kind=6:=by simpa using h6
   have hb:Bl n={n with ref:=Ba,to:=Ba}:=by simp[Bl,h6]
   have ho:IE n=(Bz n.ref&&(Bz n.to&&BL n.ref n.to)):=by simp[IE,h6]
   refine Sa ?_;refine LW.store_agg (cs:=Dc Ba) rfl rfl rfl hC (Abq rfl) rfl rfl λw4 a9 hC=>?_;replace hA:=hA.chg a9 Ae0;refine Sa ?_;refine LW.store_agg (cs:=Dc Ba) rfl rfl rfl hC (Abq rfl) rfl rfl λw5 a1 hC=>?_;replace hA:=hA.chg a1 Ae0;replace hC:Blk w5 C (Df ⟨{n with ref:=Ba,to:=Ba},.slice p k c⟩) 189:=hC;have ac:Ai w w5:=(hx.step a9 Aeq).step a1 Aeq;refine Sa ?_;refine LW.load_agg (cs:=Dc n.ref) rfl hA rfl rfl rfl ⟨rfl,rfl,rfl,rfl,rfl,trivial⟩ rfl ?_;refine Sa ?_;refine LW.call0 (vs:=[Nr n.ref]) rfl rfl (LV n.ref AdE w5) ?_;rintro v w6 ⟨rfl,a4⟩;replace hA:=hA.ext a4;replace hC:=hC.ext a4;replace a4:=ac.trans a4;refine Sa ?_;refine ES (λk1=>?_) λk1=>?_
   ·have k1:Bz n.ref=true:=k1;refine Sa ?_;refine LW.load_agg (cs:=Dc n.to) rfl hA rfl rfl rfl ⟨rfl,rfl,rfl,rfl,rfl,trivial⟩ rfl ?_;refine Sa ?_;refine LW.call0 (vs:=[Nr n.to]) rfl rfl (LV n.to AdE w6) ?_;rintro v w7 ⟨rfl,a5⟩;replace hA:=hA.ext a5;replace hC:=hC.ext a5;replace a5:=a4.trans a5;refine Sa ?_;refine ES (λk2=>?_) λk2=>?_
    ·have k2:Bz n.to=true:=k2;refine Sa ?_;refine LW.load_agg (cs:=Dc n.ref) rfl hA rfl rfl rfl ⟨rfl,rfl,rfl,rfl,rfl,trivial⟩ rfl ?_;refine Sa ?_;refine LW.load_agg (cs:=Dc n.to) rfl hA rfl rfl rfl ⟨rfl,rfl,rfl,rfl,rfl,trivial⟩ rfl ?_;refine Sa ?_;refine Ay rfl rfl (Nq n.ref n.to w7) ?_;rintro v w8 ⟨rfl,aa⟩;replace hC:=hC.ext aa;refine Sa ?_;exact QW.head () ⟨a5.trans aa,by rw[hb];exact hC⟩ (Al.cons rfl (Al.cons (by rw[ho,k1,k2];rfl) Al.nil))
    ·have k2:Bz n.to=false:=k2;refine Sa ?_;exact QW.head () ⟨a5,by rw[hb];exact hC⟩ (Al.cons rfl (Al.cons (by rw[ho,k1,k2];rfl) Al.nil))
   ·have k1:Bz n.ref=false:=k1;refine Sa ?_;exact QW.head () ⟨a4,by rw[hb];exact hC⟩ (Al.cons rfl (Al.cons (by rw[ho,k1];rfl) Al.nil))
  have h6:n.kind≠6:=by simpa using h6
  have hb:Bl n=n:=by simp[Bl,h1,h2,h3,h5,h6,h7]
  have ho:IE n=true:=by simp[IE,h1,h2,h3,h5,h6,h7]
  refine Sa ?_;exact QW.head () ⟨hx,by rw[hb];exact hC⟩ (Al.cons rfl (Al.cons (by rw[ho];rfl) Al.nil))
 rintro _ w4 ⟨a0,ab⟩;clear hA hC;refine Sa ?_;refine ES (λq1=>?_) λq1=>?_
 ·have q1:IE n=true:=q1;refine Sa ?_;refine ES (λq2=>?_) λq2=>?_
  ·have q2:(Bl n).num=0:=by simpa using q2
   refine Sa ?_;refine ES (λq3=>?_) λq3=>?_
   ·have q3:(Bl n).text=[]:=by simpa using q3
    refine Sa ?_;refine LW.load_agg (cs:=Dc (Bl n).ref) rfl ab rfl rfl rfl ⟨rfl,rfl,rfl,rfl,rfl,trivial⟩ rfl ?_;refine Sa ?_;refine LW.eql_agg (ys:=Dc Ba) rfl rfl Q9 (λw'=>Ul (Bl n).ref Ba 9998 w') rfl ?_;refine Sa ?_;refine ES (λq4=>?_) λq4=>?_
    ·have q4:(Bl n).ref=Ba:=by simpa using q4
     refine Sa ?_;refine LW.load_agg (cs:=Dc (Bl n).to) rfl ab rfl rfl rfl ⟨rfl,rfl,rfl,rfl,rfl,trivial⟩ rfl ?_;refine Sa ?_;refine LW.eql_agg (ys:=Dc Ba) rfl rfl Q9 (λw'=>Ul (Bl n).to Ba 9998 w') rfl ?_;refine Sa ?_;refine QW.body1 rfl rfl ⟨?_,a0⟩;simp[AB,q1,q2,q3,q4]
    ·have q4:¬(Bl n).ref=Ba:=by simpa using q4
     refine Sa ?_;refine QW.body1 rfl rfl ⟨?_,a0⟩;simp[AB,q4]
   ·have q3:¬(Bl n).text=[]:=by simpa using q3
    refine Sa ?_;refine QW.body1 rfl rfl ⟨?_,a0⟩;simp[AB,q3]
  ·have q2:¬(Bl n).num=0:=by simpa using q2
   refine Sa ?_;refine QW.body1 rfl rfl ⟨?_,a0⟩;simp[AB,q2]
 ·have q1:IE n=false:=q1;refine Sa ?_;refine QW.body1 rfl rfl ⟨?_,a0⟩;simp[AB,q1]
def CS(w:World)(v:Value)(l:List Ah):Prop:=
 l.length≤100000∧(v=.slice none 0 0∧l=[]∨∃a cap,v=.slice (some a) l.length cap∧∀i nd,l[i]?=some nd→∃kv,AY w kv nd.kids∧∀j u,(Df ⟨nd,kv⟩)[j]?=some u→w.cell? ((a.add (i*14)).add j)=some u)
theorem CS.ext{w w':World}{v:Value}{l:List Ah}(h:CS w v l)(x:Ai w w'):CS w' v l:=by
 obtain⟨h0,h | ⟨a,cap,e,h⟩⟩:=h
 ·exact⟨h0,.inl h⟩
 ·exact⟨h0,.inr ⟨a,cap,e,λi nd hi=>let ⟨kv,hk,hc⟩:=h i nd hi;⟨kv,hk.ext x,λj u hj=>A0 x (hc j u hj)⟩⟩⟩
theorem CS.slice{w:World}{v:Value}{l:List Ah}(h:CS w v l):∃p c,v=.slice p l.length c:=by
 obtain⟨h0,⟨rfl,rfl⟩ | ⟨a,cap,e,h⟩⟩:=h
 ·exact⟨_,_,rfl⟩
 ·exact⟨_,_,e⟩
theorem CS.at{w:World}{p:Option Addr}{c:Nat}{l:List Ah}(h:CS w (.slice p l.length c) l){i:Nat}{nd:Ah}(hi:l[i]?=some nd) :
  ∃a kp kc,p=some a∧AY w (.slice kp nd.kids.length kc) nd.kids∧∀j u,(Df ⟨nd,.slice kp nd.kids.length kc⟩)[j]?=some u→w.cell? ((a.add (i*14)).add j)=some u:=by
 obtain⟨h0,⟨e,e2⟩ | ⟨a,cap,e,h⟩⟩:=h
 ·rw[e2] at hi;simp at hi
 ·simp only[AbM] at e;obtain⟨kv,hk,hc⟩:=h i nd hi;obtain⟨kp,kc,rfl⟩:=hk.slice;exact⟨a,kp,kc,e.1,hk,hc⟩
theorem A9(l:List Int):(Af l).length=l.length:=by simp[Af]
theorem Jn{l:List Int}{i:Nat}{z:Int}(h:l[i]?=some z):(Af l)[i]?=some (.int .i64 z):=by simp[Af,h]
theorem Own.from_{w:World}{lo n c:Nat}{p:Option Addr}{zs:List Int}(h:E.Own w lo 3 1 (.slice p n c) n (Af zs))(hb:zs.length≤100000){i:Nat}(hi:i≤n):AY w (.slice (if c=i then p else p.map (·.add (i*1))) (n - i) (c - i)) (zs.drop i):=by
 obtain⟨hl,⟨e,hn⟩ | ⟨g,cap,sp,e,hB,h1,h2,h3⟩⟩:=h
 ·simp only[AbM] at e;obtain⟨rfl,e2,rfl⟩:=e;subst hn;have:i=0:=AdE
  subst this;have:zs=[]:=by simpa[Af] using hl
  subst this;exact⟨by simp,.inl ⟨by simp,rfl⟩⟩
 ·simp only[AbM] at e;obtain⟨rfl,_,rfl⟩:=e;rw[A9] at hl;have a0:zs.length=n:=AdE
  refine⟨by simp;omega,.inr ⟨if c=i then⟨g,0,none⟩ else(⟨g,0,none⟩:Addr).add (i*1),c - i,?_,λj z hz=>?_⟩⟩
  ·rw[Acq,a0]
   split<;>rfl
  ·rw[AcU] at hz;have hj:i+j<zs.length:=by
    rcases AbI (i+j) zs.length with h | h
    ·exact h
    ·rw[Abs h] at hz;cases hz
   have a1:c≠i:=AdE
   rw[if_neg a1,Addr.add_add];refine hB.getElem _ _ ?_;rw[Abk (by rw[A9];omega),Acr];exact Jn hz
theorem Own.cells{w:World}{lo n c:Nat}{p:Option Addr}{zs:List Int}(h:E.Own w lo 3 1 (.slice p n c) n (Af zs)){i:Nat}(hi:i≤n):p=none∧i=0∨∃a,p=some a∧∀j u,(Af (zs.take i))[j]?=some u→w.cell? (a.add j)=some u:=by
 obtain⟨hl,⟨e,hn⟩ | ⟨g,cap,sp,e,hB,h1,h2,h3⟩⟩:=h
 ·simp only[AbM] at e;exact .inl ⟨e.1,by omega⟩
 ·simp only[AbM] at e;refine .inr ⟨_,e.1,λj u hu=>hB.getElem _ _ ?_⟩;have e1:Af (zs.take i)=(Af zs).take i:=by simp[Af,List.map_take]
  rw[e1] at hu;have hj:j<i:=by
   rcases AbI j i with h | h
   ·exact h
   ·rw[List.getElem?_take_eq_none h] at hu;cases hu
  rw[AcS hj] at hu;have a0:j<(Af zs).length:=by
   rcases AbI j (Af zs).length with h | h
   ·exact h
   ·rw[Abs h] at hu;cases hu
  rw[Abk a0];exact hu
theorem Own.cap_{w:World}{lo n c:Nat}{p:Option Addr}{zs:List Value}(h:E.Own w lo 3 1 (.slice p n c) n zs):n≤c:=by
 obtain⟨hl,⟨e,hn⟩ | ⟨g,cap,sp,e,hB,h1,h2,h3⟩⟩:=h
 ·omega
 ·simp only[AbM] at e;omega
def Jo(n:Ah):Int:=if Dl n.kind=-1 then n.kids.length else Dl n.kind
def DD(i:Nat)(st:List Int)(n:Ah):Option (List Int):=
 if Jo n=n.kids.length∧n.kids.length≤st.length∧st.drop (st.length - n.kids.length)=n.kids∧AB n=true then some (st.take (st.length - n.kids.length)++[(i:Int)]) else none
def Bu:Nat→List Int→List Ah→Option (List Int)
 | _,st,[]=>some st
 | i,st,n::t=>match DD i st n with
  | some st'=>Bu (i+1) st' t
  | none=>none
def Cr(l:List Ah):Bool:=match Bu 0 [] l with
 | some st=>decide (st.length=1)
 | none=>false
def Em(l:List Ah):Prop:=∀nd∈l,nd.text.length≤1000∧nd.ref.sheet.length≤1000∧nd.to.sheet.length≤1000
def Pg(l:List Ah):Prop:=∀nd∈l,nd.text.length≤1000∧nd.ref.sheet.length≤9223372036854775807∧nd.to.sheet.length≤9223372036854775807
theorem Em.t{l:List Ah}(h:Em l):Pg l:=λnd hn=>by
 obtain⟨h1,h2,h3⟩:=h nd hn;exact⟨h1,by omega,by omega⟩
theorem Qr(l:List Ah)(v:Value)(w:World)(g:CQ w)(hN:CS w v l)(hs:Pg l):AF prog 155 [v] w (λv' w'=>v'=.bool (Cr l)∧Ai w w'):=by
 obtain⟨p,c,rfl⟩:=hN.slice;have hl:=hN.1;refine Bj func155 ntmps155 ?_;refine Sa ?_;refine CW.loop (ι:=Nat×List Int×Option Addr×Nat) (λx w'=>x.1≤l.length∧x.2.1.length≤x.1∧Ai w w'∧Bu 0 [] l=Bu x.1 x.2.1 (l.drop x.1)∧E.Own w' w.heap.size 3 1 (.slice x.2.2.1 x.2.1.length x.2.2.2) x.2.1.length (Af x.2.1))
  (λx=>[(3,.slice x.2.2.1 x.2.1.length x.2.2.2),(8,.slice p l.length c),(9,.int .i64 l.length),(10,.int .i64 x.1)]) (λx=>l.length - x.1) (0,[],none,0) ⟨by omega,by simp,Chg.refl _ _,rfl,Own.nil _ _ _ _⟩ Bx ?_
 rintro⟨i,st,sp,sc⟩ w1 ⟨hi,ae,hx,a1,ho⟩;dsimp only at hi ae a1 ho ⊢;replace hN:=hN.ext hx;refine Sa ?_;refine A8 (λh1=>?_) λh1=>?_
 ·have h1:i<l.length:=by simp at h1;omega
  obtain⟨nd,a6⟩:∃nd,l[i]?=some nd:=⟨_,Aap h1⟩;obtain⟨a,kp,kc,rfl,hk,a4⟩:=hN.at a6;obtain⟨af,ag,ah⟩:=hs nd (Abn a6);refine Sa ?_;refine LW.idx_addr rfl rfl rfl rfl rfl AdE AdE rfl ?_;refine LW.load_cells (cs:=Df ⟨nd,.slice kp nd.kids.length kc⟩) rfl a4 rfl rfl rfl rfl ?_;refine Sa ?_;refine Bo λC w2 al ab hC=>?_;refine Sa ?_;refine AD λw3 ai hC=>?_;replace hC:Blk w3 C (Df ⟨nd,.slice kp nd.kids.length kc⟩) 189:=hC;refine Sa ?_;refine Ay rfl rfl (UI nd.kind w3) ?_;rintro v w4 ⟨rfl,ac⟩;replace hC:=hC.ext ac;have aj:=hx.size;have ak:=ab.size;have a3:Ai w1 w4:=(ab.step ai AdG).trans ac;replace hk:=hk.ext a3;replace ho:=ho.ext a3;replace hx:=hx.trans a3;refine Sl ?_;apply LW.nil;apply QW.then_n;refine CW.seq_cut (ι:=Unit) (λ_ w'=>w'=w4) (λ_=>[(3,.slice sp st.length sc),(4,.int .i64 i),(5,.pointer (some ⟨C,0,none⟩)),(6,.int .i64 (Jo nd)),(8,.slice (some a) l.length c),(9,.int .i64 l.length),(10,.int .i64 i)]) ?_ ?_
  ·refine Sa ?_;refine A8 (λh2=>?_) λh2=>?_
   ·have h2:Dl nd.kind=-1:=by simpa using h2
    refine Sa ?_;exact QW.head () rfl (by have:Jo nd=nd.kids.length:=if_pos h2;rw[this];exact(Al.cons rfl (Al.cons rfl (Al.cons rfl (Al.cons rfl (Al.cons rfl (Al.cons rfl (Al.cons rfl (Al.nil)))))))))
   ·have h2:¬Dl nd.kind=-1:=by simpa using h2
    refine Sa ?_;exact QW.head () rfl (by have:Jo nd=Dl nd.kind:=if_neg h2;rw[this];exact(Al.cons rfl (Al.cons rfl (Al.cons rfl (Al.cons rfl (Al.cons rfl (Al.cons rfl (Al.cons rfl (Al.nil)))))))))
  rintro _ w5 rfl;have am:=hk.1;refine Sa ?_;refine CW.drawHeld (λw'=>Blk w' C (Df ⟨nd,.slice kp nd.kids.length kc⟩) 189) (λw' h=>hC.ext h) AdF λw6 a7=>?_;replace hC:=hC.ext a7;replace hk:=hk.ext a7;replace ho:=ho.ext a7;replace hx:=hx.trans a7;refine Sh ?_;have a2:l.drop i=nd::l.drop (i+1):=by rw[Ace h1];congr 1;rw[Aap h1] at a6;exact Abm a6
  have a0:¬(Jo nd=nd.kids.length∧nd.kids.length≤st.length∧st.drop (st.length - nd.kids.length)=nd.kids∧AB nd=true)→Bu i st (l.drop i)=none:=λh=>by rw[a2,Bu,DD,if_neg h]
  by_cases n1:Jo nd=nd.kids.length
  case neg=>
   refine HW.know (t:=34) (c:=true) rfl (by simpa using n1) ?_;refine Sh ?_;refine HW.done AdF ?_;refine Sa ?_;refine QW.body1 rfl rfl ⟨?_,hx⟩;rw[Cr,a1,a0 (λh=>n1 h.1)]
  by_cases n2:nd.kids.length≤st.length
  case neg=>
   refine HW.know (t:=34) (c:=false) rfl (by simpa using n1) ?_;refine Sh ?_;refine HW.know (t:=38) (c:=true) rfl AdG ?_;refine Sh ?_;refine HW.done AdF ?_;refine Sa ?_;refine QW.body1 rfl rfl ⟨?_,hx⟩;rw[Cr,a1,a0 (λh=>n2 h.2.1)]
  refine HW.know (t:=34) (c:=false) rfl (by simpa using n1) ?_;refine Sh ?_;refine HW.know (t:=38) (c:=false) rfl AdG ?_;refine Sh ?_;refine HW.takeW 12 rfl rfl rfl rfl (λw _=>Y.slice_from (i:=st.length - nd.kids.length) rfl Aed rfl rfl rfl AdE) rfl AdF AdF AdF (λ_ _ _ h=>h) ?_;refine Sh ?_;refine HW.one 15 AdF rfl rfl (λhS=>?_);refine Sl ?_;refine Ay rfl rfl (Vl (st.drop (st.length - nd.kids.length)) nd.kids _ _ w6 (Own.from_ ho AdE AdE) hk) ?_;rintro v w7 ⟨rfl,a8⟩;refine Sl ?_;apply LW.nil;replace hC:=hC.ext a8;replace hk:=hk.ext a8;replace ho:=ho.ext a8;replace hx:=hx.trans a8;refine QW.held hC ?_;by_cases n3:st.drop (st.length - nd.kids.length)=nd.kids
  case neg=>
   refine HW.know (t:=44) (c:=false) rfl (by simpa using n3) ?_;refine Sh ?_;refine HW.done AdF ?_;refine Sa ?_;refine QW.body1 rfl rfl ⟨?_,hx⟩;rw[Cr,a1,a0 (λh=>n3 h.2.2.1)]
  refine HW.know (t:=44) (c:=true) rfl (by simpa using n3) ?_;refine Sh ?_;refine HW.one 20 AdF rfl rfl (λhS=>?_);refine Sl ?_;refine Ay rfl rfl (VR nd kp nd.kids.length kc w7 (g.ext hx) af ag ah) ?_;rintro v w8 ⟨rfl,a9⟩;refine Sl ?_;apply LW.nil;replace hC:=hC.ext a9;replace ho:=ho.ext a9;replace hx:=hx.trans a9;refine QW.held hC ?_;by_cases n4:AB nd=true
  case neg=>
   refine HW.know (t:=49) (c:=false) rfl (by simpa using n4) ?_;refine Sh ?_;refine HW.done AdF ?_;refine Sa ?_;refine QW.body1 rfl rfl ⟨?_,hx⟩;rw[Cr,a1,a0 (λh=>n4 h.2.2.2)]
  refine HW.know (t:=49) (c:=true) rfl n4 ?_;refine Sh ?_;refine HW.done AdF ?_;refine Sa ?_;refine LW.slice_to (i:=st.length - nd.kids.length) rfl Aed Aed rfl rfl rfl ?_ rfl ?_
  ·have:=Own.cap_ ho;omega
  refine Sa ?_;refine Dt λB w9 an ad hB=>?_;replace ho:=ho.ext ad;replace hx:=hx.trans ad;refine LW.append_full (xs:=Af (st.take (st.length - nd.kids.length))) (lo:=w.heap.size) rfl rfl rfl rfl rfl AdL ?_ (Own.cells ho AdE) hx.size hB AdL AdL AdL ?_ rfl λv' ao aa a5=>?_
  ·rw[A9,Acb];show _=(st.length - nd.kids.length)*1;omega
  ·show(st.length - nd.kids.length+1)*(8+1)≤_;omega
  refine Sa ?_;obtain⟨p',c',rfl⟩:=a5.slice;have e1:Af (st.take (st.length - nd.kids.length))++[.int .i64 (i:Int)]=Af (st.take (st.length - nd.kids.length)++[(i:Int)]):=by simp[Af]
  have e2:(st.take (st.length - nd.kids.length)++[(i:Int)]).length=st.length - nd.kids.length+1:=by simp
  refine QW.again (i+1,st.take (st.length - nd.kids.length)++[(i:Int)],p',c') ⟨by omega,by rw[e2];omega,hx.trans aa,?_,?_⟩ ?_ AdE
  ·rw[a1,a2,Bu,DD,if_pos ⟨n1,n2,n3,n4⟩]
  ·dsimp only;rw[e2,←e1];exact a5
  ·dsimp only;rw[e2];exact Bx
 ·have h1:i=l.length:=by simp at h1;omega
  subst h1;refine Sa ?_;refine QW.body1 rfl rfl ⟨?_,hx⟩;rw[Ad4] at a1;rw[Cr,a1];have:decide ((st.length:Int)=1)=decide (st.length=1):=decide_eq_decide.mpr AdE;exact congrArg Value.bool this
theorem WE(l:List Ah)(v:Value)(w:World)(g:CQ w)(hN:CS w v l)(hs:Em l):AF prog 155 [v] w (λv' w'=>v'=.bool (Cr l)∧Ai w w'):=Qr l v w g hN hs.t
end Go.Proofs.YtcjjcnecopnpcaaGreatDoor
