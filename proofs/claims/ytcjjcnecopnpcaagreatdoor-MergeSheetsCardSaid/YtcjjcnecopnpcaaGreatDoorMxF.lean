/-
  Joined by program out of the texts Open OpenS OpenC RShow PShow.
-/
import Derived.Test.YtcjjcnecopnpcaaGreatDoorMxA
import Derived.Test.YtcjjcnecopnpcaaGreatDoorTab
import Derived.ProofKit
import Derived.Lib.SmallJoins
import Derived.Test.YtcjjcnecopnpcaaGreatDoorMxB
import Derived.ChangeSlices
import Derived.WideShapes
import Derived.Test.YtcjjcnecopnpcaaGreatDoorMxC
import Derived.Test.YtcjjcnecopnpcaaGreatDoorMxE
import Derived.Test.YtcjjcnecopnpcaaGreatDoorMxD
import Derived.Lib.SplitLaws
namespace Go.Proofs.YtcjjcnecopnpcaaGreatDoor
open Tryz
open Go Go.E Go.ChangeShapes Go.WideShapes Go.ChangeAt Go.RowKit Go.Joins Go.ChangeMaps
theorem Zn{H:Type}{enc:TypeId×Value→H}{P:Program}{w:World}{base:Nat}{sp:Nat→Bool}{held:Bool}{t0 t1 t2 t3:TypeId}{args:Array Value}{ds:List (DataW H)}{ps:List MemPlace}
  (h:DataW.TrodAll enc P w base sp held [t0,t1,t2,t3] args.toList ds ps) :
  ∃v0 d0 p0 v1 d1 p1 v2 d2 p2 v3 d3 p3,args=#[v0,v1,v2,v3]∧ds=[d0,d1,d2,d3]∧DataW.Trod enc P w base sp held t0 v0 d0 p0∧DataW.Trod enc P w base sp held t1 v1 d1 p1∧DataW.Trod enc P w base sp held t2 v2 d2 p2∧DataW.Trod enc P w base sp held t3 v3 d3 p3:=by
 obtain⟨l⟩:=args;obtain⟨v0,r0,d0,e0,p0,q0,a0,rfl,rfl,h0,k0⟩:=trodAll_cons h;obtain⟨v1,r1,d1,e1,p1,q1,a1,rfl,rfl,h1,k1⟩:=trodAll_cons k0;obtain⟨v2,r2,d2,e2,p2,q2,a2,rfl,rfl,h2,k2⟩:=trodAll_cons k1;obtain⟨v3,r3,d3,e3,p3,q3,a3,rfl,rfl,h3,k3⟩:=trodAll_cons k2;obtain⟨rfl,rfl,rfl⟩:=trodAll_nil k3;subst a3;subst a2;subst a1;simp only at a0;subst a0;exact⟨v0,d0,p0,v1,d1,p1,v2,d2,p2,v3,d3,p3,rfl,rfl,h0,h1,h2,h3⟩
set_option maxRecDepth 100000 in
theorem KO{H:Type}{enc:TypeId×Value→H}{W:World}{b0 base:Nat}{sp:Nat→Bool}{held:Bool}{v:Value}{d:DataW H}{p:List MemPlace}{t e:TypeId}{k:IntKind}
  (ht:prog.underlying t=some (.slice e)) (he:prog.underlying e=some (.int k)) (hc:prog.cellsOf e=1)
  (hv:Value.okWide prog W .any b0 t v) (h:DataW.Trod enc prog W base sp held t v d p):∃zs,Y5 k W v zs∧(∀z∈zs,(Lit.int k z).wf=true)∧∃p c,v=.slice p zs.length c∧zs.length≤c:=by
 obtain⟨a,len,cap,rfl⟩:=okWide_slice ht hv;obtain⟨fuel,hf⟩:=h;rcases open_ints ht he hc hf with ⟨e1,_⟩ | ⟨a',len',cap',zs,e1,_,hl,hm,hz,_,a0,hw⟩
 ·have e2:(Value.slice a len cap)=.slice none 0 0:=by simpa[Value.cells] using e1
  rw[e2];exact⟨[],⟨by simp,.inl ⟨rfl,rfl⟩⟩,by simp,_,_,rfl,Abi _⟩
 ·have e2:(Value.slice a len cap)=.slice (some a') len' cap':=by simpa[Value.cells] using e1
  rw[e2];have a2:len'≤zs.length:=by rw[hz];split<;>omega
  have a4:maxLen≤9223372036854775807:=AdH
  have a1:(zs.take len').length=len':=AdG
  refine⟨zs.take len',⟨by omega,.inr ⟨a',cap',by rw[a1],λi z hi=>?_⟩⟩,λz hz=>hw z (Adm hz),_,_,by rw[a1],by rw[a1];exact hl⟩;have a3:i<len':=by
   have:=(Abg.1 hi).1;omega
  rw[AcS a3] at hi;rw[a0 i AdE];simp[hi]
open Go Go.E
def Vm(c:UInt8):List UInt8:=if c=34 then[34,34] else[c]
theorem Np(s:List UInt8):Eg s=34::s.flatMap Vm++[34]:=rfl
theorem ZS(s:List UInt8):(s.flatMap Vm).length≤2*s.length:=by
 have:=KR s;rw[Np] at this;simp only[Aaq,AaL,Abl] at this;omega
theorem ZR{w:World}{a0:Addr}{cs:List Value}(hc:∀j u,cs[j]?=some u→w.cell? (a0.add j)=some u){v:Value}(h:cs[0]?=some v):w.cell? (a0.add 0)=some v:=hc 0 v h
theorem Pv{w:World}{p:Option Addr}{c:Nat}{zs:List Int}(h:AY w (.slice p zs.length c) zs){i:Nat}{z:Int}(hz:zs[i]?=some z):∃a,p=some a∧w.cell? (a.add i)=some (.int .i64 z):=by
 have hi:i<zs.length:=(Abg.1 hz).1;obtain⟨a,e,h⟩:=h.at hi;refine⟨a,e,?_⟩;rw[h,AaF,hz];rfl
theorem R8{c:UInt8}(hc:c≠34)(k:Nat)(s:List UInt8):Lib.replaceK [34] [34,34] k (c::s)=c::Lib.replaceK [34] [34,34] k s:=by
 cases k with
 | zero=>rfl
 | succ k=>
  have hp:([34]:List UInt8).isPrefixOf (c::s)=false:=by simp[List.isPrefixOf,Ne.symm hc]
  have a0:Lib.index (c::s) [34]=if Lib.index s [34] == -1 then -1 else Lib.index s [34]+1:=by rw[Lib.index,hp];simp
  have a1:=Lib.index_ge s [34];by_cases hm:Lib.index s [34]=-1
  ·rw[Lib.replaceK,Lib.replaceK,a0,if_pos (beq_iff_eq.2 hm),hm];simp
  ·have e:Lib.index s [34]=((Lib.index s [34]).toNat:Int):=AdE
   rw[if_neg Aer] at a0;have e2:Lib.index (c::s) [34]=(((Lib.index s [34]).toNat+1:Nat):Int):=AdE
   rw[Lib.replaceK_hit _ _ _ _ _ e2,Lib.replaceK_hit _ _ _ _ _ e];simp
theorem R7(k:Nat)(s:List UInt8):Lib.replaceK [34] [34,34] (k+1) (34::s)=[34,34]++Lib.replaceK [34] [34,34] k s:=by
 have a0:Lib.index (34::s) [34]=((0:Nat):Int):=by rw[Lib.index];simp[List.isPrefixOf]
 rw[Lib.replaceK_hit _ _ _ _ _ a0];simp
theorem Ho:∀(s:List UInt8),Lib.replaceK [34] [34,34] (Lib.count s [34]) s=s.flatMap Vm
 | []=>by
  cases Lib.count [] [34] with
  | zero=>rfl
  | succ k=>rw[Lib.replaceK];rfl
 | c::s=>by
  by_cases h:c=34
  ·subst h;rw[Lib.count_cons_eq,Nat.add_comm,R7,Ho s];rfl
  ·rw[Lib.count_cons_ne c 34 s h,R8 h,Ho s];simp[Vm,h]
theorem R9(s:List UInt8):Lib.replaceAll s [34] [34,34]=s.flatMap Vm:=by
 have:Lib.replaceAll s [34] [34,34]=Lib.replaceK [34] [34,34] (Lib.count s [34]) s:=rfl;rw[this,Ho]
structure Fp(w w':World):Prop where
 size:w.heap.size≤w'.heap.size
 blk:∀b l T,Blk w b l T→T≠218→T≠5→Blk w' b l T
theorem Fp.trans{a b c:World}(h:Fp a b)(k:Fp b c):Fp a c:=⟨Abr h.size k.size,λx l T hx h1 h2=>k.blk x l T (h.blk x l T hx h1 h2) h1 h2⟩
theorem Fp.ext{a b:World}(h:Ai a b):Fp a b:=⟨h.size,λ_ _ _ hx _ _=>hx.ext h⟩
theorem Fp.chg{S:List Nat}{a b:World}(h:Chg S a b)(hs:∀k∈S,∀l T,Blk a k l T→T=218∨T=5):Fp a b:=
 ⟨h.size,λx l T hx h1 h2=>hx.chg h (λhm=>by rcases hs x hm l T hx with e | e<;>contradiction)⟩
structure SC where
 l:List Ah
 p:Option Addr
 c:Nat
 b:Nat
 w0:World
structure SC.Ok(s:SC):Prop where
 nodes:CS s.w0 (.slice s.p s.l.length s.c) s.l
 short:Em s.l
 new:s.w0.heap.size≤s.b
 glob:CQ s.w0
def Pr(s:SC)(w:World)(out:List UInt8):Prop:=
 Ai s.w0 w∧∃v,Blk w s.b [.slice s.p s.l.length s.c,v] 218∧E.Own w s.w0.heap.size 5 1 v out.length (AK out)
theorem Pr.ext{s:SC}{w w':World}{out:List UInt8}(h:Pr s w out)(x:Ai w w'):Pr s w' out:=by
 obtain⟨h0,v,hB,ho⟩:=h;exact⟨h0.trans x,v,hB.ext x,ho.ext x⟩
theorem Ef{s:SC}(hc:s.Ok){w:World}{out:List UInt8}(h:Pr s w out)(x:List UInt8)(hl:out.length+x.length≤10000000000000):AF prog 242 [.pointer (some ⟨s.b,0,none⟩),Ao x] w (λv w'=>v=.tuple #[]∧Pr s w' (out++x)∧Fp w w'):=by
 obtain⟨h0,v,hB,ho⟩:=h;have hz:=h0.size;have a0:∀{w:World} {v:Value} {n:Nat} {xs l:List Value},E.Own w s.w0.heap.size 5 1 v n xs→Blk w s.b l 218→∀j,j∈Ac v→j∉[s.b]:=λ{w v n xs l} ho hB j hj hb=>by
  simp only[Aad] at hb;subst hb;obtain⟨_,⟨e,_⟩ | ⟨g,cap,sp,e,hg,_⟩⟩:=ho
  ·rw[e] at hj;simp[Ac] at hj
  ·rw[e] at hj;simp[Ac] at hj;exact absurd (hg.inj (hj ▸ hB)) AdH
 refine Bj func242 ntmps242 ?_;refine Sa ?_;refine LW.append_str rfl rfl rfl rfl rfl rfl rfl rfl rfl ho hz (by show(out.length+x.length)*2≤_;omega) rfl ?_;intro v' w1 a2 a3 aa;have a6:Fp w w1:=Fp.chg a2 (λk hk l T hb=>.inr (by
  obtain⟨_,⟨e,_⟩ | ⟨g,cap,sp,e,hg,_⟩⟩:=ho
  ·rw[e] at hk;simp[Ac] at hk
  ·rw[e] at hk;simp[Ac] at hk;subst hk;exact hb.inj hg))
 have a7:Ai s.w0 w1:=h0.step a2 (λk hk=>(ho.lt hk).1);have a1:=hB.chg a2 (λhm=>a0 ho hB _ hm AdM);obtain⟨p1,c1,rfl⟩:=a3.slice;have a5:=a1;refine Sa ?_;refine CR λw2 a4 a1=>?_;replace a1:Blk w2 s.b [.slice s.p s.l.length s.c,.slice p1 (out.length+x.length) c1] 218:=a1;have a8:Fp w1 w2:=Fp.chg a4 (λk hk l T hb=>by simp at hk;subst hk;exact .inl (hb.inj a5));have a9:=a3.chg a4 (a0 a3 a5);refine Sa ?_;refine QW.body_n (rs:=[]) (vs:=[]) results242 trivial rfl ⟨rfl,⟨a7.step a4 Aey,_,a1,?_⟩,a6.trans a8⟩;have e1:AK (out++x)=AK out++AK x:=by simp[AK]
 rw[e1,Aaq];exact a9
def Yn(k:Int):List UInt8:=if k=8 then[45] else if 9≤k∧k≤19 then FL k else[]
theorem UE(k:Int)(w:World):AF prog 246 [.int .i64 k] w (λv w'=>v=.tuple #[Ao (Yn k),.int .i64 (Db k:Int)]∧Ai w w'):=by
 refine Bj func246 ntmps246 ?_;refine Sa ?_;refine A8 (λq9=>?_) λq9=>?_
 ·have q9:k=9:=by simpa using q9
  subst q9;refine Sa ?_;exact QW.body2 rfl rfl rfl ⟨rfl,Chg.refl _ _⟩
 have q9:¬k=9:=by simpa using q9
 refine Sa ?_;refine A8 (λq10=>?_) λq10=>?_
 ·have q10:k=10:=by simpa using q10
  subst q10;refine Sa ?_;exact QW.body2 rfl rfl rfl ⟨rfl,Chg.refl _ _⟩
 have q10:¬k=10:=by simpa using q10
 refine Sa ?_;refine A8 (λq11=>?_) λq11=>?_
 ·have q11:k=11:=by simpa using q11
  subst q11;refine Sa ?_;exact QW.body2 rfl rfl rfl ⟨rfl,Chg.refl _ _⟩
 have q11:¬k=11:=by simpa using q11
 refine Sa ?_;refine A8 (λq12=>?_) λq12=>?_
 ·have q12:k=12:=by simpa using q12
  subst q12;refine Sa ?_;exact QW.body2 rfl rfl rfl ⟨rfl,Chg.refl _ _⟩
 have q12:¬k=12:=by simpa using q12
 refine Sa ?_;refine A8 (λq13=>?_) λq13=>?_
 ·have q13:k=13:=by simpa using q13
  subst q13;refine Sa ?_;exact QW.body2 rfl rfl rfl ⟨rfl,Chg.refl _ _⟩
 have q13:¬k=13:=by simpa using q13
 refine Sa ?_;refine A8 (λq14=>?_) λq14=>?_
 ·have q14:k=14:=by simpa using q14
  subst q14;refine Sa ?_;exact QW.body2 rfl rfl rfl ⟨rfl,Chg.refl _ _⟩
 have q14:¬k=14:=by simpa using q14
 refine Sa ?_;refine A8 (λq15=>?_) λq15=>?_
 ·have q15:k=15:=by simpa using q15
  subst q15;refine Sa ?_;exact QW.body2 rfl rfl rfl ⟨rfl,Chg.refl _ _⟩
 have q15:¬k=15:=by simpa using q15
 refine Sa ?_;refine A8 (λq16=>?_) λq16=>?_
 ·have q16:k=16:=by simpa using q16
  subst q16;refine Sa ?_;exact QW.body2 rfl rfl rfl ⟨rfl,Chg.refl _ _⟩
 have q16:¬k=16:=by simpa using q16
 refine Sa ?_;refine A8 (λq17=>?_) λq17=>?_
 ·have q17:k=17:=by simpa using q17
  subst q17;refine Sa ?_;exact QW.body2 rfl rfl rfl ⟨rfl,Chg.refl _ _⟩
 have q17:¬k=17:=by simpa using q17
 refine Sa ?_;refine A8 (λq18=>?_) λq18=>?_
 ·have q18:k=18:=by simpa using q18
  subst q18;refine Sa ?_;exact QW.body2 rfl rfl rfl ⟨rfl,Chg.refl _ _⟩
 have q18:¬k=18:=by simpa using q18
 refine Sa ?_;refine A8 (λq19=>?_) λq19=>?_
 ·have q19:k=19:=by simpa using q19
  subst q19;refine Sa ?_;exact QW.body2 rfl rfl rfl ⟨rfl,Chg.refl _ _⟩
 have q19:¬k=19:=by simpa using q19
 refine Sa ?_;refine A8 (λq8=>?_) λq8=>?_
 ·have q8:k=8:=by simpa using q8
  subst q8;refine Sa ?_;exact QW.body2 rfl rfl rfl ⟨rfl,Chg.refl _ _⟩
 have q8:¬k=8:=by simpa using q8
 refine Sa ?_;refine QW.body2 rfl rfl rfl ⟨?_,Chg.refl _ _⟩;have e1:Yn k=[]:=by unfold Yn;rw[if_neg q8,if_neg AdE]
 have e2:Db k=6:=by unfold Db;rw[if_neg q8,if_neg AdE,if_neg AdE,if_neg AdE,if_neg AdE]
 rw[e1,e2];rfl
def ND(s:SC)(f:FuncId)(t:Tr false):Prop:=∀(o i:Nat) (out:List UInt8) (w:World),t.Fit→t.Num→Es s.l o t→i+1=o+t.cnt→out.length+t.text.length≤1000000000000→Pr s w out→AF prog f [.pointer (some ⟨s.b,0,none⟩),.int .i64 (i:Int)] w (λv w'=>v=.tuple #[]∧Pr s w' (out++t.text)∧Fp w w')
theorem HX{s:SC}(hc:s.Ok)(t:Tr false)(ht:ND s 156 t)(least:Nat)(o i:Nat)(out:List UInt8)(w:World)(hf:t.Fit)(hn:t.Num)(hl:Es s.l o t)(hio:i+1=o+t.cnt)(htl:out.length+(IR (decide (t.rank<least)) t.text).length≤1000000000000)(h:Pr s w out) :
  AF prog 245 [.pointer (some ⟨s.b,0,none⟩),.int .i64 (i:Int),.int .i64 (least:Int)] w (λv w'=>v=.tuple #[]∧Pr s w' (out++IR (decide (t.rank<least)) t.text)∧Fp w w'):=by
 have a1:=hl.node;rw[show o+t.cnt - 1=i by omega] at a1;have hi:i<s.l.length:=(Abg.1 a1).1;have a0:=h;obtain⟨h0,v,hB,ho⟩:=h;have hN:=hc.nodes.ext h0;obtain⟨a,kp,kc,ea,-,a5⟩:=hN.at a1;rw[ea] at hB;have a6:=ZR a5 rfl;have ab:=t.cnt_pos;have ac:=hN.1;have ad:=WP (decide (t.rank<least)) t.text;refine Bj func245 ntmps245 ?_;refine Sa ?_;refine Lo ?_;refine Ln ?_;refine Lp a6 ?_;refine Ay rfl rfl (UE (DP o t).kind w) ?_;rintro v w1 ⟨rfl,a2⟩;rw[Wc o t hf];replace a0:=a0.ext a2;refine Sa ?_;refine A8 (λh1=>?_) λh1=>?_
 ·have h1:¬t.rank<least:=by simp at h1;omega
  have e:IR (decide (t.rank<least)) t.text=t.text:=by simp[IR,h1]
  rw[e] at htl ⊢;refine Sa ?_;refine Ay rfl rfl (ht o i out w1 hf hn hl hio htl a0) ?_;rintro v w2 ⟨rfl,a3,a4⟩;refine Sa ?_;exact QW.body (rs:=[]) (vs:=[]) results245 trivial rfl ⟨rfl,a3,(Fp.ext a2).trans a4⟩
 ·have h1:t.rank<least:=by simp at h1;omega
  have e:IR (decide (t.rank<least)) t.text=[40]++t.text++[41]:=by simp[IR,h1]
  rw[e] at htl ⊢;simp only[Aaq,AaL,Abl] at htl;refine Sa ?_;refine Ay rfl rfl (Ef hc a0 [40] AdG) ?_;rintro v w2 ⟨rfl,a3,a4⟩;refine Sa ?_;refine Ay rfl rfl (ht o i _ w2 hf hn hl hio AdG a3) ?_;rintro v w3 ⟨rfl,a7,a8⟩;refine Sa ?_;refine Ay rfl rfl (Ef hc a7 [41] AdG) ?_;rintro v w4 ⟨rfl,a9,aa⟩;refine Sa ?_;refine QW.body_n (rs:=[]) (vs:=[]) results245 trivial rfl ⟨rfl,by simpa[AaR] using a9,(((Fp.ext a2).trans a4).trans a8).trans aa⟩
theorem NA(r:Da):(D5 r).length≤r.sheet.length+10:=by
 unfold D5
 split
 ·exact OU AdR
 ·simp
theorem VU{s:SC}(hc:s.Ok)(n:Ah)(q:Option Addr)(m k:Nat)(out:List UInt8)(w:World)(hf:(Tr.leaf n).Fit)(hn:(Tr.leaf n).Num)(hsh:n.text.length≤1000∧n.ref.sheet.length≤1000∧n.to.sheet.length≤1000)(htl:out.length+(Tr.leaf n).text.length≤1000000000000)(h:Pr s w out) :
  AF prog 201 [.pointer (some ⟨s.b,0,none⟩),.agg ⟨Df ⟨n,.slice q m k⟩⟩] w (λv w'=>v=.tuple #[]∧Pr s w' (out++(Tr.leaf n).text)∧Fp w w'):=by
 obtain⟨kd,num,text,ref,to,kids⟩:=n;obtain⟨k0,k1,_,a8⟩:=hf;have ho:=EL a8;rw[O2 a8 k0 k1] at htl ⊢;simp only at k0 k1;obtain⟨aa,ab,ac⟩:=hsh;simp only at aa ab ac;have a4:=h.1;have hq:=KR text;have af:=NA ref;have ag:=NA to;refine Bj func201 ntmps201 ?_;refine Sa ?_;refine CM λA w1 ah a3 hA=>?_;replace hA:Blk w1 A (Df ⟨⟨kd,num,text,ref,to,kids⟩,.slice q m k⟩) 189:=hA;replace h:=h.ext a3;replace a4:=a4.trans a3;have g:=hc.glob.ext a4;have:kd=1∨kd=2∨kd=3∨kd=4∨kd=5∨kd=6:=AdE
 rcases this with rfl | rfl | rfl | rfl | rfl | rfl
 ·have ad:num≤9223372036854775807:=hn ⟨1,[],num,Ba,0⟩ (by simp[Tr.toks,C1]);have ai:0≤num:=by simpa[IE] using ho
  simp only[if_true] at htl ⊢;refine Sa ?_;refine Ay rfl rfl (Mj num AdE ad _ g) ?_;rintro v w3 ⟨rfl,a0⟩;replace h:=h.ext a0;refine Sa ?_;refine Ay rfl rfl (Ef hc h _ AdE) ?_;rintro v w4 ⟨rfl,a1,a2⟩;refine Sa ?_;exact QW.body_n (rs:=[]) (vs:=[]) results201 trivial rfl ⟨rfl,a1,(Fp.ext (a3.trans a0)).trans a2⟩
 ·simp only[Int.reduceEq,if_true,if_false] at htl ⊢;have he:=ZS text;refine Sa ?_;refine Ay rfl rfl (Mm text [34] [34,34] AdE AdM AdM _ g) ?_;rintro v w3 ⟨rfl,a0⟩;rw[R9];replace h:=h.ext a0;rw[Np] at htl ⊢;generalize text.flatMap Vm=E at he htl ⊢;simp only[Aaq,AaL,Abl] at htl;refine Sa ?_;refine Ay rfl rfl (Ef hc h ([34]++E++[34]) AdG) ?_;rintro v w4 ⟨rfl,a1,a2⟩;refine Sa ?_;exact QW.body_n (rs:=[]) (vs:=[]) results201 trivial rfl ⟨rfl,a1,(Fp.ext (a3.trans a0)).trans a2⟩
 ·simp only[Int.reduceEq,if_true,if_false] at htl ⊢;have a5:num=0∨num=1:=by simpa[IE] using ho
  refine Sa ?_;refine Dt λB w3 aj a0 hB=>?_;replace h:=h.ext a0;replace hA:=hA.ext a0;rcases a5 with rfl | rfl
  ·refine Sz ?_;refine Ay rfl rfl (Ef hc h [70,65,76,83,69] AdG) ?_;rintro v w4 ⟨rfl,a1,a2⟩;refine Sa ?_;exact QW.body_n (rs:=[]) (vs:=[]) results201 trivial rfl ⟨rfl,a1,(Fp.ext (a3.trans a0)).trans a2⟩
  ·refine Sz ?_;refine Ay rfl rfl (Ef hc h [84,82,85,69] AdG) ?_;rintro v w4 ⟨rfl,a1,a2⟩;refine Sa ?_;exact QW.body_n (rs:=[]) (vs:=[]) results201 trivial rfl ⟨rfl,a1,(Fp.ext (a3.trans a0)).trans a2⟩
 ·simp only[Int.reduceEq,if_true,if_false] at htl ⊢;refine Sa ?_;refine Ay rfl rfl (Ef hc h [35,82,69,70,33] AdG) ?_;rintro v w4 ⟨rfl,a1,a2⟩;refine Sa ?_;exact QW.body_n (rs:=[]) (vs:=[]) results201 trivial rfl ⟨rfl,a1,(Fp.ext a3).trans a2⟩
 ·simp only[Int.reduceEq,if_true,if_false] at htl ⊢;refine Sa ?_;refine LW.load_agg (cs:=Dc ref) rfl hA rfl rfl rfl ⟨rfl,rfl,rfl,rfl,rfl,trivial⟩ rfl ?_;refine Sa ?_;refine Ay rfl rfl (JF ref AdE _ g) ?_;rintro v w3 ⟨rfl,a0⟩;replace h:=h.ext a0;refine Sa ?_;refine Ay rfl rfl (Ef hc h _ AdE) ?_;rintro v w4 ⟨rfl,a1,a2⟩;refine Sa ?_;exact QW.body_n (rs:=[]) (vs:=[]) results201 trivial rfl ⟨rfl,a1,(Fp.ext (a3.trans a0)).trans a2⟩
 ·simp only[Int.reduceEq,if_false] at htl ⊢;simp only[Aaq,AaL,Abl] at htl;refine Sa ?_;refine CW.drawHeld (λw'=>Blk w' A (Df ⟨⟨6,num,text,ref,to,kids⟩,.slice q m k⟩) 189) (λw' h=>hA.ext h) AdF λw2 a6=>?_;replace h:=h.ext a6;replace g:=g.ext a6;refine Sh ?_;refine HW.take 2 rfl rfl rfl rfl (λw hw=>Y.load_agg (cs:=Dc ref) rfl hw rfl rfl rfl ⟨rfl,rfl,rfl,rfl,rfl,trivial⟩) rfl AdF AdF AdF (λ_ _ _ h=>h) ?_;refine HW.take 5 rfl rfl rfl rfl (λw _=>Y.pure rfl) rfl AdF AdF AdF (λ_ _ _ h=>h) ?_;refine HW.take 6 rfl rfl rfl rfl (λw hw=>Y.load_agg (cs:=Dc to) rfl hw rfl rfl rfl ⟨rfl,rfl,rfl,rfl,rfl,trivial⟩) rfl AdF AdF AdF (λ_ _ _ h=>h) ?_;refine HW.one 3 AdF rfl rfl (λhS=>?_);refine Ay rfl rfl (JF ref AdE _ g) ?_;rintro v w3 ⟨rfl,a0⟩;replace h:=h.ext a0;replace g:=g.ext a0;apply LW.nil;refine QW.held (hS.ext a0) ?_;refine HW.take 4 rfl rfl rfl rfl (λw _=>Y.go rfl AdO) rfl AdF AdF AdF (λ_ _ _ h=>h) ?_;refine HW.one 7 AdF rfl rfl (λhS=>?_);refine Ay rfl rfl (JF to AdE _ g) ?_;rintro v w4 ⟨rfl,a7⟩;replace h:=h.ext a7;apply LW.nil;refine QW.held (hS.ext a7) ?_;refine HW.take 8 rfl rfl rfl rfl (λw _=>Y.go rfl AdO) rfl AdF AdF AdF (λ_ _ _ h=>h) ?_;refine HW.one 9 AdF rfl rfl (λhS=>?_);refine Ay rfl rfl (Ef hc h (D5 ref++[58]++D5 to) Aeb) ?_;rintro v w5 ⟨rfl,ae,a9⟩;apply LW.nil;refine QW.held (a9.blk _ _ _ hS AdH AdH) ?_;refine HW.done AdF ?_;refine Sa ?_;exact QW.body_n (rs:=[]) (vs:=[]) results201 trivial rfl ⟨rfl,ae,(Fp.ext (((a3.trans a6).trans a0).trans a7)).trans a9⟩
theorem T6{s:SC}(hc:s.Ok)(b:Tr false)(hb:ND s 156 b)(o:Nat)(q:Option Addr)(k:Nat)(out:List UInt8)(w:World)(hf:b.Fit)(hn:b.Num)(hl:Es s.l o b)(hk:AY s.w0 (.slice q 1 k) [((o+b.cnt - 1:Nat):Int)])(htl:out.length+(Tr.neg b).text.length≤1000000000000)(h:Pr s w out) :
  AF prog 203 [.pointer (some ⟨s.b,0,none⟩),.agg ⟨Df ⟨{kind:=8,kids:=[((o+b.cnt - 1:Nat):Int)]},.slice q 1 k⟩⟩] w (λv w'=>v=.tuple #[]∧Pr s w' (out++(Tr.neg b).text)∧Fp w w'):=by
 have a6:=b.cnt_pos;rw[Ri] at htl ⊢;simp only[Aaq,AaL,Abl] at htl;obtain⟨j,hj⟩:∃j,j=o+b.cnt - 1:=⟨_,rfl⟩;rw[←hj] at hk ⊢;obtain⟨ka,rfl,a0⟩:=Pv (p:=q) (c:=k) (zs:=[(j:Int)]) hk (i:=0) rfl;refine Bj func203 ntmps203 ?_;refine Sa ?_;refine CM λA w1 a7 a1 hA=>?_;replace hA:Blk w1 A (Df ⟨{kind:=8,kids:=[(j:Int)]},.slice (some ka) 1 k⟩) 189:=hA;replace h:=h.ext a1;refine Sa ?_;refine Ay rfl rfl (Ef hc h [45] AdG) ?_;rintro v w2 ⟨rfl,a2,a3⟩;replace hA:=a3.blk _ _ _ hA AdH AdH;replace a0:=A0 a2.1 a0;refine Sa ?_;refine Lo ?_;refine Lp a0 ?_;refine Ay rfl rfl (HX hc b hb 5 o j _ w2 hf hn hl AdE Aeb a2) ?_;rintro v w3 ⟨rfl,a4,a5⟩;refine Sa ?_;exact QW.body_n (rs:=[]) (vs:=[]) results203 trivial rfl ⟨rfl,by simpa only[AaR] using a4,((Fp.ext a1).trans a3).trans a5⟩
theorem XU{s:SC}(hc:s.Ok)(x:Int)(b d:Tr false)(hb:ND s 156 b)(hd:ND s 156 d)(o:Nat)(q:Option Addr)(k:Nat)(out:List UInt8)(w:World)(hx9:9≤x)(hx19:x≤19)(hfb:b.Fit)(hnb:b.Num)(hfd:d.Fit)(hnd:d.Num)(hlb:Es s.l o b)(hld:Es s.l (o+b.cnt) d)(hk:AY s.w0 (.slice q 2 k) [((o+b.cnt - 1:Nat):Int),((o+b.cnt+d.cnt - 1:Nat):Int)])(htl:out.length+(Tr.two x b d).text.length≤1000000000000)(h:Pr s w out) :
  AF prog 204 [.pointer (some ⟨s.b,0,none⟩),.agg ⟨Df ⟨{kind:=x,kids:=[((o+b.cnt - 1:Nat):Int),((o+b.cnt+d.cnt - 1:Nat):Int)]},.slice q 2 k⟩⟩] w (λv w'=>v=.tuple #[]∧Pr s w' (out++(Tr.two x b d).text)∧Fp w w'):=by
 have ab:=b.cnt_pos;have ac:=d.cnt_pos;have a7:Yn x=FL x:=by unfold Yn;rw[if_neg AdE,if_pos ⟨hx9,hx19⟩]
 have ad:Db x≤10:=by unfold Db;split<;>(try split)<;>(try split)<;>(try split)<;>(try split)<;>omega
 rw[Sf] at htl ⊢;simp only[Aaq] at htl;obtain⟨j,hj⟩:∃j,j=o+b.cnt - 1:=⟨_,rfl⟩;obtain⟨y,hy⟩:∃y,y=o+b.cnt+d.cnt - 1:=⟨_,rfl⟩;rw[←hj,←hy] at hk ⊢;obtain⟨ka,rfl,a0⟩:=Pv (p:=q) (c:=k) (zs:=[(j:Int),(y:Int)]) hk (i:=0) rfl;obtain⟨ka',ek,a1⟩:=Pv (p:=some ka) (c:=k) (zs:=[(j:Int),(y:Int)]) hk (i:=1) rfl;obtain rfl:=Abm ek;refine Bj func204 ntmps204 ?_;refine Sa ?_;refine CM λA w1 ae a3 hA=>?_;replace hA:Blk w1 A (Df ⟨{kind:=x,kids:=[(j:Int),(y:Int)]},.slice (some ka) 2 k⟩) 189:=hA;replace h:=h.ext a3;refine Sa ?_;refine Ay rfl rfl (UE x w1) ?_;rintro v w2 ⟨rfl,a2⟩;rw[a7];replace h:=h.ext a2;replace hA:=hA.ext a2;replace a0:=A0 h.1 a0;refine Sa ?_;refine Lo ?_;refine Lp a0 ?_;refine Sa ?_;refine Ay rfl rfl (HX hc b hb (Db x) o j _ w2 hfb hnb hlb AdE AdE h) ?_;rintro v w3 ⟨rfl,a8,a4⟩;replace hA:=a4.blk _ _ _ hA AdH AdH;refine Sa ?_;refine Ay rfl rfl (Ef hc a8 (FL x) (by simp only[Aaq];omega)) ?_;rintro v w4 ⟨rfl,a5,a6⟩;replace hA:=a6.blk _ _ _ hA AdH AdH;replace a1:=A0 a5.1 a1;refine Sa ?_;refine Lo ?_;refine Lp a1 ?_;refine Sa ?_;have er:((Db x:Nat):Int)+1=((Db x+1:Nat):Int):=AdE
 rw[er];refine Ay rfl rfl (HX hc d hd (Db x+1) (o+b.cnt) y _ w4 hfd hnd hld AdE (by simp only[Aaq];omega) a5) ?_;rintro v w5 ⟨rfl,a9,aa⟩;refine Sa ?_;exact QW.body_n (rs:=[]) (vs:=[]) results204 trivial rfl ⟨rfl,by simpa only[AaR] using a9,(((Fp.ext (a3.trans a2)).trans a4).trans a6).trans aa⟩
theorem VP{s:SC}(hc:s.Ok)(x:List UInt8)(ks:Tr true)(hks:∀(b:Tr false),b.cnt≤ks.cnt→ND s 156 b)(o:Nat)(q:Option Addr)(k:Nat)(out:List UInt8)(w:World)(hfk:ks.Fit)(hnk:ks.Num)(hlk:Es s.l o ks)(hk:AY s.w0 (.slice q (ks.kids o).length k) (ks.kids o))(htl:out.length+(Tr.call x ks).text.length≤1000000000000)(h:Pr s w out) :
  AF prog 202 [.pointer (some ⟨s.b,0,none⟩),.agg ⟨Df ⟨{kind:=7,text:=x,kids:=ks.kids o},.slice q (ks.kids o).length k⟩⟩] w (λv w'=>v=.tuple #[]∧Pr s w' (out++(Tr.call x ks).text)∧Fp w w'):=by
 rw[Of x o] at htl ⊢;simp only[Aaq,AaL,Abl] at htl;have a2:=UB ks hfk hnk hlk;obtain⟨kids,a1⟩:∃kids,kids=ks.kids o:=⟨_,rfl⟩;rw[←a1] at hk ⊢;rw[RD] at a1;have aj:kids.length=(ks.row o).length:=by rw[a1];simp
 obtain⟨r,hr⟩:∃r,r=ks.row o:=⟨_,rfl⟩;rw[←hr] at a2 a1 aj htl ⊢;have ak:=hk.1;refine Bj func202 ntmps202 ?_;refine Sa ?_;refine CM λA w1 ap ai hA=>?_;replace hA:Blk w1 A (Df ⟨{kind:=7,text:=x,kids:=kids},.slice q kids.length k⟩) 189:=hA;replace h:=h.ext ai;refine Sa ?_;refine Ay rfl rfl (Ef hc h (x++[40]) Aeb) ?_;rintro v w2 ⟨rfl,al,a5⟩;replace hA:=a5.blk _ _ _ hA AdH AdH;replace a5:=(Fp.ext ai).trans a5;refine Sa ?_;refine CW.loop (ι:=Nat) (λn w'=>n≤r.length∧Pr s w' (out++(x++[40])++LS r n)∧Fp w w') (λn=>[(0,.pointer (some ⟨s.b,0,none⟩)),(12,.slice q kids.length k),(13,.int .i64 (kids.length:Int)),(14,.int .i64 (n:Int))]) (λn=>r.length - n) 0 ⟨by omega,by simpa only[LS,Aby] using al,a5⟩ Bx ?_;rintro n w3 ⟨aq,a6,a8⟩;have a3:=KT (r:=r) n (r.length - n) AdE;rw[show n+(r.length - n)=r.length by omega] at a3;refine Sa ?_;refine A8 (λh1=>?_) λh1=>?_;rotate_left
 ·have h1:n=r.length:=by simp at h1;omega
  subst h1;refine Sa ?_;refine Ay rfl rfl (Ef hc a6 [41] Aeb) ?_;rintro v w4 ⟨rfl,a9,aa⟩;refine Sa ?_;exact QW.body_n (rs:=[]) (vs:=[]) results202 trivial rfl ⟨rfl,by simpa only[AaR] using a9,a8.trans aa⟩
 have h1:n<r.length:=by simp at h1;omega
 obtain⟨⟨o',b⟩,ab⟩:∃y,r[n]?=some y:=⟨_,Aap h1⟩;obtain⟨ac,ad,ae,af,am⟩:=a2 _ (Abn ab);simp only at ac ad ae af am;have ar:=b.cnt_pos;obtain⟨j,hj⟩:∃j,j=o'+b.cnt - 1:=⟨_,rfl⟩;have an:kids[n]?=some (j:Int):=by rw[a1,Ab1,ab,hj];rfl
 obtain⟨ka,rfl,a7⟩:=Pv hk an;rw[show n=((n:Nat):Int).toNat*1 by omega] at a7;replace a7:=A0 a6.1 a7;have a0:=OI ab;simp only at a0;have ao:=KT (r:=r) (n+1) (r.length - (n+1)) AdE;rw[show n+1+(r.length - (n+1))=r.length by omega] at ao;have a4:=congrArg List.length a0;simp only[Aaq] at a4;refine Sa ?_;refine Lo ?_;refine Lp a7 ?_;refine Sa ?_;refine A8 (λh2=>?_) λh2=>?_
 ·have h2:0<n:=by simp at h2;omega
  rw[if_pos h2] at a4 a0;simp only[AaL,Abl] at a4;refine Sa ?_;refine Ay rfl rfl (Ef hc a6 [44] Aeb) ?_;rintro v w4 ⟨rfl,a9,aa⟩;refine Sa ?_;refine Ay rfl rfl (hks b af o' j _ w4 ad ae ac AdE Aeb a9) ?_;rintro v w5 ⟨rfl,ag,ah⟩;refine Sa ?_;refine QW.again (n+1) ⟨h1,?_,(a8.trans aa).trans ah⟩ Bx AdE;rw[a0]
  simpa only[AaR] using ag
 ·have h2:¬0<n:=by simp at h2;omega
  rw[if_neg h2] at a4 a0;simp only[Abl] at a4;refine Sa ?_;refine Ay rfl rfl (hks b af o' j _ w3 ad ae ac AdE Aeb a6) ?_;rintro v w5 ⟨rfl,ag,ah⟩;refine Sa ?_;refine QW.again (n+1) ⟨h1,?_,a8.trans ah⟩ Bx AdE;rw[a0]
  simpa only[AaR,Aby] using ag
theorem Uv{s:SC}(hc:s.Ok):∀(m:Nat) (t:Tr false),t.cnt≤m→ND s 156 t
 | 0,t,hm=>absurd t.cnt_pos AdE
 | m+1,t,hm=>by
  intro o i out w hf hn hl hio htl h;have ih:=Uv hc m;have hnd:=hl.node;rw[show o+t.cnt - 1=i by omega] at hnd;have hi:i<s.l.length:=(Abg.1 hnd).1;have hsn:=hc.short _ (Abn hnd);have hN:=hc.nodes;have hl1:=hN.1;obtain⟨a,kp,kc,ea,hk,hc0⟩:=hN.at hnd;have hpr:=h;obtain⟨h0,v,hB,ho⟩:=h;rw[ea] at hB;have hcl:∀j u,(Df ⟨DP o t,.slice kp (DP o t).kids.length kc⟩)[j]?=some u→w.cell? ((a.add (i*14)).add j)=some u:=λj u hu=>A0 h0 (hc0 j u hu)
  cases t with
  | leaf n=>
   have k0:=hf.1;have k1:=hf.2.1
   change ∀j u,(Df ⟨n,.slice kp n.kids.length kc⟩)[j]?=some u→_ at hcl
   refine Bj func156 ntmps156 ?_;refine Sa ?_;refine Lo ?_;refine LW.load_cells rfl hcl rfl rfl rfl rfl ?_;refine Sa ?_;refine Bo λA w1 hbA hx1 hA=>?_;refine Sa ?_;refine AD λw2 hc2 hA=>?_;have hx2:Ai w w2:=hx1.step hc2 AdG;replace hpr:=hpr.ext hx2;refine Sa ?_;refine CW.no rfl (decide_eq_false (show ¬n.kind=7 by omega)) ?_;refine Sa ?_;refine CW.no rfl (decide_eq_false (show ¬n.kind=8 by omega)) ?_;refine Sa ?_;refine CW.no rfl (decide_eq_false (show ¬(8:Int)<n.kind by omega)) ?_;refine Sa ?_;refine LW.call (f:=201) (fs:=[]) (cs:=[]) rfl rfl rfl (VU hc n kp n.kids.length kc out w2 hf hn hsn htl hpr) ?_;rintro v w3 ⟨rfl,hp3,hf3⟩;refine Sa ?_
   exact QW.body_n (rs:=[]) (vs:=[]) results156 trivial rfl ⟨rfl,hp3,(Fp.ext hx2).trans hf3⟩
  | neg b=>
   change ∀j u,(Df ⟨{kind:=8,kids:=[((o+b.cnt - 1:Nat):Int)]},.slice kp 1 kc⟩)[j]?=some u→_ at hcl
   simp only[Tr.cnt] at hm;refine Bj func156 ntmps156 ?_;refine Sa ?_;refine Lo ?_;refine LW.load_cells rfl hcl rfl rfl rfl rfl ?_;refine Sa ?_;refine Bo λA w1 hbA hx1 hA=>?_;refine Sa ?_;refine AD λw2 hc2 hA=>?_;have hx2:Ai w w2:=hx1.step hc2 AdG;replace hpr:=hpr.ext hx2;refine Sa ?_;refine LW.call (f:=203) (fs:=[]) (cs:=[]) rfl rfl rfl (T6 hc b (ih b AdE) o kp kc out w2 hf (λu hu=>hn u AdW) hl.neg hk htl hpr) ?_;rintro v w3 ⟨rfl,hp3,hf3⟩;refine Sa ?_
   exact QW.body_n (rs:=[]) (vs:=[]) results156 trivial rfl ⟨rfl,hp3,(Fp.ext hx2).trans hf3⟩
  | two x b d=>
   obtain⟨hk9,hk19,hfb,hfd⟩:=hf
   change ∀j u,(Df ⟨{kind:=x,kids:=[((o+b.cnt - 1:Nat):Int),((o+b.cnt+d.cnt - 1:Nat):Int)]},.slice kp 2 kc⟩)[j]?=some u→_ at hcl
   simp only[Tr.cnt] at hm;refine Bj func156 ntmps156 ?_;refine Sa ?_;refine Lo ?_;refine LW.load_cells rfl hcl rfl rfl rfl rfl ?_;refine Sa ?_;refine Bo λA w1 hbA hx1 hA=>?_;refine Sa ?_;refine AD λw2 hc2 hA=>?_;have hx2:Ai w w2:=hx1.step hc2 AdG;replace hpr:=hpr.ext hx2;refine Sa ?_;refine CW.no rfl (decide_eq_false (show ¬x=7 by omega)) ?_;refine Sa ?_;refine CW.no rfl (decide_eq_false (show ¬x=8 by omega)) ?_;refine Sa ?_;refine CW.yes rfl (decide_eq_true (show(8:Int)<x by omega)) ?_;refine Sa ?_;refine LW.call (f:=204) (fs:=[]) (cs:=[]) rfl rfl rfl (XU hc x b d (ih b AdE) (ih d AdE) o kp kc out w2 hk9 hk19 hfb (λu hu=>hn u AdT) hfd (λu hu=>hn u AdS) hl.two.1 hl.two.2 hk htl hpr) ?_;rintro v w3 ⟨rfl,hp3,hf3⟩;refine Sa ?_
   exact QW.body_n (rs:=[]) (vs:=[]) results156 trivial rfl ⟨rfl,hp3,(Fp.ext hx2).trans hf3⟩
  | call x ks=>
   change ∀j u,(Df ⟨{kind:=7,text:=x,kids:=ks.kids o},.slice kp (ks.kids o).length kc⟩)[j]?=some u→_ at hcl
   simp only[Tr.cnt] at hm;refine Bj func156 ntmps156 ?_;refine Sa ?_;refine Lo ?_;refine LW.load_cells rfl hcl rfl rfl rfl rfl ?_;refine Sa ?_;refine Bo λA w1 hbA hx1 hA=>?_;refine Sa ?_;refine AD λw2 hc2 hA=>?_;have hx2:Ai w w2:=hx1.step hc2 AdG;replace hpr:=hpr.ext hx2;refine Sa ?_;refine LW.call (f:=202) (fs:=[]) (cs:=[]) rfl rfl rfl (VP hc x ks (λb hb=>ih b AdE) o kp kc out w2 hf.2 (WQ hn) hl.call hk htl hpr) ?_;rintro v w3 ⟨rfl,hp3,hf3⟩;refine Sa ?_;exact QW.body_n (rs:=[]) (vs:=[]) results156 trivial rfl ⟨rfl,hp3,(Fp.ext hx2).trans hf3⟩
theorem Ob(l:List Ah)(v:Value)(w:World)(g:CQ w)(hN:CS w v l)(hs:Em l)(hnum:JC l):AF prog 99 [v] w (λv' w'=>v'=Ao (BO l)∧Ai w w'):=by
 obtain⟨p,c,rfl⟩:=hN.slice;have hl:=hN.1;refine Bj func99 ntmps99 ?_;refine Sa ?_;refine Ay rfl rfl (WE l _ w g hN hs) ?_;rintro v w1 ⟨rfl,hx⟩;replace hN:=hN.ext hx;replace g:=g.ext hx;refine Sa ?_;refine A8 (λh1=>?_) λh1=>?_
 ·have h1:Cr l=false:=by simpa using h1
  refine Sa ?_;exact QW.body1 rfl rfl ⟨by rw[OE h1],hx⟩
 have h1:Cr l=true:=by simpa using h1
 obtain⟨t,rfl,hf⟩:=Kt h1;have a5:=t.cnt_pos;have a0:=t.flat_len 0;have hn:=hnum t hf rfl;have a1:=t.len_le 0 hf hn (λn hm=>(hs n hm).1);simp only[cond_false] at a1;rw[G9 hf];refine Sa ?_;refine CM λA w2 a6 a2 hA=>?_;replace hA:Blk w2 A [.slice p (t.flat 0).length c,.slice none 0 0] 218:=hA;have hc:SC.Ok ⟨t.flat 0,p,c,A,w1⟩:=⟨hN,hs,by simp only;omega,g⟩;have a3:Pr ⟨t.flat 0,p,c,A,w1⟩ w2 []:=⟨a2,_,hA,Own.nil _ _ _ _⟩;refine Sa ?_;have e:(((t.flat 0).length:Int) - 1)=((t.cnt - 1:Nat):Int):=AdE
 rw[e];refine Ay rfl rfl (Uv hc t.cnt t (Abi _) 0 (t.cnt - 1) [] w2 hf hn (Es.whole t) AdE AdG a3) ?_;rintro v w3 ⟨rfl,⟨a4,v,hB,ho⟩,-⟩;simp only[Ab5] at ho;refine Sa ?_;refine LW.string_own rfl ho rfl rfl rfl rfl rfl rfl rfl ?_;refine Sa ?_;exact QW.body1 rfl rfl ⟨rfl,hx.trans a4⟩
end Go.Proofs.YtcjjcnecopnpcaaGreatDoor
