/-
  Joined by program out of the texts RPar1 RPar2 RPar3 RPar4 RPar5 RPar6 RTree RTreeB.
-/
import Derived.Test.YtcjjcnecopnpcaaGreatDoorMyB
import Derived.Test.YtcjjcnecopnpcaaGreatDoorMyE
import Derived.Test.YtcjjcnecopnpcaaGreatDoorMyC
namespace Go.Proofs.YtcjjcnecopnpcaaGreatDoor
open Tryz
open Go Go.E
structure Fq(w w':World):Prop where
 size:w.heap.size≤w'.heap.size
 blk:∀b l T,Blk w b l T→T≠200→T≠189→Blk w' b l T
theorem Fq.refl(w:World):Fq w w:=⟨Ab2 _,λ_ _ _ h _ _=>h⟩
theorem Fq.trans{a b c:World}(h:Fq a b)(k:Fq b c):Fq a c:=⟨Acd h.size k.size,λx l T hx h1 h2=>k.blk x l T (h.blk x l T hx h1 h2) h1 h2⟩
theorem Fq.ext{a b:World}(h:Ah a b):Fq a b:=⟨h.size,λ_ _ _ hx _ _=>hx.ext h⟩
theorem Fq.chg{S:List Nat}{a b:World}(h:Chg S a b)(hs:∀k∈S,∀l T,Blk a k l T→T=200∨T=189):Fq a b:=
 ⟨h.size,λx l T hx h1 h2=>hx.chg h (λhm=>by rcases hs x hm l T hx with e | e<;>contradiction)⟩
theorem BW.fq{w w':World}{kv:Value}{ks:List Int}(h:BW w kv ks)(f:Fq w w'):BW w' kv ks:=by
 rcases h with h | ⟨b,cap,sp,e,hb⟩
 ·exact .inl h
 ·exact .inr ⟨b,cap,sp,e,f.blk _ _ _ hb Aef Aef⟩
def Rq(c:Bg)(X:List Nat)(w:World)(s:Bx):Prop:=
 Ah c.w0 w∧s.at_<c.T.length∧s.deep≤12∧s.out.length≤s.at_∧∃(outv:Value) (nvs:List NV),Blk w c.rb [c.tokv,.int .i64 s.at_,.int .i64 s.deep,.int .i64 0,outv] 200∧
  Own w c.w0.heap.size 189 14 outv nvs.length (nvs.flatMap BO)∧nvs.map NV.node=s.out∧∀x∈nvs,BW w x.kv x.node.kids∧∀b∈Ae x.kv,b∉X
theorem Rq.ext{c:Bg}{X:List Nat}{w w':World}{s:Bx}(h:Rq c X w s)(x:Ah w w'):Rq c X w' s:=by
 obtain⟨h0,h1,h2,h3,outv,nvs,hB,ho,hm,hk⟩:=h;exact⟨h0.trans x,h1,h2,h3,outv,nvs,hB.ext x,ho.ext x,hm,λy hy=>⟨(hk y hy).1.fq (.ext x),(hk y hy).2⟩⟩
theorem Rq.len{c:Bg}{X:List Nat}{w:World}{s:Bx}(h:Rq c X w s):s.at_<c.T.length∧s.deep≤12∧s.out.length≤s.at_:=⟨h.2.1,h.2.2.1,h.2.2.2.1⟩
def Re(c:Bg)(w:World)(e d:Int)(k:Nat):Prop:=
 Ah c.w0 w∧e≠0∧∃(i:Int) (outv:Value) (n:Nat) (xs:List Value),Blk w c.rb [c.tokv,.int .i64 i,.int .i64 d,.int .i64 e,outv] 200∧Own w c.w0.heap.size 189 14 outv n xs∧n≤k
theorem Re.ext{c:Bg}{w w':World}{e d:Int}{k:Nat}(h:Re c w e d k)(x:Ah w w'):Re c w' e d k:=by
 obtain⟨h0,h1,i,outv,n,xs,hB,ho,hn⟩:=h;exact⟨h0.trans x,h1,i,outv,n,xs,hB.ext x,ho.ext x,hn⟩
theorem Re.mono{c:Bg}{w:World}{e d:Int}{k k':Nat}(h:Re c w e d k)(hk:k≤k'):Re c w e d k':=by
 obtain⟨h0,h1,i,outv,n,xs,hB,ho,hn⟩:=h;exact⟨h0,h1,i,outv,n,xs,hB,ho,by omega⟩
theorem G2{c:Bg}{w:World}{n:Nat}{outv:Value}{xs l:List Value}(ho:Own w c.w0.heap.size 189 14 outv n xs)(hB:Blk w c.rb l 200):∀j,j∈Ae outv→j∉[c.rb]:=λj hj hb=>by
 simp only[Aah] at hb;subst hb;obtain⟨_,⟨e,_⟩ | ⟨g,cap,sp,e,hg,_⟩⟩:=ho
 ·rw[e] at hj;simp[Ae] at hj
 ·rw[e] at hj;simp[Ae] at hj;exact absurd (hg.inj (hj ▸ hB)) Aef
theorem Rq.set{c:Bg}{X:List Nat}(hc:c.Ok){w w':World}{s s':Bx}{outv:Value}{nvs:List NV}{l:List Value}(h0:Ah c.w0 w)(ho:Own w c.w0.heap.size 189 14 outv nvs.length (nvs.flatMap BO))(hm:nvs.map NV.node=s.out)(hk:∀x∈nvs,BW w x.kv x.node.kids∧∀b∈Ae x.kv,b∉X)
  (hB0:Blk w c.rb l 200) (hch:Chg [c.rb] w w') (hB:Blk w' c.rb [c.tokv,.int .i64 s'.at_,.int .i64 s'.deep,.int .i64 0,outv] 200)
  (hso:s'.out=s.out) (h1:s'.at_<c.T.length) (h2:s'.deep≤12) (h3:s'.out.length≤s'.at_):Rq c X w' s'∧Fq w w':=by
 have hf:Fq w w':=Fq.chg hch (λk hk l T hb=>by simp at hk;subst hk;exact .inl (hb.inj hB0));exact⟨⟨h0.step hch Ae6,h1,h2,h3,outv,nvs,hB,ho.chg hch (G2 ho hB0),by rw[hm,hso],λx hx=>⟨(hk x hx).1.fq hf,(hk x hx).2⟩⟩,hf⟩
theorem Re.set{c:Bg}(hc:c.Ok){w w':World}{e d:Int}{i:Int}{k n:Nat}{outv:Value}{xs l:List Value}(h0:Ah c.w0 w)(ho:Own w c.w0.heap.size 189 14 outv n xs)
  (hB0:Blk w c.rb l 200) (hch:Chg [c.rb] w w') (he:e≠0) (hB:Blk w' c.rb [c.tokv,.int .i64 i,.int .i64 d,.int .i64 e,outv] 200) (hn:n≤k):Re c w' e d k∧Fq w w':=by
 have hf:Fq w w':=Fq.chg hch (λk hk l T hb=>by simp at hk;subst hk;exact .inl (hb.inj hB0));exact⟨⟨h0.step hch Ae6,he,i,outv,n,xs,hB,ho.chg hch (G2 ho hB0),hn⟩,hf⟩
theorem Mb{c:Bg}{X:List Nat}(hc:c.Ok){w:World}{s:Bx}(h:Rq c X w s)(x:List UInt8):A9 prog 191 [.pointer (some ⟨c.rb,0,none⟩),Aq x] w (λv w'=>v=.bool (BH c.T s x)∧Ah w w'):=by
 obtain⟨h0,h1,h2,h3,outv,nvs,hB,ho,hm,hk⟩:=h;have hT:=hc.tok.ext h0;have a1:=hc.len;have hg:c.T[s.at_]?=some (Aa c.T s):=by simp[Aa,Aav h1]
 have a2:(c.T.flatMap Bj++c.tsp)[0+s.at_*9+0]?=some (.int .i64 (Aa c.T s).kind):=by
  rw[AbP];exact GQ Jt c.T c.tsp s.at_ _ 0 hg Aef
 have a3:(c.T.flatMap Bj++c.tsp)[0+s.at_*9+1]?=some (Aq (Aa c.T s).text):=by
  rw[AbP];exact GQ Jt c.T c.tsp s.at_ _ 1 hg Aef
 unfold Bg.tokv at hB;refine AG func191 ntmps191 ?_;refine Sa ?_;refine Ig ?_;refine Sq ?_;refine QL.know (t:=10) (c:=true) rfl Aej ?_;refine Zd ?_;refine QL.load (i:=0+s.at_*9+0) rfl hT a2 rfl rfl rfl ?_;refine Zd ?_;refine Qlp (λh5=>?_) λh5=>?_
 ·have h5:(Aa c.T s).kind=5:=by simpa using h5
  refine Zd ?_;refine QL.load (i:=0+s.at_*9+1) rfl hT a3 rfl rfl rfl ?_;refine Zd ?_;refine QL.nil λw1 a0=>?_;refine Sa ?_;refine QW.body1 rfl rfl ⟨?_,a0⟩;simp[BH,h5]
 ·have h5:(Aa c.T s).kind≠5:=by simpa using h5
  refine Zd ?_;refine QL.nil λw1 a0=>?_;refine Sa ?_;refine QW.body1 rfl rfl ⟨?_,a0⟩;simp[BH,h5]
theorem XV{c:Bg}{w:World}{e d:Int}{k:Nat}(h:Re c w e d k)(x:List UInt8):A9 prog 191 [.pointer (some ⟨c.rb,0,none⟩),Aq x] w (λv w'=>v=.bool false∧Ah w w'):=by
 obtain⟨h0,he,i,outv,n,xs,hB,ho,hn⟩:=h;refine AG func191 ntmps191 ?_;refine Sa ?_;refine Ig ?_;refine Sq ?_;refine QL.know (t:=10) (c:=false) rfl (by simp[he]) ?_;refine Sq ?_;refine QL.know (t:=24) (c:=false) rfl Aej ?_;refine Sq ?_;refine QL.nil λw1 a0=>?_;refine Sa ?_;exact QW.body1 rfl rfl ⟨rfl,a0⟩
theorem Gh{c:Bg}{X:List Nat}(hc:c.Ok){w:World}{s:Bx}(h:Rq c X w s)(e:Int)(he:e≠0):A9 prog 146 [.pointer (some ⟨c.rb,0,none⟩),.int .i64 e] w (λv w'=>v=.tuple #[]∧Re c w' e s.deep s.out.length∧Fq w w'):=by
 obtain⟨h0,h1,h2,h3,outv,nvs,hB,ho,hm,hk⟩:=h;have a0:=hB;have a1:nvs.length=s.out.length:=by rw[←hm];simp
 refine AG func146 ntmps146 ?_;refine Sa ?_;refine Cu λw1 a2 hB=>?_;replace hB:Blk w1 c.rb [c.tokv,.int .i64 s.at_,.int .i64 s.deep,.int .i64 e,outv] 200:=hB;obtain⟨hr,hf⟩:=Re.set hc h0 ho a0 a2 he hB (Nat.le_of_eq a1);refine Sa ?_;exact QW.body_n (rs:=[]) (vs:=[]) results146 trivial rfl ⟨rfl,hr,hf⟩
theorem WC{c:Bg}{w:World}{e d:Int}{k:Nat}(h:Re c w e d k)(z:Int):A9 prog 146 [.pointer (some ⟨c.rb,0,none⟩),.int .i64 z] w (λv w'=>v=.tuple #[]∧Ah w w'):=by
 obtain⟨h0,he,i,outv,n,xs,hB,ho,hn⟩:=h;refine AG func146 ntmps146 ?_;refine Sa ?_;refine CW.no rfl (by simp[he]) ?_;refine Sa ?_;exact QW.body_n (rs:=[]) (vs:=[]) results146 trivial rfl ⟨rfl,Chg.refl _ _⟩
theorem Ol{c:Bg}{X:List Nat}(hc:c.Ok){w:World}{s:Bx}(h:Rq c X w s)(x:List UInt8):A9 prog 264 [.pointer (some ⟨c.rb,0,none⟩),Aq x] w
  (λv w'=>v=.tuple #[]∧Fq w w'∧(BH c.T s x=true∧Rq c X w' (Al s)∨BH c.T s x=false∧Re c w' 5 s.deep s.out.length)):=by
 have a5:=hc.len;refine AG func264 ntmps264 ?_;refine Sa ?_;refine Ap rfl rfl (Mb hc h x) ?_;rintro v w1 ⟨rfl,a4⟩;replace h:=h.ext a4;refine Sa ?_;refine Av (λh1=>?_) λh1=>?_
 ·have h1:BH c.T s x=false:=by simpa using h1
  refine Sa ?_;refine Ap rfl rfl (Gh hc h 5 Aef) ?_;rintro v w2 ⟨rfl,hr,hf⟩;refine Sa ?_;exact QW.body (rs:=[]) (vs:=[]) results264 trivial rfl ⟨rfl,(Fq.ext a4).trans hf,.inr ⟨h1,hr⟩⟩
 ·have h1:BH c.T s x=true:=by simpa using h1
  obtain⟨a0,a1,a2,a3,outv,nvs,hB,ho,hm,hk⟩:=h;have a6:=Dk hc a1 (by rw[(Et h1).1];decide);have a7:=hB;refine Sa ?_;refine Cu λw2 a8 hB=>?_;replace hB:Blk w2 c.rb [c.tokv,.int .i64 (Al s).at_,.int .i64 (Al s).deep,.int .i64 0,outv] 200:=hB;obtain⟨hr,hf⟩:=Rq.set hc (s:=s) (s':=Al s) a0 ho hm hk a7 a8 hB rfl a6 a2 Aeu;refine Sa ?_;exact QW.body_n (rs:=[]) (vs:=[]) results264 trivial rfl ⟨rfl,(Fq.ext a4).trans hf,.inl ⟨h1,hr⟩⟩
theorem LF{c:Bg}{w:World}{e d:Int}{k:Nat}(h:Re c w e d k)(x:List UInt8):A9 prog 264 [.pointer (some ⟨c.rb,0,none⟩),Aq x] w (λv w'=>v=.tuple #[]∧Ah w w'):=by
 refine AG func264 ntmps264 ?_;refine Sa ?_;refine Ap rfl rfl (XV h x) ?_;rintro v w1 ⟨rfl,a0⟩;refine Sa ?_;refine Ap rfl rfl (WC (h.ext a0) 5) ?_;rintro v w2 ⟨rfl,a1⟩;refine Sa ?_;exact QW.body (rs:=[]) (vs:=[]) results264 trivial rfl ⟨rfl,a0.trans a1⟩
theorem Oe{c:Bg}{X:List Nat}(hc:c.Ok){w:World}{s:Bx}(h:Rq c X w s)(hk0:(Aa c.T s).kind≠0):A9 prog 228 [.pointer (some ⟨c.rb,0,none⟩)] w
  (λv w'=>v=.tuple #[]∧Fq w w'∧(s.deep<12∧Rq c X w' (Ax (Al s))∨12≤s.deep∧Re c w' 6 s.deep s.out.length)):=by
 have a4:=hc.len;have hh:=h;obtain⟨a0,a1,a2,a3,outv,nvs,hB,ho,hm,hk⟩:=hh;have a5:=Dk hc a1 hk0;refine AG func228 ntmps228 ?_;refine Sa ?_;refine Av (λh1=>?_) λh1=>?_
 ·have h1:12≤s.deep:=by simp at h1;omega
  refine Sa ?_;refine Ap rfl rfl (Gh hc h 6 Aef) ?_;rintro v w2 ⟨rfl,hr,hf⟩;refine Sa ?_;exact QW.body (rs:=[]) (vs:=[]) results228 trivial rfl ⟨rfl,hf,.inr ⟨h1,hr⟩⟩
 ·have h1:s.deep<12:=by simp at h1;omega
  have a6:=hB;refine Sa ?_;refine Cu λw2 a7 hB=>?_;refine Sa ?_;refine Cu λw3 a8 hB=>?_;replace hB:Blk w3 c.rb [c.tokv,.int .i64 ((s.at_+1:Nat):Int),.int .i64 ((s.deep+1:Nat):Int),.int .i64 0,outv] 200:=hB;obtain⟨hr,hf⟩:=Rq.set hc (s:=s) (s':=Ax (Al s)) a0 ho hm hk a6 (a7.same a8) hB rfl a5 Aey Aeu;refine Sa ?_;exact QW.body_n (rs:=[]) (vs:=[]) results228 trivial rfl ⟨rfl,hf,.inl ⟨h1,hr⟩⟩
theorem S9{c:Bg}(hc:c.Ok){w:World}{i d e:Int}{outv:Value}{n:Nat}{xs:List Value}(a0:Ah c.w0 w)(hB:Blk w c.rb [c.tokv,.int .i64 i,.int .i64 d,.int .i64 e,outv] 200)(ho:Own w c.w0.heap.size 189 14 outv n xs)(hn:n≤100000)(x:NV)(hkv:x.kv.oneCell'=true) :
  A9 prog 192 [.pointer (some ⟨c.rb,0,none⟩),.agg ⟨BO x⟩] w
  (λv w'=>v=.int .i64 n∧Ah c.w0 w'∧Fq w w'∧∃outv',Blk w' c.rb [c.tokv,.int .i64 i,.int .i64 d,.int .i64 e,outv'] 200∧Own w' c.w0.heap.size 189 14 outv' (n+1) (xs++BO x)):=by
 obtain⟨p1,q1,e1⟩:=ho.slice;subst e1;have ai:(BO x).all (·.oneCell')=true:=by
  simp only[BO,AdN,hkv];rfl
 refine AG func192 ntmps192 ?_;refine Sa ?_;refine C0 λC w1 an ak hC=>?_;replace hC:Blk w1 C (BO x) 189:=hC;replace hB:=hB.ext ak;refine Sa ?_;refine CW.drawAny Aec λw2 aj=>?_;replace hB:=hB.ext aj;replace hC:=hC.ext aj;have a7:=ak.trans aj;have ao:=a7.size;refine AW.take 0 rfl rfl rfl rfl (λw=>Y.pure rfl) rfl rfl Aec Aec Aec (λ_ _ _ h=>h) ?_;refine AW.take 1 rfl rfl rfl rfl (λw=>Y.pure rfl) rfl rfl Aec Aec Aec (λ_ _ _ h=>h) ?_;refine AW.take 2 rfl rfl rfl rfl (λw=>Y.pure rfl) rfl rfl Aec Aec Aec (λ_ _ _ h=>h) ?_;refine AW.take 3 rfl rfl rfl rfl (λw=>Y.pure rfl) rfl rfl Aec Aec Aec (λ_ _ _ h=>h) ?_;refine AW.two 4 5 Aec rfl rfl rfl rfl ?_ ?_
 ·refine Sa ?_;apply QW.any;refine AW.one 5 Aec rfl rfl ?_;refine Sa ?_;apply QW.any;refine AW.one 6 Aec rfl rfl ?_;refine CR λA w3 al a8 hA=>?_;replace hA:Blk w3 A (BO x) 189:=hA;have a9:=hB.ext a8;have a1:=a7.trans a8;have am:=a1.size;have a3:=ho.ext a1;refine Sa ?_;apply QW.any;refine AW.one 7 Aec rfl rfl ?_;refine LW.append rfl rfl rfl rfl rfl rfl a3 Ae9 hA rfl ai rfl AeW rfl ?_;intro v' w4 a4 a5 ab;have ac:c.rb∉Ae (Value.slice p1 n q1):=λhm=>G2 a3 a9 _ hm Aej;have ad:Fq w3 w4:=Fq.chg a4 (λk hk l T hb=>.inr (by
   obtain⟨_,⟨e,_⟩ | ⟨g,cap,sp,e,hg,_⟩⟩:=a3
   ·rw[e] at hk;simp[Ae] at hk
   ·rw[e] at hk;simp[Ae] at hk;subst hk;exact hb.inj hg))
  have a2:=a9.chg a4 ac;have ae:Ah c.w0 w4:=(a0.trans a1).step a4 (λk hk=>(a3.lt hk).1);obtain⟨p2,q2,e2⟩:=a5.slice;subst e2;refine Sa ?_;apply QW.any;refine AW.one 8 Aec rfl rfl ?_;refine Sa ?_;apply QW.any;refine AW.one 9 Aec rfl rfl ?_;refine Sa ?_;apply QW.any;refine AW.one 10 Aec rfl rfl ?_;have aa:=a2;refine Cu λw5 a6 a2=>?_;replace a2:Blk w5 c.rb [c.tokv,.int .i64 i,.int .i64 d,.int .i64 e,.slice p2 (n+1) q2] 200:=a2;have af:Fq w4 w5:=Fq.chg a6 (λk hk l T hb=>by simp at hk;subst hk;exact .inl (hb.inj aa));have ag:Fq w w5:=((Fq.ext a1).trans ad).trans af;have ah:=a5.chg a6 (G2 a5 aa);apply LW.nil;apply QW.any;refine AW.done Aec ?_;refine Sa ?_;exact QW.body1 rfl rfl ⟨by congr 1;omega,ae.step a6 Ae6,ag,_,a2,ah⟩
 ·refine Sa ?_;apply QW.any;refine AW.two 4 6 Aec rfl rfl rfl rfl ?_ ?_
  ·refine Sa ?_;apply QW.any;refine AW.one 6 Aec rfl rfl ?_;refine CR λA w3 al a8 hA=>?_;replace hA:Blk w3 A (BO x) 189:=hA;have a9:=hB.ext a8;have a1:=a7.trans a8;have am:=a1.size;have a3:=ho.ext a1;refine Sa ?_;apply QW.any;refine AW.one 7 Aec rfl rfl ?_;refine LW.append rfl rfl rfl rfl rfl rfl a3 Ae9 hA rfl ai rfl AeW rfl ?_;intro v' w4 a4 a5 ab;have ac:c.rb∉Ae (Value.slice p1 n q1):=λhm=>G2 a3 a9 _ hm Aej;have ad:Fq w3 w4:=Fq.chg a4 (λk hk l T hb=>.inr (by
    obtain⟨_,⟨e,_⟩ | ⟨g,cap,sp,e,hg,_⟩⟩:=a3
    ·rw[e] at hk;simp[Ae] at hk
    ·rw[e] at hk;simp[Ae] at hk;subst hk;exact hb.inj hg))
   have a2:=a9.chg a4 ac;have ae:Ah c.w0 w4:=(a0.trans a1).step a4 (λk hk=>(a3.lt hk).1);obtain⟨p2,q2,e2⟩:=a5.slice;subst e2;refine Sa ?_;apply QW.any;refine AW.one 8 Aec rfl rfl ?_;refine Sa ?_;apply QW.any;refine AW.one 9 Aec rfl rfl ?_;refine Sa ?_;apply QW.any;refine AW.one 10 Aec rfl rfl ?_;have aa:=a2;refine Cu λw5 a6 a2=>?_;replace a2:Blk w5 c.rb [c.tokv,.int .i64 i,.int .i64 d,.int .i64 e,.slice p2 (n+1) q2] 200:=a2;have af:Fq w4 w5:=Fq.chg a6 (λk hk l T hb=>by simp at hk;subst hk;exact .inl (hb.inj aa));have ag:Fq w w5:=((Fq.ext a1).trans ad).trans af;have ah:=a5.chg a6 (G2 a5 aa);apply LW.nil;apply QW.any;refine AW.done Aec ?_;refine Sa ?_;exact QW.body1 rfl rfl ⟨by congr 1;omega,ae.step a6 Ae6,ag,_,a2,ah⟩
  ·refine CR λA w3 al a8 hA=>?_;replace hA:Blk w3 A (BO x) 189:=hA;have a9:=hB.ext a8;have a1:=a7.trans a8;have am:=a1.size;have a3:=ho.ext a1;refine Sa ?_;apply QW.any;refine AW.one 4 Aec rfl rfl ?_;refine Sa ?_;apply QW.any;refine AW.one 7 Aec rfl rfl ?_;refine LW.append rfl rfl rfl rfl rfl rfl a3 Ae9 hA rfl ai rfl AeW rfl ?_;intro v' w4 a4 a5 ab;have ac:c.rb∉Ae (Value.slice p1 n q1):=λhm=>G2 a3 a9 _ hm Aej;have ad:Fq w3 w4:=Fq.chg a4 (λk hk l T hb=>.inr (by
    obtain⟨_,⟨e,_⟩ | ⟨g,cap,sp,e,hg,_⟩⟩:=a3
    ·rw[e] at hk;simp[Ae] at hk
    ·rw[e] at hk;simp[Ae] at hk;subst hk;exact hb.inj hg))
   have a2:=a9.chg a4 ac;have ae:Ah c.w0 w4:=(a0.trans a1).step a4 (λk hk=>(a3.lt hk).1);obtain⟨p2,q2,e2⟩:=a5.slice;subst e2;refine Sa ?_;apply QW.any;refine AW.one 8 Aec rfl rfl ?_;refine Sa ?_;apply QW.any;refine AW.one 9 Aec rfl rfl ?_;refine Sa ?_;apply QW.any;refine AW.one 10 Aec rfl rfl ?_;have aa:=a2;refine Cu λw5 a6 a2=>?_;replace a2:Blk w5 c.rb [c.tokv,.int .i64 i,.int .i64 d,.int .i64 e,.slice p2 (n+1) q2] 200:=a2;have af:Fq w4 w5:=Fq.chg a6 (λk hk l T hb=>by simp at hk;subst hk;exact .inl (hb.inj aa));have ag:Fq w w5:=((Fq.ext a1).trans ad).trans af;have ah:=a5.chg a6 (G2 a5 aa);apply LW.nil;apply QW.any;refine AW.done Aec ?_;refine Sa ?_;exact QW.body1 rfl rfl ⟨by congr 1;omega,ae.step a6 Ae6,ag,_,a2,ah⟩
theorem KC{c:Bg}{X:List Nat}(hc:c.Ok){w:World}{s:Bx}(h:Rq c X w s)(x:NV)(hx:BW w x.kv x.node.kids)(hxX:∀b∈Ae x.kv,b∉X)(hs:s.out.length+1≤s.at_):A9 prog 192 [.pointer (some ⟨c.rb,0,none⟩),.agg ⟨BO x⟩] w
  (λv w'=>v=.int .i64 s.out.length∧Rq c X w' (Bt s x.node)∧Fq w w'):=by
 have a4:=hc.len;obtain⟨a0,a1,a2,a3,outv,nvs,hB,ho,hm,hk⟩:=h;have a5:nvs.length=s.out.length:=by rw[←hm];simp
 refine(S9 hc a0 hB ho Aeb x hx.one).mono ?_;rintro v w' ⟨rfl,a6,hf,outv',a7,a8⟩;refine⟨by rw[a5],⟨a6,a1,a2,by simp[Bt];omega,outv',nvs++[x],a7,by simpa using a8,by simp[Bt,hm],?_⟩,hf⟩;intro y hy;rw[Ab1] at hy;rcases hy with hy | hy
 ·exact⟨(hk y hy).1.fq hf,(hk y hy).2⟩
 ·simp only[Aah] at hy;subst hy;exact⟨hx.fq hf,hxX⟩
theorem Hi{c:Bg}(hc:c.Ok){w:World}{e d:Int}{k:Nat}(h:Re c w e d k)(hk:k≤99999)(x:NV)(hkv:x.kv.oneCell'=true):A9 prog 192 [.pointer (some ⟨c.rb,0,none⟩),.agg ⟨BO x⟩] w
  (λv w'=>(∃z:Int,v=.int .i64 z)∧Re c w' e d (k+1)∧Fq w w'):=by
 obtain⟨h0,he,i,outv,n,xs,hB,ho,hn⟩:=h;refine(S9 hc h0 hB ho Aeb x hkv).mono ?_;rintro v w' ⟨rfl,a0,hf,outv',a1,a2⟩;exact⟨⟨_,rfl⟩,⟨a0,he,i,outv',n+1,_,a1,a2,by omega⟩,hf⟩
theorem Wb(n:Nat)(hn:n<4)(w:World):A9 prog 190 [.int .i64 (n:Int)] w (λv w'=>∃sb kb,v=.tuple #[.slice (some ⟨sb,0,none⟩) (AA n).length (AA n).length,.slice (some ⟨kb,0,none⟩) (Aw n).length (Aw n).length]∧
  Blk w' sb ((AA n).map Aq) 9∧Blk w' kb (Ad (Aw n)) 3∧Ah w w'):=by
 have:n=0∨n=1∨n=2∨n=3:=Aeb
 rcases this with rfl | rfl | rfl | rfl
 all_goals
  refine AG func190 ntmps190 ?_;refine Sa ?_;refine CR λA w1 a2 a1 hA=>?_;refine Sa ?_;refine CR λB w2 a3 a0 hB=>?_;refine Sa ?_;exact QW.body2 rfl rfl rfl ⟨A,B,rfl,hA.ext a0,hB,a1.trans a0⟩
theorem SW(a b:C3)(w:World):A9 prog 222 [.agg ⟨AU a⟩,.agg ⟨AU b⟩] w (λv w'=>v=.bool (Bo a b)∧Ah w w'):=by
 refine AG func222 ntmps222 ?_;refine Sa ?_;refine C0 λA w1 a2 a1 hA=>?_;replace hA:Blk w1 A (AU a) 187:=hA;refine Sa ?_;refine C0 λB w2 a3 a0 hB=>?_;replace hB:Blk w2 B (AU b) 187:=hB;replace hA:=hA.ext a0;have hx:=a1.trans a0;refine Sa ?_;refine B8 (λh1=>?_) λh1=>?_
 ·refine Sa ?_;refine B8 (λh2=>?_) λh2=>?_
  all_goals
   refine Sa ?_;refine QW.body1 rfl rfl ⟨?_,hx⟩;simp[Bo,h1,h2]
 ·refine Sa ?_;refine QW.body1 rfl rfl ⟨?_,hx⟩;simp[Bo,h1]
def kc(m:DY)(d:Nat):Nat:=400+6*(12 - d)+(match m with | .lev n=>4 - n | _=>0)
theorem XX{n:Nat}(hn:n<4)(d:Nat):kc (below n) d+1≤kc (.lev n) d:=by
 unfold below
 split<;>simp only[kc]<;>omega
theorem Ns(m:DY)(d:Nat):400≤kc m d∧kc m d≤500:=by
 unfold kc
 split<;>omega
def RG(c:Bg)(X:List Nat)(m:DY)(s:Bx)(w':World)(z:Int):Prop:=
 ∃(s':Bx) (p:Nat),z=(p:Int)∧PE c.T m s (.ok s' p)∧Rq c X w' s'∧s.at_<s'.at_∧s'.deep=s.deep∧s.at_+s'.out.length≤s'.at_+s.out.length
def RB(c:Bg)(m:DY)(s:Bx)(w':World):Prop:=∃e d,PE c.T m s (.err e)∧(d=(s.deep:Int)∨d=s.deep - 1)∧Re c w' e d (kc m s.deep)
def RC(c:Bg)(f:Nat)(av:List Value)(m:DY)(s:Bx):Prop:=∀w X,(∀b∈X,b<w.heap.size)→Rq c X w s→A9 prog f (.pointer (some ⟨c.rb,0,none⟩)::av) w (λv w'=>∃z,v=.int .i64 z∧Fq w w'∧(RG c X m s w' z∨RB c m s w'))
theorem Aa2{c:Bg}{X:List Nat}{m m':DY}{s:Bx}{w:World}{z:Int}(h:RG c X m s w z∨RB c m s w)(hp:∀r,PE c.T m s r→PE c.T m' s r)(hk:kc m s.deep≤kc m' s.deep):RG c X m' s w z∨RB c m' s w:=by
 rcases h with ⟨s',p,h1,h2,h3⟩ | ⟨e,d,h1,h2,h3⟩
 ·exact .inl ⟨s',p,h1,hp _ h2,h3⟩
 ·exact .inr ⟨e,d,hp _ h1,h2,h3.mono hk⟩
theorem YB{c:Bg}(s:Bx)(h1:RC c 189 [] .unary s):RC c 145 [.int .i64 4] .unary s:=by
 intro w X hX h;refine AG func145 ntmps145 ?_;refine Sa ?_;refine Ap rfl rfl (h1 w X hX h) ?_;rintro v w1 ⟨z,rfl,hf,hr⟩;refine Sa ?_;exact QW.body1 rfl rfl ⟨z,rfl,hf,hr⟩
def RI(c:Bg)(X:List Nat)(n:Nat)(s:Bx)(w0:World)(sb kb:Nat)(k:(Bx×Nat) ⊕ (Int×Int×Int))(w':World):Prop:=
 Fq w0 w'∧Blk w' sb ((AA n).map Aq) 9∧Blk w' kb (Ad (Aw n)) 3∧match k with
 | .inl (t,a)=>s.at_<t.at_∧t.deep=s.deep∧s.at_+t.out.length≤t.at_+s.out.length∧Rq c X w' t∧∀r,PE c.T (.loop n a) t r→PE c.T (.lev n) s r
 | .inr (e,d,_)=>PE c.T (.lev n) s (.err e)∧(d=(s.deep:Int)∨d=s.deep - 1)∧Re c w' e d (kc (.lev n) s.deep)
def zI:(Bx×Nat) ⊕ (Int×Int×Int)→Int
 | .inl (_,a)=>(a:Int)
 | .inr (_,_,z)=>z
def mI(L:Nat):(Bx×Nat) ⊕ (Int×Int×Int)→Nat
 | .inl (t,_)=>L - t.at_+1
 | .inr _=>0
def RJ(c:Bg)(X:List Nat)(n:Nat)(t:Bx)(w0:World)(k:Nat ⊕ Nat)(w':World):Prop:=match k with
 | .inl j=>j≤(AA n).length∧Ah w0 w'∧∀i,i<j→BH c.T t ((AA n).getD i [])=false
 | .inr i=>i<(AA n).length∧GF c.T t n=some i∧Rq c X w' (Al t)∧Fq w0 w'
def kJ(n:Nat):Nat ⊕ Nat→Int
 | .inl _=>0
 | .inr i=>(Aw n).getD i 0
def jJ:Nat ⊕ Nat→Int
 | .inl j=>j
 | .inr i=>(i:Int)+1
def mJ(L:Nat):Nat ⊕ Nat→Nat
 | .inl j=>L - j+1
 | .inr _=>0
theorem VX{n i:Nat}(h:i<(Aw n).length):(Aw n).getD i 0≠0:=by
 match n with
 | 0=>
  have:∀i,i<(Aw 0).length→(Aw 0).getD i 0≠0:=Aef
  exact this i h
 | 1=>
  have:∀i,i<(Aw 1).length→(Aw 1).getD i 0≠0:=Aef
  exact this i h
 | 2=>
  have:∀i,i<(Aw 2).length→(Aw 2).getD i 0≠0:=Aef
  exact this i h
 | n+3=>
  have:∀i,i<(Aw 3).length→(Aw 3).getD i 0≠0:=Aef
  exact this i h
theorem Z6{T:List As}{t:Bx}{n i:Nat}(hi:i<(AA n).length)(hn:∀j,j<i→BH T t ((AA n).getD j [])=false)(h:BH T t ((AA n).getD i [])=true):GF T t n=some i:=by
 obtain⟨h1,h2⟩:=Et h;rw[GF,if_pos h1];refine GD _ [] _ i hi (λj hj=>?_) Afy;have:=hn j hj
 simpa[BH,h1,eq_comm] using this
theorem AaU{T:List As}{t:Bx}{n:Nat}(hn:∀j,j<(AA n).length→BH T t ((AA n).getD j [])=false):GF T t n=none:=by
 unfold GF
 split
 ·rename_i h1;refine Hx _ [] _ (λj hj=>?_);have:=hn j hj
  simpa[BH,h1,eq_comm] using this
 ·rfl
theorem MD{c:Bg}(hc:c.Ok)(n:Nat)(hn:n<4)(s:Bx)(h1:RC c 145 [.int .i64 ((n:Int)+1)] (below n) s)(h2:∀s',s.at_<s'.at_→s'.deep=s.deep→RC c 145 [.int .i64 ((n:Int)+1)] (below n) s') :
  RC c 145 [.int .i64 (n:Int)] (.lev n) s:=by
 intro w X hX h;have ar:=hc.len;have b4:=h.len;obtain⟨b5,b6⟩:=AaP n;have ao:=XX hn s.deep;have b7:=Ns (.lev n) s.deep;refine AG func145 ntmps145 ?_;refine Sa ?_;refine CW.no rfl Aee ?_;refine Sa ?_;refine Ap rfl rfl (h1 w X hX h) ?_;rintro v w1 ⟨z,rfl,hf,a9⟩;refine Sa ?_;refine Ap rfl rfl (Wb n hn w1) ?_;rintro v w2 ⟨sb,kb,rfl,a6,a4,ag⟩;obtain⟨k0,au,ap⟩:∃k0,zI k0=z∧RI c X n s w sb kb k0 w2:=by
  rcases a9 with ⟨t,p,rfl,hp,hr,g1,g2,g3⟩ | ⟨e,d,hp,hd,hr⟩
  ·exact⟨.inl (t,p),rfl,hf.trans (.ext ag),a6,a4,g1,g2,g3,hr.ext ag,λr hl=>.lev_ok hp hl⟩
  ·exact⟨.inr (e,d,z),rfl,hf.trans (.ext ag),a6,a4,.lev_err hp,hd,(hr.ext ag).mono Aeb⟩
 subst au;refine Sa ?_;refine CW.loop (ι:=(Bx×Nat) ⊕ (Int×Int×Int)) (RI c X n s w sb kb) (λk=>[(0,.pointer (some ⟨c.rb,0,none⟩)),(1,.int .i64 (n:Int)),(5,.int .i64 (zI k)),(6,.slice (some ⟨sb,0,none⟩) (AA n).length (AA n).length),(7,.slice (some ⟨kb,0,none⟩) (Aw n).length (Aw n).length)]) (mI c.T.length) k0 ap CT ?_;clear ap k0 a9 hf a6 a4 ag w1 w2;rintro(⟨t,a⟩ | ⟨e,d,z⟩) w2 ⟨hf,a6,a4,hI⟩;rotate_left
 ·obtain⟨hp,hd,hr⟩:=hI;have av:=hr;obtain⟨h0,he,i,outv,m,xs,hB,ho,b8⟩:=hr;refine Sa ?_;refine CW.no rfl (by simp[he]) ?_;refine Sa ?_;exact QW.body1 rfl rfl ⟨z,rfl,hf,.inr ⟨e,d,hp,hd,av⟩⟩
 obtain⟨g1,g2,g3,hr,a7⟩:=hI;have b9:=hr.len;have hB:=hr.2.2.2.2;obtain⟨outv,nvs,hB,_⟩:=hB;refine Sa ?_
 try refine CW.yes rfl Aej ?_
 refine Sa ?_;refine CW.loop (ι:=Nat ⊕ Nat) (RJ c X n t w2) (λk=>[(0,.pointer (some ⟨c.rb,0,none⟩)),(1,.int .i64 (n:Int)),(5,.int .i64 (a:Int)),(6,.slice (some ⟨sb,0,none⟩) (AA n).length (AA n).length),(7,.slice (some ⟨kb,0,none⟩) (Aw n).length (Aw n).length),(8,.int .i64 (kJ n k)),(9,.int .i64 (jJ k))]) (mJ (AA n).length) (.inl 0) ⟨by omega,Chg.refl _ _,by omega⟩ Jv ?_;rintro(j | i) w3 hJ
 ·obtain⟨hj,ae,ab⟩:=hJ;replace a6:=a6.ext ae;replace a4:=a4.ext ae;replace hr:=hr.ext ae;replace hf:=hf.trans (.ext ae);show CW _ _ _ _ _ [(0,.pointer (some ⟨c.rb,0,none⟩)),(1,.int .i64 (n:Int)),(5,.int .i64 (a:Int)),(6,.slice (some ⟨sb,0,none⟩) (AA n).length (AA n).length),(7,.slice (some ⟨kb,0,none⟩) (Aw n).length (Aw n).length),(8,.int .i64 0),(9,.int .i64 (j:Int))] _;refine Sa ?_;refine B8 (λh3=>?_) λh3=>?_
  ·have h3:j<(AA n).length:=by simp at h3;omega
   have hv:((AA n).map Aq)[j]?=some (Aq ((AA n).getD j [])):=by simp[Aav h3]
   refine Sa ?_
   try refine CW.yes rfl Aej ?_
   refine Sa ?_;refine LW.idx_slice (j:=j) rfl rfl rfl rfl rfl Aeb Aeb Afe rfl ?_;refine LW.load rfl a6 hv rfl rfl rfl ?_;refine Sa ?_;refine Ap rfl rfl (Mb hc hr ((AA n).getD j [])) ?_;rintro v w4 ⟨rfl,ah⟩;replace a4:=a4.ext ah;replace hr:=hr.ext ah;refine Sa ?_;refine Av (λh4=>?_) λh4=>?_
   ·have h4:BH c.T t ((AA n).getD j [])=true:=h4;have aw:(Ad (Aw n))[j]?=some (.int .i64 ((Aw n).getD j 0)):=by simp[Ad,Aav (show j<(Aw n).length by omega)]
    obtain⟨a0,a1,a2,a3,outv,nvs,hB,ho,hm,hk⟩:=hr;have ax:=Dk hc a1 (by rw[(Et h4).1];decide);have ay:=hB;refine Sa ?_;refine LW.idx_slice (j:=j) rfl rfl rfl rfl rfl Aeb Aeb Afe rfl ?_;refine LW.load rfl a4 aw rfl rfl rfl ?_;refine Sa ?_;refine Cu λw5 az hB=>?_;replace hB:Blk w5 c.rb [c.tokv,.int .i64 (Al t).at_,.int .i64 (Al t).deep,.int .i64 0,outv] 200:=hB;obtain⟨b0,b1⟩:=Rq.set hc (s:=t) (s':=Al t) a0 ho hm hk ay az hB rfl ax a2 (by show t.out.length≤t.at_+1;omega);refine Sa ?_;exact QW.again (.inr j) ⟨h3,Z6 h3 ab h4,b0,((Fq.ext ae).trans (.ext ah)).trans b1⟩ Jv (by simp[mJ])
   ·have h4:BH c.T t ((AA n).getD j [])=false:=h4;refine Sa ?_;refine QW.again (.inl (j+1)) ⟨by omega,ae.trans ah,λi hi=>?_⟩ Jv (by simp[mJ];omega);by_cases e:i=j
    ·subst e;exact h4
    ·exact ab i Aeb
  ·have h3:j=(AA n).length:=by simp at h3;omega
   subst h3;have af:=AaU ab;refine Sa ?_
   try refine CW.yes rfl Aej ?_
   refine Sa ?_;exact QW.body1 rfl rfl ⟨a,rfl,hf,.inl ⟨t,a,rfl,a7 _ (.loop_end af),hr,g1,g2,g3⟩⟩
 ·obtain⟨hi,af,aq,ai⟩:=hJ;have aj:=VX (show i<(Aw n).length by omega);replace a6:=ai.blk _ _ _ a6 Aef Aef;replace a4:=ai.blk _ _ _ a4 Aef Aef;replace hf:=hf.trans ai;show CW _ _ _ _ _ [(0,.pointer (some ⟨c.rb,0,none⟩)),(1,.int .i64 (n:Int)),(5,.int .i64 (a:Int)),(6,.slice (some ⟨sb,0,none⟩) (AA n).length (AA n).length),(7,.slice (some ⟨kb,0,none⟩) (Aw n).length (Aw n).length),(8,.int .i64 ((Aw n).getD i 0)),(9,.int .i64 ((i:Int)+1))] _;refine Sa ?_;refine B8 (λh3=>?_) λh3=>?_
  ·refine Sa ?_;refine CW.no rfl (decide_eq_false aj) ?_;refine Sa ?_;refine CW.no rfl (decide_eq_false aj) ?_;refine Sa ?_;refine Ap rfl rfl (h2 (Al t) Afb g2 w3 X (λb hb=>AbL (hX b hb) hf.size) aq) ?_;rintro v w8 ⟨z,rfl,ac,a9⟩;replace hf:=hf.trans ac;replace a6:=ac.blk _ _ _ a6 Aef Aef;replace a4:=ac.blk _ _ _ a4 Aef Aef;have b2:=hf.size;refine Sa ?_;refine CR λK w9 b3 aa hK=>?_;replace hK:Blk w9 K (Ad [(a:Int),z]) 3:=hK;replace hf:=hf.trans (.ext aa);replace a6:=a6.ext aa;replace a4:=a4.ext aa;rcases a9 with ⟨s1,b,rfl,hp,ad,k1,k2,k3⟩ | ⟨e,d,hp,hd,ad⟩
   ·have k1':t.at_+1<s1.at_:=k1;have k3':t.at_+1+s1.out.length≤s1.at_+t.out.length:=k3;refine Sa ?_;refine LW.call0 (vs:=[.pointer (some ⟨c.rb,0,none⟩),.agg ⟨BO ⟨{kind:=(Aw n).getD i 0,kids:=[(a:Int),(b:Int)]},.slice (some ⟨K,0,none⟩) 2 2⟩⟩]) rfl rfl (KC hc (ad.ext aa) ⟨{kind:=(Aw n).getD i 0,kids:=[(a:Int),(b:Int)]},.slice (some ⟨K,0,none⟩) 2 2⟩ (.inr ⟨K,2,[],rfl,by rw[AbD];exact hK⟩) (λb hb ak=>by
     have h3:=hX b ak;simp[Ae] at hb;omega) Aeb) ?_
    rintro v al ⟨rfl,a8,a5⟩;refine Sa ?_;refine QW.again (.inl (Bt s1 {kind:=(Aw n).getD i 0,kids:=[(a:Int),(b:Int)]},s1.out.length)) ⟨hf.trans a5,a5.blk _ _ _ a6 Aef Aef,a5.blk _ _ _ a4 Aef Aef,by show s.at_<s1.at_;omega,k2.trans g2,by simp[Bt];omega,a8,λr hl=>a7 r (.loop_go af hp hl)⟩ CT (by show c.T.length - s1.at_+1<c.T.length - t.at_+1;omega)
   ·have am:d=(s.deep:Int)∨d=s.deep - 1:=by rw[←g2];exact hd
    have an:kc (below n) (Al t).deep+1≤kc (.lev n) s.deep:=by rw[show(Al t).deep=s.deep from g2];exact ao
    refine Sa ?_;refine LW.call0 (vs:=[.pointer (some ⟨c.rb,0,none⟩),.agg ⟨BO ⟨{kind:=(Aw n).getD i 0,kids:=[(a:Int),z]},.slice (some ⟨K,0,none⟩) 2 2⟩⟩]) rfl rfl (Hi hc (ad.ext aa) Aeb ⟨{kind:=(Aw n).getD i 0,kids:=[(a:Int),z]},.slice (some ⟨K,0,none⟩) 2 2⟩ rfl) ?_;rintro v al ⟨⟨y,rfl⟩,a8,a5⟩;refine Sa ?_;exact QW.again (.inr (e,d,y)) ⟨hf.trans a5,a5.blk _ _ _ a6 Aef Aef,a5.blk _ _ _ a4 Aef Aef,a7 _ (.loop_err af hp),am,a8.mono an⟩ CT (by show 0<_+1;omega)
  ·refine Sa ?_;refine Sa ?_;refine CW.no rfl (decide_eq_false aj) ?_;refine Sa ?_;refine Ap rfl rfl (h2 (Al t) Afb g2 w3 X (λb hb=>AbL (hX b hb) hf.size) aq) ?_;rintro v w8 ⟨z,rfl,ac,a9⟩;replace hf:=hf.trans ac;replace a6:=ac.blk _ _ _ a6 Aef Aef;replace a4:=ac.blk _ _ _ a4 Aef Aef;have b2:=hf.size;refine Sa ?_;refine CR λK w9 b3 aa hK=>?_;replace hK:Blk w9 K (Ad [(a:Int),z]) 3:=hK;replace hf:=hf.trans (.ext aa);replace a6:=a6.ext aa;replace a4:=a4.ext aa;rcases a9 with ⟨s1,b,rfl,hp,ad,k1,k2,k3⟩ | ⟨e,d,hp,hd,ad⟩
   ·have k1':t.at_+1<s1.at_:=k1;have k3':t.at_+1+s1.out.length≤s1.at_+t.out.length:=k3;refine Sa ?_;refine LW.call0 (vs:=[.pointer (some ⟨c.rb,0,none⟩),.agg ⟨BO ⟨{kind:=(Aw n).getD i 0,kids:=[(a:Int),(b:Int)]},.slice (some ⟨K,0,none⟩) 2 2⟩⟩]) rfl rfl (KC hc (ad.ext aa) ⟨{kind:=(Aw n).getD i 0,kids:=[(a:Int),(b:Int)]},.slice (some ⟨K,0,none⟩) 2 2⟩ (.inr ⟨K,2,[],rfl,by rw[AbD];exact hK⟩) (λb hb ak=>by
     have h3:=hX b ak;simp[Ae] at hb;omega) Aeb) ?_
    rintro v al ⟨rfl,a8,a5⟩;refine Sa ?_;refine QW.again (.inl (Bt s1 {kind:=(Aw n).getD i 0,kids:=[(a:Int),(b:Int)]},s1.out.length)) ⟨hf.trans a5,a5.blk _ _ _ a6 Aef Aef,a5.blk _ _ _ a4 Aef Aef,by show s.at_<s1.at_;omega,k2.trans g2,by simp[Bt];omega,a8,λr hl=>a7 r (.loop_go af hp hl)⟩ CT (by show c.T.length - s1.at_+1<c.T.length - t.at_+1;omega)
   ·have am:d=(s.deep:Int)∨d=s.deep - 1:=by rw[←g2];exact hd
    have an:kc (below n) (Al t).deep+1≤kc (.lev n) s.deep:=by rw[show(Al t).deep=s.deep from g2];exact ao
    refine Sa ?_;refine LW.call0 (vs:=[.pointer (some ⟨c.rb,0,none⟩),.agg ⟨BO ⟨{kind:=(Aw n).getD i 0,kids:=[(a:Int),z]},.slice (some ⟨K,0,none⟩) 2 2⟩⟩]) rfl rfl (Hi hc (ad.ext aa) Aeb ⟨{kind:=(Aw n).getD i 0,kids:=[(a:Int),z]},.slice (some ⟨K,0,none⟩) 2 2⟩ rfl) ?_;rintro v al ⟨⟨y,rfl⟩,a8,a5⟩;refine Sa ?_;exact QW.again (.inr (e,d,y)) ⟨hf.trans a5,a5.blk _ _ _ a6 Aef Aef,a5.blk _ _ _ a4 Aef Aef,a7 _ (.loop_err af hp),am,a8.mono an⟩ CT (by show 0<_+1;omega)
theorem Uz{c:Bg}(hc:c.Ok)(s:Bx)(h1:RC c 227 [] .prim s)(h2:∀s',s.at_<s'.at_→RC c 189 [] .unary s'):RC c 189 [] .unary s:=by
 intro w X hX h;have ai:=hc.len;have hl:=h.len;refine AG func189 ntmps189 ?_;refine Sa ?_;refine Ap rfl rfl (Mb hc h [45]) ?_;rintro v w1 ⟨rfl,a4⟩;replace h:=h.ext a4;replace hX:∀b∈X,b<w1.heap.size:=λb hb=>AbL (hX b hb) a4.size;refine Sa ?_;refine Av (λhi=>?_) λhi=>?_
 ·have hi:BH c.T s [45]=false:=by simpa using hi
  refine Sa ?_;refine Ap rfl rfl (h1 w1 X hX h) ?_;rintro v w2 ⟨z,rfl,hf,hr⟩;refine Sa ?_;exact QW.body1 rfl rfl ⟨z,rfl,(Fq.ext a4).trans hf,Aa2 hr (λr hp=>.un_prim hi hp) (Ab2 _)⟩
 have hi:BH c.T s [45]=true:=by simpa using hi
 refine Sa ?_;refine Ap rfl rfl (Oe hc h Afj) ?_;rintro v w2 ⟨rfl,hf,⟨hd,hr⟩ | ⟨hd,hr⟩⟩;rotate_left
 ·have a7:=hr;obtain⟨h0,he,i,outv,m,xs,hB,ho,ae⟩:=hr;refine Sa ?_;exact QW.body1 rfl rfl ⟨0,rfl,(Fq.ext a4).trans hf,.inr ⟨6,s.deep,.un_deep hi hd,.inl rfl,a7.mono (by have:=Ns .unary s.deep;omega)⟩⟩
 have a7:=hr;obtain⟨a0,a1,a2,a3,outv,nvs,hB,ho,hm,hk⟩:=hr;refine Sa ?_;refine Ap rfl rfl (h2 (Ax (Al s)) Afc w2 X (λb hb=>AbL (hX b hb) hf.size) a7) ?_;rintro v w3 ⟨z,rfl,af,a8⟩;clear hB ho hm hk outv nvs;have ag:=((Fq.ext a4).trans hf).trans af;have am:=(hf.trans af).size;rcases a8 with ⟨s1,a,rfl,hp,hr,g1,g2,g3⟩ | ⟨e,d,hp,ah,hr⟩
 ·have g1':s.at_+1<s1.at_:=g1;have g2':s1.deep=s.deep+1:=g2;have g3':s.at_+1+s1.out.length≤s1.at_+s.out.length:=g3;obtain⟨a0,a1,a2,a3,outv,nvs,hB,ho,hm,hk⟩:=hr;have a9:=hB;refine Sa ?_;refine Cu λw4 aa hB=>?_;have e4:(s1.deep:Int) - 1=(((B3 s1).deep:Nat):Int):=by show(s1.deep:Int) - 1=((s1.deep - 1:Nat):Int);omega
  replace hB:Blk w4 c.rb [c.tokv,.int .i64 s1.at_,.int .i64 ((s1.deep:Int) - 1),.int .i64 0,outv] 200:=hB;rw[e4] at hB;obtain⟨ab,a6⟩:=Rq.set hc (s:=s1) (s':=B3 s1) a0 ho hm hk a9 aa hB rfl a1 AeY a3;have an:=a6.size;refine Sa ?_;refine CR λK w5 aj a5 hK=>?_;replace hK:Blk w5 K (Ad [(a:Int)]) 3:=hK;refine Sa ?_;refine LW.call0 (vs:=[.pointer (some ⟨c.rb,0,none⟩),.agg ⟨BO ⟨{kind:=8,kids:=[(a:Int)]},.slice (some ⟨K,0,none⟩) 1 1⟩⟩]) rfl rfl (KC hc (ab.ext a5) ⟨{kind:=8,kids:=[(a:Int)]},.slice (some ⟨K,0,none⟩) 1 1⟩ (.inr ⟨K,1,[],rfl,by rw[AbD];exact hK⟩) (λb hb ak=>by
   have h3:=hX b ak;simp[Ae] at hb;omega) (by show s1.out.length+1≤s1.at_;omega)) ?_
  rintro v w6 ⟨rfl,ac,ad⟩;refine Sa ?_;exact QW.body1 rfl rfl ⟨_,rfl,((ag.trans a6).trans (.ext a5)).trans ad,.inl ⟨Bt (B3 s1) {kind:=8,kids:=[(a:Int)]},s1.out.length,rfl,.un_ok hi hd hp,ac,by show s.at_<s1.at_;omega,by show s1.deep - 1=s.deep;omega,by simp[Bt,B3];omega⟩⟩
 ·have ah:d=((s.deep+1:Nat):Int)∨d=((s.deep+1:Nat):Int) - 1:=ah;obtain⟨h0,he,i,outv,m,xs,hB,ho,ae⟩:=hr;have a9:=hB;have al:kc .unary (Ax (Al s)).deep+1≤kc .unary s.deep:=by
   show 400+6*(12 - (s.deep+1))+0+1≤400+6*(12 - s.deep)+0;omega
  refine Sa ?_;refine Cu λw4 aa hB=>?_;replace hB:Blk w4 c.rb [c.tokv,.int .i64 i,.int .i64 (d - 1),.int .i64 e,outv] 200:=hB;obtain⟨ab,a6⟩:=Re.set hc h0 ho a9 aa he hB ae;refine Sa ?_;refine CR λK w5 aj a5 hK=>?_;refine Sa ?_;refine LW.call0 (vs:=[.pointer (some ⟨c.rb,0,none⟩),.agg ⟨BO ⟨{kind:=8,kids:=[z]},.slice (some ⟨K,0,none⟩) 1 1⟩⟩]) rfl rfl (Hi hc (ab.ext a5) (by have:=Ns .unary (Ax (Al s)).deep;omega) ⟨{kind:=8,kids:=[z]},.slice (some ⟨K,0,none⟩) 1 1⟩ rfl) ?_;rintro v w6 ⟨⟨y,rfl⟩,ac,ad⟩;refine Sa ?_;exact QW.body1 rfl rfl ⟨y,rfl,((ag.trans a6).trans (.ext a5)).trans ad,.inr ⟨e,d - 1,.un_err hi hd hp,by omega,ac.mono al⟩⟩
theorem Fi{c:Bg}{X:List Nat}(hc:c.Ok){w:World}{s:Bx}(h:Rq c X w s)(n:Aj)(hn:n.kids=[])(hs:s.out.length+1≤s.at_):A9 prog 192 [.pointer (some ⟨c.rb,0,none⟩),.agg ⟨BO ⟨n,.slice none 0 0⟩⟩] w
  (λv w'=>v=.int .i64 s.out.length∧Rq c X w' (Bt s n)∧Fq w w'):=
 KC hc h ⟨n,.slice none 0 0⟩ (.inl ⟨rfl,hn⟩) AeT hs
theorem YF{c:Bg}{X:List Nat}(hc:c.Ok)(s:Bx)(hk4:(Aa c.T s).kind=4)(w:World)(h:Rq c X w s) :
  A9 prog 265 [.pointer (some ⟨c.rb,0,none⟩),.agg ⟨AU (Aa c.T s).ref⟩] w (λv w'=>∃z,v=.int .i64 z∧Fq w w'∧(RG c X .prim s w' z∨RB c .prim s w')):=by
 have ai:=hc.len;have hl:=h.len;obtain⟨a0,a1,a2,a3,outv,nvs,hB,ho,hm,hk⟩:=h;have aj:=Dk hc a1 Aeb;refine AG func265 ntmps265 ?_;refine Sa ?_;refine C0 λA w1 aq ae hA=>?_;replace hA:Blk w1 A (AU (Aa c.T s).ref) 187:=hA;have h1:Rq c X w1 s:=Rq.ext ⟨a0,a1,a2,a3,outv,nvs,hB,ho,hm,hk⟩ ae;obtain⟨a0,a1,a2,a3,outv,nvs,hB,ho,hm,hk⟩:=h1;have a5:=hB;refine Sa ?_;refine Cu λw2 ak hB=>?_;replace hB:Blk w2 c.rb [c.tokv,.int .i64 (Al s).at_,.int .i64 (Al s).deep,.int .i64 0,outv] 200:=hB;obtain⟨h2,af⟩:=Rq.set hc (s:=s) (s':=Al s) a0 ho hm hk a5 ak hB rfl aj a2 Aeu;replace hA:=af.blk _ _ _ hA Aef Aef;have hf:=(Fq.ext ae).trans af;refine Sa ?_;refine Ap rfl rfl (Mb hc h2 [58]) ?_;rintro v w3 ⟨rfl,ab⟩;replace h2:=h2.ext ab;replace hA:=hA.ext ab;replace hf:=hf.trans (.ext ab);refine Sa ?_;refine Av (λhi=>?_) λhi=>?_
 ·have hi:BH c.T (Al s) [58]=false:=by simpa using hi
  refine Sa ?_;refine LW.call0 (vs:=[.pointer (some ⟨c.rb,0,none⟩),.agg ⟨BO ⟨{kind:=5,ref:=(Aa c.T s).ref},.slice none 0 0⟩⟩]) rfl rfl (Fi hc h2 {kind:=5,ref:=(Aa c.T s).ref} rfl Afd) ?_;rintro v w4 ⟨rfl,hr,a8⟩;refine Sa ?_;exact QW.body1 rfl rfl ⟨_,rfl,hf.trans a8,.inl ⟨_,_,rfl,.pr_ref hk4 hi,hr,by show s.at_<s.at_+1;omega,rfl,by simp[Bt,Al];omega⟩⟩
 have hi:BH c.T (Al s) [58]=true:=by simpa using hi
 obtain⟨a0,a1,a2,a3,outv,nvs,hB,ho,hm,hk⟩:=h2;have a6:=Dk hc a1 Afj;have al:s.at_+1+1<c.T.length:=a6;have a5:=hB;refine Sa ?_;refine Cu λw4 am hB=>?_;replace hB:Blk w4 c.rb [c.tokv,.int .i64 (Al (Al s)).at_,.int .i64 (Al (Al s)).deep,.int .i64 0,outv] 200:=hB;obtain⟨h4,a8⟩:=Rq.set hc (s:=Al s) (s':=Al (Al s)) a0 ho hm hk a5 am hB rfl a6 a2 (by show s.out.length≤s.at_+1+1;omega);replace hA:=a8.blk _ _ _ hA Aef Aef;replace hf:=hf.trans a8;have a4:=h4;obtain⟨a0,a1,a2,a3,outv,nvs,hB,ho,hm,hk⟩:=h4;have hT:=hc.tok.ext a0;have hg:c.T[(Al (Al s)).at_]?=some (Aa c.T (Al (Al s))):=by simp only[Aa,AaA,Aav a1,Ac6]
 unfold Bg.tokv at hB;refine Sa ?_;refine CW.drawHeld (λw'=>Ah w4 w') (λw' h=>h) Aec λw5 ag=>?_;refine Sh ?_;refine HW.take 8 rfl rfl rfl rfl (λw _=>Y.gs rfl ⟨by omega,by show(((s.at_+1+1:Nat):Int))<_;omega⟩) rfl Aec Aec Aec (λ_ _ _ h=>h) ?_;refine HW.take 9 rfl rfl rfl rfl (λw hw=>Y.load_agg (cs:=Bj (Aa c.T (Al (Al s)))) (i:=0+(Al (Al s)).at_*9) rfl (hT.ext hw) rfl rfl rfl (by rw[AbP];exact Nj Jt hg)) rfl Aec Aec Aec (λ_ _ _ h=>h) ?_;refine HW.one 10 Aec rfl rfl (λhS=>?_);refine B1 λR w6 ar ah hR=>?_;apply LW.nil;refine QW.held (hS.trans ah) ?_;refine HW.one 11 Aec rfl rfl (λhS=>?_);refine AF λw7 an hR=>?_;replace hR:Blk w7 R (Bj (Aa c.T (Al (Al s)))) 203:=hR;have a9:Ah w4 w7:=(ag.trans ah).step an (by simp;have:=ag.size;omega);apply LW.nil;refine QW.held a9 ?_;refine HW.done Aec ?_;replace a4:=a4.ext a9;replace hA:=hA.ext a9;replace hf:=hf.trans (.ext a9);refine Sa ?_;have fin:((Aa c.T (Al (Al s))).kind≠4∨Bo (Aa c.T s).ref (Aa c.T (Al (Al s))).ref=false)→∀w8,Re c w8 5 (Al (Al s)).deep (Al (Al s)).out.length→RG c X .prim s w8 0∨RB c .prim s w8:=λhn w8 hr=>
  .inr ⟨5,s.deep,.pr_norange hk4 hi hn,.inl rfl,Re.mono hr (by have:=Ns .prim s.deep;show s.out.length≤_;omega)⟩
 refine B8 (λh5=>?_) λh5=>?_
 ·have h5:(Aa c.T (Al (Al s))).kind≠4:=by simpa using h5
  refine Sa ?_;refine Ap rfl rfl (Gh hc a4 5 Aef) ?_;rintro v w8 ⟨rfl,hr,ao⟩;refine Sa ?_;exact QW.body1 rfl rfl ⟨0,rfl,hf.trans ao,fin (.inl h5) _ hr⟩
 have h5:(Aa c.T (Al (Al s))).kind=4:=by simpa using h5
 refine Sa ?_;refine LW.load_agg (cs:=AU (Aa c.T (Al (Al s))).ref) rfl hR rfl rfl rfl ⟨rfl,rfl,rfl,rfl,rfl,trivial⟩ rfl ?_;refine Sa ?_;refine Ap rfl rfl (SW (Aa c.T s).ref (Aa c.T (Al (Al s))).ref w7) ?_;rintro v w8 ⟨rfl,aa⟩;replace a4:=a4.ext aa;replace hA:=hA.ext aa;replace hR:=hR.ext aa;replace hf:=hf.trans (.ext aa);refine Sa ?_;refine Av (λh6=>?_) λh6=>?_
 ·have h6:Bo (Aa c.T s).ref (Aa c.T (Al (Al s))).ref=false:=by simpa using h6
  refine Sa ?_;refine Ap rfl rfl (Gh hc a4 5 Aef) ?_;rintro v w9 ⟨rfl,hr,a7⟩;refine Sa ?_;exact QW.body1 rfl rfl ⟨0,rfl,hf.trans a7,fin (.inr h6) _ hr⟩
 have h6:Bo (Aa c.T s).ref (Aa c.T (Al (Al s))).ref=true:=by simpa using h6
 obtain⟨a0,a1,a2,a3,outv,nvs,hB,ho,hm,hk⟩:=a4;have ac:=Dk hc a1 (by rw[h5];decide);have a5:=hB;refine Sa ?_;refine Cu λw9 ap hB=>?_;replace hB:Blk w9 c.rb [c.tokv,.int .i64 (Al (Al (Al s))).at_,.int .i64 (Al (Al (Al s))).deep,.int .i64 0,outv] 200:=hB;obtain⟨h9,a7⟩:=Rq.set hc (s:=Al (Al s)) (s':=Al (Al (Al s))) a0 ho hm hk a5 ap hB rfl ac a2 (by show s.out.length≤s.at_+1+1+1;omega);replace hA:=a7.blk _ _ _ hA Aef Aef;replace hR:=a7.blk _ _ _ hR Aef Aef;replace hf:=hf.trans a7;refine Sa ?_;refine LW.load_agg (cs:=AU (Aa c.T (Al (Al s))).ref) rfl hR rfl rfl rfl ⟨rfl,rfl,rfl,rfl,rfl,trivial⟩ rfl ?_;refine Sa ?_;refine LW.call0 (vs:=[.pointer (some ⟨c.rb,0,none⟩),.agg ⟨BO ⟨{kind:=6,ref:=(Aa c.T s).ref,to:=(Aa c.T (Al (Al s))).ref},.slice none 0 0⟩⟩]) rfl rfl (Fi hc h9 {kind:=6,ref:=(Aa c.T s).ref,to:=(Aa c.T (Al (Al s))).ref} rfl AeU) ?_;rintro v au ⟨rfl,hr,ad⟩;refine Sa ?_;exact QW.body1 rfl rfl ⟨_,rfl,hf.trans ad,.inl ⟨_,_,rfl,.pr_range hk4 hi h5 h6,hr,by show s.at_<s.at_+1+1+1;omega,rfl,by simp[Bt,Al];omega⟩⟩
theorem Own.fq{w w':World}{lo e size n:Nat}{v:Value}{xs:List Value}(h:Own w lo e size v n xs)(f:Fq w w')(h1:e≠200)(h2:e≠189):Own w' lo e size v n xs:=by
 obtain⟨hl,h | ⟨g,cap,sp,rfl,hB,a1,a2,a3⟩⟩:=h
 ·exact⟨hl,.inl h⟩
 ·exact⟨hl,.inr ⟨g,cap,sp,rfl,f.blk _ _ _ hB h1 h2,a1,a2,a3⟩⟩
theorem Rq.grow{c:Bg}{X X':List Nat}{w:World}{s:Bx}(h:Rq c X w s)(hX:∀b∈X',b∈X∨w.heap.size≤b):Rq c X' w s:=by
 obtain⟨h0,h1,h2,h3,outv,nvs,hB,ho,hm,hk⟩:=h;refine⟨h0,h1,h2,h3,outv,nvs,hB,ho,hm,λy hy=>⟨(hk y hy).1,λb hb a0=>?_⟩⟩;rcases hX b a0 with hx | hx
 ·exact(hk y hy).2 b hb hx
 ·rcases(hk y hy).1 with ⟨e,_⟩ | ⟨g,cap,sp,e,hg⟩
  ·rw[e] at hb;simp[Ae] at hb
  ·rw[e] at hb;simp[Ae] at hb;have:=hg.lt;omega
theorem Rq.other{c:Bg}{X S:List Nat}{w w':World}{s:Bx}(h:Rq c X w s)(k:Chg S w w')(hS:∀b∈S,c.w0.heap.size≤b∧b∈X∧∀l T,Blk w b l T→T=3):Rq c X w' s:=by
 obtain⟨h0,h1,h2,h3,outv,nvs,hB,ho,hm,hk⟩:=h;refine⟨h0.step k (λb hb=>(hS b hb).1),h1,h2,h3,outv,nvs,hB.chg k (λhb=>absurd ((hS _ hb).2.2 _ _ hB) Aef),ho.chg k (λb hb a0=>?_),hm,λy hy=>⟨?_,(hk y hy).2⟩⟩
 ·obtain⟨_,⟨e,_⟩ | ⟨g,cap,sp,e,hg,_⟩⟩:=ho
  ·rw[e] at hb;simp[Ae] at hb
  ·rw[e] at hb;simp[Ae] at hb;subst hb;exact absurd ((hS _ a0).2.2 _ _ hg) Aef
 ·rcases(hk y hy).1 with e | ⟨g,cap,sp,e,hg⟩
  ·exact .inl e
  ·exact .inr ⟨g,cap,sp,e,hg.chg k (λhb=>(hk y hy).2 g (by rw[e];simp[Ae]) (hS _ hb).2.1)⟩
theorem Re.other{c:Bg}{S:List Nat}{w w':World}{e d:Int}{k:Nat}(h:Re c w e d k)(kk:Chg S w w')(hS:∀b∈S,c.w0.heap.size≤b∧∀l T,Blk w b l T→T=3):Re c w' e d k:=by
 obtain⟨h0,he,i,outv,n,xs,hB,ho,hn⟩:=h;refine⟨h0.step kk (λb hb=>(hS b hb).1),he,i,outv,n,xs,hB.chg kk (λhb=>absurd ((hS _ hb).2 _ _ hB) Aef),ho.chg kk (λb hb a0=>?_),hn⟩;obtain⟨_,⟨e,_⟩ | ⟨g,cap,sp,e,hg,_⟩⟩:=ho
 ·rw[e] at hb;simp[Ae] at hb
 ·rw[e] at hb;simp[Ae] at hb;subst hb;exact absurd ((hS _ a0).2 _ _ hg) Aef
theorem WD{c:Bg}(hc:c.Ok)(s:Bx)(hk3:(Aa c.T s).kind=3)(hE:∀s',s.at_<s'.at_→RC c 145 [.int .i64 0] (.lev 0) s')(w:World)(X:List Nat)(hX:∀b∈X,b<w.heap.size)(h:Rq c X w s) :
  A9 prog 266 [.pointer (some ⟨c.rb,0,none⟩),Aq (Aa c.T s).text] w (λv w'=>∃z,v=.int .i64 z∧Fq w w'∧(RG c X .prim s w' z∨RB c .prim s w')):=by
 have bv:=hc.len;have hl:=h.len;have ca:=h.1.size;have cb:=Ns .prim s.deep;obtain⟨a0,a1,a2,a3,outv,nvs,hB,ho,hm,hk⟩:=h;have bw:=Dk hc a1 Aeb;have a9:=hB;refine AG func266 ntmps266 ?_;refine Sa ?_;refine Cu λw1 bx hB=>?_;replace hB:Blk w1 c.rb [c.tokv,.int .i64 (Al s).at_,.int .i64 (Al s).deep,.int .i64 0,outv] 200:=hB;obtain⟨h1,hf⟩:=Rq.set hc (s:=s) (s':=Al s) a0 ho hm hk a9 bx hB rfl bw a2 Aeu;have bp:(Al s).out.length+1≤(Al s).at_:=by show s.out.length+1≤s.at_+1;omega
 refine Sa ?_;refine Av (λht=>?_) λht=>?_
 ·have ht:(Aa c.T s).text=Dc:=of_decide_eq_true ht;refine Sa ?_;refine LW.call0 (vs:=[.pointer (some ⟨c.rb,0,none⟩),.agg ⟨BO ⟨{kind:=3,num:=1},.slice none 0 0⟩⟩]) rfl rfl (Fi hc h1 {kind:=3,num:=1} rfl bp) ?_;rintro v w2 ⟨rfl,hr,bd⟩;refine Sa ?_;exact QW.body1 rfl rfl ⟨_,rfl,hf.trans bd,.inl ⟨_,_,rfl,.pr_true hk3 ht,hr,by show s.at_<s.at_+1;omega,rfl,by simp[Bt,Al];omega⟩⟩
 have ht:(Aa c.T s).text≠Dc:=of_decide_eq_false ht;refine Sa ?_;refine Av (λai=>?_) λai=>?_
 ·have ai:(Aa c.T s).text=CL:=of_decide_eq_true ai;refine Sa ?_;refine LW.call0 (vs:=[.pointer (some ⟨c.rb,0,none⟩),.agg ⟨BO ⟨{kind:=3},.slice none 0 0⟩⟩]) rfl rfl (Fi hc h1 {kind:=3} rfl bp) ?_;rintro v w2 ⟨rfl,hr,bd⟩;refine Sa ?_;exact QW.body1 rfl rfl ⟨_,rfl,hf.trans bd,.inl ⟨_,_,rfl,.pr_false hk3 ai,hr,by show s.at_<s.at_+1;omega,rfl,by simp[Bt,Al];omega⟩⟩
 have ai:(Aa c.T s).text≠CL:=of_decide_eq_false ai;refine Sa ?_;refine Ap rfl rfl (Mb hc h1 [40]) ?_;rintro v w2 ⟨rfl,bq⟩;replace h1:=h1.ext bq;replace hf:=hf.trans (.ext bq);refine Sa ?_;refine Av (λhi=>?_) λhi=>?_
 ·have hi:BH c.T (Al s) [40]=false:=by simpa using hi
  refine Sa ?_;refine Ap rfl rfl (Gh hc h1 5 Aef) ?_;rintro v w3 ⟨rfl,hr,bb⟩;refine Sa ?_;exact QW.body1 rfl rfl ⟨0,rfl,hf.trans bb,.inr ⟨5,s.deep,.pr_nocall hk3 ht ai hi,.inl rfl,Re.mono hr (by show s.out.length≤_;omega)⟩⟩
 have hi:BH c.T (Al s) [40]=true:=by simpa using hi
 refine Sa ?_;refine Ap rfl rfl (Oe hc h1 Afj) ?_;rintro v w3 ⟨rfl,bb,⟨hd,hr⟩ | ⟨hd,hr⟩⟩;rotate_left
 ·replace hf:=hf.trans bb;have hd:12≤s.deep:=hd;have av:PE c.T .prim s (.err 6):=.pr_calldeep hk3 ht ai hi hd;have aj:=hr;obtain⟨h0,he,i,outv,m,xs,hB,ho,aw⟩:=hr;refine Sa ?_;have kz:((s.deep:Int)=s.deep+1∨(s.deep:Int)=s.deep):=.inr rfl;have bz:(Al s).out.length+1≤kc .prim s.deep:=by show s.out.length+1≤_;omega
  refine Ap rfl rfl (LF aj [41]) ?_;rintro v w4 ⟨rfl,an⟩;replace hB:=hB.ext an;have a9:=hB;have br:((Al s).deep:Int)=s.deep:=rfl;refine Sa ?_;refine Cu λw5 c0 hB=>?_;replace hB:Blk w5 c.rb [c.tokv,.int .i64 i,.int .i64 (((Al s).deep:Int) - 1),.int .i64 6,outv] 200:=hB;obtain⟨be,bf⟩:=Re.set hc (h0.trans an) (ho.ext an) a9 c0 he hB aw;refine Sa ?_;refine LW.call0 (vs:=[.pointer (some ⟨c.rb,0,none⟩),.agg ⟨BO ⟨{kind:=7,text:=(Aa c.T s).text},.slice none 0 0⟩⟩]) rfl rfl (Hi hc be (by show s.out.length≤_;omega) ⟨{kind:=7,text:=(Aa c.T s).text},.slice none 0 0⟩ rfl) ?_;rintro v w6 ⟨⟨y,rfl⟩,ao,ap⟩;refine Sa ?_;exact QW.body1 rfl rfl ⟨y,rfl,((hf.trans (.ext an)).trans bf).trans ap,.inr ⟨6,_,av,.inr rfl,ao.mono bz⟩⟩
 replace hf:=hf.trans bb;have hd:s.deep<12:=hd;have aj:=hr;obtain⟨_,_,_,_,outv1,nvs1,bs,_⟩:=hr;refine Sa ?_
 try refine LW.know (t:=35) (c:=true) rfl Aej ?_
 refine Sa ?_;refine Ap rfl rfl (Mb hc aj [41]) ?_;rintro v w4 ⟨rfl,an⟩;replace aj:=aj.ext an;replace hf:=hf.trans (.ext an);replace hX:∀b∈X,b<w4.heap.size:=λb hb=>AbL (hX b hb) hf.size;refine Sa ?_;refine Av (λam=>?_) λam=>?_;rotate_left
 ·have am:BH c.T (Ax (Al (Al s))) [41]=true:=by simpa using am
  refine Sa ?_;refine Ap rfl rfl (Ol hc aj [41]) ?_;rintro v w5 ⟨rfl,bf,⟨_,be⟩ | ⟨hn,_⟩⟩;rotate_left
  ·rw[am] at hn;cases hn
  obtain⟨b0,b1,b2,b3,outv,nvs,hB,ho,hm,hk⟩:=be;have a9:=hB;refine Sa ?_;refine Cu λw6 c1 hB=>?_;have e6:((Al (Ax (Al (Al s)))).deep:Int) - 1=((B3 (Al (Ax (Al (Al s))))).deep:Nat):=by show((s.deep+1:Nat):Int) - 1=((s.deep+1 - 1:Nat):Int);omega
  replace hB:Blk w6 c.rb [c.tokv,.int .i64 (Al (Ax (Al (Al s)))).at_,.int .i64 (((Al (Ax (Al (Al s)))).deep:Int) - 1),.int .i64 0,outv] 200:=hB;rw[e6] at hB;obtain⟨ao,ap⟩:=Rq.set hc (s:=Al (Ax (Al (Al s)))) (s':=B3 (Al (Ax (Al (Al s))))) b0 ho hm hk a9 c1 hB rfl b1 (by show s.deep+1 - 1≤12;omega) b3;refine Sa ?_;refine LW.call0 (vs:=[.pointer (some ⟨c.rb,0,none⟩),.agg ⟨BO ⟨{kind:=7,text:=(Aa c.T s).text},.slice none 0 0⟩⟩]) rfl rfl (Fi hc ao {kind:=7,text:=(Aa c.T s).text} rfl AeU) ?_;rintro v w7 ⟨rfl,c2,c3⟩;refine Sa ?_;exact QW.body1 rfl rfl ⟨_,rfl,((hf.trans bf).trans ap).trans c3,.inl ⟨_,_,rfl,.pr_call0 hk3 ht ai hi hd am,c2,by show s.at_<s.at_+1+1+1;omega,rfl,by show s.at_+(s.out++[_]).length≤s.at_+1+1+1+s.out.length;simp;omega⟩⟩
 have am:BH c.T (Ax (Al (Al s))) [41]=false:=by simpa using am
 refine Sa ?_;refine CW.loop (ι:=Bx×List Int×Value) (λk w'=>s.at_+1+1≤k.1.at_∧k.1.deep=s.deep+1∧s.at_+1+1+k.1.out.length≤k.1.at_+s.out.length∧k.2.1.length≤k.1.at_∧Rq c (Ae k.2.2++X) w' k.1∧Fq w w'∧Own w' c.w0.heap.size 3 1 k.2.2 k.2.1.length (Ad k.2.1)∧(∀b∈Ae k.2.2,w4.heap.size≤b)∧Fq w4 w'∧
   ∀r,PE c.T (.args (Aa c.T s).text k.2.1) k.1 r→PE c.T .prim s r) (λk=>[(0,.pointer (some ⟨c.rb,0,none⟩)),(1,Aq (Aa c.T s).text),(5,k.2.2)]) (λk=>c.T.length - k.1.at_) (Ax (Al (Al s)),[],.slice none 0 0)
  ⟨Ab2 _,rfl,by show s.at_+1+1+s.out.length≤s.at_+1+1+s.out.length;omega,by simp,aj,hf,Own.nil _ _ _ _,by simp[Ae],Fq.refl _,λr hr=>.pr_call hk3 ht ai hi hd am hr⟩ Bp ?_
 clear bs;rintro⟨t,ks,kv⟩ w5 ⟨g1,g2,g3,g4,hr,ax,ho,a5,bt,a4⟩;simp only at g1 g2 g3 g4 hr ho a5 a4;show CW _ _ _ _ _ [(0,.pointer (some ⟨c.rb,0,none⟩)),(1,Aq (Aa c.T s).text),(5,kv)] _;have cc:=hr.len;have c4:=bt.size;have aj:=hr;obtain⟨_,_,_,_,outv1,nvs1,bs,_⟩:=hr;refine Sa ?_
 try refine CW.yes rfl Aej ?_
 refine Sa ?_;refine Ap rfl rfl (hE t Aeb w5 (Ae kv++X) (λb hb=>by
  rw[Ab1] at hb;rcases hb with hb | hb
  ·exact(ho.lt hb).2
  ·exact AbL (hX b hb) c4) aj) ?_
 rintro v w6 ⟨z,rfl,ap,bg⟩;have c5:=Own.fq ho ap Aef Aef;replace ax:=ax.trans ap;have bh:=bt.trans ap;refine Sa ?_;refine CR λA w7 cd ay hA=>?_;replace hA:Blk w7 A [.int .i64 z] 3:=hA;have az:=c5.ext ay;replace ax:=ax.trans (.ext ay);have b4:=bh.trans (.ext ay);have c6:=b4.size;have ce:=ax.size;refine Sa ?_;refine LW.append rfl rfl rfl rfl rfl rfl az Aeb hA rfl rfl rfl (by show(ks.length+1)*9≤140737488355328;omega) rfl ?_;intro kv' w8 bc c7 b5;have ac:Own w8 c.w0.heap.size 3 1 kv' (ks++[z]).length (Ad (ks++[z])):=by simpa[Ad] using c7
 have cf:Fq w5 w8→True:=λ_=>trivial;have bi:∀b l T,Blk w4 b l T→T≠200→T≠189→Blk w8 b l T:=λb l T hb n1 n2=>(b4.blk b l T hb n1 n2).chg bc (λhm=>by
  have:=a5 b hm;have:=hb.lt;omega)
 have ak:Fq w4 w8:=⟨Acd c6 bc.size,bi⟩;have aa:Fq w w8:=hf.trans ak;have a7:∀b∈Ae kv',w4.heap.size≤b:=λb hb=>by
  rcases b5 b hb with hh | hh
  ·exact a5 b hh
  ·omega
 obtain⟨kp,kq,rfl⟩:=ac.slice;have b6:(Value.slice kp (ks++[z]).length kq).oneCell'=true:=rfl;rcases bg with ⟨t',a',rfl,b7,ao,k1,k2,k3⟩ | ⟨e,d,b7,br,ao⟩;rotate_left
 ·have a8:Re c w8 e d (kc (.lev 0) t.deep):=(ao.ext ay).other bc (λb hb=>⟨(az.lt hb).1,λl T k=>Own.type az hb k⟩);have av:PE c.T .prim s (.err e):=a4 _ (.ar_err b7);have cg:d=(s.deep:Int)+1∨d=(s.deep:Int):=by rw[g2] at br;omega
  have c8:kc (.lev 0) t.deep+1≤kc .prim s.deep:=by
   rw[g2];show 400+6*(12 - (s.deep+1))+(4 - 0)+1≤400+6*(12 - s.deep)+0;omega
  have ci:=Ns (.lev 0) t.deep;refine Sa ?_;refine Ap rfl rfl (XV a8 [44]) ?_;rintro v w9 ⟨rfl,aq⟩;replace a8:=a8.ext aq;refine Sa ?_;refine Ap rfl rfl (LF a8 [41]) ?_;rintro v bj ⟨rfl,b8⟩;replace a8:=a8.ext b8;have b9:=aq.trans b8;obtain⟨h0,he,i,outv,m,xs,hB,ar,aw⟩:=a8;have a9:=hB;refine Sa ?_;refine Cu λau ad hB=>?_;replace hB:Blk au c.rb [c.tokv,.int .i64 i,.int .i64 (d - 1),.int .i64 e,outv] 200:=hB;obtain⟨ae,ab⟩:=Re.set hc h0 ar a9 ad he hB aw;refine Sa ?_;refine LW.call0 (vs:=[.pointer (some ⟨c.rb,0,none⟩),.agg ⟨BO ⟨{kind:=7,text:=(Aa c.T s).text,kids:=ks},.slice kp (ks++[z]).length kq⟩⟩]) rfl rfl (Hi hc ae Aeb ⟨{kind:=7,text:=(Aa c.T s).text,kids:=ks},.slice kp (ks++[z]).length kq⟩ b6) ?_;rintro v bu ⟨⟨y,rfl⟩,af,ag⟩;refine Sa ?_;exact QW.body1 rfl rfl ⟨y,rfl,((aa.trans (.ext b9)).trans ab).trans ag,.inr ⟨e,_,av,by omega,af.mono c8⟩⟩
 have a8:Rq c (Ae (Value.slice kp (ks++[((a':Nat):Int)]).length kq)++X) w8 t':=by
  have h5:=(ao.ext ay).grow (X':=Ae kv++(Ae (Value.slice kp (ks++[((a':Nat):Int)]).length kq)++X)) (λb hb=>by
   simp only[Ab1] at hb ⊢;rcases hb with hb | hb | hb
   ·exact .inl (.inl hb)
   ·rcases b5 b hb with hh | hh
    ·exact .inl (.inl hh)
    ·exact .inr hh
   ·exact .inl (.inr hb))
  have h6:=h5.other bc (λb hb=>⟨(az.lt hb).1,Acf _ hb,λl T k=>Own.type az hb k⟩);exact h6.grow (λb hb=>.inl (Aca _ hb))
 refine Sa ?_;refine Ap rfl rfl (Mb hc a8 [44]) ?_;rintro v w9 ⟨rfl,aq⟩;replace a8:=a8.ext aq;replace ac:=ac.ext aq;replace aa:=aa.trans (.ext aq);replace ak:=ak.trans (.ext aq);refine Sa ?_;refine Av (λal=>?_) λal=>?_;rotate_left
 ·have al:BH c.T t' [44]=true:=by simpa using al
  obtain⟨b0,b1,b2,b3,outv,nvs,hB,ar,hm,hk⟩:=a8;have bk:=Dk hc b1 (by rw[(Et al).1];decide);have a9:=hB;refine Sa ?_;refine Cu λbj bl hB=>?_;replace hB:Blk bj c.rb [c.tokv,.int .i64 (Al t').at_,.int .i64 (Al t').deep,.int .i64 0,outv] 200:=hB;obtain⟨ah,a6⟩:=Rq.set hc (s:=t') (s':=Al t') b0 ar hm hk a9 bl hB rfl bk b2 (by show t'.out.length≤t'.at_+1;omega);refine Sa ?_;exact QW.again (Al t',ks++[((a':Nat):Int)],.slice kp (ks++[((a':Nat):Int)]).length kq) ⟨by show s.at_+1+1≤t'.at_+1;omega,k2.trans g2,by show s.at_+1+1+t'.out.length≤t'.at_+1+s.out.length;omega,by show(ks++[_]).length≤t'.at_+1;simp;omega,ah,aa.trans a6,Own.fq ac a6 Aef Aef,a7,ak.trans a6,λr hr=>a4 r (.ar_go b7 al hr)⟩ Bp (by show c.T.length - (t'.at_+1)<c.T.length - t.at_;omega)
 have al:BH c.T t' [44]=false:=by simpa using al
 refine Sa ?_;refine Ap rfl rfl (Ol hc a8 [41]) ?_;rintro v bj ⟨rfl,a6,⟨h5,ah⟩ | ⟨h5,ah⟩⟩;rotate_left
 ·have av:PE c.T .prim s (.err 5):=a4 _ (.ar_open b7 al h5);have cj:=a8.len;obtain⟨h0,he,i,outv,m,xs,hB,ar,aw⟩:=ah;have a9:=hB;refine Sa ?_;refine Cu λau ad hB=>?_;replace hB:Blk au c.rb [c.tokv,.int .i64 i,.int .i64 ((t'.deep:Int) - 1),.int .i64 5,outv] 200:=hB;obtain⟨ae,ab⟩:=Re.set hc h0 ar a9 ad he hB aw;refine Sa ?_;refine LW.call0 (vs:=[.pointer (some ⟨c.rb,0,none⟩),.agg ⟨BO ⟨{kind:=7,text:=(Aa c.T s).text,kids:=ks},.slice kp (ks++[((a':Nat):Int)]).length kq⟩⟩]) rfl rfl (Hi hc ae Aeb ⟨{kind:=7,text:=(Aa c.T s).text,kids:=ks},.slice kp (ks++[((a':Nat):Int)]).length kq⟩ b6) ?_;rintro v bu ⟨⟨y,rfl⟩,af,ag⟩;refine Sa ?_;exact QW.body1 rfl rfl ⟨y,rfl,((aa.trans a6).trans ab).trans ag,.inr ⟨5,_,av,by omega,af.mono Aeb⟩⟩
 have bm:=Own.fq ac a6 Aef Aef;obtain⟨b0,b1,b2,b3,outv,nvs,hB,ar,hm,hk⟩:=ah;have a9:=hB;refine Sa ?_;refine Cu λau ad hB=>?_;have bn:(B3 (Al t')).deep=s.deep:=by show t'.deep - 1=s.deep;omega
 have e9:(t'.deep:Int) - 1=(((B3 (Al t')).deep:Nat):Int):=by rw[bn];omega
 replace hB:Blk au c.rb [c.tokv,.int .i64 (Al t').at_,.int .i64 ((t'.deep:Int) - 1),.int .i64 0,outv] 200:=hB;rw[e9] at hB;obtain⟨ae,ab⟩:=Rq.set hc (s:=Al t') (s':=B3 (Al t')) b0 ar hm hk a9 ad hB rfl b1 (by rw[bn];omega) b3;have bo:=Own.fq bm ab Aef Aef;have ba:Rq c X au (B3 (Al t')):=ae.grow (λb hb=>.inl (Aca _ hb));refine Sa ?_;refine LW.call0 (vs:=[.pointer (some ⟨c.rb,0,none⟩),.agg ⟨BO ⟨{kind:=7,text:=(Aa c.T s).text,kids:=ks++[((a':Nat):Int)]},.slice kp (ks++[((a':Nat):Int)]).length kq⟩⟩]) rfl rfl (KC hc ba ⟨{kind:=7,text:=(Aa c.T s).text,kids:=ks++[((a':Nat):Int)]},.slice kp (ks++[((a':Nat):Int)]).length kq⟩ (NM bo) (λb hb c9=>by
  have:=a7 b hb;have:=hX b c9;omega) (by show t'.out.length+1≤t'.at_+1;omega)) ?_
 rintro v bu ⟨rfl,af,ag⟩;refine Sa ?_;exact QW.body1 rfl rfl ⟨_,rfl,((aa.trans a6).trans ab).trans ag,.inl ⟨Bt (B3 (Al t')) {kind:=7,text:=(Aa c.T s).text,kids:=ks++[((a':Nat):Int)]},t'.out.length,rfl,a4 _ (.ar_end b7 al h5),af,by show s.at_<t'.at_+1;omega,bn,by show s.at_+(t'.out++[_]).length≤t'.at_+1+s.out.length;simp;omega⟩⟩
theorem WG{c:Bg}(hc:c.Ok)(s:Bx)(hE:∀s',s.at_<s'.at_→RC c 145 [.int .i64 0] (.lev 0) s'):RC c 227 [] .prim s:=by
 intro w X hX h;have ar:=hc.len;have aj:=PB hc h.2.1;have hl:=h.len;have az:=Ns .prim s.deep;have h0:=h;obtain⟨a0,a1,a2,a3,outv,nvs,hB,ho,hm,hk⟩:=h0;have hT:=hc.tok.ext a0;have hg:c.T[s.at_]?=some (Aa c.T s):=by simp only[Aa,AaA,Aav a1,Ac6]
 have a6:=hB;unfold Bg.tokv at hB;refine AG func227 ntmps227 ?_;refine Sa ?_;refine CW.drawHeld (λw'=>Ah w w') (λw' h=>h) Aec λw5 ao=>?_;refine Sh ?_;refine HW.take 8 rfl rfl rfl rfl (λw _=>Y.gs rfl ⟨by omega,by omega⟩) rfl Aec Aec Aec (λ_ _ _ h=>h) ?_;refine HW.take 9 rfl rfl rfl rfl (λw hw=>Y.load_agg (cs:=Bj (Aa c.T s)) (i:=0+s.at_*9) rfl (hT.ext hw) rfl rfl rfl (by rw[AbP];exact Nj Jt hg)) rfl Aec Aec Aec (λ_ _ _ h=>h) ?_;refine HW.one 10 Aec rfl rfl (λhS=>?_);refine B1 λR w6 b4 ap hR=>?_;apply LW.nil;refine QW.held (hS.trans ap) ?_;refine HW.one 11 Aec rfl rfl (λhS=>?_);refine AF λw7 au hR=>?_;replace hR:Blk w7 R (Bj (Aa c.T s)) 203:=hR;have ag:Ah w w7:=(ao.trans ap).step au (by simp;have:=ao.size;omega);apply LW.nil;refine QW.held ag ?_;refine HW.done Aec ?_;replace h:=h.ext ag;have hf:=Fq.ext ag;replace hX:∀b∈X,b<w7.heap.size:=λb hb=>AbL (hX b hb) ag.size;refine Sa ?_;refine Ap rfl rfl (Mb hc h [40]) ?_;rintro v w8 ⟨rfl,ah⟩;replace h:=h.ext ah;replace hR:=hR.ext ah;replace hf:=hf.trans (.ext ah);replace hX:∀b∈X,b<w8.heap.size:=λb hb=>AbL (hX b hb) ah.size;refine Sa ?_;refine Av (λhi=>?_) λhi=>?_
 ·have hi:BH c.T s [40]=true:=hi;refine Sa ?_;refine Ap rfl rfl (Oe hc h Afj) ?_;rintro v w9 ⟨rfl,a4,⟨hd,hr⟩ | ⟨hd,hr⟩⟩;rotate_left
  ·have ak:=hr;obtain⟨_,he,i,outv,m,xs,hB,ho,ai⟩:=hr;refine Sa ?_;exact QW.body1 rfl rfl ⟨0,rfl,hf.trans a4,.inr ⟨6,s.deep,.pr_deep hi hd,.inl rfl,ak.mono Aeb⟩⟩
  have ak:=hr;obtain⟨_,_,_,_,outv1,nvs1,b5,_⟩:=hr;replace hf:=hf.trans a4;refine Sa ?_;refine Ap rfl rfl (hE (Ax (Al s)) Afc w9 X (λb hb=>AbL (hX b hb) a4.size) ak) ?_;rintro v al ⟨z,rfl,a5,a7⟩;replace hf:=hf.trans a5;rcases a7 with ⟨s1,a,rfl,hp,hr,g1,g2,g3⟩ | ⟨e,d,hp,aq,hr⟩;rotate_left
  ·have aq:d=((s.deep+1:Nat):Int)∨d=((s.deep+1:Nat):Int) - 1:=aq;have av:kc (.lev 0) (Ax (Al s)).deep≤kc .prim s.deep:=by
    show 400+6*(12 - (s.deep+1))+(4 - 0)≤400+6*(12 - s.deep)+0;omega
   refine Sa ?_;refine Ap rfl rfl (LF hr [41]) ?_;rintro v aw ⟨rfl,ab⟩;replace hr:=hr.ext ab;obtain⟨h0,he,i,outv,m,xs,hB,ho,ai⟩:=hr;have a6:=hB;refine Sa ?_;refine Cu λac a8 hB=>?_;replace hB:Blk ac c.rb [c.tokv,.int .i64 i,.int .i64 (d - 1),.int .i64 e,outv] 200:=hB;obtain⟨a9,aa⟩:=Re.set hc h0 ho a6 a8 he hB ai;refine Sa ?_;exact QW.body1 rfl rfl ⟨z,rfl,(hf.trans (.ext ab)).trans aa,.inr ⟨e,d - 1,.pr_err hi hd hp,by omega,a9.mono av⟩⟩
  have g1':s.at_+1<s1.at_:=g1;have g2':s1.deep=s.deep+1:=g2;have g3':s.at_+1+s1.out.length≤s1.at_+s.out.length:=g3;have b6:=hr.len;refine Sa ?_;refine Ap rfl rfl (Ol hc hr [41]) ?_;rintro v aw ⟨rfl,ad,⟨am,hr⟩ | ⟨am,hr⟩⟩;rotate_left
  ·obtain⟨h0,he,i,outv,m,xs,hB,ho,ai⟩:=hr;have a6:=hB;refine Sa ?_;refine Cu λac a8 hB=>?_;replace hB:Blk ac c.rb [c.tokv,.int .i64 i,.int .i64 ((s1.deep:Int) - 1),.int .i64 5,outv] 200:=hB;obtain⟨a9,aa⟩:=Re.set hc h0 ho a6 a8 he hB ai;refine Sa ?_;exact QW.body1 rfl rfl ⟨_,rfl,(hf.trans ad).trans aa,.inr ⟨5,_,.pr_open hi hd hp am,by omega,a9.mono Aeb⟩⟩
  obtain⟨b0,b1,b2,b3,outv,nvs,hB,ho,hm,hk⟩:=hr;have a6:=hB;refine Sa ?_;refine Cu λac a8 hB=>?_;have ax:(s1.deep:Int) - 1=(((B3 (Al s1)).deep:Nat):Int):=by show(s1.deep:Int) - 1=((s1.deep - 1:Nat):Int);omega
  replace hB:Blk ac c.rb [c.tokv,.int .i64 (Al s1).at_,.int .i64 ((s1.deep:Int) - 1),.int .i64 0,outv] 200:=hB;rw[ax] at hB;obtain⟨a9,aa⟩:=Rq.set hc (s:=Al s1) (s':=B3 (Al s1)) b0 ho hm hk a6 a8 hB rfl b1 AeY b3;refine Sa ?_;exact QW.body1 rfl rfl ⟨_,rfl,(hf.trans ad).trans aa,.inl ⟨B3 (Al s1),a,rfl,.pr_ok hi hd hp am,a9,by show s.at_<s1.at_+1;omega,by show s1.deep - 1=s.deep;omega,by show s.at_+s1.out.length≤s1.at_+1+s.out.length;omega⟩⟩
 have hi:BH c.T s [40]=false:=hi;have q1:s.at_<s.at_+1:=Aeb
 have q3:∀n:Aj,s.at_+(s.out++[n]).length≤s.at_+1+s.out.length:=λn=>by simp;omega
 have an:(Al s).out.length+1≤(Al s).at_:=by show s.out.length+1≤s.at_+1;omega
 refine Sa ?_;refine Av (λh1=>?_) λh1=>?_
 ·have h1:(Aa c.T s).kind=1:=by simpa using h1
  obtain⟨a0,a1,a2,a3,outv,nvs,hB,ho,hm,hk⟩:=h;have ae:=Dk hc a1 Aeb;have a6:=hB;refine Sa ?_;refine Cu λw9 af hB=>?_;replace hB:Blk w9 c.rb [c.tokv,.int .i64 (Al s).at_,.int .i64 (Al s).deep,.int .i64 0,outv] 200:=hB;obtain⟨h9,a4⟩:=Rq.set hc (s:=s) (s':=Al s) a0 ho hm hk a6 af hB rfl ae a2 Aeu;replace hf:=hf.trans a4;replace hR:=a4.blk _ _ _ hR Aef Aef;refine Sa ?_;refine LW.call0 (vs:=[.pointer (some ⟨c.rb,0,none⟩),.agg ⟨BO ⟨{kind:=1,num:=(Aa c.T s).num},.slice none 0 0⟩⟩]) rfl rfl (Fi hc h9 {kind:=1,num:=(Aa c.T s).num} rfl an) ?_;rintro v al ⟨rfl,hr,a5⟩;refine Sa ?_;exact QW.body1 rfl rfl ⟨_,rfl,hf.trans a5,.inl ⟨_,_,rfl,.pr_num h1,hr,q1,rfl,q3 _⟩⟩
 have h1:(Aa c.T s).kind≠1:=by simpa using h1
 refine Sa ?_;refine Av (λh2=>?_) λh2=>?_
 ·have h2:(Aa c.T s).kind=2:=by simpa using h2
  obtain⟨a0,a1,a2,a3,outv,nvs,hB,ho,hm,hk⟩:=h;have ae:=Dk hc a1 Aeb;have a6:=hB;refine Sa ?_;refine Cu λw9 af hB=>?_;replace hB:Blk w9 c.rb [c.tokv,.int .i64 (Al s).at_,.int .i64 (Al s).deep,.int .i64 0,outv] 200:=hB;obtain⟨h9,a4⟩:=Rq.set hc (s:=s) (s':=Al s) a0 ho hm hk a6 af hB rfl ae a2 Aeu;replace hf:=hf.trans a4;replace hR:=a4.blk _ _ _ hR Aef Aef;refine Sa ?_;refine LW.call0 (vs:=[.pointer (some ⟨c.rb,0,none⟩),.agg ⟨BO ⟨{kind:=2,text:=(Aa c.T s).text},.slice none 0 0⟩⟩]) rfl rfl (Fi hc h9 {kind:=2,text:=(Aa c.T s).text} rfl an) ?_;rintro v al ⟨rfl,hr,a5⟩;refine Sa ?_;exact QW.body1 rfl rfl ⟨_,rfl,hf.trans a5,.inl ⟨_,_,rfl,.pr_text h2,hr,q1,rfl,q3 _⟩⟩
 have h2:(Aa c.T s).kind≠2:=by simpa using h2
 refine Sa ?_;refine Av (λh6=>?_) λh6=>?_
 ·have h6:(Aa c.T s).kind=6:=by simpa using h6
  obtain⟨a0,a1,a2,a3,outv,nvs,hB,ho,hm,hk⟩:=h;have ae:=Dk hc a1 Aeb;have a6:=hB;refine Sa ?_;refine Cu λw9 af hB=>?_;replace hB:Blk w9 c.rb [c.tokv,.int .i64 (Al s).at_,.int .i64 (Al s).deep,.int .i64 0,outv] 200:=hB;obtain⟨h9,a4⟩:=Rq.set hc (s:=s) (s':=Al s) a0 ho hm hk a6 af hB rfl ae a2 Aeu;replace hf:=hf.trans a4;replace hR:=a4.blk _ _ _ hR Aef Aef;refine Sa ?_;refine LW.call0 (vs:=[.pointer (some ⟨c.rb,0,none⟩),.agg ⟨BO ⟨{kind:=4},.slice none 0 0⟩⟩]) rfl rfl (Fi hc h9 {kind:=4} rfl an) ?_;rintro v al ⟨rfl,hr,a5⟩;refine Sa ?_;exact QW.body1 rfl rfl ⟨_,rfl,hf.trans a5,.inl ⟨_,_,rfl,.pr_dead h6,hr,q1,rfl,q3 _⟩⟩
 have h6:(Aa c.T s).kind≠6:=by simpa using h6
 refine Sa ?_;refine Av (λh4=>?_) λh4=>?_
 ·have h4:(Aa c.T s).kind=4:=by simpa using h4
  refine Sa ?_;refine LW.load_agg (cs:=AU (Aa c.T s).ref) rfl hR rfl rfl rfl ⟨rfl,rfl,rfl,rfl,rfl,trivial⟩ rfl ?_;refine Sa ?_;refine Ap rfl rfl (YF hc s h4 w8 h) ?_;rintro v w9 ⟨z,rfl,a4,a7⟩;refine Sa ?_;exact QW.body1 rfl rfl ⟨z,rfl,hf.trans a4,a7⟩
 have h4:(Aa c.T s).kind≠4:=by simpa using h4
 refine Sa ?_;refine Av (λh3=>?_) λh3=>?_
 ·have h3:(Aa c.T s).kind=3:=by simpa using h3
  refine Sa ?_;refine Ap rfl rfl (WD hc s h3 hE w8 X hX h) ?_;rintro v w9 ⟨z,rfl,a4,a7⟩;refine Sa ?_;exact QW.body1 rfl rfl ⟨z,rfl,hf.trans a4,a7⟩
 have h3:(Aa c.T s).kind≠3:=by simpa using h3
 have ay:PE c.T .prim s (.err 5):=by
  by_cases h0:(Aa c.T s).kind=0
  ·exact .pr_end h0
  ·have h5:(Aa c.T s).kind=5:=Aeb
   exact .pr_sign h5 (by simpa[BH,h5] using hi)
 refine Sa ?_;refine Ap rfl rfl (Gh hc h 5 Aef) ?_;rintro v w9 ⟨rfl,hr,a4⟩;refine Sa ?_;exact QW.body1 rfl rfl ⟨0,rfl,hf.trans a4,.inr ⟨5,s.deep,ay,.inl rfl,hr.mono Aeb⟩⟩
theorem SE{c:Bg}(hc:c.Ok):∀(m:Nat) (s:Bx),c.T.length - s.at_≤m→(∀n:Nat,n<4→RC c 145 [.int .i64 (n:Int)] (.lev n) s)∧RC c 145 [.int .i64 4] .unary s∧RC c 189 [] .unary s
 | 0,s,hm=>by
  have key:∀f a m,RC c f a m s:=λf a m w X hX h=>absurd h.2.1 Aeb
  exact⟨λ_ _=>key _ _ _,key _ _ _,key _ _ _⟩
 | m+1,s,hm=>by
  by_cases hs:s.at_<c.T.length
  ·have ih:=λ(s':Bx) (h:s.at_<s'.at_)=>SE hc m s' Aeb;have hp:=WG hc s (λs' h=>(ih s' h).1 0 Aeb);have hu:=Uz hc s hp (λs' h=>(ih s' h).2.2);have h4:=YB s hu;have h3:RC c 145 [.int .i64 3] (.lev 3) s:=MD hc 3 Aeb s h4 (λs' h _=>(ih s' h).2.1);have h2:RC c 145 [.int .i64 2] (.lev 2) s:=MD hc 2 Aeb s h3 (λs' h _=>(ih s' h).1 3 Aeb);have h1:RC c 145 [.int .i64 1] (.lev 1) s:=MD hc 1 Aeb s h2 (λs' h _=>(ih s' h).1 2 Aeb);have h0:RC c 145 [.int .i64 0] (.lev 0) s:=MD hc 0 Aeb s h1 (λs' h _=>(ih s' h).1 1 Aeb);refine⟨λn hn=>?_,h4,hu⟩;have:n=0∨n=1∨n=2∨n=3:=Aeb
   rcases this with rfl | rfl | rfl | rfl
   ·exact h0
   ·exact h1
   ·exact h2
   ·exact h3
  ·have key:∀f a m,RC c f a m s:=λf a m w X hX h=>absurd h.2.1 hs;exact⟨λ_ _=>key _ _ _,key _ _ _,key _ _ _⟩
def AaI(w:World)(lo:Nat)(v:Value)(o:Except Int (List Aj)):Prop:=match o with
 | .error e=>v=.agg ⟨[.slice none 0 0,.int .i64 e]⟩
 | .ok l=>∃sv,v=.agg ⟨[sv,.int .i64 0]⟩∧MK w lo sv l
theorem Sf{s:List UInt8}(h:300<s.length):AE s=.error 4:=by unfold AE;rw[if_pos h]
theorem Si{s:List UInt8}(h:¬300<s.length)(e:Ic s=none):AE s=.error 5:=by unfold AE;rw[if_neg h,e]
theorem Vv(s:List UInt8)(hs:s.length≤9223372036854775807)(w:World):A9 prog 94 [Aq s] w (λv w'=>(AaI w' w.heap.size v (AE s)∧∀e,AE s=.error e→e≠0)∧Ah w w'):=by
 refine AG func94 ntmps94 ?_;refine Sa ?_;refine B1 λL w1 b9 ap hL=>?_;refine Sa ?_;refine Ap rfl rfl (Y7 s hs w1) ?_;rintro v w2 ⟨hv,aq⟩;replace hL:=hL.ext aq;have a9:=ap.trans aq;have ba:=ap.size;have ae:w.heap.size≤L:=Aeb
 by_cases a3:300<s.length
 ·rw[ML,if_pos a3] at hv;subst hv;have a1:=Sf a3;refine Sa ?_;refine B1 λK w3 ar a6 hK=>?_;replace hL:=hL.ext a6;refine Sa ?_;refine AF λw4 a7 hK=>?_;have a4:Ah w2 w4:=a6.step a7 Aee;replace hL:=hL.chg a7 (by simp;intro h;subst h;exact absurd (hL.inj Aen) Aef);refine Sa ?_;refine AF λw5 aj hL=>?_;refine Sa ?_;refine QW.body_c rfl rfl hL rfl rfl rfl ⟨⟨by rw[a1];rfl,λe0 a2=>by rw[a1] at a2;simp only[Except.error.injEq] at a2;omega⟩,(a9.trans a4).step aj Afq⟩
 cases a0:Ic s with
 | none=>
  rw[ML,if_neg a3,a0] at hv;subst hv;have a1:=Si a3 a0;refine Sa ?_;refine B1 λK w3 ar a6 hK=>?_;replace hL:=hL.ext a6;refine Sa ?_;refine AF λw4 a7 hK=>?_;have a4:Ah w2 w4:=a6.step a7 Aee;replace hL:=hL.chg a7 (by simp;intro h;subst h;exact absurd (hL.inj Aen) Aef);refine Sa ?_;refine AF λw5 aj hL=>?_;refine Sa ?_
  refine QW.body_c rfl rfl hL rfl rfl rfl ⟨⟨by rw[a1];rfl,λe0 a2=>by rw[a1] at a2;simp only[Except.error.injEq] at a2;omega⟩,(a9.trans a4).step aj Afq⟩
 | some T=>
 rw[ML,if_neg a3,a0] at hv;obtain⟨sv,rfl,ak⟩:=hv;obtain⟨k0,k1,k2⟩:=JG _ s 0 (Ab2 _) a0;have bb:=R4 a0;obtain⟨tb,tcap,tsp,rfl,hT,_⟩:=ak.get (AbB.2 k0);refine Sa ?_;refine B1 λK w3 ar a6 hK=>?_;replace hL:=hL.ext a6;replace hT:=hT.ext a6;refine Sa ?_;refine AF λw4 a7 hK=>?_;have a4:Ah w2 w4:=a6.step a7 Aee;have ag:Ah w w4:=a9.trans a4;replace hL:=hL.chg a7 (by have:=hL.lt;simp;intro h;subst h;exact absurd (hL.inj Aen) Aef);replace hT:=hT.chg a7 (by simp;intro h;subst h;exact absurd (hT.inj Aen) Aef);refine Sa ?_;refine C0 λR w5 bc au hR=>?_;replace hL:=hL.ext au;obtain⟨c,aa⟩:∃c:Bg,c=⟨T,tb,tcap,tsp,R,w4⟩:=⟨_,rfl⟩;have hc:c.Ok:=by
  subst aa;exact⟨hT,by show T.length≤301;omega,k2,k1,by show w4.heap.size≤R;omega⟩
 have ab:c.T=T:=by rw[aa]
 have ad:c.rb=R:=by rw[aa]
 have ah:c.w0=w4:=by rw[aa]
 have av:c.tokv=.slice (some ⟨tb,0,none⟩) T.length tcap:=by rw[aa];rfl
 have ax:c.tb=tb:=by rw[aa]
 have bd:c.tsp=tsp:=by rw[aa]
 have ay:Rq c [] w5 ⟨0,[],0⟩:=by
  refine⟨by rw[ah];exact au,by rw[ab];exact AbB.2 k0,by simp,by simp,.slice none 0 0,[],?_,Own.nil _ _ _ _,rfl,by simp⟩;rw[ad,av];exact hR
 have af:=(SE hc _ ⟨0,[],0⟩ (Ab2 _)).1 0 Aeb w5 [] Aej ay;rw[ad] at af;refine Sa ?_;refine Ap rfl rfl af ?_;rintro v w6 ⟨z,rfl,az,al⟩;replace hL:=az.blk _ _ _ hL Aef Aef;rcases al with ⟨s1,a,rfl,hp,hr,g1,g2,g3⟩ | ⟨e,d,hp,be,hr⟩;rotate_left
 ·have a1:AE s=.error e:=FM Aeb a0 (.inl (by rw[←ab];exact hp));obtain⟨h0,he,i,outv,m,xs,hB,ho,b0⟩:=hr;rw[ad] at hB;rw[ah] at h0;refine Sa ?_;refine Ig ?_;refine Sq ?_;refine QL.know (t:=24) (c:=false) rfl (by simp[he]) ?_;refine Sq ?_;refine QL.nil λw7 a5=>?_;replace hB:=hB.ext a5;replace hL:=hL.ext a5;replace h0:=h0.trans a5;refine Sa ?_
  try refine CW.yes rfl (by simp[he]) ?_
  refine Sa ?_;refine AF λw9 am hL=>?_;refine Sa ?_;refine QW.body_c rfl rfl hL rfl rfl rfl ⟨⟨by rw[a1];rfl,λe0 a2=>by rw[a1] at a2;simp only[Except.error.injEq] at a2;omega⟩,(ag.trans h0).step am Afq⟩
 have hl:=hr.len;have an:=hr;obtain⟨h0,h1,h2,h3,outv,nvs,hB,ho,hm,hk⟩:=hr;have aw:=hc.tok.ext h0;have b1:c.T[s1.at_]?=some (Aa c.T s1):=by simp only[Aa,AaA,Aav h1,Ac6]
 have b2:(c.T.flatMap Bj++c.tsp)[0+s1.at_*9+0]?=some (.int .i64 (Aa c.T s1).kind):=by
  rw[AbP];exact GQ Jt c.T c.tsp s1.at_ _ 0 b1 Aef
 rw[ad,av] at hB;rw[ax] at aw;have b3:=hc.len;have bf:c.T.length=T.length:=by rw[ab]
 refine Sa ?_;refine Ig ?_;refine Sq ?_;refine QL.know (t:=24) (c:=true) rfl Aej ?_;refine Zd ?_;refine QL.load (i:=0+s1.at_*9+0) rfl aw b2 rfl rfl rfl ?_;refine Zd ?_;refine QL.nil λw7 a5=>?_;replace hB:=hB.ext a5;replace hL:=hL.ext a5;replace an:=an.ext a5;refine Sa ?_;refine Av (λac=>?_) λac=>?_
 ·have ac:(Aa c.T s1).kind≠0:=by simpa using ac
  have a1:AE s=.error 5:=FM Aeb a0 (.inr ⟨rfl,s1,a,by rw[←ab];exact hp,by rw[←ab];exact ac⟩);have a8:=Gh hc an 5 Aef;rw[ad] at a8;refine Sa ?_;refine Ap rfl rfl a8 ?_;rintro v w8 ⟨rfl,b4,b5⟩;replace hL:=b5.blk _ _ _ hL Aef Aef;obtain⟨h0,he,i,outv,m,xs,hB,ho,b0⟩:=b4;rw[ad] at hB;rw[ah] at h0;refine Sa ?_
  try refine CW.yes rfl (by simp[he]) ?_
  refine Sa ?_;refine AF λw9 am hL=>?_;refine Sa ?_;refine QW.body_c rfl rfl hL rfl rfl rfl ⟨⟨by rw[a1];rfl,λe0 a2=>by rw[a1] at a2;simp only[Except.error.injEq] at a2;omega⟩,(ag.trans h0).step am Afq⟩
 have ac:(Aa c.T s1).kind=0:=by simpa using ac
 have a1:AE s=.ok s1.out:=FM Aeb a0 ⟨s1,a,by rw[←ab];exact hp,by rw[←ab];exact ac,rfl⟩;have ai:=ho.ext a5;rw[ah] at ai h0;obtain⟨q1,q2,rfl⟩:=ai.slice;refine Sa ?_;have b6:∀b,b∈Ae (Value.slice q1 nvs.length q2)→b∉[L]:=λb hb h=>by
  simp only[Aah] at h;subst h;exact absurd (Own.type ai hb hL) Aef
 have b7:=hL;refine AF λw8 ao hL=>?_;refine Sa ?_;refine QW.body_c rfl rfl hL rfl rfl rfl ⟨⟨?_,λe0 a2=>by rw[a1] at a2;cases a2⟩,(ag.trans (h0.trans a5)).step ao Afq⟩;rw[a1];refine⟨_,rfl,nvs,(ai.chg ao b6).low ag.size,hm,λx hx=>?_⟩;have b8:=((hk x hx).1.fq (.ext a5));rcases b8 with e | ⟨g,cap,sp,e,hg⟩
 ·exact .inl e
 ·exact .inr ⟨g,cap,sp,e,hg.chg ao (λhm=>by simp at hm;subst hm;exact absurd (hg.inj b7) Aef)⟩
theorem OA(s:List UInt8)(hs:s.length≤1000000)(w:World):A9 prog 219 [Aq s] w (λv w'=>v=.bool (Mn s)∧Ah w w'):=by
 refine AG func219 ntmps219 ?_;refine Sa ?_;refine CW.loop (ι:=Nat) (λk w'=>k≤s.length∧Ah w w'∧∀j,j<k→32≤Ab s j) (λk=>[(0,Aq s),(3,.int .i64 k)]) (λk=>s.length - k) 0 ⟨by omega,Chg.refl _ _,by omega⟩ DT ?_;rintro k w1 ⟨hk,hx,a0⟩;refine Sa ?_;refine Av (λh1=>?_) λh1=>?_
 ·have h1:k<s.length:=by simp at h1;omega
  refine Sa ?_;refine Av (λh2=>?_) λh2=>?_
  ·have h2:Ab s k<32:=by simpa using h2
   refine Sa ?_;refine QW.body1 rfl rfl ⟨?_,hx⟩;have:Mn s=false:=by
    simp only[Mn,decide_eq_false_iff_not];intro hh;have:=hh k h1;omega
   rw[this]
  ·have h2:¬Ab s k<32:=by simpa using h2
   refine Sa ?_;refine QW.again (k+1) ⟨by omega,hx,λj hj=>?_⟩ DT Aeb;by_cases e:j=k
   ·subst e;omega
   ·exact a0 j Aeb
 ·have h1:k=s.length:=by simp at h1;omega
  subst h1;refine Sa ?_;refine QW.body1 rfl rfl ⟨?_,hx⟩;have:Mn s=true:=by simp only[Mn,decide_eq_true_eq];exact a0
  rw[this]
theorem Da(x:C3)(w:World):A9 prog 218 [.agg ⟨AU x⟩] w (λv w'=>v=.bool (decide (x=A4))∧Ah w w'):=by
 refine AG func218 ntmps218 ?_;refine Sa ?_;refine C0 λA w1 a1 a0 hA=>?_;replace hA:Blk w1 A (AU x) 187:=hA;refine Sa ?_;refine Sl ?_;refine LW.eql_agg (xs:=AU x) (ys:=AU A4) (c:=decide (x=A4)) rfl rfl Nc (λw=>PS x A4 9998 w) rfl ?_;refine Sa ?_;exact QW.body1 rfl rfl ⟨rfl,a0⟩
theorem Xz(k:Int)(w:World):A9 prog 178 [.int .i64 k] w (λv w'=>v=.int .i64 (BC k)∧Ah w w'):=by
 have fin:∀z,BC k=z→(Value.int .i64 z=.int .i64 (BC k)∧Ah w w):=λz h=>⟨by rw[h],Chg.refl _ _⟩;refine AG func178 ntmps178 ?_;refine Sa ?_;by_cases h1:1≤k;rotate_left
 ·refine LW.know (t:=6) (c:=false) rfl Aee ?_;refine Sa ?_;refine CW.no rfl Aee ?_;refine Sa ?_;refine CW.no rfl Aee ?_;refine Sa ?_;refine LW.know (t:=19) (c:=false) rfl Aee ?_;refine Sa ?_;exact QW.body1 rfl rfl (fin _ (by unfold BC;rw[if_pos Aeb]))
 refine LW.know (t:=6) (c:=true) rfl Ae8 ?_;refine Sa ?_;refine Av (λh2=>?_) λh2=>?_
 ·have h2:k≤6:=by simpa using h2
  refine Sa ?_;exact QW.body1 rfl rfl (fin _ (by unfold BC;rw[if_neg Aeb,if_neg Aeb,if_neg Aeb,if_neg Aeb]))
 have h2:6<k:=by simpa using h2
 refine Sa ?_;refine Av (λh3=>?_) λh3=>?_
 ·have h3:k=7:=by simpa using h3
  refine Sa ?_;exact QW.body1 rfl rfl (fin _ (by unfold BC;rw[if_neg Aeb,if_pos h3]))
 have h3:k≠7:=by simpa using h3
 refine Sa ?_;refine Av (λh4=>?_) λh4=>?_
 ·have h4:k=8:=by simpa using h4
  refine Sa ?_;exact QW.body1 rfl rfl (fin _ (by unfold BC;rw[if_neg Aeb,if_neg Aeb,if_pos h4]))
 have h4:k≠8:=by simpa using h4
 refine Sa ?_;refine LW.know (t:=19) (c:=true) rfl Aee ?_;refine Sa ?_;refine Av (λh5=>?_) λh5=>?_
 ·have h5:k≤19:=by simpa using h5
  refine Sa ?_;exact QW.body1 rfl rfl (fin _ (by unfold BC;rw[if_neg Aeb,if_neg Aeb,if_neg Aeb,if_pos Aeb]))
 have h5:19<k:=by simpa using h5
 refine Sa ?_;exact QW.body1 rfl rfl (fin _ (by unfold BC;rw[if_pos Aeb]))
theorem Yd(n:Aj)(p:Option Addr)(k c:Nat)(w:World)(ht:n.text.length≤1000)(hr:n.ref.sheet.length≤9223372036854775807)(hto:n.to.sheet.length≤9223372036854775807):A9 prog 179 [.agg ⟨BO ⟨n,.slice p k c⟩⟩] w (λv w'=>v=.bool (Au n)∧Ah w w'):=by
 obtain⟨kd,num,text,ref,to,kids⟩:=n;simp only at ht hr hto;refine AG func179 ntmps179 ?_;refine Sa ?_;refine C0 λA w1 ae hx hA=>?_;replace hA:Blk w1 A (BO ⟨⟨kd,num,text,ref,to,kids⟩,.slice p k c⟩) 189:=hA;by_cases k1:kd=1
 ·subst k1;refine Sa ?_;refine B8 (λa1=>?_) λa1=>?_
  ·refine Sa ?_;refine QW.body1 rfl rfl ⟨by have a1:text≠[]:=(by simpa using a1);simp[Au,A7,a1],hx⟩
  have a1:text=[]:=by simpa using a1
  refine Sa ?_;refine LW.load_agg (cs:=AU ref) rfl hA rfl rfl rfl ⟨rfl,rfl,rfl,rfl,rfl,trivial⟩ rfl ?_;refine Sa ?_;refine Ap rfl rfl (Da ref _) ?_;rintro v w2 ⟨rfl,a5⟩;replace hA:=hA.ext a5;replace hx:=hx.trans a5;refine Sa ?_;refine B8 (λa2=>?_) λa2=>?_
  ·refine Sa ?_;refine QW.body1 rfl rfl ⟨by have a2:ref≠A4:=(by simpa using a2);simp[Au,A7,a2],hx⟩
  have a2:ref=A4:=by simpa using a2
  refine Sa ?_;refine LW.load_agg (cs:=AU to) rfl hA rfl rfl rfl ⟨rfl,rfl,rfl,rfl,rfl,trivial⟩ rfl ?_;refine Sa ?_;refine Ap rfl rfl (Da to _) ?_;rintro v w3 ⟨rfl,a4⟩;replace hA:=hA.ext a4;replace hx:=hx.trans a4;refine Sa ?_;refine Av (λa0=>?_) λa0=>?_
  ·refine Sa ?_;refine QW.body1 rfl rfl ⟨by have a0:to≠A4:=(by simpa using a0);simp[Au,A7,a0],hx⟩
  have a0:to=A4:=by simpa using a0
  refine Sa ?_;refine QW.body1 rfl rfl ⟨by simp[Au,F9,A7,a1,a2,a0],hx⟩
 by_cases k3:kd=3
 ·subst k3;refine Sa ?_;refine B8 (λa1=>?_) λa1=>?_
  ·refine Sa ?_;refine QW.body1 rfl rfl ⟨by have a1:text≠[]:=(by simpa using a1);simp[Au,A7,a1],hx⟩
  have a1:text=[]:=by simpa using a1
  refine Sa ?_;refine LW.load_agg (cs:=AU ref) rfl hA rfl rfl rfl ⟨rfl,rfl,rfl,rfl,rfl,trivial⟩ rfl ?_;refine Sa ?_;refine Ap rfl rfl (Da ref _) ?_;rintro v w2 ⟨rfl,a5⟩;replace hA:=hA.ext a5;replace hx:=hx.trans a5;refine Sa ?_;refine B8 (λa2=>?_) λa2=>?_
  ·refine Sa ?_;refine QW.body1 rfl rfl ⟨by have a2:ref≠A4:=(by simpa using a2);simp[Au,A7,a2],hx⟩
  have a2:ref=A4:=by simpa using a2
  refine Sa ?_;refine LW.load_agg (cs:=AU to) rfl hA rfl rfl rfl ⟨rfl,rfl,rfl,rfl,rfl,trivial⟩ rfl ?_;refine Sa ?_;refine Ap rfl rfl (Da to _) ?_;rintro v w3 ⟨rfl,a4⟩;replace hA:=hA.ext a4;replace hx:=hx.trans a4;refine Sa ?_;refine Av (λa0=>?_) λa0=>?_
  ·refine Sa ?_;refine QW.body1 rfl rfl ⟨by have a0:to≠A4:=(by simpa using a0);simp[Au,A7,a0],hx⟩
  have a0:to=A4:=by simpa using a0
  refine Sa ?_;refine B8 (λhz=>?_) λhz=>?_
  ·refine Sa ?_;refine QW.body1 rfl rfl ⟨by have hz:num=0:=(by simpa using hz);simp[Au,F9,A7,a1,a2,a0,hz],hx⟩
  have hz:num≠0:=by simpa using hz
  refine Sa ?_;refine QW.body1 rfl rfl ⟨by simp[Au,F9,A7,a1,a2,a0,hz],hx⟩
 by_cases k2:kd=2
 ·subst k2;refine Sa ?_;refine B8 (λa3=>?_) λa3=>?_
  ·refine Sa ?_;refine QW.body1 rfl rfl ⟨by have a3:num≠0:=(by simpa using a3);simp[Au,A7,a3],hx⟩
  have a3:num=0:=by simpa using a3
  refine Sa ?_;refine LW.load_agg (cs:=AU ref) rfl hA rfl rfl rfl ⟨rfl,rfl,rfl,rfl,rfl,trivial⟩ rfl ?_;refine Sa ?_;refine Ap rfl rfl (Da ref _) ?_;rintro v w2 ⟨rfl,a5⟩;replace hA:=hA.ext a5;replace hx:=hx.trans a5;refine Sa ?_;refine B8 (λa2=>?_) λa2=>?_
  ·refine Sa ?_;refine QW.body1 rfl rfl ⟨by have a2:ref≠A4:=(by simpa using a2);simp[Au,A7,a2],hx⟩
  have a2:ref=A4:=by simpa using a2
  refine Sa ?_;refine LW.load_agg (cs:=AU to) rfl hA rfl rfl rfl ⟨rfl,rfl,rfl,rfl,rfl,trivial⟩ rfl ?_;refine Sa ?_;refine Ap rfl rfl (Da to _) ?_;rintro v w3 ⟨rfl,a4⟩;replace hA:=hA.ext a4;replace hx:=hx.trans a4;refine Sa ?_;refine Av (λa0=>?_) λa0=>?_
  ·refine Sa ?_;refine QW.body1 rfl rfl ⟨by have a0:to≠A4:=(by simpa using a0);simp[Au,A7,a0],hx⟩
  have a0:to=A4:=by simpa using a0
  refine Sa ?_;refine Ap rfl rfl (OA text Aeb _) ?_;rintro v w4 ⟨rfl,a6⟩;refine Sa ?_;refine QW.body1 rfl rfl ⟨by simp[Au,F9,A7,a3,a2,a0],hx.trans a6⟩
 by_cases k7:kd=7
 ·subst k7;refine Sa ?_;refine B8 (λa3=>?_) λa3=>?_
  ·refine Sa ?_;refine QW.body1 rfl rfl ⟨by have a3:num≠0:=(by simpa using a3);simp[Au,A7,a3],hx⟩
  have a3:num=0:=by simpa using a3
  refine Sa ?_;refine LW.load_agg (cs:=AU ref) rfl hA rfl rfl rfl ⟨rfl,rfl,rfl,rfl,rfl,trivial⟩ rfl ?_;refine Sa ?_;refine Ap rfl rfl (Da ref _) ?_;rintro v w2 ⟨rfl,a5⟩;replace hA:=hA.ext a5;replace hx:=hx.trans a5;refine Sa ?_;refine B8 (λa2=>?_) λa2=>?_
  ·refine Sa ?_;refine QW.body1 rfl rfl ⟨by have a2:ref≠A4:=(by simpa using a2);simp[Au,A7,a2],hx⟩
  have a2:ref=A4:=by simpa using a2
  refine Sa ?_;refine LW.load_agg (cs:=AU to) rfl hA rfl rfl rfl ⟨rfl,rfl,rfl,rfl,rfl,trivial⟩ rfl ?_;refine Sa ?_;refine Ap rfl rfl (Da to _) ?_;rintro v w3 ⟨rfl,a4⟩;replace hA:=hA.ext a4;replace hx:=hx.trans a4;refine Sa ?_;refine Av (λa0=>?_) λa0=>?_
  ·refine Sa ?_;refine QW.body1 rfl rfl ⟨by have a0:to≠A4:=(by simpa using a0);simp[Au,A7,a0],hx⟩
  have a0:to=A4:=by simpa using a0
  refine Sa ?_;refine Ap rfl rfl (Ij text Aeb _) ?_;rintro v w4 ⟨rfl,a6⟩;obtain⟨x,aa⟩:=Oa text;rw[aa];replace hA:=hA.ext a6;have af:=(hx.trans a6).size;refine Sa ?_;refine B1 λR w5 ag a7 hR=>?_;replace hA:=hA.ext a7;refine Sa ?_;refine AF λw6 a8 hR=>?_;replace hA:=hA.chg a8 (by have:=hA.lt;simp;intro h;subst h;exact absurd (hA.inj Aen) Aef);replace hx:=(hx.trans (a6.trans a7)).step a8 Aee;refine Sa ?_;refine Ap rfl rfl (I8 text Aeb _) ?_;rintro v w7 ⟨rfl,a9⟩;replace hA:=hA.ext a9;replace hx:=hx.trans a9;refine Sa ?_;refine B8 (λq1=>?_) λq1=>?_;rotate_left
  ·refine Sa ?_;refine QW.body1 rfl rfl ⟨by simp[Au,F9,A7,C2,q1],hx⟩
  have q1:KL text=true:=q1;refine Sa ?_;refine B8 (λq2=>?_) λq2=>?_;rotate_left
  ·refine Sa ?_;refine QW.body1 rfl rfl ⟨by have q2:AV text=true:=(by simpa using q2);simp[Au,F9,A7,C2,q2],hx⟩
  have q2:AV text=false:=by simpa using q2
  refine Sa ?_;refine B8 (λq3=>?_) λq3=>?_;rotate_left
  ·refine Sa ?_;refine QW.body1 rfl rfl ⟨by have q3:text=Dc:=(by simpa[Dc] using q3);simp[Au,F9,A7,C2,q3],hx⟩
  have q3:text≠Dc:=by simpa[Dc] using q3
  refine Sa ?_;refine QW.body1 rfl rfl ⟨by by_cases h4:text=[70,65,76,83,69]<;>simp[Au,F9,A7,C2,q1,q2,q3,a3,a2,a0,CL,h4],hx⟩
 by_cases k5:kd=5
 ·subst k5;refine Sa ?_;refine B8 (λa3=>?_) λa3=>?_
  ·refine Sa ?_;refine QW.body1 rfl rfl ⟨by have a3:num≠0:=(by simpa using a3);simp[Au,A7,a3],hx⟩
  have a3:num=0:=by simpa using a3
  refine Sa ?_;refine B8 (λa1=>?_) λa1=>?_
  ·refine Sa ?_;refine QW.body1 rfl rfl ⟨by have a1:text≠[]:=(by simpa using a1);simp[Au,A7,a1],hx⟩
  have a1:text=[]:=by simpa using a1
  refine Sa ?_;refine LW.load_agg (cs:=AU to) rfl hA rfl rfl rfl ⟨rfl,rfl,rfl,rfl,rfl,trivial⟩ rfl ?_;refine Sa ?_;refine Ap rfl rfl (Da to _) ?_;rintro v w3 ⟨rfl,a4⟩;replace hA:=hA.ext a4;replace hx:=hx.trans a4;refine Sa ?_;refine Av (λa0=>?_) λa0=>?_
  ·refine Sa ?_;refine QW.body1 rfl rfl ⟨by have a0:to≠A4:=(by simpa using a0);simp[Au,A7,a0],hx⟩
  have a0:to=A4:=by simpa using a0
  refine Sa ?_;refine LW.load_agg (cs:=AU ref) rfl hA rfl rfl rfl ⟨rfl,rfl,rfl,rfl,rfl,trivial⟩ rfl ?_;refine Sa ?_;refine Ap rfl rfl (I6 ref Aeb _) ?_;rintro v w4 ⟨rfl,a6⟩;refine Sa ?_;refine QW.body1 rfl rfl ⟨by simp[Au,F9,A7,a3,a1,a0],hx.trans a6⟩
 by_cases k6:kd=6
 ·subst k6;refine Sa ?_;refine B8 (λa3=>?_) λa3=>?_
  ·refine Sa ?_;refine QW.body1 rfl rfl ⟨by have a3:num≠0:=(by simpa using a3);simp[Au,A7,a3],hx⟩
  have a3:num=0:=by simpa using a3
  refine Sa ?_;refine B8 (λa1=>?_) λa1=>?_
  ·refine Sa ?_;refine QW.body1 rfl rfl ⟨by have a1:text≠[]:=(by simpa using a1);simp[Au,A7,a1],hx⟩
  have a1:text=[]:=by simpa using a1
  refine Sa ?_;refine LW.load_agg (cs:=AU ref) rfl hA rfl rfl rfl ⟨rfl,rfl,rfl,rfl,rfl,trivial⟩ rfl ?_;refine Sa ?_;refine Ap rfl rfl (I6 ref Aeb _) ?_;rintro v w4 ⟨rfl,a6⟩;replace hA:=hA.ext a6;replace hx:=hx.trans a6;refine Sa ?_;refine B8 (λm1=>?_) λm1=>?_;rotate_left
  ·refine Sa ?_;refine QW.body1 rfl rfl ⟨by simp[Au,F9,A7,m1],hx⟩
  have m1:AZ ref=true:=m1;refine Sa ?_;refine LW.load_agg (cs:=AU to) rfl hA rfl rfl rfl ⟨rfl,rfl,rfl,rfl,rfl,trivial⟩ rfl ?_;refine Sa ?_;refine Ap rfl rfl (I6 to Aeb _) ?_;rintro v w5 ⟨rfl,a7⟩;replace hA:=hA.ext a7;replace hx:=hx.trans a7;refine Sa ?_;refine B8 (λm2=>?_) λm2=>?_;rotate_left
  ·refine Sa ?_;refine QW.body1 rfl rfl ⟨by simp[Au,F9,A7,m1,m2],hx⟩
  have m2:AZ to=true:=m2;refine Sa ?_;refine LW.load_agg (cs:=AU ref) rfl hA rfl rfl rfl ⟨rfl,rfl,rfl,rfl,rfl,trivial⟩ rfl ?_;refine Sa ?_;refine LW.load_agg (cs:=AU to) rfl hA rfl rfl rfl ⟨rfl,rfl,rfl,rfl,rfl,trivial⟩ rfl ?_;refine Sa ?_;refine Ap rfl rfl (SW ref to _) ?_;rintro v w6 ⟨rfl,ab⟩;refine Sa ?_;refine QW.body1 rfl rfl ⟨by simp[Au,F9,A7,a3,a1,m1,m2],hx.trans ab⟩
 have hb:A7 ⟨kd,num,text,ref,to,kids⟩=⟨kd,num,text,ref,to,kids⟩:=by simp[A7,k1,k2,k3,k5,k6,k7]
 have ac:F9 ⟨kd,num,text,ref,to,kids⟩=true:=by simp[F9,k1,k2,k3,k5,k6,k7]
 have ad:Au ⟨kd,num,text,ref,to,kids⟩=(decide (num=0)&&(decide (text=[])&&(decide (ref=A4)&&decide (to=A4)))):=by rw[Au,hb,ac,Bool.true_and]
 rw[ad];refine Sa ?_;refine LW.know (t:=8) (c:=true) rfl (by simp[k1]) ?_;refine Sa ?_;refine LW.know (t:=13) (c:=true) rfl (by simp[k3]) ?_;refine Sa ?_;refine B8 (λa3=>?_) λa3=>?_
 ·refine Sa ?_;refine QW.body1 rfl rfl ⟨by have a3:num≠0:=(by simpa using a3);simp[a3],hx⟩
 have a3:num=0:=by simpa using a3
 refine Sa ?_;refine LW.know (t:=22) (c:=true) rfl (by simp[k2]) ?_;refine Sa ?_;refine LW.know (t:=27) (c:=true) rfl (by simp[k7]) ?_;refine Sa ?_;refine B8 (λa1=>?_) λa1=>?_
 ·refine Sa ?_;refine QW.body1 rfl rfl ⟨by have a1:text≠[]:=(by simpa using a1);simp[a1],hx⟩
 have a1:text=[]:=by simpa using a1
 refine Sa ?_;refine LW.know (t:=37) (c:=true) rfl (by simp[k5]) ?_;refine Sa ?_;refine LW.know (t:=42) (c:=true) rfl (by simp[k6]) ?_;refine Sa ?_;refine LW.load_agg (cs:=AU ref) rfl hA rfl rfl rfl ⟨rfl,rfl,rfl,rfl,rfl,trivial⟩ rfl ?_;refine Sa ?_;refine Ap rfl rfl (Da ref _) ?_;rintro v w2 ⟨rfl,a5⟩;replace hA:=hA.ext a5;replace hx:=hx.trans a5;refine Sa ?_;refine B8 (λa2=>?_) λa2=>?_
 ·refine Sa ?_;refine QW.body1 rfl rfl ⟨by have a2:ref≠A4:=(by simpa using a2);simp[a2],hx⟩
 have a2:ref=A4:=by simpa using a2
 refine Sa ?_;refine LW.know (t:=53) (c:=true) rfl (by simp[k6]) ?_;refine Sa ?_;refine LW.load_agg (cs:=AU to) rfl hA rfl rfl rfl ⟨rfl,rfl,rfl,rfl,rfl,trivial⟩ rfl ?_;refine Sa ?_;refine Ap rfl rfl (Da to _) ?_;rintro v w3 ⟨rfl,a4⟩;replace hA:=hA.ext a4;replace hx:=hx.trans a4;refine Sa ?_;refine Av (λa0=>?_) λa0=>?_
 ·refine Sa ?_;refine QW.body1 rfl rfl ⟨by have a0:to≠A4:=(by simpa using a0);simp[a0],hx⟩
 have a0:to=A4:=by simpa using a0
 refine Sa ?_;refine CW.no rfl (decide_eq_false k1) ?_;refine Sa ?_;refine CW.no rfl (decide_eq_false k3) ?_;refine Sa ?_;refine CW.no rfl (decide_eq_false k2) ?_;refine Sa ?_;refine CW.no rfl (decide_eq_false k7) ?_;refine Sa ?_;refine CW.no rfl (decide_eq_false k5) ?_;refine Sa ?_;refine CW.no rfl (decide_eq_false k6) ?_;refine Sa ?_;refine QW.body1 rfl rfl ⟨by simp[a3,a1,a2,a0],hx⟩
theorem WA(l:List Aj)(v:Value)(w:World)(hN:Cv w v l)(hs:MN l)(hkl:∀n∈l,n.kids.length≤1000000):A9 prog 136 [v] w (λv' w'=>v'=.bool (BV l)∧Ah w w'):=by
 obtain⟨p,c,rfl⟩:=hN.slice;have hl:=hN.1;refine AG func136 ntmps136 ?_;refine Sa ?_;refine CW.loop (ι:=Nat×List Int×Option Addr×Nat) (λx w'=>x.1≤l.length∧x.2.1.length≤x.1∧Ah w w'∧Bk 0 [] l=Bk x.1 x.2.1 (l.drop x.1)∧Own w' w.heap.size 3 1 (.slice x.2.2.1 x.2.1.length x.2.2.2) x.2.1.length (Ad x.2.1))
  (λx=>[(0,.slice p l.length c),(3,.slice x.2.2.1 x.2.1.length x.2.2.2),(4,.int .i64 x.1)]) (λx=>l.length - x.1) (0,[],none,0) ⟨by omega,by simp,Chg.refl _ _,rfl,Own.nil _ _ _ _⟩ Bp ?_
 rintro⟨i,st,sp,sc⟩ w1 ⟨hi,aj,hx,a4,ho⟩;dsimp only at hi aj a4 ho ⊢;replace hN:=hN.ext hx;refine Sa ?_;refine Av (λh1=>?_) λh1=>?_;rotate_left
 ·have h1:i=l.length:=by simp at h1;omega
  subst h1;refine Sa ?_;refine QW.body1 rfl rfl ⟨?_,hx⟩;rw[Ad2] at a4;rw[BV,a4];have:decide ((st.length:Int)=1)=decide (st.length=1):=decide_eq_decide.mpr Aeb;exact congrArg Value.bool this
 have h1:i<l.length:=by simp at h1;omega
 obtain⟨nd,ab⟩:∃nd,l[i]?=some nd:=⟨_,Aav h1⟩;obtain⟨a,kp,kc,rfl,hk,a5⟩:=hN.at ab;have a6:=Ab4 ab;obtain⟨ak,al,am⟩:=hs nd a6;have av:=hkl nd a6;refine Sa ?_;refine LW.idx_addr rfl rfl rfl rfl rfl Aeb Aeb rfl ?_;refine LW.load_cells (cs:=BO ⟨nd,.slice kp nd.kids.length kc⟩) rfl a5 rfl rfl rfl rfl ?_;refine B1 λC w2 aw af hC=>?_;refine AF λw3 an hC=>?_;replace hC:Blk w3 C (BO ⟨nd,.slice kp nd.kids.length kc⟩) 189:=hC;refine Sa ?_;refine Ap rfl rfl (Xz nd.kind w3) ?_;rintro v w4 ⟨rfl,ag⟩;replace hC:=hC.ext ag;have ao:=hx.size;have ap:=af.size;have a1:Ah w1 w4:=(af.step an Aee).trans ag;replace hk:=hk.ext a1;replace ho:=ho.ext a1;replace hx:=hx.trans a1;refine Sl ?_;apply LW.nil;apply QW.then_n;refine CW.seq_cut (ι:=Unit) (λ_ w'=>w'=w4) (λ_=>[(0,.slice (some a) l.length c),(3,.slice sp st.length sc),(4,.int .i64 i),(5,.pointer (some ⟨C,0,none⟩)),(6,.int .i64 (Fv nd))]) ?_ ?_
 ·refine Sa ?_;refine Av (λh2=>?_) λh2=>?_
  ·have h2:BC nd.kind=-1:=by simpa using h2
   refine Sa ?_;exact QW.head () rfl (by have:Fv nd=nd.kids.length:=if_pos h2;rw[this];exact(An.cons rfl (An.cons rfl (An.cons rfl (An.cons rfl (An.cons rfl (An.nil)))))))
  ·have h2:¬BC nd.kind=-1:=by simpa using h2
   refine Sa ?_;exact QW.head () rfl (by have:Fv nd=BC nd.kind:=if_neg h2;rw[this];exact(An.cons rfl (An.cons rfl (An.cons rfl (An.cons rfl (An.cons rfl (An.nil)))))))
 rintro _ w5 rfl;have ax:=hk.1;have a0:l.drop i=nd::l.drop (i+1):=by rw[Acp h1];congr 1;rw[Aav h1] at ab;exact Ab9 ab
 have a7:¬(Fv nd=nd.kids.length∧nd.kids.length≤st.length∧st.drop (st.length - nd.kids.length)=nd.kids∧Au nd=true)→Bk i st (l.drop i)=none:=λh=>by rw[a0,Bk,Dp,if_neg h]
 have a8:∀w',Ah w5 w'→¬(Fv nd=nd.kids.length∧nd.kids.length≤st.length∧st.drop (st.length - nd.kids.length)=nd.kids∧Au nd=true)→(Value.bool false=.bool (BV l)∧Ah w w'):=λw' aq h=>⟨by rw[BV,a4,a7 h],hx.trans aq⟩;refine Sa ?_;refine B8 (λq0=>?_) λq0=>?_
 ·have q0:Fv nd<0:=by simpa using q0
  refine Sa ?_;exact QW.body1 rfl rfl (a8 _ (Chg.refl _ _) (λh=>by have:=h.1;omega))
 have q0:0≤Fv nd:=by simpa using q0
 refine Sa ?_;refine B8 (λq1=>?_) λq1=>?_
 ·have q1:Fv nd≠nd.kids.length:=by simpa using q1
  refine Sa ?_;exact QW.body1 rfl rfl (a8 _ (Chg.refl _ _) (λh=>q1 h.1))
 have n1:Fv nd=nd.kids.length:=by simpa using q1
 refine Sa ?_;refine B8 (λq2=>?_) λq2=>?_
 ·have q2:st.length<Fv nd:=by simpa using q2
  refine Sa ?_;exact QW.body1 rfl rfl (a8 _ (Chg.refl _ _) (λh=>by have:=h.2.1;omega))
 have n2:nd.kids.length≤st.length:=by simp at q2;omega
 refine Sa ?_;refine Ap rfl rfl (Yd nd kp nd.kids.length kc _ ak al am) ?_;rintro v w6 ⟨rfl,a2⟩;refine Sa ?_;refine Av (λq3=>?_) λq3=>?_
 ·have q3:Au nd=false:=by simpa using q3
  refine Sa ?_;exact QW.body1 rfl rfl (a8 _ a2 (λh=>by rw[q3] at h;exact absurd h.2.2.2 Aej))
 have n4:Au nd=true:=by simpa using q3
 rw[n1];replace hC:=hC.ext a2;replace hk:=hk.ext a2;replace ho:=ho.ext a2;refine Sa ?_;refine CW.loop (ι:=Nat) (λj w'=>j≤nd.kids.length∧Ah w6 w'∧∀m,m<j→st.getD (st.length - nd.kids.length+m) 0=nd.kids.getD m 0) (λj=>[(0,.slice (some a) l.length c),(3,.slice sp st.length sc),(4,.int .i64 i),(5,.pointer (some ⟨C,0,none⟩)),(6,.int .i64 (nd.kids.length:Int)),(7,.int .i64 (j:Int))]) (λj=>nd.kids.length - j) 0 ⟨by omega,Chg.refl _ _,by omega⟩ Ib ?_;rintro j w7 ⟨hj,a3,a9⟩;replace hC:=hC.ext a3;replace hk:=hk.ext a3;replace ho:=ho.ext a3;refine Sa ?_;refine Av (λq4=>?_) λq4=>?_
 ·have q4:j<nd.kids.length:=by simp at q4;omega
  obtain⟨ka,rfl,ar⟩:=hk.at q4;obtain⟨sa,rfl,au⟩:∃sa,sp=some sa∧∀m u,(Ad st)[m]?=some u→w7.cell? (sa.add m)=some u:=by
   rcases Own.cells ho (Ab2 _) with ⟨_,e⟩ | ⟨sa,e,hh⟩
   ·omega
   ·rw[AbQ] at hh;exact⟨sa,e,hh⟩
  have ad:=au (st.length - nd.kids.length+j) (.int .i64 (st.getD (st.length - nd.kids.length+j) 0)) (H1 (by simp[Aav (show st.length - nd.kids.length+j<st.length by omega)]));refine Sa ?_;refine Ig ?_;refine Sq ?_;refine QL.yields rfl rfl rfl (λw' hw=>Y.idx_addr rfl rfl rfl rfl rfl Aeb Aeb) ?_;refine QL.yields rfl rfl rfl (λw' hw=>Y.load_cell rfl (A2 hw (by rw[←ad];congr 2;show((st.length:Int) - nd.kids.length+j).toNat*1=_;omega)) rfl rfl) ?_;refine Sq ?_;refine QL.yields rfl rfl rfl (λw' hw=>Y.idx_addr rfl rfl rfl rfl rfl Aeb Aeb) ?_;refine QL.yields rfl rfl rfl (λw' hw=>Y.load_cell rfl (A2 hw (by rw[←ar];congr 2;show(j:Int).toNat*1=_;omega)) rfl rfl) ?_;refine Sq ?_;refine QL.nil λw8 ah=>?_;refine Sa ?_;refine Av (λq5=>?_) λq5=>?_
  ·have q5:st.getD (st.length - nd.kids.length+j) 0≠nd.kids.getD j 0:=by simpa only[AcO,decide_eq_false_iff_not] using q5
   refine Sa ?_;refine QW.body1 rfl rfl (a8 _ ((a2.trans a3).trans ah) (λh=>q5 ?_));have h3:=h.2.2.1;rw[show nd.kids.getD j 0=(st.drop (st.length - nd.kids.length)).getD j 0 from by rw[h3]];simp
  ·have q5:st.getD (st.length - nd.kids.length+j) 0=nd.kids.getD j 0:=by simpa only[Bool.not_eq_false',decide_eq_true_eq] using q5
   refine Sa ?_;refine QW.again (j+1) ⟨by omega,a3.trans ah,λm hm=>?_⟩ Ib Aeb;by_cases e:m=j
   ·subst e;exact q5
   ·exact a9 m Aeb
 have q4:j=nd.kids.length:=by simp at q4;omega
 subst q4;have n3:st.drop (st.length - nd.kids.length)=nd.kids:=by
  apply List.ext_getElem
  ·simp;omega
  ·intro m h1 h2;have:=a9 m h2;rw[List.getElem_drop]
   simpa[AaA,Aav h2,Aav (show st.length - nd.kids.length+m<st.length by omega)] using this
 have ac:=(hx.trans a2).trans a3;refine Sa ?_;refine LW.slice_to (i:=st.length - nd.kids.length) rfl Aep Aep rfl rfl rfl ?_ rfl ?_
 ·have:=Own.cap_ ho;omega
 refine Sa ?_;refine CR λB w9 ay ai hB=>?_;replace ho:=ho.ext ai;replace ac:=ac.trans ai;refine LW.append_full (xs:=Ad (st.take (st.length - nd.kids.length))) (lo:=w.heap.size) rfl rfl rfl rfl rfl Aei ?_ (Own.cells ho Aeb) ac.size hB Aei Aei Aei ?_ rfl λv' az ae aa=>?_
 ·rw[AC,Acj];show _=(st.length - nd.kids.length)*1;omega
 ·show(st.length - nd.kids.length+1)*(8+1)≤_;omega
 refine Sa ?_;obtain⟨p',c',rfl⟩:=aa.slice;have e1:Ad (st.take (st.length - nd.kids.length))++[.int .i64 (i:Int)]=Ad (st.take (st.length - nd.kids.length)++[(i:Int)]):=by simp[Ad]
 have e2:(st.take (st.length - nd.kids.length)++[(i:Int)]).length=st.length - nd.kids.length+1:=by simp
 refine QW.again (i+1,st.take (st.length - nd.kids.length)++[(i:Int)],p',c') ⟨by omega,by rw[e2];omega,ac.trans ae,?_,?_⟩ ?_ Aeb
 ·rw[a4,a0,Bk,Dp,if_pos ⟨n1,n2,n3,n4⟩]
 ·dsimp only;rw[e2,←e1];exact aa
 ·dsimp only;rw[e2];exact Bp
theorem Pv(l:List Aj)(v:Value)(w:World)(hN:Cv w v l)(hs:DN l)(hkl:∀n∈l,n.kids.length≤1000000):A9 prog 136 [v] w (λv' w'=>v'=.bool (BV l)∧Ah w w'):=WA l v w hN hs.t hkl
end Go.Proofs.YtcjjcnecopnpcaaGreatDoor
