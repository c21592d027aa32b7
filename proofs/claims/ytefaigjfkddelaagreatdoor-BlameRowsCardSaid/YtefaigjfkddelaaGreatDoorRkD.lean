/-
  Joined by program out of the texts RPar1 RPar2 RPar3 RPar4 RPar5 RPar6 RTree RTreeB.
-/
import Derived.Test.YtefaigjfkddelaaGreatDoorRkB
import Derived.Test.YtefaigjfkddelaaGreatDoorRkE
import Derived.Test.YtefaigjfkddelaaGreatDoorRkC
namespace Go.Proofs.YtefaigjfkddelaaGreatDoor
open Go Go.E
structure Fq (w w':World):Prop where
 size:w.heap.size≤w'.heap.size
 blk:∀b l T,Blk w b l T→T≠110→T≠139→Blk w' b l T
theorem Fq.refl (w:World):Fq w w:=⟨Nat.le_refl _,λ_ _ _ h _ _=>h⟩
theorem Fq.trans {a b c:World} (h:Fq a b) (k:Fq b c):Fq a c:=⟨Nat.le_trans h.size k.size,λx l T hx h1 h2=>k.blk x l T (h.blk x l T hx h1 h2) h1 h2⟩
theorem Fq.ext {a b:World} (h:Ae a b):Fq a b:=⟨h.size,λ_ _ _ hx _ _=>hx.ext h⟩
theorem Fq.chg {S:List Nat} {a b:World} (h:Chg S a b) (hs:∀k∈S,∀l T,Blk a k l T→T=110∨T=139):Fq a b:=
 ⟨h.size,λx l T hx h1 h2=>hx.chg h (λhm=>by rcases hs x hm l T hx with e | e<;>contradiction)⟩
theorem Be.fq {w w':World} {kv:Value} {ks:List Int} (h:Be w kv ks) (f:Fq w w'):Be w' kv ks:=by
 rcases h with h | ⟨b,cap,sp,e,hb⟩
 ·exact .inl h
 ·exact .inr ⟨b,cap,sp,e,f.blk _ _ _ hb (by decide) (by decide)⟩
def Rq (c:Bg) (X:List Nat) (w:World) (s:Bv):Prop:=
 Ae c.w0 w∧s.at_<c.T.length∧s.deep≤12∧s.out.length≤s.at_∧∃(outv:Value) (nvs:List NV),Blk w c.rb [c.tokv,.int .i64 s.at_,.int .i64 s.deep,.int .i64 0,outv] 110∧
  Ax w c.w0.heap.size 139 14 outv nvs.length (nvs.flatMap Br)∧nvs.map NV.node=s.out∧∀x∈nvs,Be w x.kv x.node.kids∧∀b∈Af x.kv,b∉X
theorem Rq.ext {c:Bg} {X:List Nat} {w w':World} {s:Bv} (h:Rq c X w s) (x:Ae w w'):Rq c X w' s:=by
 obtain ⟨h0,h1,h2,h3,outv,nvs,hB,ho,hm,hk⟩:=h;exact ⟨h0.trans x,h1,h2,h3,outv,nvs,hB.ext x,ho.ext x,hm,λy hy=>⟨(hk y hy).1.fq (.ext x),(hk y hy).2⟩⟩
theorem Rq.len {c:Bg} {X:List Nat} {w:World} {s:Bv} (h:Rq c X w s):s.at_<c.T.length∧s.deep≤12∧s.out.length≤s.at_:=⟨h.2.1,h.2.2.1,h.2.2.2.1⟩
def Re (c:Bg) (w:World) (e d:Int) (k:Nat):Prop:=
 Ae c.w0 w∧e≠0∧∃(i:Int) (outv:Value) (n:Nat) (xs:List Value),Blk w c.rb [c.tokv,.int .i64 i,.int .i64 d,.int .i64 e,outv] 110∧Ax w c.w0.heap.size 139 14 outv n xs∧n≤k
theorem Re.ext {c:Bg} {w w':World} {e d:Int} {k:Nat} (h:Re c w e d k) (x:Ae w w'):Re c w' e d k:=by
 obtain ⟨h0,h1,i,outv,n,xs,hB,ho,hn⟩:=h;exact ⟨h0.trans x,h1,i,outv,n,xs,hB.ext x,ho.ext x,hn⟩
theorem Re.mono {c:Bg} {w:World} {e d:Int} {k k':Nat} (h:Re c w e d k) (hk:k≤k'):Re c w e d k':=by
 obtain ⟨h0,h1,i,outv,n,xs,hB,ho,hn⟩:=h;exact ⟨h0,h1,i,outv,n,xs,hB,ho,by omega⟩
theorem FR {c:Bg} {w:World} {n:Nat} {outv:Value} {xs l:List Value} (ho:Ax w c.w0.heap.size 139 14 outv n xs) (hB:Blk w c.rb l 110):∀j,j∈Af outv→j∉[c.rb]:=λj hj hb=>by
 simp only [List.mem_singleton] at hb;subst hb;obtain ⟨_,⟨e,_⟩ | ⟨g,cap,sp,e,hg,_⟩⟩:=ho
 ·rw [e] at hj;simp [Af] at hj
 ·rw [e] at hj;simp [Af] at hj;exact absurd (hg.inj (hj ▸ hB)) (by decide)
theorem Rq.set {c:Bg} {X:List Nat} (hc:c.Ok) {w w':World} {s s':Bv} {outv:Value} {nvs:List NV} {l:List Value} (h0:Ae c.w0 w) (ho:Ax w c.w0.heap.size 139 14 outv nvs.length (nvs.flatMap Br)) (hm:nvs.map NV.node=s.out) (hk:∀x∈nvs,Be w x.kv x.node.kids∧∀b∈Af x.kv,b∉X)
  (hB0:Blk w c.rb l 110) (hch:Chg [c.rb] w w') (hB:Blk w' c.rb [c.tokv,.int .i64 s'.at_,.int .i64 s'.deep,.int .i64 0,outv] 110)
  (hso:s'.out=s.out) (h1:s'.at_<c.T.length) (h2:s'.deep≤12) (h3:s'.out.length≤s'.at_):Rq c X w' s'∧Fq w w':=by
 have hf:Fq w w':=Fq.chg hch (λk hk l T hb=>by simp at hk;subst hk;exact .inl (hb.inj hB0));exact ⟨⟨h0.step hch (by simpa using hc.new),h1,h2,h3,outv,nvs,hB,ho.chg hch (FR ho hB0),by rw [hm,hso],λx hx=>⟨(hk x hx).1.fq hf,(hk x hx).2⟩⟩,hf⟩
theorem Re.set {c:Bg} (hc:c.Ok) {w w':World} {e d:Int} {i:Int} {k n:Nat} {outv:Value} {xs l:List Value} (h0:Ae c.w0 w) (ho:Ax w c.w0.heap.size 139 14 outv n xs)
  (hB0:Blk w c.rb l 110) (hch:Chg [c.rb] w w') (he:e≠0) (hB:Blk w' c.rb [c.tokv,.int .i64 i,.int .i64 d,.int .i64 e,outv] 110) (hn:n≤k):Re c w' e d k∧Fq w w':=by
 have hf:Fq w w':=Fq.chg hch (λk hk l T hb=>by simp at hk;subst hk;exact .inl (hb.inj hB0));exact ⟨⟨h0.step hch (by simpa using hc.new),he,i,outv,n,xs,hB,ho.chg hch (FR ho hB0),hn⟩,hf⟩
theorem K6 {c:Bg} {X:List Nat} (hc:c.Ok) {w:World} {s:Bv} (h:Rq c X w s) (x:List UInt8):AA Tryz.prog 113 [.pointer (some ⟨c.rb,0,none⟩),Aj x] w (λv w'=>v=.bool (BA c.T s x)∧Ae w w'):=by
 obtain ⟨h0,h1,h2,h3,outv,nvs,hB,ho,hm,hk⟩:=h;have hT:=hc.tok.ext h0;have a1:=hc.len;have hg:c.T[s.at_]?=some (Aa c.T s):=by simp [Aa,List.getD_eq_getElem?_getD,List.getElem?_eq_getElem h1]
 have a2:(c.T.flatMap Bm++c.tsp)[0+s.at_*9+0]?=some (.int .i64 (Aa c.T s).kind):=by
  rw [Nat.zero_add];exact Gm Iv c.T c.tsp s.at_ _ 0 hg (by decide)
 have a3:(c.T.flatMap Bm++c.tsp)[0+s.at_*9+1]?=some (Aj (Aa c.T s).text):=by
  rw [Nat.zero_add];exact Gm Iv c.T c.tsp s.at_ _ 1 hg (by decide)
 unfold Bg.tokv at hB;refine AL Tryz.func113 Tryz.ntmps113 ?_;refine Sa ?_;refine Hk ?_;refine Sq ?_;refine QL.know (t:=10) (c:=true) rfl (by simp) ?_;refine VH ?_;refine QL.load (i:=0+s.at_*9+0) rfl hT a2 rfl rfl rfl ?_;refine VH ?_;refine Yg (λh5=>?_) λh5=>?_
 ·have h5:(Aa c.T s).kind=5:=by simpa using h5
  refine VH ?_;refine QL.load (i:=0+s.at_*9+1) rfl hT a3 rfl rfl rfl ?_;refine VH ?_;refine QL.nil λw1 a0=>?_;refine Sa ?_;refine QW.body1 Tryz.results113 rfl ⟨?_,a0⟩;simp [BA,h5]
 ·have h5:(Aa c.T s).kind≠5:=by simpa using h5
  refine VH ?_;refine QL.nil λw1 a0=>?_;refine Sa ?_;refine QW.body1 Tryz.results113 rfl ⟨?_,a0⟩;simp [BA,h5]
theorem UQ {c:Bg} {w:World} {e d:Int} {k:Nat} (h:Re c w e d k) (x:List UInt8):AA Tryz.prog 113 [.pointer (some ⟨c.rb,0,none⟩),Aj x] w (λv w'=>v=.bool false∧Ae w w'):=by
 obtain ⟨h0,he,i,outv,n,xs,hB,ho,hn⟩:=h;refine AL Tryz.func113 Tryz.ntmps113 ?_;refine Sa ?_;refine Hk ?_;refine Sq ?_;refine QL.know (t:=10) (c:=false) rfl (by simp [he]) ?_;refine Sq ?_;refine QL.know (t:=24) (c:=false) rfl (by simp) ?_;refine Sq ?_;refine QL.nil λw1 a0=>?_;refine Sa ?_;exact QW.body1 Tryz.results113 rfl ⟨rfl,a0⟩
theorem FB {c:Bg} {X:List Nat} (hc:c.Ok) {w:World} {s:Bv} (h:Rq c X w s) (e:Int) (he:e≠0):AA Tryz.prog 79 [.pointer (some ⟨c.rb,0,none⟩),.int .i64 e] w (λv w'=>v=.tuple #[]∧Re c w' e s.deep s.out.length∧Fq w w'):=by
 obtain ⟨h0,h1,h2,h3,outv,nvs,hB,ho,hm,hk⟩:=h;have a0:=hB;have a1:nvs.length=s.out.length:=by rw [←hm];simp
 refine AL Tryz.func79 Tryz.ntmps79 ?_;refine Sa ?_;refine BS λw1 a2 hB=>?_;replace hB:Blk w1 c.rb [c.tokv,.int .i64 s.at_,.int .i64 s.deep,.int .i64 e,outv] 110:=hB;obtain ⟨hr,hf⟩:=Re.set hc h0 ho a0 a2 he hB (Nat.le_of_eq a1);refine Sa ?_;exact QW.body_n (rs:=[]) (vs:=[]) Tryz.results79 trivial rfl ⟨rfl,hr,hf⟩
theorem TW {c:Bg} {w:World} {e d:Int} {k:Nat} (h:Re c w e d k) (z:Int):AA Tryz.prog 79 [.pointer (some ⟨c.rb,0,none⟩),.int .i64 z] w (λv w'=>v=.tuple #[]∧Ae w w'):=by
 obtain ⟨h0,he,i,outv,n,xs,hB,ho,hn⟩:=h;refine AL Tryz.func79 Tryz.ntmps79 ?_;refine Sa ?_;refine CW.no rfl (by simp [he]) ?_;refine Sa ?_;exact QW.body_n (rs:=[]) (vs:=[]) Tryz.results79 trivial rfl ⟨rfl,Chg.refl _ _⟩
theorem Nd {c:Bg} {X:List Nat} (hc:c.Ok) {w:World} {s:Bv} (h:Rq c X w s) (x:List UInt8):AA Tryz.prog 190 [.pointer (some ⟨c.rb,0,none⟩),Aj x] w
  (λv w'=>v=.tuple #[]∧Fq w w'∧(BA c.T s x=true∧Rq c X w' (Ai s)∨BA c.T s x=false∧Re c w' 5 s.deep s.out.length)):=by
 have a5:=hc.len;refine AL Tryz.func190 Tryz.ntmps190 ?_;refine Sa ?_;refine Ap rfl rfl (K6 hc h x) ?_;rintro v w1 ⟨rfl,a4⟩;replace h:=h.ext a4;refine Sa ?_;refine Am (λh1=>?_) λh1=>?_
 ·have h1:BA c.T s x=false:=by simpa using h1
  refine Sa ?_;refine Ap rfl rfl (FB hc h 5 (by decide)) ?_;rintro v w2 ⟨rfl,hr,hf⟩;refine Sa ?_;exact QW.body (rs:=[]) (vs:=[]) Tryz.results190 trivial rfl ⟨rfl,(Fq.ext a4).trans hf,.inr ⟨h1,hr⟩⟩
 ·have h1:BA c.T s x=true:=by simpa using h1
  obtain ⟨a0,a1,a2,a3,outv,nvs,hB,ho,hm,hk⟩:=h;have a6:=CT hc a1 (by rw [(Ec h1).1];decide);have a7:=hB;refine Sa ?_;refine BS λw2 a8 hB=>?_;replace hB:Blk w2 c.rb [c.tokv,.int .i64 (Ai s).at_,.int .i64 (Ai s).deep,.int .i64 0,outv] 110:=hB;obtain ⟨hr,hf⟩:=Rq.set hc (s:=s) (s':=Ai s) a0 ho hm hk a7 a8 hB rfl a6 a2 (by show s.out.length≤s.at_+1;omega);refine Sa ?_;exact QW.body_n (rs:=[]) (vs:=[]) Tryz.results190 trivial rfl ⟨rfl,(Fq.ext a4).trans hf,.inl ⟨h1,hr⟩⟩
theorem Ks {c:Bg} {w:World} {e d:Int} {k:Nat} (h:Re c w e d k) (x:List UInt8):AA Tryz.prog 190 [.pointer (some ⟨c.rb,0,none⟩),Aj x] w (λv w'=>v=.tuple #[]∧Ae w w'):=by
 refine AL Tryz.func190 Tryz.ntmps190 ?_;refine Sa ?_;refine Ap rfl rfl (UQ h x) ?_;rintro v w1 ⟨rfl,a0⟩;refine Sa ?_;refine Ap rfl rfl (TW (h.ext a0) 5) ?_;rintro v w2 ⟨rfl,a1⟩;refine Sa ?_;exact QW.body (rs:=[]) (vs:=[]) Tryz.results190 trivial rfl ⟨rfl,a0.trans a1⟩
theorem MT {c:Bg} {X:List Nat} (hc:c.Ok) {w:World} {s:Bv} (h:Rq c X w s) (hk0:(Aa c.T s).kind≠0):AA Tryz.prog 160 [.pointer (some ⟨c.rb,0,none⟩)] w
  (λv w'=>v=.tuple #[]∧Fq w w'∧(s.deep<12∧Rq c X w' (Au (Ai s))∨12≤s.deep∧Re c w' 6 s.deep s.out.length)):=by
 have a4:=hc.len;have hh:=h;obtain ⟨a0,a1,a2,a3,outv,nvs,hB,ho,hm,hk⟩:=hh;have a5:=CT hc a1 hk0;refine AL Tryz.func160 Tryz.ntmps160 ?_;refine Sa ?_;refine Am (λh1=>?_) λh1=>?_
 ·have h1:12≤s.deep:=by simp at h1;omega
  refine Sa ?_;refine Ap rfl rfl (FB hc h 6 (by decide)) ?_;rintro v w2 ⟨rfl,hr,hf⟩;refine Sa ?_;exact QW.body (rs:=[]) (vs:=[]) Tryz.results160 trivial rfl ⟨rfl,hf,.inr ⟨h1,hr⟩⟩
 ·have h1:s.deep<12:=by simp at h1;omega
  have a6:=hB;refine Sa ?_;refine BS λw2 a7 hB=>?_;refine Sa ?_;refine BS λw3 a8 hB=>?_;replace hB:Blk w3 c.rb [c.tokv,.int .i64 ((s.at_+1:Nat):Int),.int .i64 ((s.deep+1:Nat):Int),.int .i64 0,outv] 110:=hB;obtain ⟨hr,hf⟩:=Rq.set hc (s:=s) (s':=Au (Ai s)) a0 ho hm hk a6 (a7.same a8) hB rfl a5 (by show s.deep+1≤12;omega) (by show s.out.length≤s.at_+1;omega);refine Sa ?_;exact QW.body_n (rs:=[]) (vs:=[]) Tryz.results160 trivial rfl ⟨rfl,hf,.inl ⟨h1,hr⟩⟩
theorem Q7 {c:Bg} (hc:c.Ok) {w:World} {i d e:Int} {outv:Value} {n:Nat} {xs:List Value} (a0:Ae c.w0 w) (hB:Blk w c.rb [c.tokv,.int .i64 i,.int .i64 d,.int .i64 e,outv] 110) (ho:Ax w c.w0.heap.size 139 14 outv n xs) (hn:n≤100000) (x:NV) (hkv:x.kv.oneCell'=true) :
  AA Tryz.prog 114 [.pointer (some ⟨c.rb,0,none⟩),.agg ⟨Br x⟩] w
  (λv w'=>v=.int .i64 n∧Ae c.w0 w'∧Fq w w'∧∃outv',Blk w' c.rb [c.tokv,.int .i64 i,.int .i64 d,.int .i64 e,outv'] 110∧Ax w' c.w0.heap.size 139 14 outv' (n+1) (xs++Br x)):=by
 obtain ⟨p1,q1,e1⟩:=ho.slice;subst e1;have ai:(Br x).all (·.oneCell')=true:=by
  simp only [Br,List.all_cons,hkv];rfl
 refine AL Tryz.func114 Tryz.ntmps114 ?_;refine Sa ?_;refine CZ λC w1 an ak hC=>?_;replace hC:Blk w1 C (Br x) 139:=hC;replace hB:=hB.ext ak;refine Sa ?_;refine CW.drawAny (by kernel_rfl) λw2 aj=>?_;replace hB:=hB.ext aj;replace hC:=hC.ext aj;have a7:=ak.trans aj;have ao:=a7.size;refine AW.take 0 rfl rfl rfl rfl (λw=>Y.pure rfl) rfl rfl (by kernel_rfl) (by kernel_rfl) (by kernel_rfl) (λ_ _ _ h=>h) ?_;refine AW.take 1 rfl rfl rfl rfl (λw=>Y.pure rfl) rfl rfl (by kernel_rfl) (by kernel_rfl) (by kernel_rfl) (λ_ _ _ h=>h) ?_;refine AW.take 2 rfl rfl rfl rfl (λw=>Y.pure rfl) rfl rfl (by kernel_rfl) (by kernel_rfl) (by kernel_rfl) (λ_ _ _ h=>h) ?_;refine AW.take 3 rfl rfl rfl rfl (λw=>Y.pure rfl) rfl rfl (by kernel_rfl) (by kernel_rfl) (by kernel_rfl) (λ_ _ _ h=>h) ?_;refine AW.two 4 5 (by kernel_rfl) rfl rfl rfl rfl ?_ ?_
 ·refine Sa ?_;apply QW.any;refine AW.one 5 (by kernel_rfl) rfl rfl ?_;refine Sa ?_;apply QW.any;refine AW.one 6 (by kernel_rfl) rfl rfl ?_;refine Cl λA w3 al a8 hA=>?_;replace hA:Blk w3 A (Br x) 139:=hA;have a9:=hB.ext a8;have a1:=a7.trans a8;have am:=a1.size;have a3:=ho.ext a1;refine Sa ?_;apply QW.any;refine AW.one 7 (by kernel_rfl) rfl rfl ?_;refine LW.append rfl rfl rfl rfl rfl rfl a3 (by have:=a0.size;omega) hA rfl ai rfl (by show (n+1)*137≤140737488355328;omega) rfl ?_;intro v' w4 a4 a5 ab;have ac:c.rb∉Af (Value.slice p1 n q1):=λhm=>FR a3 a9 _ hm (by simp);have ad:Fq w3 w4:=Fq.chg a4 (λk hk l T hb=>.inr (by
   obtain ⟨_,⟨e,_⟩ | ⟨g,cap,sp,e,hg,_⟩⟩:=a3
   ·rw [e] at hk;simp [Af] at hk
   ·rw [e] at hk;simp [Af] at hk;subst hk;exact hb.inj hg))
  have a2:=a9.chg a4 ac;have ae:Ae c.w0 w4:=(a0.trans a1).step a4 (λk hk=>(a3.lt hk).1);obtain ⟨p2,q2,e2⟩:=a5.slice;subst e2;refine Sa ?_;apply QW.any;refine AW.one 8 (by kernel_rfl) rfl rfl ?_;refine Sa ?_;apply QW.any;refine AW.one 9 (by kernel_rfl) rfl rfl ?_;refine Sa ?_;apply QW.any;refine AW.one 10 (by kernel_rfl) rfl rfl ?_;have aa:=a2;refine BS λw5 a6 a2=>?_;replace a2:Blk w5 c.rb [c.tokv,.int .i64 i,.int .i64 d,.int .i64 e,.slice p2 (n+1) q2] 110:=a2;have af:Fq w4 w5:=Fq.chg a6 (λk hk l T hb=>by simp at hk;subst hk;exact .inl (hb.inj aa));have ag:Fq w w5:=((Fq.ext a1).trans ad).trans af;have ah:=a5.chg a6 (FR a5 aa);apply LW.nil;apply QW.any;refine AW.done (by kernel_rfl) ?_;refine Sa ?_;exact QW.body1 Tryz.results114 rfl ⟨by congr 1;omega,ae.step a6 (by simpa using hc.new),ag,_,a2,ah⟩
 ·refine Sa ?_;apply QW.any;refine AW.two 4 6 (by kernel_rfl) rfl rfl rfl rfl ?_ ?_
  ·refine Sa ?_;apply QW.any;refine AW.one 6 (by kernel_rfl) rfl rfl ?_;refine Cl λA w3 al a8 hA=>?_;replace hA:Blk w3 A (Br x) 139:=hA;have a9:=hB.ext a8;have a1:=a7.trans a8;have am:=a1.size;have a3:=ho.ext a1;refine Sa ?_;apply QW.any;refine AW.one 7 (by kernel_rfl) rfl rfl ?_;refine LW.append rfl rfl rfl rfl rfl rfl a3 (by have:=a0.size;omega) hA rfl ai rfl (by show (n+1)*137≤140737488355328;omega) rfl ?_;intro v' w4 a4 a5 ab;have ac:c.rb∉Af (Value.slice p1 n q1):=λhm=>FR a3 a9 _ hm (by simp);have ad:Fq w3 w4:=Fq.chg a4 (λk hk l T hb=>.inr (by
    obtain ⟨_,⟨e,_⟩ | ⟨g,cap,sp,e,hg,_⟩⟩:=a3
    ·rw [e] at hk;simp [Af] at hk
    ·rw [e] at hk;simp [Af] at hk;subst hk;exact hb.inj hg))
   have a2:=a9.chg a4 ac;have ae:Ae c.w0 w4:=(a0.trans a1).step a4 (λk hk=>(a3.lt hk).1);obtain ⟨p2,q2,e2⟩:=a5.slice;subst e2;refine Sa ?_;apply QW.any;refine AW.one 8 (by kernel_rfl) rfl rfl ?_;refine Sa ?_;apply QW.any;refine AW.one 9 (by kernel_rfl) rfl rfl ?_;refine Sa ?_;apply QW.any;refine AW.one 10 (by kernel_rfl) rfl rfl ?_;have aa:=a2;refine BS λw5 a6 a2=>?_;replace a2:Blk w5 c.rb [c.tokv,.int .i64 i,.int .i64 d,.int .i64 e,.slice p2 (n+1) q2] 110:=a2;have af:Fq w4 w5:=Fq.chg a6 (λk hk l T hb=>by simp at hk;subst hk;exact .inl (hb.inj aa));have ag:Fq w w5:=((Fq.ext a1).trans ad).trans af;have ah:=a5.chg a6 (FR a5 aa);apply LW.nil;apply QW.any;refine AW.done (by kernel_rfl) ?_;refine Sa ?_;exact QW.body1 Tryz.results114 rfl ⟨by congr 1;omega,ae.step a6 (by simpa using hc.new),ag,_,a2,ah⟩
  ·refine Cl λA w3 al a8 hA=>?_;replace hA:Blk w3 A (Br x) 139:=hA;have a9:=hB.ext a8;have a1:=a7.trans a8;have am:=a1.size;have a3:=ho.ext a1;refine Sa ?_;apply QW.any;refine AW.one 4 (by kernel_rfl) rfl rfl ?_;refine Sa ?_;apply QW.any;refine AW.one 7 (by kernel_rfl) rfl rfl ?_;refine LW.append rfl rfl rfl rfl rfl rfl a3 (by have:=a0.size;omega) hA rfl ai rfl (by show (n+1)*137≤140737488355328;omega) rfl ?_;intro v' w4 a4 a5 ab;have ac:c.rb∉Af (Value.slice p1 n q1):=λhm=>FR a3 a9 _ hm (by simp);have ad:Fq w3 w4:=Fq.chg a4 (λk hk l T hb=>.inr (by
    obtain ⟨_,⟨e,_⟩ | ⟨g,cap,sp,e,hg,_⟩⟩:=a3
    ·rw [e] at hk;simp [Af] at hk
    ·rw [e] at hk;simp [Af] at hk;subst hk;exact hb.inj hg))
   have a2:=a9.chg a4 ac;have ae:Ae c.w0 w4:=(a0.trans a1).step a4 (λk hk=>(a3.lt hk).1);obtain ⟨p2,q2,e2⟩:=a5.slice;subst e2;refine Sa ?_;apply QW.any;refine AW.one 8 (by kernel_rfl) rfl rfl ?_;refine Sa ?_;apply QW.any;refine AW.one 9 (by kernel_rfl) rfl rfl ?_;refine Sa ?_;apply QW.any;refine AW.one 10 (by kernel_rfl) rfl rfl ?_;have aa:=a2;refine BS λw5 a6 a2=>?_;replace a2:Blk w5 c.rb [c.tokv,.int .i64 i,.int .i64 d,.int .i64 e,.slice p2 (n+1) q2] 110:=a2;have af:Fq w4 w5:=Fq.chg a6 (λk hk l T hb=>by simp at hk;subst hk;exact .inl (hb.inj aa));have ag:Fq w w5:=((Fq.ext a1).trans ad).trans af;have ah:=a5.chg a6 (FR a5 aa);apply LW.nil;apply QW.any;refine AW.done (by kernel_rfl) ?_;refine Sa ?_;exact QW.body1 Tryz.results114 rfl ⟨by congr 1;omega,ae.step a6 (by simpa using hc.new),ag,_,a2,ah⟩
theorem JE {c:Bg} {X:List Nat} (hc:c.Ok) {w:World} {s:Bv} (h:Rq c X w s) (x:NV) (hx:Be w x.kv x.node.kids) (hxX:∀b∈Af x.kv,b∉X) (hs:s.out.length+1≤s.at_):AA Tryz.prog 114 [.pointer (some ⟨c.rb,0,none⟩),.agg ⟨Br x⟩] w
  (λv w'=>v=.int .i64 s.out.length∧Rq c X w' (Bs s x.node)∧Fq w w'):=by
 have a4:=hc.len;obtain ⟨a0,a1,a2,a3,outv,nvs,hB,ho,hm,hk⟩:=h;have a5:nvs.length=s.out.length:=by rw [←hm];simp
 refine (Q7 hc a0 hB ho (by omega) x hx.one).mono ?_;rintro v w' ⟨rfl,a6,hf,outv',a7,a8⟩;refine ⟨by rw [a5],⟨a6,a1,a2,by simp [Bs];omega,outv',nvs++[x],a7,by simpa using a8,by simp [Bs,hm],?_⟩,hf⟩;intro y hy;rw [List.mem_append] at hy;rcases hy with hy | hy
 ·exact ⟨(hk y hy).1.fq hf,(hk y hy).2⟩
 ·simp only [List.mem_singleton] at hy;subst hy;exact ⟨hx.fq hf,hxX⟩
theorem G5 {c:Bg} (hc:c.Ok) {w:World} {e d:Int} {k:Nat} (h:Re c w e d k) (hk:k≤99999) (x:NV) (hkv:x.kv.oneCell'=true):AA Tryz.prog 114 [.pointer (some ⟨c.rb,0,none⟩),.agg ⟨Br x⟩] w
  (λv w'=>(∃z:Int,v=.int .i64 z)∧Re c w' e d (k+1)∧Fq w w'):=by
 obtain ⟨h0,he,i,outv,n,xs,hB,ho,hn⟩:=h;refine (Q7 hc h0 hB ho (by omega) x hkv).mono ?_;rintro v w' ⟨rfl,a0,hf,outv',a1,a2⟩;exact ⟨⟨_,rfl⟩,⟨a0,he,i,outv',n+1,_,a1,a2,by omega⟩,hf⟩
theorem Tw (n:Nat) (hn:n<4) (w:World):AA Tryz.prog 112 [.int .i64 (n:Int)] w (λv w'=>∃sb kb,v=.tuple #[.slice (some ⟨sb,0,none⟩) (A8 n).length (A8 n).length,.slice (some ⟨kb,0,none⟩) (As n).length (As n).length]∧
  Blk w' sb ((A8 n).map Aj) 9∧Blk w' kb (Ac (As n)) 3∧Ae w w'):=by
 have:n=0∨n=1∨n=2∨n=3:=by omega
 rcases this with rfl | rfl | rfl | rfl
 all_goals
  refine AL Tryz.func112 Tryz.ntmps112 ?_;refine Sa ?_;refine Cl λA w1 a2 a1 hA=>?_;refine Sa ?_;refine Cl λB w2 a3 a0 hB=>?_;refine Sa ?_;exact QW.body2 Tryz.results112 rfl rfl ⟨A,B,rfl,hA.ext a0,hB,a1.trans a0⟩
theorem QI (a b:Co) (w:World):AA Tryz.prog 165 [.agg ⟨AQ a⟩,.agg ⟨AQ b⟩] w (λv w'=>v=.bool (Bq a b)∧Ae w w'):=by
 refine AL Tryz.func165 Tryz.ntmps165 ?_;refine Sa ?_;refine CZ λA w1 a2 a1 hA=>?_;replace hA:Blk w1 A (AQ a) 113:=hA;refine Sa ?_;refine CZ λB w2 a3 a0 hB=>?_;replace hB:Blk w2 B (AQ b) 113:=hB;replace hA:=hA.ext a0;have hx:=a1.trans a0;refine Sa ?_;refine B6 (λh1=>?_) λh1=>?_
 ·refine Sa ?_;refine B6 (λh2=>?_) λh2=>?_
  all_goals
   refine Sa ?_;refine QW.body1 Tryz.results165 rfl ⟨?_,hx⟩;simp [Bq,h1,h2]
 ·refine Sa ?_;refine QW.body1 Tryz.results165 rfl ⟨?_,hx⟩;simp [Bq,h1]
def kc (m:DE) (d:Nat):Nat:=400+6*(12 - d)+(match m with | .lev n=>4 - n | _=>0)
theorem US {n:Nat} (hn:n<4) (d:Nat):kc (below n) d+1≤kc (.lev n) d:=by
 unfold below
 split<;>simp only [kc]<;>omega
theorem Mk (m:DE) (d:Nat):400≤kc m d∧kc m d≤500:=by
 unfold kc
 split<;>omega
def RG (c:Bg) (X:List Nat) (m:DE) (s:Bv) (w':World) (z:Int):Prop:=
 ∃(s':Bv) (p:Nat),z=(p:Int)∧PE c.T m s (.ok s' p)∧Rq c X w' s'∧s.at_<s'.at_∧s'.deep=s.deep∧s.at_+s'.out.length≤s'.at_+s.out.length
def RB (c:Bg) (m:DE) (s:Bv) (w':World):Prop:=∃e d,PE c.T m s (.err e)∧(d=(s.deep:Int)∨d=s.deep - 1)∧Re c w' e d (kc m s.deep)
def RC (c:Bg) (f:Nat) (av:List Value) (m:DE) (s:Bv):Prop:=∀w X,(∀b∈X,b<w.heap.size)→Rq c X w s→AA Tryz.prog f (.pointer (some ⟨c.rb,0,none⟩)::av) w (λv w'=>∃z,v=.int .i64 z∧Fq w w'∧(RG c X m s w' z∨RB c m s w'))
theorem WW {c:Bg} {X:List Nat} {m m':DE} {s:Bv} {w:World} {z:Int} (h:RG c X m s w z∨RB c m s w) (hp:∀r,PE c.T m s r→PE c.T m' s r) (hk:kc m s.deep≤kc m' s.deep):RG c X m' s w z∨RB c m' s w:=by
 rcases h with ⟨s',p,h1,h2,h3⟩ | ⟨e,d,h1,h2,h3⟩
 ·exact .inl ⟨s',p,h1,hp _ h2,h3⟩
 ·exact .inr ⟨e,d,hp _ h1,h2,h3.mono hk⟩
theorem Vs {c:Bg} (s:Bv) (h1:RC c 111 [] .unary s):RC c 78 [.int .i64 4] .unary s:=by
 intro w X hX h;refine AL Tryz.func78 Tryz.ntmps78 ?_;refine Sa ?_;refine Ap rfl rfl (h1 w X hX h) ?_;rintro v w1 ⟨z,rfl,hf,hr⟩;refine Sa ?_;exact QW.body1 Tryz.results78 rfl ⟨z,rfl,hf,hr⟩
def RI (c:Bg) (X:List Nat) (n:Nat) (s:Bv) (w0:World) (sb kb:Nat) (k:(Bv×Nat) ⊕ (Int×Int×Int)) (w':World):Prop:=
 Fq w0 w'∧Blk w' sb ((A8 n).map Aj) 9∧Blk w' kb (Ac (As n)) 3∧match k with
 | .inl (t,a)=>s.at_<t.at_∧t.deep=s.deep∧s.at_+t.out.length≤t.at_+s.out.length∧Rq c X w' t∧∀r,PE c.T (.loop n a) t r→PE c.T (.lev n) s r
 | .inr (e,d,_)=>PE c.T (.lev n) s (.err e)∧(d=(s.deep:Int)∨d=s.deep - 1)∧Re c w' e d (kc (.lev n) s.deep)
def zI:(Bv×Nat) ⊕ (Int×Int×Int)→Int
 | .inl (_,a)=>(a:Int)
 | .inr (_,_,z)=>z
def mI (L:Nat):(Bv×Nat) ⊕ (Int×Int×Int)→Nat
 | .inl (t,_)=>L - t.at_+1
 | .inr _=>0
def RJ (c:Bg) (X:List Nat) (n:Nat) (t:Bv) (w0:World) (k:Nat ⊕ Nat) (w':World):Prop:=match k with
 | .inl j=>j≤(A8 n).length∧Ae w0 w'∧∀i,i<j→BA c.T t ((A8 n).getD i [])=false
 | .inr i=>i<(A8 n).length∧Gf c.T t n=some i∧Rq c X w' (Ai t)∧Fq w0 w'
def kJ (n:Nat):Nat ⊕ Nat→Int
 | .inl _=>0
 | .inr i=>(As n).getD i 0
def jJ:Nat ⊕ Nat→Int
 | .inl j=>j
 | .inr i=>(i:Int)+1
def mJ (L:Nat):Nat ⊕ Nat→Nat
 | .inl j=>L - j+1
 | .inr _=>0
theorem Ts {n i:Nat} (h:i<(As n).length):(As n).getD i 0≠0:=by
 match n with
 | 0=>
  have:∀i,i<(As 0).length→(As 0).getD i 0≠0:=by decide
  exact this i h
 | 1=>
  have:∀i,i<(As 1).length→(As 1).getD i 0≠0:=by decide
  exact this i h
 | 2=>
  have:∀i,i<(As 2).length→(As 2).getD i 0≠0:=by decide
  exact this i h
 | n+3=>
  have:∀i,i<(As 3).length→(As 3).getD i 0≠0:=by decide
  exact this i h
theorem Wj {T:List An} {t:Bv} {n i:Nat} (hi:i<(A8 n).length) (hn:∀j,j<i→BA T t ((A8 n).getD j [])=false) (h:BA T t ((A8 n).getD i [])=true):Gf T t n=some i:=by
 obtain ⟨h1,h2⟩:=Ec h;rw [Gf,if_pos h1];refine Gc _ [] _ i hi (λj hj=>?_) (by simp [h2]);have:=hn j hj
 simpa [BA,h1,eq_comm] using this
theorem Xv {T:List An} {t:Bv} {n:Nat} (hn:∀j,j<(A8 n).length→BA T t ((A8 n).getD j [])=false):Gf T t n=none:=by
 unfold Gf
 split
 ·rename_i h1;refine GF _ [] _ (λj hj=>?_);have:=hn j hj
  simpa [BA,h1,eq_comm] using this
 ·rfl
theorem L1 {c:Bg} (hc:c.Ok) (n:Nat) (hn:n<4) (s:Bv) (h1:RC c 78 [.int .i64 ((n:Int)+1)] (below n) s) (h2:∀s',s.at_<s'.at_→s'.deep=s.deep→RC c 78 [.int .i64 ((n:Int)+1)] (below n) s') :
  RC c 78 [.int .i64 (n:Int)] (.lev n) s:=by
 intro w X hX h;have ar:=hc.len;have b4:=h.len;obtain ⟨b5,b6⟩:=Xq n;have ao:=US hn s.deep;have b7:=Mk (.lev n) s.deep;refine AL Tryz.func78 Tryz.ntmps78 ?_;refine Sa ?_;refine CW.no rfl (by simp;omega) ?_;refine Sa ?_;refine Ap rfl rfl (h1 w X hX h) ?_;rintro v w1 ⟨z,rfl,hf,a9⟩;refine Sa ?_;refine Ap rfl rfl (Tw n hn w1) ?_;rintro v w2 ⟨sb,kb,rfl,a6,a4,ag⟩;obtain ⟨k0,au,ap⟩:∃k0,zI k0=z∧RI c X n s w sb kb k0 w2:=by
  rcases a9 with ⟨t,p,rfl,hp,hr,g1,g2,g3⟩ | ⟨e,d,hp,hd,hr⟩
  ·exact ⟨.inl (t,p),rfl,hf.trans (.ext ag),a6,a4,g1,g2,g3,hr.ext ag,λr hl=>.lev_ok hp hl⟩
  ·exact ⟨.inr (e,d,z),rfl,hf.trans (.ext ag),a6,a4,.lev_err hp,hd,(hr.ext ag).mono (by omega)⟩
 subst au;refine Sa ?_;refine CW.loop (ι:=(Bv×Nat) ⊕ (Int×Int×Int)) (RI c X n s w sb kb) (λk=>[(0,.pointer (some ⟨c.rb,0,none⟩)),(1,.int .i64 (n:Int)),(5,.int .i64 (zI k)),(6,.slice (some ⟨sb,0,none⟩) (A8 n).length (A8 n).length),(7,.slice (some ⟨kb,0,none⟩) (As n).length (As n).length)]) (mI c.T.length) k0 ap C2 ?_;clear ap k0 a9 hf a6 a4 ag w1 w2;rintro (⟨t,a⟩ | ⟨e,d,z⟩) w2 ⟨hf,a6,a4,hI⟩;rotate_left
 ·obtain ⟨hp,hd,hr⟩:=hI;have av:=hr;obtain ⟨h0,he,i,outv,m,xs,hB,ho,b8⟩:=hr;refine Sa ?_;refine CW.no rfl (by simp [he]) ?_;refine Sa ?_;exact QW.body1 Tryz.results78 rfl ⟨z,rfl,hf,.inr ⟨e,d,hp,hd,av⟩⟩
 obtain ⟨g1,g2,g3,hr,a7⟩:=hI;have b9:=hr.len;have hB:=hr.2.2.2.2;obtain ⟨outv,nvs,hB,_⟩:=hB;refine Sa ?_
 try refine CW.yes rfl (by simp) ?_
 refine Sa ?_;refine CW.loop (ι:=Nat ⊕ Nat) (RJ c X n t w2) (λk=>[(0,.pointer (some ⟨c.rb,0,none⟩)),(1,.int .i64 (n:Int)),(5,.int .i64 (a:Int)),(6,.slice (some ⟨sb,0,none⟩) (A8 n).length (A8 n).length),(7,.slice (some ⟨kb,0,none⟩) (As n).length (As n).length),(8,.int .i64 (kJ n k)),(9,.int .i64 (jJ k))]) (mJ (A8 n).length) (.inl 0) ⟨by omega,Chg.refl _ _,by omega⟩ Hh ?_;rintro (j | i) w3 hJ
 ·obtain ⟨hj,ae,ab⟩:=hJ;replace a6:=a6.ext ae;replace a4:=a4.ext ae;replace hr:=hr.ext ae;replace hf:=hf.trans (.ext ae);show CW _ _ _ _ _ [(0,.pointer (some ⟨c.rb,0,none⟩)),(1,.int .i64 (n:Int)),(5,.int .i64 (a:Int)),(6,.slice (some ⟨sb,0,none⟩) (A8 n).length (A8 n).length),(7,.slice (some ⟨kb,0,none⟩) (As n).length (As n).length),(8,.int .i64 0),(9,.int .i64 (j:Int))] _;refine Sa ?_;refine B6 (λh3=>?_) λh3=>?_
  ·have h3:j<(A8 n).length:=by simp at h3;omega
   have hv:((A8 n).map Aj)[j]?=some (Aj ((A8 n).getD j [])):=by simp [List.getD_eq_getElem?_getD,List.getElem?_eq_getElem h3]
   refine Sa ?_
   try refine CW.yes rfl (by simp) ?_
   refine Sa ?_;refine LW.idx_slice (j:=j) rfl rfl rfl rfl rfl (by omega) (by omega) (by show 0+_*1=_;omega) rfl ?_;refine LW.load rfl a6 hv rfl rfl rfl ?_;refine Sa ?_;refine Ap rfl rfl (K6 hc hr ((A8 n).getD j [])) ?_;rintro v w4 ⟨rfl,ah⟩;replace a4:=a4.ext ah;replace hr:=hr.ext ah;refine Sa ?_;refine Am (λh4=>?_) λh4=>?_
   ·have h4:BA c.T t ((A8 n).getD j [])=true:=h4;have aw:(Ac (As n))[j]?=some (.int .i64 ((As n).getD j 0)):=by simp [Ac,List.getD_eq_getElem?_getD,List.getElem?_eq_getElem (show j<(As n).length by omega)]
    obtain ⟨a0,a1,a2,a3,outv,nvs,hB,ho,hm,hk⟩:=hr;have ax:=CT hc a1 (by rw [(Ec h4).1];decide);have ay:=hB;refine Sa ?_;refine LW.idx_slice (j:=j) rfl rfl rfl rfl rfl (by omega) (by omega) (by show 0+_*1=_;omega) rfl ?_;refine LW.load rfl a4 aw rfl rfl rfl ?_;refine Sa ?_;refine BS λw5 az hB=>?_;replace hB:Blk w5 c.rb [c.tokv,.int .i64 (Ai t).at_,.int .i64 (Ai t).deep,.int .i64 0,outv] 110:=hB;obtain ⟨b0,b1⟩:=Rq.set hc (s:=t) (s':=Ai t) a0 ho hm hk ay az hB rfl ax a2 (by show t.out.length≤t.at_+1;omega);refine Sa ?_;exact QW.again (.inr j) ⟨h3,Wj h3 ab h4,b0,((Fq.ext ae).trans (.ext ah)).trans b1⟩ Hh (by simp [mJ])
   ·have h4:BA c.T t ((A8 n).getD j [])=false:=h4;refine Sa ?_;refine QW.again (.inl (j+1)) ⟨by omega,ae.trans ah,λi hi=>?_⟩ Hh (by simp [mJ];omega);by_cases e:i=j
    ·subst e;exact h4
    ·exact ab i (by omega)
  ·have h3:j=(A8 n).length:=by simp at h3;omega
   subst h3;have af:=Xv ab;refine Sa ?_
   try refine CW.yes rfl (by simp) ?_
   refine Sa ?_;exact QW.body1 Tryz.results78 rfl ⟨a,rfl,hf,.inl ⟨t,a,rfl,a7 _ (.loop_end af),hr,g1,g2,g3⟩⟩
 ·obtain ⟨hi,af,aq,ai⟩:=hJ;have aj:=Ts (show i<(As n).length by omega);replace a6:=ai.blk _ _ _ a6 (by decide) (by decide);replace a4:=ai.blk _ _ _ a4 (by decide) (by decide);replace hf:=hf.trans ai;show CW _ _ _ _ _ [(0,.pointer (some ⟨c.rb,0,none⟩)),(1,.int .i64 (n:Int)),(5,.int .i64 (a:Int)),(6,.slice (some ⟨sb,0,none⟩) (A8 n).length (A8 n).length),(7,.slice (some ⟨kb,0,none⟩) (As n).length (As n).length),(8,.int .i64 ((As n).getD i 0)),(9,.int .i64 ((i:Int)+1))] _;refine Sa ?_;refine B6 (λh3=>?_) λh3=>?_
  ·refine Sa ?_;refine CW.no rfl (decide_eq_false aj) ?_;refine Sa ?_;refine CW.no rfl (decide_eq_false aj) ?_;refine Sa ?_;refine Ap rfl rfl (h2 (Ai t) (by show s.at_<t.at_+1;omega) g2 w3 X (λb hb=>Nat.lt_of_lt_of_le (hX b hb) hf.size) aq) ?_;rintro v w8 ⟨z,rfl,ac,a9⟩;replace hf:=hf.trans ac;replace a6:=ac.blk _ _ _ a6 (by decide) (by decide);replace a4:=ac.blk _ _ _ a4 (by decide) (by decide);have b2:=hf.size;refine Sa ?_;refine Cl λK w9 b3 aa hK=>?_;replace hK:Blk w9 K (Ac [(a:Int),z]) 3:=hK;replace hf:=hf.trans (.ext aa);replace a6:=a6.ext aa;replace a4:=a4.ext aa;rcases a9 with ⟨s1,b,rfl,hp,ad,k1,k2,k3⟩ | ⟨e,d,hp,hd,ad⟩
   ·have k1':t.at_+1<s1.at_:=k1;have k3':t.at_+1+s1.out.length≤s1.at_+t.out.length:=k3;refine Sa ?_;refine LW.call0 (vs:=[.pointer (some ⟨c.rb,0,none⟩),.agg ⟨Br ⟨{kind:=(As n).getD i 0,kids:=[(a:Int),(b:Int)]},.slice (some ⟨K,0,none⟩) 2 2⟩⟩]) rfl rfl (JE hc (ad.ext aa) ⟨{kind:=(As n).getD i 0,kids:=[(a:Int),(b:Int)]},.slice (some ⟨K,0,none⟩) 2 2⟩ (.inr ⟨K,2,[],rfl,by rw [List.append_nil];exact hK⟩) (λb hb ak=>by
     have h3:=hX b ak;simp [Af] at hb;omega) (by omega)) ?_
    rintro v al ⟨rfl,a8,a5⟩;refine Sa ?_;refine QW.again (.inl (Bs s1 {kind:=(As n).getD i 0,kids:=[(a:Int),(b:Int)]},s1.out.length)) ⟨hf.trans a5,a5.blk _ _ _ a6 (by decide) (by decide),a5.blk _ _ _ a4 (by decide) (by decide),by show s.at_<s1.at_;omega,k2.trans g2,by simp [Bs];omega,a8,λr hl=>a7 r (.loop_go af hp hl)⟩ C2 (by show c.T.length - s1.at_+1<c.T.length - t.at_+1;omega)
   ·have am:d=(s.deep:Int)∨d=s.deep - 1:=by rw [←g2];exact hd
    have an:kc (below n) (Ai t).deep+1≤kc (.lev n) s.deep:=by rw [show (Ai t).deep=s.deep from g2];exact ao
    refine Sa ?_;refine LW.call0 (vs:=[.pointer (some ⟨c.rb,0,none⟩),.agg ⟨Br ⟨{kind:=(As n).getD i 0,kids:=[(a:Int),z]},.slice (some ⟨K,0,none⟩) 2 2⟩⟩]) rfl rfl (G5 hc (ad.ext aa) (by omega) ⟨{kind:=(As n).getD i 0,kids:=[(a:Int),z]},.slice (some ⟨K,0,none⟩) 2 2⟩ rfl) ?_;rintro v al ⟨⟨y,rfl⟩,a8,a5⟩;refine Sa ?_;exact QW.again (.inr (e,d,y)) ⟨hf.trans a5,a5.blk _ _ _ a6 (by decide) (by decide),a5.blk _ _ _ a4 (by decide) (by decide),a7 _ (.loop_err af hp),am,a8.mono an⟩ C2 (by show 0<_+1;omega)
  ·refine Sa ?_;refine Sa ?_;refine CW.no rfl (decide_eq_false aj) ?_;refine Sa ?_;refine Ap rfl rfl (h2 (Ai t) (by show s.at_<t.at_+1;omega) g2 w3 X (λb hb=>Nat.lt_of_lt_of_le (hX b hb) hf.size) aq) ?_;rintro v w8 ⟨z,rfl,ac,a9⟩;replace hf:=hf.trans ac;replace a6:=ac.blk _ _ _ a6 (by decide) (by decide);replace a4:=ac.blk _ _ _ a4 (by decide) (by decide);have b2:=hf.size;refine Sa ?_;refine Cl λK w9 b3 aa hK=>?_;replace hK:Blk w9 K (Ac [(a:Int),z]) 3:=hK;replace hf:=hf.trans (.ext aa);replace a6:=a6.ext aa;replace a4:=a4.ext aa;rcases a9 with ⟨s1,b,rfl,hp,ad,k1,k2,k3⟩ | ⟨e,d,hp,hd,ad⟩
   ·have k1':t.at_+1<s1.at_:=k1;have k3':t.at_+1+s1.out.length≤s1.at_+t.out.length:=k3;refine Sa ?_;refine LW.call0 (vs:=[.pointer (some ⟨c.rb,0,none⟩),.agg ⟨Br ⟨{kind:=(As n).getD i 0,kids:=[(a:Int),(b:Int)]},.slice (some ⟨K,0,none⟩) 2 2⟩⟩]) rfl rfl (JE hc (ad.ext aa) ⟨{kind:=(As n).getD i 0,kids:=[(a:Int),(b:Int)]},.slice (some ⟨K,0,none⟩) 2 2⟩ (.inr ⟨K,2,[],rfl,by rw [List.append_nil];exact hK⟩) (λb hb ak=>by
     have h3:=hX b ak;simp [Af] at hb;omega) (by omega)) ?_
    rintro v al ⟨rfl,a8,a5⟩;refine Sa ?_;refine QW.again (.inl (Bs s1 {kind:=(As n).getD i 0,kids:=[(a:Int),(b:Int)]},s1.out.length)) ⟨hf.trans a5,a5.blk _ _ _ a6 (by decide) (by decide),a5.blk _ _ _ a4 (by decide) (by decide),by show s.at_<s1.at_;omega,k2.trans g2,by simp [Bs];omega,a8,λr hl=>a7 r (.loop_go af hp hl)⟩ C2 (by show c.T.length - s1.at_+1<c.T.length - t.at_+1;omega)
   ·have am:d=(s.deep:Int)∨d=s.deep - 1:=by rw [←g2];exact hd
    have an:kc (below n) (Ai t).deep+1≤kc (.lev n) s.deep:=by rw [show (Ai t).deep=s.deep from g2];exact ao
    refine Sa ?_;refine LW.call0 (vs:=[.pointer (some ⟨c.rb,0,none⟩),.agg ⟨Br ⟨{kind:=(As n).getD i 0,kids:=[(a:Int),z]},.slice (some ⟨K,0,none⟩) 2 2⟩⟩]) rfl rfl (G5 hc (ad.ext aa) (by omega) ⟨{kind:=(As n).getD i 0,kids:=[(a:Int),z]},.slice (some ⟨K,0,none⟩) 2 2⟩ rfl) ?_;rintro v al ⟨⟨y,rfl⟩,a8,a5⟩;refine Sa ?_;exact QW.again (.inr (e,d,y)) ⟨hf.trans a5,a5.blk _ _ _ a6 (by decide) (by decide),a5.blk _ _ _ a4 (by decide) (by decide),a7 _ (.loop_err af hp),am,a8.mono an⟩ C2 (by show 0<_+1;omega)
theorem RE {c:Bg} (hc:c.Ok) (s:Bv) (h1:RC c 159 [] .prim s) (h2:∀s',s.at_<s'.at_→RC c 111 [] .unary s'):RC c 111 [] .unary s:=by
 intro w X hX h;have ai:=hc.len;have hl:=h.len;refine AL Tryz.func111 Tryz.ntmps111 ?_;refine Sa ?_;refine Ap rfl rfl (K6 hc h [45]) ?_;rintro v w1 ⟨rfl,a4⟩;replace h:=h.ext a4;replace hX:∀b∈X,b<w1.heap.size:=λb hb=>Nat.lt_of_lt_of_le (hX b hb) a4.size;refine Sa ?_;refine Am (λhi=>?_) λhi=>?_
 ·have hi:BA c.T s [45]=false:=by simpa using hi
  refine Sa ?_;refine Ap rfl rfl (h1 w1 X hX h) ?_;rintro v w2 ⟨z,rfl,hf,hr⟩;refine Sa ?_;exact QW.body1 Tryz.results111 rfl ⟨z,rfl,(Fq.ext a4).trans hf,WW hr (λr hp=>.un_prim hi hp) (Nat.le_refl _)⟩
 have hi:BA c.T s [45]=true:=by simpa using hi
 refine Sa ?_;refine Ap rfl rfl (MT hc h (by rw [(Ec hi).1];decide)) ?_;rintro v w2 ⟨rfl,hf,⟨hd,hr⟩ | ⟨hd,hr⟩⟩;rotate_left
 ·have a7:=hr;obtain ⟨h0,he,i,outv,m,xs,hB,ho,ae⟩:=hr;refine Sa ?_;exact QW.body1 Tryz.results111 rfl ⟨0,rfl,(Fq.ext a4).trans hf,.inr ⟨6,s.deep,.un_deep hi hd,.inl rfl,a7.mono (by have:=Mk .unary s.deep;omega)⟩⟩
 have a7:=hr;obtain ⟨a0,a1,a2,a3,outv,nvs,hB,ho,hm,hk⟩:=hr;refine Sa ?_;refine Ap rfl rfl (h2 (Au (Ai s)) (by show s.at_<s.at_+1;omega) w2 X (λb hb=>Nat.lt_of_lt_of_le (hX b hb) hf.size) a7) ?_;rintro v w3 ⟨z,rfl,af,a8⟩;clear hB ho hm hk outv nvs;have ag:=((Fq.ext a4).trans hf).trans af;have am:=(hf.trans af).size;rcases a8 with ⟨s1,a,rfl,hp,hr,g1,g2,g3⟩ | ⟨e,d,hp,ah,hr⟩
 ·have g1':s.at_+1<s1.at_:=g1;have g2':s1.deep=s.deep+1:=g2;have g3':s.at_+1+s1.out.length≤s1.at_+s.out.length:=g3;obtain ⟨a0,a1,a2,a3,outv,nvs,hB,ho,hm,hk⟩:=hr;have a9:=hB;refine Sa ?_;refine BS λw4 aa hB=>?_;have e4:(s1.deep:Int) - 1=(((B0 s1).deep:Nat):Int):=by show (s1.deep:Int) - 1=((s1.deep - 1:Nat):Int);omega
  replace hB:Blk w4 c.rb [c.tokv,.int .i64 s1.at_,.int .i64 ((s1.deep:Int) - 1),.int .i64 0,outv] 110:=hB;rw [e4] at hB;obtain ⟨ab,a6⟩:=Rq.set hc (s:=s1) (s':=B0 s1) a0 ho hm hk a9 aa hB rfl a1 (by show s1.deep - 1≤12;omega) a3;have an:=a6.size;refine Sa ?_;refine Cl λK w5 aj a5 hK=>?_;replace hK:Blk w5 K (Ac [(a:Int)]) 3:=hK;refine Sa ?_;refine LW.call0 (vs:=[.pointer (some ⟨c.rb,0,none⟩),.agg ⟨Br ⟨{kind:=8,kids:=[(a:Int)]},.slice (some ⟨K,0,none⟩) 1 1⟩⟩]) rfl rfl (JE hc (ab.ext a5) ⟨{kind:=8,kids:=[(a:Int)]},.slice (some ⟨K,0,none⟩) 1 1⟩ (.inr ⟨K,1,[],rfl,by rw [List.append_nil];exact hK⟩) (λb hb ak=>by
   have h3:=hX b ak;simp [Af] at hb;omega) (by show s1.out.length+1≤s1.at_;omega)) ?_
  rintro v w6 ⟨rfl,ac,ad⟩;refine Sa ?_;exact QW.body1 Tryz.results111 rfl ⟨_,rfl,((ag.trans a6).trans (.ext a5)).trans ad,.inl ⟨Bs (B0 s1) {kind:=8,kids:=[(a:Int)]},s1.out.length,rfl,.un_ok hi hd hp,ac,by show s.at_<s1.at_;omega,by show s1.deep - 1=s.deep;omega,by simp [Bs,B0];omega⟩⟩
 ·have ah:d=((s.deep+1:Nat):Int)∨d=((s.deep+1:Nat):Int) - 1:=ah;obtain ⟨h0,he,i,outv,m,xs,hB,ho,ae⟩:=hr;have a9:=hB;have al:kc .unary (Au (Ai s)).deep+1≤kc .unary s.deep:=by
   show 400+6*(12 - (s.deep+1))+0+1≤400+6*(12 - s.deep)+0;omega
  refine Sa ?_;refine BS λw4 aa hB=>?_;replace hB:Blk w4 c.rb [c.tokv,.int .i64 i,.int .i64 (d - 1),.int .i64 e,outv] 110:=hB;obtain ⟨ab,a6⟩:=Re.set hc h0 ho a9 aa he hB ae;refine Sa ?_;refine Cl λK w5 aj a5 hK=>?_;refine Sa ?_;refine LW.call0 (vs:=[.pointer (some ⟨c.rb,0,none⟩),.agg ⟨Br ⟨{kind:=8,kids:=[z]},.slice (some ⟨K,0,none⟩) 1 1⟩⟩]) rfl rfl (G5 hc (ab.ext a5) (by have:=Mk .unary (Au (Ai s)).deep;omega) ⟨{kind:=8,kids:=[z]},.slice (some ⟨K,0,none⟩) 1 1⟩ rfl) ?_;rintro v w6 ⟨⟨y,rfl⟩,ac,ad⟩;refine Sa ?_;exact QW.body1 Tryz.results111 rfl ⟨y,rfl,((ag.trans a6).trans (.ext a5)).trans ad,.inr ⟨e,d - 1,.un_err hi hd hp,by omega,ac.mono al⟩⟩
theorem EK {c:Bg} {X:List Nat} (hc:c.Ok) {w:World} {s:Bv} (h:Rq c X w s) (n:Ag) (hn:n.kids=[]) (hs:s.out.length+1≤s.at_):AA Tryz.prog 114 [.pointer (some ⟨c.rb,0,none⟩),.agg ⟨Br ⟨n,.slice none 0 0⟩⟩] w
  (λv w'=>v=.int .i64 s.out.length∧Rq c X w' (Bs s n)∧Fq w w'):=
 JE hc h ⟨n,.slice none 0 0⟩ (.inl ⟨rfl,hn⟩) (by simp [Af]) hs
theorem Vt {c:Bg} {X:List Nat} (hc:c.Ok) (s:Bv) (hk4:(Aa c.T s).kind=4) (w:World) (h:Rq c X w s) :
  AA Tryz.prog 191 [.pointer (some ⟨c.rb,0,none⟩),.agg ⟨AQ (Aa c.T s).ref⟩] w (λv w'=>∃z,v=.int .i64 z∧Fq w w'∧(RG c X .prim s w' z∨RB c .prim s w')):=by
 have ai:=hc.len;have hl:=h.len;obtain ⟨a0,a1,a2,a3,outv,nvs,hB,ho,hm,hk⟩:=h;have aj:=CT hc a1 (by omega);refine AL Tryz.func191 Tryz.ntmps191 ?_;refine Sa ?_;refine CZ λA w1 aq ae hA=>?_;replace hA:Blk w1 A (AQ (Aa c.T s).ref) 113:=hA;have h1:Rq c X w1 s:=Rq.ext ⟨a0,a1,a2,a3,outv,nvs,hB,ho,hm,hk⟩ ae;obtain ⟨a0,a1,a2,a3,outv,nvs,hB,ho,hm,hk⟩:=h1;have a5:=hB;refine Sa ?_;refine BS λw2 ak hB=>?_;replace hB:Blk w2 c.rb [c.tokv,.int .i64 (Ai s).at_,.int .i64 (Ai s).deep,.int .i64 0,outv] 110:=hB;obtain ⟨h2,af⟩:=Rq.set hc (s:=s) (s':=Ai s) a0 ho hm hk a5 ak hB rfl aj a2 (by show s.out.length≤s.at_+1;omega);replace hA:=af.blk _ _ _ hA (by decide) (by decide);have hf:=(Fq.ext ae).trans af;refine Sa ?_;refine Ap rfl rfl (K6 hc h2 [58]) ?_;rintro v w3 ⟨rfl,ab⟩;replace h2:=h2.ext ab;replace hA:=hA.ext ab;replace hf:=hf.trans (.ext ab);refine Sa ?_;refine Am (λhi=>?_) λhi=>?_
 ·have hi:BA c.T (Ai s) [58]=false:=by simpa using hi
  refine Sa ?_;refine LW.call0 (vs:=[.pointer (some ⟨c.rb,0,none⟩),.agg ⟨Br ⟨{kind:=5,ref:=(Aa c.T s).ref},.slice none 0 0⟩⟩]) rfl rfl (EK hc h2 {kind:=5,ref:=(Aa c.T s).ref} rfl (by show s.out.length+1≤s.at_+1;omega)) ?_;rintro v w4 ⟨rfl,hr,a8⟩;refine Sa ?_;exact QW.body1 Tryz.results191 rfl ⟨_,rfl,hf.trans a8,.inl ⟨_,_,rfl,.pr_ref hk4 hi,hr,by show s.at_<s.at_+1;omega,rfl,by simp [Bs,Ai];omega⟩⟩
 have hi:BA c.T (Ai s) [58]=true:=by simpa using hi
 obtain ⟨a0,a1,a2,a3,outv,nvs,hB,ho,hm,hk⟩:=h2;have a6:=CT hc a1 (by rw [(Ec hi).1];decide);have al:s.at_+1+1<c.T.length:=a6;have a5:=hB;refine Sa ?_;refine BS λw4 am hB=>?_;replace hB:Blk w4 c.rb [c.tokv,.int .i64 (Ai (Ai s)).at_,.int .i64 (Ai (Ai s)).deep,.int .i64 0,outv] 110:=hB;obtain ⟨h4,a8⟩:=Rq.set hc (s:=Ai s) (s':=Ai (Ai s)) a0 ho hm hk a5 am hB rfl a6 a2 (by show s.out.length≤s.at_+1+1;omega);replace hA:=a8.blk _ _ _ hA (by decide) (by decide);replace hf:=hf.trans a8;have a4:=h4;obtain ⟨a0,a1,a2,a3,outv,nvs,hB,ho,hm,hk⟩:=h4;have hT:=hc.tok.ext a0;have hg:c.T[(Ai (Ai s)).at_]?=some (Aa c.T (Ai (Ai s))):=by simp only [Aa,List.getD_eq_getElem?_getD,List.getElem?_eq_getElem a1,Option.getD_some]
 unfold Bg.tokv at hB;refine Sa ?_;refine CW.drawHeld (λw'=>Ae w4 w') (λw' h=>h) (by kernel_rfl) λw5 ag=>?_;refine Sh ?_;refine HW.take 8 rfl rfl rfl rfl (λw _=>Y.gs rfl ⟨by omega,by show (((s.at_+1+1:Nat):Int))<_;omega⟩) rfl (by kernel_rfl) (by kernel_rfl) (by kernel_rfl) (λ_ _ _ h=>h) ?_;refine HW.take 9 rfl rfl rfl rfl (λw hw=>Y.load_agg (cs:=Bm (Aa c.T (Ai (Ai s)))) (i:=0+(Ai (Ai s)).at_*9) rfl (hT.ext hw) rfl rfl rfl (by rw [Nat.zero_add];exact Md Iv hg)) rfl (by kernel_rfl) (by kernel_rfl) (by kernel_rfl) (λ_ _ _ h=>h) ?_;refine HW.one 10 (by kernel_rfl) rfl rfl (λhS=>?_);refine BP λR w6 ar ah hR=>?_;apply LW.nil;refine QW.held (hS.trans ah) ?_;refine HW.one 11 (by kernel_rfl) rfl rfl (λhS=>?_);refine AM λw7 an hR=>?_;replace hR:Blk w7 R (Bm (Aa c.T (Ai (Ai s)))) 115:=hR;have a9:Ae w4 w7:=(ag.trans ah).step an (by simp;have:=ag.size;omega);apply LW.nil;refine QW.held a9 ?_;refine HW.done (by kernel_rfl) ?_;replace a4:=a4.ext a9;replace hA:=hA.ext a9;replace hf:=hf.trans (.ext a9);refine Sa ?_;have fin:((Aa c.T (Ai (Ai s))).kind≠4∨Bq (Aa c.T s).ref (Aa c.T (Ai (Ai s))).ref=false)→∀w8,Re c w8 5 (Ai (Ai s)).deep (Ai (Ai s)).out.length→RG c X .prim s w8 0∨RB c .prim s w8:=λhn w8 hr=>
  .inr ⟨5,s.deep,.pr_norange hk4 hi hn,.inl rfl,Re.mono hr (by have:=Mk .prim s.deep;show s.out.length≤_;omega)⟩
 refine B6 (λh5=>?_) λh5=>?_
 ·have h5:(Aa c.T (Ai (Ai s))).kind≠4:=by simpa using h5
  refine Sa ?_;refine Ap rfl rfl (FB hc a4 5 (by decide)) ?_;rintro v w8 ⟨rfl,hr,ao⟩;refine Sa ?_;exact QW.body1 Tryz.results191 rfl ⟨0,rfl,hf.trans ao,fin (.inl h5) _ hr⟩
 have h5:(Aa c.T (Ai (Ai s))).kind=4:=by simpa using h5
 refine Sa ?_;refine LW.load_agg (cs:=AQ (Aa c.T (Ai (Ai s))).ref) rfl hR rfl rfl rfl ⟨rfl,rfl,rfl,rfl,rfl,trivial⟩ rfl ?_;refine Sa ?_;refine Ap rfl rfl (QI (Aa c.T s).ref (Aa c.T (Ai (Ai s))).ref w7) ?_;rintro v w8 ⟨rfl,aa⟩;replace a4:=a4.ext aa;replace hA:=hA.ext aa;replace hR:=hR.ext aa;replace hf:=hf.trans (.ext aa);refine Sa ?_;refine Am (λh6=>?_) λh6=>?_
 ·have h6:Bq (Aa c.T s).ref (Aa c.T (Ai (Ai s))).ref=false:=by simpa using h6
  refine Sa ?_;refine Ap rfl rfl (FB hc a4 5 (by decide)) ?_;rintro v w9 ⟨rfl,hr,a7⟩;refine Sa ?_;exact QW.body1 Tryz.results191 rfl ⟨0,rfl,hf.trans a7,fin (.inr h6) _ hr⟩
 have h6:Bq (Aa c.T s).ref (Aa c.T (Ai (Ai s))).ref=true:=by simpa using h6
 obtain ⟨a0,a1,a2,a3,outv,nvs,hB,ho,hm,hk⟩:=a4;have ac:=CT hc a1 (by rw [h5];decide);have a5:=hB;refine Sa ?_;refine BS λw9 ap hB=>?_;replace hB:Blk w9 c.rb [c.tokv,.int .i64 (Ai (Ai (Ai s))).at_,.int .i64 (Ai (Ai (Ai s))).deep,.int .i64 0,outv] 110:=hB;obtain ⟨h9,a7⟩:=Rq.set hc (s:=Ai (Ai s)) (s':=Ai (Ai (Ai s))) a0 ho hm hk a5 ap hB rfl ac a2 (by show s.out.length≤s.at_+1+1+1;omega);replace hA:=a7.blk _ _ _ hA (by decide) (by decide);replace hR:=a7.blk _ _ _ hR (by decide) (by decide);replace hf:=hf.trans a7;refine Sa ?_;refine LW.load_agg (cs:=AQ (Aa c.T (Ai (Ai s))).ref) rfl hR rfl rfl rfl ⟨rfl,rfl,rfl,rfl,rfl,trivial⟩ rfl ?_;refine Sa ?_;refine LW.call0 (vs:=[.pointer (some ⟨c.rb,0,none⟩),.agg ⟨Br ⟨{kind:=6,ref:=(Aa c.T s).ref,to:=(Aa c.T (Ai (Ai s))).ref},.slice none 0 0⟩⟩]) rfl rfl (EK hc h9 {kind:=6,ref:=(Aa c.T s).ref,to:=(Aa c.T (Ai (Ai s))).ref} rfl (by show s.out.length+1≤s.at_+1+1+1;omega)) ?_;rintro v au ⟨rfl,hr,ad⟩;refine Sa ?_;exact QW.body1 Tryz.results191 rfl ⟨_,rfl,hf.trans ad,.inl ⟨_,_,rfl,.pr_range hk4 hi h5 h6,hr,by show s.at_<s.at_+1+1+1;omega,rfl,by simp [Bs,Ai];omega⟩⟩
theorem Ax.fq {w w':World} {lo e size n:Nat} {v:Value} {xs:List Value} (h:Ax w lo e size v n xs) (f:Fq w w') (h1:e≠110) (h2:e≠139):Ax w' lo e size v n xs:=by
 obtain ⟨hl,h | ⟨g,cap,sp,rfl,hB,a1,a2,a3⟩⟩:=h
 ·exact ⟨hl,.inl h⟩
 ·exact ⟨hl,.inr ⟨g,cap,sp,rfl,f.blk _ _ _ hB h1 h2,a1,a2,a3⟩⟩
theorem Rq.grow {c:Bg} {X X':List Nat} {w:World} {s:Bv} (h:Rq c X w s) (hX:∀b∈X',b∈X∨w.heap.size≤b):Rq c X' w s:=by
 obtain ⟨h0,h1,h2,h3,outv,nvs,hB,ho,hm,hk⟩:=h;refine ⟨h0,h1,h2,h3,outv,nvs,hB,ho,hm,λy hy=>⟨(hk y hy).1,λb hb a0=>?_⟩⟩;rcases hX b a0 with hx | hx
 ·exact (hk y hy).2 b hb hx
 ·rcases (hk y hy).1 with ⟨e,_⟩ | ⟨g,cap,sp,e,hg⟩
  ·rw [e] at hb;simp [Af] at hb
  ·rw [e] at hb;simp [Af] at hb;have:=hg.lt;omega
theorem Rq.other {c:Bg} {X S:List Nat} {w w':World} {s:Bv} (h:Rq c X w s) (k:Chg S w w') (hS:∀b∈S,c.w0.heap.size≤b∧b∈X∧∀l T,Blk w b l T→T=3):Rq c X w' s:=by
 obtain ⟨h0,h1,h2,h3,outv,nvs,hB,ho,hm,hk⟩:=h;refine ⟨h0.step k (λb hb=>(hS b hb).1),h1,h2,h3,outv,nvs,hB.chg k (λhb=>absurd ((hS _ hb).2.2 _ _ hB) (by decide)),ho.chg k (λb hb a0=>?_),hm,λy hy=>⟨?_,(hk y hy).2⟩⟩
 ·obtain ⟨_,⟨e,_⟩ | ⟨g,cap,sp,e,hg,_⟩⟩:=ho
  ·rw [e] at hb;simp [Af] at hb
  ·rw [e] at hb;simp [Af] at hb;subst hb;exact absurd ((hS _ a0).2.2 _ _ hg) (by decide)
 ·rcases (hk y hy).1 with e | ⟨g,cap,sp,e,hg⟩
  ·exact .inl e
  ·exact .inr ⟨g,cap,sp,e,hg.chg k (λhb=>(hk y hy).2 g (by rw [e];simp [Af]) (hS _ hb).2.1)⟩
theorem Re.other {c:Bg} {S:List Nat} {w w':World} {e d:Int} {k:Nat} (h:Re c w e d k) (kk:Chg S w w') (hS:∀b∈S,c.w0.heap.size≤b∧∀l T,Blk w b l T→T=3):Re c w' e d k:=by
 obtain ⟨h0,he,i,outv,n,xs,hB,ho,hn⟩:=h;refine ⟨h0.step kk (λb hb=>(hS b hb).1),he,i,outv,n,xs,hB.chg kk (λhb=>absurd ((hS _ hb).2 _ _ hB) (by decide)),ho.chg kk (λb hb a0=>?_),hn⟩;obtain ⟨_,⟨e,_⟩ | ⟨g,cap,sp,e,hg,_⟩⟩:=ho
 ·rw [e] at hb;simp [Af] at hb
 ·rw [e] at hb;simp [Af] at hb;subst hb;exact absurd ((hS _ a0).2 _ _ hg) (by decide)
theorem TX {c:Bg} (hc:c.Ok) (s:Bv) (hk3:(Aa c.T s).kind=3) (hE:∀s',s.at_<s'.at_→RC c 78 [.int .i64 0] (.lev 0) s') (w:World) (X:List Nat) (hX:∀b∈X,b<w.heap.size) (h:Rq c X w s) :
  AA Tryz.prog 192 [.pointer (some ⟨c.rb,0,none⟩),Aj (Aa c.T s).text] w (λv w'=>∃z,v=.int .i64 z∧Fq w w'∧(RG c X .prim s w' z∨RB c .prim s w')):=by
 have bv:=hc.len;have hl:=h.len;have ca:=h.1.size;have cb:=Mk .prim s.deep;obtain ⟨a0,a1,a2,a3,outv,nvs,hB,ho,hm,hk⟩:=h;have bw:=CT hc a1 (by omega);have a9:=hB;refine AL Tryz.func192 Tryz.ntmps192 ?_;refine Sa ?_;refine BS λw1 bx hB=>?_;replace hB:Blk w1 c.rb [c.tokv,.int .i64 (Ai s).at_,.int .i64 (Ai s).deep,.int .i64 0,outv] 110:=hB;obtain ⟨h1,hf⟩:=Rq.set hc (s:=s) (s':=Ai s) a0 ho hm hk a9 bx hB rfl bw a2 (by show s.out.length≤s.at_+1;omega);have bp:(Ai s).out.length+1≤(Ai s).at_:=by show s.out.length+1≤s.at_+1;omega
 refine Sa ?_;refine Am (λht=>?_) λht=>?_
 ·have ht:(Aa c.T s).text=CK:=of_decide_eq_true ht;refine Sa ?_;refine LW.call0 (vs:=[.pointer (some ⟨c.rb,0,none⟩),.agg ⟨Br ⟨{kind:=3,num:=1},.slice none 0 0⟩⟩]) rfl rfl (EK hc h1 {kind:=3,num:=1} rfl bp) ?_;rintro v w2 ⟨rfl,hr,bd⟩;refine Sa ?_;exact QW.body1 Tryz.results192 rfl ⟨_,rfl,hf.trans bd,.inl ⟨_,_,rfl,.pr_true hk3 ht,hr,by show s.at_<s.at_+1;omega,rfl,by simp [Bs,Ai];omega⟩⟩
 have ht:(Aa c.T s).text≠CK:=of_decide_eq_false ht;refine Sa ?_;refine Am (λai=>?_) λai=>?_
 ·have ai:(Aa c.T s).text=C4:=of_decide_eq_true ai;refine Sa ?_;refine LW.call0 (vs:=[.pointer (some ⟨c.rb,0,none⟩),.agg ⟨Br ⟨{kind:=3},.slice none 0 0⟩⟩]) rfl rfl (EK hc h1 {kind:=3} rfl bp) ?_;rintro v w2 ⟨rfl,hr,bd⟩;refine Sa ?_;exact QW.body1 Tryz.results192 rfl ⟨_,rfl,hf.trans bd,.inl ⟨_,_,rfl,.pr_false hk3 ai,hr,by show s.at_<s.at_+1;omega,rfl,by simp [Bs,Ai];omega⟩⟩
 have ai:(Aa c.T s).text≠C4:=of_decide_eq_false ai;refine Sa ?_;refine Ap rfl rfl (K6 hc h1 [40]) ?_;rintro v w2 ⟨rfl,bq⟩;replace h1:=h1.ext bq;replace hf:=hf.trans (.ext bq);refine Sa ?_;refine Am (λhi=>?_) λhi=>?_
 ·have hi:BA c.T (Ai s) [40]=false:=by simpa using hi
  refine Sa ?_;refine Ap rfl rfl (FB hc h1 5 (by decide)) ?_;rintro v w3 ⟨rfl,hr,bb⟩;refine Sa ?_;exact QW.body1 Tryz.results192 rfl ⟨0,rfl,hf.trans bb,.inr ⟨5,s.deep,.pr_nocall hk3 ht ai hi,.inl rfl,Re.mono hr (by show s.out.length≤_;omega)⟩⟩
 have hi:BA c.T (Ai s) [40]=true:=by simpa using hi
 refine Sa ?_;refine Ap rfl rfl (MT hc h1 (by rw [(Ec hi).1];decide)) ?_;rintro v w3 ⟨rfl,bb,⟨hd,hr⟩ | ⟨hd,hr⟩⟩;rotate_left
 ·replace hf:=hf.trans bb;have hd:12≤s.deep:=hd;have av:PE c.T .prim s (.err 6):=.pr_calldeep hk3 ht ai hi hd;have aj:=hr;obtain ⟨h0,he,i,outv,m,xs,hB,ho,aw⟩:=hr;refine Sa ?_;have kz:((s.deep:Int)=s.deep+1∨(s.deep:Int)=s.deep):=.inr rfl;have bz:(Ai s).out.length+1≤kc .prim s.deep:=by show s.out.length+1≤_;omega
  refine Ap rfl rfl (Ks aj [41]) ?_;rintro v w4 ⟨rfl,an⟩;replace hB:=hB.ext an;have a9:=hB;have br:((Ai s).deep:Int)=s.deep:=rfl;refine Sa ?_;refine BS λw5 c0 hB=>?_;replace hB:Blk w5 c.rb [c.tokv,.int .i64 i,.int .i64 (((Ai s).deep:Int) - 1),.int .i64 6,outv] 110:=hB;obtain ⟨be,bf⟩:=Re.set hc (h0.trans an) (ho.ext an) a9 c0 he hB aw;refine Sa ?_;refine LW.call0 (vs:=[.pointer (some ⟨c.rb,0,none⟩),.agg ⟨Br ⟨{kind:=7,text:=(Aa c.T s).text},.slice none 0 0⟩⟩]) rfl rfl (G5 hc be (by show s.out.length≤_;omega) ⟨{kind:=7,text:=(Aa c.T s).text},.slice none 0 0⟩ rfl) ?_;rintro v w6 ⟨⟨y,rfl⟩,ao,ap⟩;refine Sa ?_;exact QW.body1 Tryz.results192 rfl ⟨y,rfl,((hf.trans (.ext an)).trans bf).trans ap,.inr ⟨6,_,av,.inr rfl,ao.mono bz⟩⟩
 replace hf:=hf.trans bb;have hd:s.deep<12:=hd;have aj:=hr;obtain ⟨_,_,_,_,outv1,nvs1,bs,_⟩:=hr;refine Sa ?_
 try refine LW.know (t:=35) (c:=true) rfl (by simp) ?_
 refine Sa ?_;refine Ap rfl rfl (K6 hc aj [41]) ?_;rintro v w4 ⟨rfl,an⟩;replace aj:=aj.ext an;replace hf:=hf.trans (.ext an);replace hX:∀b∈X,b<w4.heap.size:=λb hb=>Nat.lt_of_lt_of_le (hX b hb) hf.size;refine Sa ?_;refine Am (λam=>?_) λam=>?_;rotate_left
 ·have am:BA c.T (Au (Ai (Ai s))) [41]=true:=by simpa using am
  refine Sa ?_;refine Ap rfl rfl (Nd hc aj [41]) ?_;rintro v w5 ⟨rfl,bf,⟨_,be⟩ | ⟨hn,_⟩⟩;rotate_left
  ·rw [am] at hn;cases hn
  obtain ⟨b0,b1,b2,b3,outv,nvs,hB,ho,hm,hk⟩:=be;have a9:=hB;refine Sa ?_;refine BS λw6 c1 hB=>?_;have e6:((Ai (Au (Ai (Ai s)))).deep:Int) - 1=((B0 (Ai (Au (Ai (Ai s))))).deep:Nat):=by show ((s.deep+1:Nat):Int) - 1=((s.deep+1 - 1:Nat):Int);omega
  replace hB:Blk w6 c.rb [c.tokv,.int .i64 (Ai (Au (Ai (Ai s)))).at_,.int .i64 (((Ai (Au (Ai (Ai s)))).deep:Int) - 1),.int .i64 0,outv] 110:=hB;rw [e6] at hB;obtain ⟨ao,ap⟩:=Rq.set hc (s:=Ai (Au (Ai (Ai s)))) (s':=B0 (Ai (Au (Ai (Ai s))))) b0 ho hm hk a9 c1 hB rfl b1 (by show s.deep+1 - 1≤12;omega) b3;refine Sa ?_;refine LW.call0 (vs:=[.pointer (some ⟨c.rb,0,none⟩),.agg ⟨Br ⟨{kind:=7,text:=(Aa c.T s).text},.slice none 0 0⟩⟩]) rfl rfl (EK hc ao {kind:=7,text:=(Aa c.T s).text} rfl (by show s.out.length+1≤s.at_+1+1+1;omega)) ?_;rintro v w7 ⟨rfl,c2,c3⟩;refine Sa ?_;exact QW.body1 Tryz.results192 rfl ⟨_,rfl,((hf.trans bf).trans ap).trans c3,.inl ⟨_,_,rfl,.pr_call0 hk3 ht ai hi hd am,c2,by show s.at_<s.at_+1+1+1;omega,rfl,by show s.at_+(s.out++[_]).length≤s.at_+1+1+1+s.out.length;simp;omega⟩⟩
 have am:BA c.T (Au (Ai (Ai s))) [41]=false:=by simpa using am
 refine Sa ?_;refine CW.loop (ι:=Bv×List Int×Value) (λk w'=>s.at_+1+1≤k.1.at_∧k.1.deep=s.deep+1∧s.at_+1+1+k.1.out.length≤k.1.at_+s.out.length∧k.2.1.length≤k.1.at_∧Rq c (Af k.2.2++X) w' k.1∧Fq w w'∧Ax w' c.w0.heap.size 3 1 k.2.2 k.2.1.length (Ac k.2.1)∧(∀b∈Af k.2.2,w4.heap.size≤b)∧Fq w4 w'∧
   ∀r,PE c.T (.args (Aa c.T s).text k.2.1) k.1 r→PE c.T .prim s r) (λk=>[(0,.pointer (some ⟨c.rb,0,none⟩)),(1,Aj (Aa c.T s).text),(5,k.2.2)]) (λk=>c.T.length - k.1.at_) (Au (Ai (Ai s)),[],.slice none 0 0)
  ⟨Nat.le_refl _,rfl,by show s.at_+1+1+s.out.length≤s.at_+1+1+s.out.length;omega,by simp,aj,hf,Ax.nil _ _ _ _,by simp [Af],Fq.refl _,λr hr=>.pr_call hk3 ht ai hi hd am hr⟩ Bh ?_
 clear bs;rintro ⟨t,ks,kv⟩ w5 ⟨g1,g2,g3,g4,hr,ax,ho,a5,bt,a4⟩;simp only at g1 g2 g3 g4 hr ho a5 a4;show CW _ _ _ _ _ [(0,.pointer (some ⟨c.rb,0,none⟩)),(1,Aj (Aa c.T s).text),(5,kv)] _;have cc:=hr.len;have c4:=bt.size;have aj:=hr;obtain ⟨_,_,_,_,outv1,nvs1,bs,_⟩:=hr;refine Sa ?_
 try refine CW.yes rfl (by simp) ?_
 refine Sa ?_;refine Ap rfl rfl (hE t (by omega) w5 (Af kv++X) (λb hb=>by
  rw [List.mem_append] at hb;rcases hb with hb | hb
  ·exact (ho.lt hb).2
  ·exact Nat.lt_of_lt_of_le (hX b hb) c4) aj) ?_
 rintro v w6 ⟨z,rfl,ap,bg⟩;have c5:=Ax.fq ho ap (by decide) (by decide);replace ax:=ax.trans ap;have bh:=bt.trans ap;refine Sa ?_;refine Cl λA w7 cd ay hA=>?_;replace hA:Blk w7 A [.int .i64 z] 3:=hA;have az:=c5.ext ay;replace ax:=ax.trans (.ext ay);have b4:=bh.trans (.ext ay);have c6:=b4.size;have ce:=ax.size;refine Sa ?_;refine LW.append rfl rfl rfl rfl rfl rfl az (by omega) hA rfl rfl rfl (by show (ks.length+1)*9≤140737488355328;omega) rfl ?_;intro kv' w8 bc c7 b5;have ac:Ax w8 c.w0.heap.size 3 1 kv' (ks++[z]).length (Ac (ks++[z])):=by simpa [Ac] using c7
 have cf:Fq w5 w8→True:=λ_=>trivial;have bi:∀b l T,Blk w4 b l T→T≠110→T≠139→Blk w8 b l T:=λb l T hb n1 n2=>(b4.blk b l T hb n1 n2).chg bc (λhm=>by
  have:=a5 b hm;have:=hb.lt;omega)
 have ak:Fq w4 w8:=⟨Nat.le_trans c6 bc.size,bi⟩;have aa:Fq w w8:=hf.trans ak;have a7:∀b∈Af kv',w4.heap.size≤b:=λb hb=>by
  rcases b5 b hb with hh | hh
  ·exact a5 b hh
  ·omega
 obtain ⟨kp,kq,rfl⟩:=ac.slice;have b6:(Value.slice kp (ks++[z]).length kq).oneCell'=true:=rfl;rcases bg with ⟨t',a',rfl,b7,ao,k1,k2,k3⟩ | ⟨e,d,b7,br,ao⟩;rotate_left
 ·have a8:Re c w8 e d (kc (.lev 0) t.deep):=(ao.ext ay).other bc (λb hb=>⟨(az.lt hb).1,λl T k=>Ax.type az hb k⟩);have av:PE c.T .prim s (.err e):=a4 _ (.ar_err b7);have cg:d=(s.deep:Int)+1∨d=(s.deep:Int):=by rw [g2] at br;omega
  have c8:kc (.lev 0) t.deep+1≤kc .prim s.deep:=by
   rw [g2];show 400+6*(12 - (s.deep+1))+(4 - 0)+1≤400+6*(12 - s.deep)+0;omega
  have ci:=Mk (.lev 0) t.deep;refine Sa ?_;refine Ap rfl rfl (UQ a8 [44]) ?_;rintro v w9 ⟨rfl,aq⟩;replace a8:=a8.ext aq;refine Sa ?_;refine Ap rfl rfl (Ks a8 [41]) ?_;rintro v bj ⟨rfl,b8⟩;replace a8:=a8.ext b8;have b9:=aq.trans b8;obtain ⟨h0,he,i,outv,m,xs,hB,ar,aw⟩:=a8;have a9:=hB;refine Sa ?_;refine BS λau ad hB=>?_;replace hB:Blk au c.rb [c.tokv,.int .i64 i,.int .i64 (d - 1),.int .i64 e,outv] 110:=hB;obtain ⟨ae,ab⟩:=Re.set hc h0 ar a9 ad he hB aw;refine Sa ?_;refine LW.call0 (vs:=[.pointer (some ⟨c.rb,0,none⟩),.agg ⟨Br ⟨{kind:=7,text:=(Aa c.T s).text,kids:=ks},.slice kp (ks++[z]).length kq⟩⟩]) rfl rfl (G5 hc ae (by omega) ⟨{kind:=7,text:=(Aa c.T s).text,kids:=ks},.slice kp (ks++[z]).length kq⟩ b6) ?_;rintro v bu ⟨⟨y,rfl⟩,af,ag⟩;refine Sa ?_;exact QW.body1 Tryz.results192 rfl ⟨y,rfl,((aa.trans (.ext b9)).trans ab).trans ag,.inr ⟨e,_,av,by omega,af.mono c8⟩⟩
 have a8:Rq c (Af (Value.slice kp (ks++[((a':Nat):Int)]).length kq)++X) w8 t':=by
  have h5:=(ao.ext ay).grow (X':=Af kv++(Af (Value.slice kp (ks++[((a':Nat):Int)]).length kq)++X)) (λb hb=>by
   simp only [List.mem_append] at hb ⊢;rcases hb with hb | hb | hb
   ·exact .inl (.inl hb)
   ·rcases b5 b hb with hh | hh
    ·exact .inl (.inl hh)
    ·exact .inr hh
   ·exact .inl (.inr hb))
  have h6:=h5.other bc (λb hb=>⟨(az.lt hb).1,List.mem_append_left _ hb,λl T k=>Ax.type az hb k⟩);exact h6.grow (λb hb=>.inl (List.mem_append_right _ hb))
 refine Sa ?_;refine Ap rfl rfl (K6 hc a8 [44]) ?_;rintro v w9 ⟨rfl,aq⟩;replace a8:=a8.ext aq;replace ac:=ac.ext aq;replace aa:=aa.trans (.ext aq);replace ak:=ak.trans (.ext aq);refine Sa ?_;refine Am (λal=>?_) λal=>?_;rotate_left
 ·have al:BA c.T t' [44]=true:=by simpa using al
  obtain ⟨b0,b1,b2,b3,outv,nvs,hB,ar,hm,hk⟩:=a8;have bk:=CT hc b1 (by rw [(Ec al).1];decide);have a9:=hB;refine Sa ?_;refine BS λbj bl hB=>?_;replace hB:Blk bj c.rb [c.tokv,.int .i64 (Ai t').at_,.int .i64 (Ai t').deep,.int .i64 0,outv] 110:=hB;obtain ⟨ah,a6⟩:=Rq.set hc (s:=t') (s':=Ai t') b0 ar hm hk a9 bl hB rfl bk b2 (by show t'.out.length≤t'.at_+1;omega);refine Sa ?_;exact QW.again (Ai t',ks++[((a':Nat):Int)],.slice kp (ks++[((a':Nat):Int)]).length kq) ⟨by show s.at_+1+1≤t'.at_+1;omega,k2.trans g2,by show s.at_+1+1+t'.out.length≤t'.at_+1+s.out.length;omega,by show (ks++[_]).length≤t'.at_+1;simp;omega,ah,aa.trans a6,Ax.fq ac a6 (by decide) (by decide),a7,ak.trans a6,λr hr=>a4 r (.ar_go b7 al hr)⟩ Bh (by show c.T.length - (t'.at_+1)<c.T.length - t.at_;omega)
 have al:BA c.T t' [44]=false:=by simpa using al
 refine Sa ?_;refine Ap rfl rfl (Nd hc a8 [41]) ?_;rintro v bj ⟨rfl,a6,⟨h5,ah⟩ | ⟨h5,ah⟩⟩;rotate_left
 ·have av:PE c.T .prim s (.err 5):=a4 _ (.ar_open b7 al h5);have cj:=a8.len;obtain ⟨h0,he,i,outv,m,xs,hB,ar,aw⟩:=ah;have a9:=hB;refine Sa ?_;refine BS λau ad hB=>?_;replace hB:Blk au c.rb [c.tokv,.int .i64 i,.int .i64 ((t'.deep:Int) - 1),.int .i64 5,outv] 110:=hB;obtain ⟨ae,ab⟩:=Re.set hc h0 ar a9 ad he hB aw;refine Sa ?_;refine LW.call0 (vs:=[.pointer (some ⟨c.rb,0,none⟩),.agg ⟨Br ⟨{kind:=7,text:=(Aa c.T s).text,kids:=ks},.slice kp (ks++[((a':Nat):Int)]).length kq⟩⟩]) rfl rfl (G5 hc ae (by omega) ⟨{kind:=7,text:=(Aa c.T s).text,kids:=ks},.slice kp (ks++[((a':Nat):Int)]).length kq⟩ b6) ?_;rintro v bu ⟨⟨y,rfl⟩,af,ag⟩;refine Sa ?_;exact QW.body1 Tryz.results192 rfl ⟨y,rfl,((aa.trans a6).trans ab).trans ag,.inr ⟨5,_,av,by omega,af.mono (by omega)⟩⟩
 have bm:=Ax.fq ac a6 (by decide) (by decide);obtain ⟨b0,b1,b2,b3,outv,nvs,hB,ar,hm,hk⟩:=ah;have a9:=hB;refine Sa ?_;refine BS λau ad hB=>?_;have bn:(B0 (Ai t')).deep=s.deep:=by show t'.deep - 1=s.deep;omega
 have e9:(t'.deep:Int) - 1=(((B0 (Ai t')).deep:Nat):Int):=by rw [bn];omega
 replace hB:Blk au c.rb [c.tokv,.int .i64 (Ai t').at_,.int .i64 ((t'.deep:Int) - 1),.int .i64 0,outv] 110:=hB;rw [e9] at hB;obtain ⟨ae,ab⟩:=Rq.set hc (s:=Ai t') (s':=B0 (Ai t')) b0 ar hm hk a9 ad hB rfl b1 (by rw [bn];omega) b3;have bo:=Ax.fq bm ab (by decide) (by decide);have ba:Rq c X au (B0 (Ai t')):=ae.grow (λb hb=>.inl (List.mem_append_right _ hb));refine Sa ?_;refine LW.call0 (vs:=[.pointer (some ⟨c.rb,0,none⟩),.agg ⟨Br ⟨{kind:=7,text:=(Aa c.T s).text,kids:=ks++[((a':Nat):Int)]},.slice kp (ks++[((a':Nat):Int)]).length kq⟩⟩]) rfl rfl (JE hc ba ⟨{kind:=7,text:=(Aa c.T s).text,kids:=ks++[((a':Nat):Int)]},.slice kp (ks++[((a':Nat):Int)]).length kq⟩ (J6 bo) (λb hb c9=>by
  have:=a7 b hb;have:=hX b c9;omega) (by show t'.out.length+1≤t'.at_+1;omega)) ?_
 rintro v bu ⟨rfl,af,ag⟩;refine Sa ?_;exact QW.body1 Tryz.results192 rfl ⟨_,rfl,((aa.trans a6).trans ab).trans ag,.inl ⟨Bs (B0 (Ai t')) {kind:=7,text:=(Aa c.T s).text,kids:=ks++[((a':Nat):Int)]},t'.out.length,rfl,a4 _ (.ar_end b7 al h5),af,by show s.at_<t'.at_+1;omega,bn,by show s.at_+(t'.out++[_]).length≤t'.at_+1+s.out.length;simp;omega⟩⟩
theorem TZ {c:Bg} (hc:c.Ok) (s:Bv) (hE:∀s',s.at_<s'.at_→RC c 78 [.int .i64 0] (.lev 0) s'):RC c 159 [] .prim s:=by
 intro w X hX h;have ar:=hc.len;have aj:=Oo hc h.2.1;have hl:=h.len;have az:=Mk .prim s.deep;have h0:=h;obtain ⟨a0,a1,a2,a3,outv,nvs,hB,ho,hm,hk⟩:=h0;have hT:=hc.tok.ext a0;have hg:c.T[s.at_]?=some (Aa c.T s):=by simp only [Aa,List.getD_eq_getElem?_getD,List.getElem?_eq_getElem a1,Option.getD_some]
 have a6:=hB;unfold Bg.tokv at hB;refine AL Tryz.func159 Tryz.ntmps159 ?_;refine Sa ?_;refine CW.drawHeld (λw'=>Ae w w') (λw' h=>h) (by kernel_rfl) λw5 ao=>?_;refine Sh ?_;refine HW.take 8 rfl rfl rfl rfl (λw _=>Y.gs rfl ⟨by omega,by omega⟩) rfl (by kernel_rfl) (by kernel_rfl) (by kernel_rfl) (λ_ _ _ h=>h) ?_;refine HW.take 9 rfl rfl rfl rfl (λw hw=>Y.load_agg (cs:=Bm (Aa c.T s)) (i:=0+s.at_*9) rfl (hT.ext hw) rfl rfl rfl (by rw [Nat.zero_add];exact Md Iv hg)) rfl (by kernel_rfl) (by kernel_rfl) (by kernel_rfl) (λ_ _ _ h=>h) ?_;refine HW.one 10 (by kernel_rfl) rfl rfl (λhS=>?_);refine BP λR w6 b4 ap hR=>?_;apply LW.nil;refine QW.held (hS.trans ap) ?_;refine HW.one 11 (by kernel_rfl) rfl rfl (λhS=>?_);refine AM λw7 au hR=>?_;replace hR:Blk w7 R (Bm (Aa c.T s)) 115:=hR;have ag:Ae w w7:=(ao.trans ap).step au (by simp;have:=ao.size;omega);apply LW.nil;refine QW.held ag ?_;refine HW.done (by kernel_rfl) ?_;replace h:=h.ext ag;have hf:=Fq.ext ag;replace hX:∀b∈X,b<w7.heap.size:=λb hb=>Nat.lt_of_lt_of_le (hX b hb) ag.size;refine Sa ?_;refine Ap rfl rfl (K6 hc h [40]) ?_;rintro v w8 ⟨rfl,ah⟩;replace h:=h.ext ah;replace hR:=hR.ext ah;replace hf:=hf.trans (.ext ah);replace hX:∀b∈X,b<w8.heap.size:=λb hb=>Nat.lt_of_lt_of_le (hX b hb) ah.size;refine Sa ?_;refine Am (λhi=>?_) λhi=>?_
 ·have hi:BA c.T s [40]=true:=hi;refine Sa ?_;refine Ap rfl rfl (MT hc h (by rw [(Ec hi).1];decide)) ?_;rintro v w9 ⟨rfl,a4,⟨hd,hr⟩ | ⟨hd,hr⟩⟩;rotate_left
  ·have ak:=hr;obtain ⟨_,he,i,outv,m,xs,hB,ho,ai⟩:=hr;refine Sa ?_;exact QW.body1 Tryz.results159 rfl ⟨0,rfl,hf.trans a4,.inr ⟨6,s.deep,.pr_deep hi hd,.inl rfl,ak.mono (by omega)⟩⟩
  have ak:=hr;obtain ⟨_,_,_,_,outv1,nvs1,b5,_⟩:=hr;replace hf:=hf.trans a4;refine Sa ?_;refine Ap rfl rfl (hE (Au (Ai s)) (by show s.at_<s.at_+1;omega) w9 X (λb hb=>Nat.lt_of_lt_of_le (hX b hb) a4.size) ak) ?_;rintro v al ⟨z,rfl,a5,a7⟩;replace hf:=hf.trans a5;rcases a7 with ⟨s1,a,rfl,hp,hr,g1,g2,g3⟩ | ⟨e,d,hp,aq,hr⟩;rotate_left
  ·have aq:d=((s.deep+1:Nat):Int)∨d=((s.deep+1:Nat):Int) - 1:=aq;have av:kc (.lev 0) (Au (Ai s)).deep≤kc .prim s.deep:=by
    show 400+6*(12 - (s.deep+1))+(4 - 0)≤400+6*(12 - s.deep)+0;omega
   refine Sa ?_;refine Ap rfl rfl (Ks hr [41]) ?_;rintro v aw ⟨rfl,ab⟩;replace hr:=hr.ext ab;obtain ⟨h0,he,i,outv,m,xs,hB,ho,ai⟩:=hr;have a6:=hB;refine Sa ?_;refine BS λac a8 hB=>?_;replace hB:Blk ac c.rb [c.tokv,.int .i64 i,.int .i64 (d - 1),.int .i64 e,outv] 110:=hB;obtain ⟨a9,aa⟩:=Re.set hc h0 ho a6 a8 he hB ai;refine Sa ?_;exact QW.body1 Tryz.results159 rfl ⟨z,rfl,(hf.trans (.ext ab)).trans aa,.inr ⟨e,d - 1,.pr_err hi hd hp,by omega,a9.mono av⟩⟩
  have g1':s.at_+1<s1.at_:=g1;have g2':s1.deep=s.deep+1:=g2;have g3':s.at_+1+s1.out.length≤s1.at_+s.out.length:=g3;have b6:=hr.len;refine Sa ?_;refine Ap rfl rfl (Nd hc hr [41]) ?_;rintro v aw ⟨rfl,ad,⟨am,hr⟩ | ⟨am,hr⟩⟩;rotate_left
  ·obtain ⟨h0,he,i,outv,m,xs,hB,ho,ai⟩:=hr;have a6:=hB;refine Sa ?_;refine BS λac a8 hB=>?_;replace hB:Blk ac c.rb [c.tokv,.int .i64 i,.int .i64 ((s1.deep:Int) - 1),.int .i64 5,outv] 110:=hB;obtain ⟨a9,aa⟩:=Re.set hc h0 ho a6 a8 he hB ai;refine Sa ?_;exact QW.body1 Tryz.results159 rfl ⟨_,rfl,(hf.trans ad).trans aa,.inr ⟨5,_,.pr_open hi hd hp am,by omega,a9.mono (by omega)⟩⟩
  obtain ⟨b0,b1,b2,b3,outv,nvs,hB,ho,hm,hk⟩:=hr;have a6:=hB;refine Sa ?_;refine BS λac a8 hB=>?_;have ax:(s1.deep:Int) - 1=(((B0 (Ai s1)).deep:Nat):Int):=by show (s1.deep:Int) - 1=((s1.deep - 1:Nat):Int);omega
  replace hB:Blk ac c.rb [c.tokv,.int .i64 (Ai s1).at_,.int .i64 ((s1.deep:Int) - 1),.int .i64 0,outv] 110:=hB;rw [ax] at hB;obtain ⟨a9,aa⟩:=Rq.set hc (s:=Ai s1) (s':=B0 (Ai s1)) b0 ho hm hk a6 a8 hB rfl b1 (by show s1.deep - 1≤12;omega) b3;refine Sa ?_;exact QW.body1 Tryz.results159 rfl ⟨_,rfl,(hf.trans ad).trans aa,.inl ⟨B0 (Ai s1),a,rfl,.pr_ok hi hd hp am,a9,by show s.at_<s1.at_+1;omega,by show s1.deep - 1=s.deep;omega,by show s.at_+s1.out.length≤s1.at_+1+s.out.length;omega⟩⟩
 have hi:BA c.T s [40]=false:=hi;have q1:s.at_<s.at_+1:=by omega
 have q3:∀n:Ag,s.at_+(s.out++[n]).length≤s.at_+1+s.out.length:=λn=>by simp;omega
 have an:(Ai s).out.length+1≤(Ai s).at_:=by show s.out.length+1≤s.at_+1;omega
 refine Sa ?_;refine Am (λh1=>?_) λh1=>?_
 ·have h1:(Aa c.T s).kind=1:=by simpa using h1
  obtain ⟨a0,a1,a2,a3,outv,nvs,hB,ho,hm,hk⟩:=h;have ae:=CT hc a1 (by omega);have a6:=hB;refine Sa ?_;refine BS λw9 af hB=>?_;replace hB:Blk w9 c.rb [c.tokv,.int .i64 (Ai s).at_,.int .i64 (Ai s).deep,.int .i64 0,outv] 110:=hB;obtain ⟨h9,a4⟩:=Rq.set hc (s:=s) (s':=Ai s) a0 ho hm hk a6 af hB rfl ae a2 (by show s.out.length≤s.at_+1;omega);replace hf:=hf.trans a4;replace hR:=a4.blk _ _ _ hR (by decide) (by decide);refine Sa ?_;refine LW.call0 (vs:=[.pointer (some ⟨c.rb,0,none⟩),.agg ⟨Br ⟨{kind:=1,num:=(Aa c.T s).num},.slice none 0 0⟩⟩]) rfl rfl (EK hc h9 {kind:=1,num:=(Aa c.T s).num} rfl an) ?_;rintro v al ⟨rfl,hr,a5⟩;refine Sa ?_;exact QW.body1 Tryz.results159 rfl ⟨_,rfl,hf.trans a5,.inl ⟨_,_,rfl,.pr_num h1,hr,q1,rfl,q3 _⟩⟩
 have h1:(Aa c.T s).kind≠1:=by simpa using h1
 refine Sa ?_;refine Am (λh2=>?_) λh2=>?_
 ·have h2:(Aa c.T s).kind=2:=by simpa using h2
  obtain ⟨a0,a1,a2,a3,outv,nvs,hB,ho,hm,hk⟩:=h;have ae:=CT hc a1 (by omega);have a6:=hB;refine Sa ?_;refine BS λw9 af hB=>?_;replace hB:Blk w9 c.rb [c.tokv,.int .i64 (Ai s).at_,.int .i64 (Ai s).deep,.int .i64 0,outv] 110:=hB;obtain ⟨h9,a4⟩:=Rq.set hc (s:=s) (s':=Ai s) a0 ho hm hk a6 af hB rfl ae a2 (by show s.out.length≤s.at_+1;omega);replace hf:=hf.trans a4;replace hR:=a4.blk _ _ _ hR (by decide) (by decide);refine Sa ?_;refine LW.call0 (vs:=[.pointer (some ⟨c.rb,0,none⟩),.agg ⟨Br ⟨{kind:=2,text:=(Aa c.T s).text},.slice none 0 0⟩⟩]) rfl rfl (EK hc h9 {kind:=2,text:=(Aa c.T s).text} rfl an) ?_;rintro v al ⟨rfl,hr,a5⟩;refine Sa ?_;exact QW.body1 Tryz.results159 rfl ⟨_,rfl,hf.trans a5,.inl ⟨_,_,rfl,.pr_text h2,hr,q1,rfl,q3 _⟩⟩
 have h2:(Aa c.T s).kind≠2:=by simpa using h2
 refine Sa ?_;refine Am (λh6=>?_) λh6=>?_
 ·have h6:(Aa c.T s).kind=6:=by simpa using h6
  obtain ⟨a0,a1,a2,a3,outv,nvs,hB,ho,hm,hk⟩:=h;have ae:=CT hc a1 (by omega);have a6:=hB;refine Sa ?_;refine BS λw9 af hB=>?_;replace hB:Blk w9 c.rb [c.tokv,.int .i64 (Ai s).at_,.int .i64 (Ai s).deep,.int .i64 0,outv] 110:=hB;obtain ⟨h9,a4⟩:=Rq.set hc (s:=s) (s':=Ai s) a0 ho hm hk a6 af hB rfl ae a2 (by show s.out.length≤s.at_+1;omega);replace hf:=hf.trans a4;replace hR:=a4.blk _ _ _ hR (by decide) (by decide);refine Sa ?_;refine LW.call0 (vs:=[.pointer (some ⟨c.rb,0,none⟩),.agg ⟨Br ⟨{kind:=4},.slice none 0 0⟩⟩]) rfl rfl (EK hc h9 {kind:=4} rfl an) ?_;rintro v al ⟨rfl,hr,a5⟩;refine Sa ?_;exact QW.body1 Tryz.results159 rfl ⟨_,rfl,hf.trans a5,.inl ⟨_,_,rfl,.pr_dead h6,hr,q1,rfl,q3 _⟩⟩
 have h6:(Aa c.T s).kind≠6:=by simpa using h6
 refine Sa ?_;refine Am (λh4=>?_) λh4=>?_
 ·have h4:(Aa c.T s).kind=4:=by simpa using h4
  refine Sa ?_;refine LW.load_agg (cs:=AQ (Aa c.T s).ref) rfl hR rfl rfl rfl ⟨rfl,rfl,rfl,rfl,rfl,trivial⟩ rfl ?_;refine Sa ?_;refine Ap rfl rfl (Vt hc s h4 w8 h) ?_;rintro v w9 ⟨z,rfl,a4,a7⟩;refine Sa ?_;exact QW.body1 Tryz.results159 rfl ⟨z,rfl,hf.trans a4,a7⟩
 have h4:(Aa c.T s).kind≠4:=by simpa using h4
 refine Sa ?_;refine Am (λh3=>?_) λh3=>?_
 ·have h3:(Aa c.T s).kind=3:=by simpa using h3
  refine Sa ?_;refine Ap rfl rfl (TX hc s h3 hE w8 X hX h) ?_;rintro v w9 ⟨z,rfl,a4,a7⟩;refine Sa ?_;exact QW.body1 Tryz.results159 rfl ⟨z,rfl,hf.trans a4,a7⟩
 have h3:(Aa c.T s).kind≠3:=by simpa using h3
 have ay:PE c.T .prim s (.err 5):=by
  by_cases h0:(Aa c.T s).kind=0
  ·exact .pr_end h0
  ·have h5:(Aa c.T s).kind=5:=by omega
   exact .pr_sign h5 (by simpa [BA,h5] using hi)
 refine Sa ?_;refine Ap rfl rfl (FB hc h 5 (by decide)) ?_;rintro v w9 ⟨rfl,hr,a4⟩;refine Sa ?_;exact QW.body1 Tryz.results159 rfl ⟨0,rfl,hf.trans a4,.inr ⟨5,s.deep,ay,.inl rfl,hr.mono (by omega)⟩⟩
theorem Q9 {c:Bg} (hc:c.Ok):∀(m:Nat) (s:Bv),c.T.length - s.at_≤m→(∀n:Nat,n<4→RC c 78 [.int .i64 (n:Int)] (.lev n) s)∧RC c 78 [.int .i64 4] .unary s∧RC c 111 [] .unary s
 | 0,s,hm=>by
  have key:∀f a m,RC c f a m s:=λf a m w X hX h=>absurd h.2.1 (by omega)
  exact ⟨λ_ _=>key _ _ _,key _ _ _,key _ _ _⟩
 | m+1,s,hm=>by
  by_cases hs:s.at_<c.T.length
  ·have ih:=λ(s':Bv) (h:s.at_<s'.at_)=>Q9 hc m s' (by omega);have hp:=TZ hc s (λs' h=>(ih s' h).1 0 (by omega));have hu:=RE hc s hp (λs' h=>(ih s' h).2.2);have h4:=Vs s hu;have h3:RC c 78 [.int .i64 3] (.lev 3) s:=L1 hc 3 (by omega) s h4 (λs' h _=>(ih s' h).2.1);have h2:RC c 78 [.int .i64 2] (.lev 2) s:=L1 hc 2 (by omega) s h3 (λs' h _=>(ih s' h).1 3 (by omega));have h1:RC c 78 [.int .i64 1] (.lev 1) s:=L1 hc 1 (by omega) s h2 (λs' h _=>(ih s' h).1 2 (by omega));have h0:RC c 78 [.int .i64 0] (.lev 0) s:=L1 hc 0 (by omega) s h1 (λs' h _=>(ih s' h).1 1 (by omega));refine ⟨λn hn=>?_,h4,hu⟩;have:n=0∨n=1∨n=2∨n=3:=by omega
   rcases this with rfl | rfl | rfl | rfl
   ·exact h0
   ·exact h1
   ·exact h2
   ·exact h3
  ·have key:∀f a m,RC c f a m s:=λf a m w X hX h=>absurd h.2.1 hs;exact ⟨λ_ _=>key _ _ _,key _ _ _,key _ _ _⟩
def Xl (w:World) (lo:Nat) (v:Value) (o:Except Int (List Ag)):Prop:=match o with
 | .error e=>v=.agg ⟨[.slice none 0 0,.int .i64 e]⟩
 | .ok l=>∃sv,v=.agg ⟨[sv,.int .i64 0]⟩∧K0 w lo sv l
theorem Qk {s:List UInt8} (h:300<s.length):AH s=.error 4:=by unfold AH;rw [if_pos h]
theorem Ql {s:List UInt8} (h:¬300<s.length) (e:Hj s=none):AH s=.error 5:=by unfold AH;rw [if_neg h,e]
theorem N2 (s:List UInt8) (hs:s.length≤9223372036854775807) (w:World):AA Tryz.prog 56 [Aj s] w (λv w'=>(Xl w' w.heap.size v (AH s)∧∀e,AH s=.error e→e≠0)∧Ae w w'):=by
 refine AL Tryz.func56 Tryz.ntmps56 ?_;refine Sa ?_;refine BP λL w1 b9 ap hL=>?_;refine Sa ?_;refine Ap rfl rfl (Vp s hs w1) ?_;rintro v w2 ⟨hv,aq⟩;replace hL:=hL.ext aq;have a9:=ap.trans aq;have ba:=ap.size;have ae:w.heap.size≤L:=by omega
 by_cases a3:300<s.length
 ·rw [LA,if_pos a3] at hv;subst hv;have a1:=Qk a3;refine Sa ?_;refine BP λK w3 ar a6 hK=>?_;replace hL:=hL.ext a6;refine Sa ?_;refine AM λw4 a7 hK=>?_;have a4:Ae w2 w4:=a6.step a7 (by simp;omega);replace hL:=hL.chg a7 (by simp;intro h;subst h;exact absurd (hL.inj (by assumption)) (by decide));refine Sa ?_;refine AM λw5 aj hL=>?_;refine Sa ?_;refine QW.body_c Tryz.results56 rfl hL rfl rfl rfl ⟨⟨by rw [a1];rfl,λe0 a2=>by rw [a1] at a2;simp only [Except.error.injEq] at a2;omega⟩,(a9.trans a4).step aj (by simpa using ae)⟩
 cases a0:Hj s with
 | none=>
  rw [LA,if_neg a3,a0] at hv;subst hv;have a1:=Ql a3 a0;refine Sa ?_;refine BP λK w3 ar a6 hK=>?_;replace hL:=hL.ext a6;refine Sa ?_;refine AM λw4 a7 hK=>?_;have a4:Ae w2 w4:=a6.step a7 (by simp;omega);replace hL:=hL.chg a7 (by simp;intro h;subst h;exact absurd (hL.inj (by assumption)) (by decide));refine Sa ?_;refine AM λw5 aj hL=>?_;refine Sa ?_
  refine QW.body_c Tryz.results56 rfl hL rfl rfl rfl ⟨⟨by rw [a1];rfl,λe0 a2=>by rw [a1] at a2;simp only [Except.error.injEq] at a2;omega⟩,(a9.trans a4).step aj (by simpa using ae)⟩
 | some T=>
 rw [LA,if_neg a3,a0] at hv;obtain ⟨sv,rfl,ak⟩:=hv;obtain ⟨k0,k1,k2⟩:=IA _ s 0 (Nat.le_refl _) a0;have bb:=PF a0;obtain ⟨tb,tcap,tsp,rfl,hT,_⟩:=ak.get (List.length_pos_iff.2 k0);refine Sa ?_;refine BP λK w3 ar a6 hK=>?_;replace hL:=hL.ext a6;replace hT:=hT.ext a6;refine Sa ?_;refine AM λw4 a7 hK=>?_;have a4:Ae w2 w4:=a6.step a7 (by simp;omega);have ag:Ae w w4:=a9.trans a4;replace hL:=hL.chg a7 (by have:=hL.lt;simp;intro h;subst h;exact absurd (hL.inj (by assumption)) (by decide));replace hT:=hT.chg a7 (by simp;intro h;subst h;exact absurd (hT.inj (by assumption)) (by decide));refine Sa ?_;refine CZ λR w5 bc au hR=>?_;replace hL:=hL.ext au;obtain ⟨c,aa⟩:∃c:Bg,c=⟨T,tb,tcap,tsp,R,w4⟩:=⟨_,rfl⟩;have hc:c.Ok:=by
  subst aa;exact ⟨hT,by show T.length≤301;omega,k2,k1,by show w4.heap.size≤R;omega⟩
 have ab:c.T=T:=by rw [aa]
 have ad:c.rb=R:=by rw [aa]
 have ah:c.w0=w4:=by rw [aa]
 have av:c.tokv=.slice (some ⟨tb,0,none⟩) T.length tcap:=by rw [aa];rfl
 have ax:c.tb=tb:=by rw [aa]
 have bd:c.tsp=tsp:=by rw [aa]
 have ay:Rq c [] w5 ⟨0,[],0⟩:=by
  refine ⟨by rw [ah];exact au,by rw [ab];exact List.length_pos_iff.2 k0,by simp,by simp,.slice none 0 0,[],?_,Ax.nil _ _ _ _,rfl,by simp⟩;rw [ad,av];exact hR
 have af:=(Q9 hc _ ⟨0,[],0⟩ (Nat.le_refl _)).1 0 (by omega) w5 [] (by simp) ay;rw [ad] at af;refine Sa ?_;refine Ap rfl rfl af ?_;rintro v w6 ⟨z,rfl,az,al⟩;replace hL:=az.blk _ _ _ hL (by decide) (by decide);rcases al with ⟨s1,a,rfl,hp,hr,g1,g2,g3⟩ | ⟨e,d,hp,be,hr⟩;rotate_left
 ·have a1:AH s=.error e:=Fo (by omega) a0 (.inl (by rw [←ab];exact hp));obtain ⟨h0,he,i,outv,m,xs,hB,ho,b0⟩:=hr;rw [ad] at hB;rw [ah] at h0;refine Sa ?_;refine Hk ?_;refine Sq ?_;refine QL.know (t:=24) (c:=false) rfl (by simp [he]) ?_;refine Sq ?_;refine QL.nil λw7 a5=>?_;replace hB:=hB.ext a5;replace hL:=hL.ext a5;replace h0:=h0.trans a5;refine Sa ?_
  try refine CW.yes rfl (by simp [he]) ?_
  refine Sa ?_;refine AM λw9 am hL=>?_;refine Sa ?_;refine QW.body_c Tryz.results56 rfl hL rfl rfl rfl ⟨⟨by rw [a1];rfl,λe0 a2=>by rw [a1] at a2;simp only [Except.error.injEq] at a2;omega⟩,(ag.trans h0).step am (by simpa using ae)⟩
 have hl:=hr.len;have an:=hr;obtain ⟨h0,h1,h2,h3,outv,nvs,hB,ho,hm,hk⟩:=hr;have aw:=hc.tok.ext h0;have b1:c.T[s1.at_]?=some (Aa c.T s1):=by simp only [Aa,List.getD_eq_getElem?_getD,List.getElem?_eq_getElem h1,Option.getD_some]
 have b2:(c.T.flatMap Bm++c.tsp)[0+s1.at_*9+0]?=some (.int .i64 (Aa c.T s1).kind):=by
  rw [Nat.zero_add];exact Gm Iv c.T c.tsp s1.at_ _ 0 b1 (by decide)
 rw [ad,av] at hB;rw [ax] at aw;have b3:=hc.len;have bf:c.T.length=T.length:=by rw [ab]
 refine Sa ?_;refine Hk ?_;refine Sq ?_;refine QL.know (t:=24) (c:=true) rfl (by simp) ?_;refine VH ?_;refine QL.load (i:=0+s1.at_*9+0) rfl aw b2 rfl rfl rfl ?_;refine VH ?_;refine QL.nil λw7 a5=>?_;replace hB:=hB.ext a5;replace hL:=hL.ext a5;replace an:=an.ext a5;refine Sa ?_;refine Am (λac=>?_) λac=>?_
 ·have ac:(Aa c.T s1).kind≠0:=by simpa using ac
  have a1:AH s=.error 5:=Fo (by omega) a0 (.inr ⟨rfl,s1,a,by rw [←ab];exact hp,by rw [←ab];exact ac⟩);have a8:=FB hc an 5 (by decide);rw [ad] at a8;refine Sa ?_;refine Ap rfl rfl a8 ?_;rintro v w8 ⟨rfl,b4,b5⟩;replace hL:=b5.blk _ _ _ hL (by decide) (by decide);obtain ⟨h0,he,i,outv,m,xs,hB,ho,b0⟩:=b4;rw [ad] at hB;rw [ah] at h0;refine Sa ?_
  try refine CW.yes rfl (by simp [he]) ?_
  refine Sa ?_;refine AM λw9 am hL=>?_;refine Sa ?_;refine QW.body_c Tryz.results56 rfl hL rfl rfl rfl ⟨⟨by rw [a1];rfl,λe0 a2=>by rw [a1] at a2;simp only [Except.error.injEq] at a2;omega⟩,(ag.trans h0).step am (by simpa using ae)⟩
 have ac:(Aa c.T s1).kind=0:=by simpa using ac
 have a1:AH s=.ok s1.out:=Fo (by omega) a0 ⟨s1,a,by rw [←ab];exact hp,by rw [←ab];exact ac,rfl⟩;have ai:=ho.ext a5;rw [ah] at ai h0;obtain ⟨q1,q2,rfl⟩:=ai.slice;refine Sa ?_;have b6:∀b,b∈Af (Value.slice q1 nvs.length q2)→b∉[L]:=λb hb h=>by
  simp only [List.mem_singleton] at h;subst h;exact absurd (Ax.type ai hb hL) (by decide)
 have b7:=hL;refine AM λw8 ao hL=>?_;refine Sa ?_;refine QW.body_c Tryz.results56 rfl hL rfl rfl rfl ⟨⟨?_,λe0 a2=>by rw [a1] at a2;cases a2⟩,(ag.trans (h0.trans a5)).step ao (by simpa using ae)⟩;rw [a1];refine ⟨_,rfl,nvs,(ai.chg ao b6).low ag.size,hm,λx hx=>?_⟩;have b8:=((hk x hx).1.fq (.ext a5));rcases b8 with e | ⟨g,cap,sp,e,hg⟩
 ·exact .inl e
 ·exact .inr ⟨g,cap,sp,e,hg.chg ao (λhm=>by simp at hm;subst hm;exact absurd (hg.inj b7) (by decide))⟩
theorem Nu (s:List UInt8) (hs:s.length≤1000000) (w:World):AA Tryz.prog 162 [Aj s] w (λv w'=>v=.bool (KE s)∧Ae w w'):=by
 refine AL Tryz.func162 Tryz.ntmps162 ?_;refine Sa ?_;refine CW.loop (ι:=Nat) (λk w'=>k≤s.length∧Ae w w'∧∀j,j<k→32≤Ab s j) (λk=>[(0,Aj s),(3,.int .i64 k)]) (λk=>s.length - k) 0 ⟨by omega,Chg.refl _ _,by omega⟩ Fv ?_;rintro k w1 ⟨hk,hx,a0⟩;refine Sa ?_;refine Am (λh1=>?_) λh1=>?_
 ·have h1:k<s.length:=by simp at h1;omega
  refine Sa ?_;refine Am (λh2=>?_) λh2=>?_
  ·have h2:Ab s k<32:=by simpa using h2
   refine Sa ?_;refine QW.body1 Tryz.results162 rfl ⟨?_,hx⟩;have:KE s=false:=by
    simp only [KE,decide_eq_false_iff_not];intro hh;have:=hh k h1;omega
   rw [this]
  ·have h2:¬Ab s k<32:=by simpa using h2
   refine Sa ?_;refine QW.again (k+1) ⟨by omega,hx,λj hj=>?_⟩ Fv (by omega);by_cases e:j=k
   ·subst e;omega
   ·exact a0 j (by omega)
 ·have h1:k=s.length:=by simp at h1;omega
  subst h1;refine Sa ?_;refine QW.body1 Tryz.results162 rfl ⟨?_,hx⟩;have:KE s=true:=by simp only [KE,decide_eq_true_eq];exact a0
  rw [this]
theorem CH (x:Co) (w:World):AA Tryz.prog 161 [.agg ⟨AQ x⟩] w (λv w'=>v=.bool (decide (x=A3))∧Ae w w'):=by
 refine AL Tryz.func161 Tryz.ntmps161 ?_;refine Sa ?_;refine CZ λA w1 a1 a0 hA=>?_;replace hA:Blk w1 A (AQ x) 113:=hA;refine Sa ?_;refine Sl ?_;refine LW.eql_agg (xs:=AQ x) (ys:=AQ A3) (c:=decide (x=A3)) rfl rfl Ma (λw=>O6 x A3 9998 w) rfl ?_;refine Sa ?_;exact QW.body1 Tryz.results161 rfl ⟨rfl,a0⟩
theorem U1 (k:Int) (w:World):AA Tryz.prog 115 [.int .i64 k] w (λv w'=>v=.int .i64 (B7 k)∧Ae w w'):=by
 have fin:∀z,B7 k=z→(Value.int .i64 z=.int .i64 (B7 k)∧Ae w w):=λz h=>⟨by rw [h],Chg.refl _ _⟩;refine AL Tryz.func115 Tryz.ntmps115 ?_;refine Sa ?_;by_cases h1:1≤k;rotate_left
 ·refine LW.know (t:=6) (c:=false) rfl (by simp;omega) ?_;refine Sa ?_;refine CW.no rfl (by simp;omega) ?_;refine Sa ?_;refine CW.no rfl (by simp;omega) ?_;refine Sa ?_;refine LW.know (t:=19) (c:=false) rfl (by simp;omega) ?_;refine Sa ?_;exact QW.body1 Tryz.results115 rfl (fin _ (by unfold B7;rw [if_pos (by omega)]))
 refine LW.know (t:=6) (c:=true) rfl (by simpa using h1) ?_;refine Sa ?_;refine Am (λh2=>?_) λh2=>?_
 ·have h2:k≤6:=by simpa using h2
  refine Sa ?_;exact QW.body1 Tryz.results115 rfl (fin _ (by unfold B7;rw [if_neg (by omega),if_neg (by omega),if_neg (by omega),if_neg (by omega)]))
 have h2:6<k:=by simpa using h2
 refine Sa ?_;refine Am (λh3=>?_) λh3=>?_
 ·have h3:k=7:=by simpa using h3
  refine Sa ?_;exact QW.body1 Tryz.results115 rfl (fin _ (by unfold B7;rw [if_neg (by omega),if_pos h3]))
 have h3:k≠7:=by simpa using h3
 refine Sa ?_;refine Am (λh4=>?_) λh4=>?_
 ·have h4:k=8:=by simpa using h4
  refine Sa ?_;exact QW.body1 Tryz.results115 rfl (fin _ (by unfold B7;rw [if_neg (by omega),if_neg (by omega),if_pos h4]))
 have h4:k≠8:=by simpa using h4
 refine Sa ?_;refine LW.know (t:=19) (c:=true) rfl (by simp;omega) ?_;refine Sa ?_;refine Am (λh5=>?_) λh5=>?_
 ·have h5:k≤19:=by simpa using h5
  refine Sa ?_;exact QW.body1 Tryz.results115 rfl (fin _ (by unfold B7;rw [if_neg (by omega),if_neg (by omega),if_neg (by omega),if_pos (by omega)]))
 have h5:19<k:=by simpa using h5
 refine Sa ?_;exact QW.body1 Tryz.results115 rfl (fin _ (by unfold B7;rw [if_pos (by omega)]))
theorem UX (n:Ag) (p:Option Addr) (k c:Nat) (w:World) (ht:n.text.length≤1000) (hr:n.ref.sheet.length≤9223372036854775807) (hto:n.to.sheet.length≤9223372036854775807):AA Tryz.prog 116 [.agg ⟨Br ⟨n,.slice p k c⟩⟩] w (λv w'=>v=.bool (Ar n)∧Ae w w'):=by
 obtain ⟨kd,num,text,ref,to,kids⟩:=n;simp only at ht hr hto;refine AL Tryz.func116 Tryz.ntmps116 ?_;refine Sa ?_;refine CZ λA w1 ae hx hA=>?_;replace hA:Blk w1 A (Br ⟨⟨kd,num,text,ref,to,kids⟩,.slice p k c⟩) 139:=hA;by_cases k1:kd=1
 ·subst k1;refine Sa ?_;refine B6 (λa1=>?_) λa1=>?_
  ·refine Sa ?_;refine QW.body1 Tryz.results116 rfl ⟨by have a1:text≠[]:=(by simpa using a1);simp [Ar,A6,a1],hx⟩
  have a1:text=[]:=by simpa using a1
  refine Sa ?_;refine LW.load_agg (cs:=AQ ref) rfl hA rfl rfl rfl ⟨rfl,rfl,rfl,rfl,rfl,trivial⟩ rfl ?_;refine Sa ?_;refine Ap rfl rfl (CH ref _) ?_;rintro v w2 ⟨rfl,a5⟩;replace hA:=hA.ext a5;replace hx:=hx.trans a5;refine Sa ?_;refine B6 (λa2=>?_) λa2=>?_
  ·refine Sa ?_;refine QW.body1 Tryz.results116 rfl ⟨by have a2:ref≠A3:=(by simpa using a2);simp [Ar,A6,a2],hx⟩
  have a2:ref=A3:=by simpa using a2
  refine Sa ?_;refine LW.load_agg (cs:=AQ to) rfl hA rfl rfl rfl ⟨rfl,rfl,rfl,rfl,rfl,trivial⟩ rfl ?_;refine Sa ?_;refine Ap rfl rfl (CH to _) ?_;rintro v w3 ⟨rfl,a4⟩;replace hA:=hA.ext a4;replace hx:=hx.trans a4;refine Sa ?_;refine Am (λa0=>?_) λa0=>?_
  ·refine Sa ?_;refine QW.body1 Tryz.results116 rfl ⟨by have a0:to≠A3:=(by simpa using a0);simp [Ar,A6,a0],hx⟩
  have a0:to=A3:=by simpa using a0
  refine Sa ?_;refine QW.body1 Tryz.results116 rfl ⟨by simp [Ar,Fb,A6,a1,a2,a0],hx⟩
 by_cases k3:kd=3
 ·subst k3;refine Sa ?_;refine B6 (λa1=>?_) λa1=>?_
  ·refine Sa ?_;refine QW.body1 Tryz.results116 rfl ⟨by have a1:text≠[]:=(by simpa using a1);simp [Ar,A6,a1],hx⟩
  have a1:text=[]:=by simpa using a1
  refine Sa ?_;refine LW.load_agg (cs:=AQ ref) rfl hA rfl rfl rfl ⟨rfl,rfl,rfl,rfl,rfl,trivial⟩ rfl ?_;refine Sa ?_;refine Ap rfl rfl (CH ref _) ?_;rintro v w2 ⟨rfl,a5⟩;replace hA:=hA.ext a5;replace hx:=hx.trans a5;refine Sa ?_;refine B6 (λa2=>?_) λa2=>?_
  ·refine Sa ?_;refine QW.body1 Tryz.results116 rfl ⟨by have a2:ref≠A3:=(by simpa using a2);simp [Ar,A6,a2],hx⟩
  have a2:ref=A3:=by simpa using a2
  refine Sa ?_;refine LW.load_agg (cs:=AQ to) rfl hA rfl rfl rfl ⟨rfl,rfl,rfl,rfl,rfl,trivial⟩ rfl ?_;refine Sa ?_;refine Ap rfl rfl (CH to _) ?_;rintro v w3 ⟨rfl,a4⟩;replace hA:=hA.ext a4;replace hx:=hx.trans a4;refine Sa ?_;refine Am (λa0=>?_) λa0=>?_
  ·refine Sa ?_;refine QW.body1 Tryz.results116 rfl ⟨by have a0:to≠A3:=(by simpa using a0);simp [Ar,A6,a0],hx⟩
  have a0:to=A3:=by simpa using a0
  refine Sa ?_;refine B6 (λhz=>?_) λhz=>?_
  ·refine Sa ?_;refine QW.body1 Tryz.results116 rfl ⟨by have hz:num=0:=(by simpa using hz);simp [Ar,Fb,A6,a1,a2,a0,hz],hx⟩
  have hz:num≠0:=by simpa using hz
  refine Sa ?_;refine QW.body1 Tryz.results116 rfl ⟨by simp [Ar,Fb,A6,a1,a2,a0,hz],hx⟩
 by_cases k2:kd=2
 ·subst k2;refine Sa ?_;refine B6 (λa3=>?_) λa3=>?_
  ·refine Sa ?_;refine QW.body1 Tryz.results116 rfl ⟨by have a3:num≠0:=(by simpa using a3);simp [Ar,A6,a3],hx⟩
  have a3:num=0:=by simpa using a3
  refine Sa ?_;refine LW.load_agg (cs:=AQ ref) rfl hA rfl rfl rfl ⟨rfl,rfl,rfl,rfl,rfl,trivial⟩ rfl ?_;refine Sa ?_;refine Ap rfl rfl (CH ref _) ?_;rintro v w2 ⟨rfl,a5⟩;replace hA:=hA.ext a5;replace hx:=hx.trans a5;refine Sa ?_;refine B6 (λa2=>?_) λa2=>?_
  ·refine Sa ?_;refine QW.body1 Tryz.results116 rfl ⟨by have a2:ref≠A3:=(by simpa using a2);simp [Ar,A6,a2],hx⟩
  have a2:ref=A3:=by simpa using a2
  refine Sa ?_;refine LW.load_agg (cs:=AQ to) rfl hA rfl rfl rfl ⟨rfl,rfl,rfl,rfl,rfl,trivial⟩ rfl ?_;refine Sa ?_;refine Ap rfl rfl (CH to _) ?_;rintro v w3 ⟨rfl,a4⟩;replace hA:=hA.ext a4;replace hx:=hx.trans a4;refine Sa ?_;refine Am (λa0=>?_) λa0=>?_
  ·refine Sa ?_;refine QW.body1 Tryz.results116 rfl ⟨by have a0:to≠A3:=(by simpa using a0);simp [Ar,A6,a0],hx⟩
  have a0:to=A3:=by simpa using a0
  refine Sa ?_;refine Ap rfl rfl (Nu text (by omega) _) ?_;rintro v w4 ⟨rfl,a6⟩;refine Sa ?_;refine QW.body1 Tryz.results116 rfl ⟨by simp [Ar,Fb,A6,a3,a2,a0],hx.trans a6⟩
 by_cases k7:kd=7
 ·subst k7;refine Sa ?_;refine B6 (λa3=>?_) λa3=>?_
  ·refine Sa ?_;refine QW.body1 Tryz.results116 rfl ⟨by have a3:num≠0:=(by simpa using a3);simp [Ar,A6,a3],hx⟩
  have a3:num=0:=by simpa using a3
  refine Sa ?_;refine LW.load_agg (cs:=AQ ref) rfl hA rfl rfl rfl ⟨rfl,rfl,rfl,rfl,rfl,trivial⟩ rfl ?_;refine Sa ?_;refine Ap rfl rfl (CH ref _) ?_;rintro v w2 ⟨rfl,a5⟩;replace hA:=hA.ext a5;replace hx:=hx.trans a5;refine Sa ?_;refine B6 (λa2=>?_) λa2=>?_
  ·refine Sa ?_;refine QW.body1 Tryz.results116 rfl ⟨by have a2:ref≠A3:=(by simpa using a2);simp [Ar,A6,a2],hx⟩
  have a2:ref=A3:=by simpa using a2
  refine Sa ?_;refine LW.load_agg (cs:=AQ to) rfl hA rfl rfl rfl ⟨rfl,rfl,rfl,rfl,rfl,trivial⟩ rfl ?_;refine Sa ?_;refine Ap rfl rfl (CH to _) ?_;rintro v w3 ⟨rfl,a4⟩;replace hA:=hA.ext a4;replace hx:=hx.trans a4;refine Sa ?_;refine Am (λa0=>?_) λa0=>?_
  ·refine Sa ?_;refine QW.body1 Tryz.results116 rfl ⟨by have a0:to≠A3:=(by simpa using a0);simp [Ar,A6,a0],hx⟩
  have a0:to=A3:=by simpa using a0
  refine Sa ?_;refine Ap rfl rfl (Hp text (by omega) _) ?_;rintro v w4 ⟨rfl,a6⟩;obtain ⟨x,aa⟩:=MQ text;rw [aa];replace hA:=hA.ext a6;have af:=(hx.trans a6).size;refine Sa ?_;refine BP λR w5 ag a7 hR=>?_;replace hA:=hA.ext a7;refine Sa ?_;refine AM λw6 a8 hR=>?_;replace hA:=hA.chg a8 (by have:=hA.lt;simp;intro h;subst h;exact absurd (hA.inj (by assumption)) (by decide));replace hx:=(hx.trans (a6.trans a7)).step a8 (by simp;omega);refine Sa ?_;refine Ap rfl rfl (HD text (by omega) _) ?_;rintro v w7 ⟨rfl,a9⟩;replace hA:=hA.ext a9;replace hx:=hx.trans a9;refine Sa ?_;refine B6 (λq1=>?_) λq1=>?_;rotate_left
  ·refine Sa ?_;refine QW.body1 Tryz.results116 rfl ⟨by simp [Ar,Fb,A6,Cu,q1],hx⟩
  have q1:JN text=true:=q1;refine Sa ?_;refine B6 (λq2=>?_) λq2=>?_;rotate_left
  ·refine Sa ?_;refine QW.body1 Tryz.results116 rfl ⟨by have q2:AZ text=true:=(by simpa using q2);simp [Ar,Fb,A6,Cu,q2],hx⟩
  have q2:AZ text=false:=by simpa using q2
  refine Sa ?_;refine B6 (λq3=>?_) λq3=>?_;rotate_left
  ·refine Sa ?_;refine QW.body1 Tryz.results116 rfl ⟨by have q3:text=CK:=(by simpa [CK] using q3);simp [Ar,Fb,A6,Cu,q3],hx⟩
  have q3:text≠CK:=by simpa [CK] using q3
  refine Sa ?_;refine QW.body1 Tryz.results116 rfl ⟨by by_cases h4:text=[70,65,76,83,69]<;>simp [Ar,Fb,A6,Cu,q1,q2,q3,a3,a2,a0,C4,h4],hx⟩
 by_cases k5:kd=5
 ·subst k5;refine Sa ?_;refine B6 (λa3=>?_) λa3=>?_
  ·refine Sa ?_;refine QW.body1 Tryz.results116 rfl ⟨by have a3:num≠0:=(by simpa using a3);simp [Ar,A6,a3],hx⟩
  have a3:num=0:=by simpa using a3
  refine Sa ?_;refine B6 (λa1=>?_) λa1=>?_
  ·refine Sa ?_;refine QW.body1 Tryz.results116 rfl ⟨by have a1:text≠[]:=(by simpa using a1);simp [Ar,A6,a1],hx⟩
  have a1:text=[]:=by simpa using a1
  refine Sa ?_;refine LW.load_agg (cs:=AQ to) rfl hA rfl rfl rfl ⟨rfl,rfl,rfl,rfl,rfl,trivial⟩ rfl ?_;refine Sa ?_;refine Ap rfl rfl (CH to _) ?_;rintro v w3 ⟨rfl,a4⟩;replace hA:=hA.ext a4;replace hx:=hx.trans a4;refine Sa ?_;refine Am (λa0=>?_) λa0=>?_
  ·refine Sa ?_;refine QW.body1 Tryz.results116 rfl ⟨by have a0:to≠A3:=(by simpa using a0);simp [Ar,A6,a0],hx⟩
  have a0:to=A3:=by simpa using a0
  refine Sa ?_;refine LW.load_agg (cs:=AQ ref) rfl hA rfl rfl rfl ⟨rfl,rfl,rfl,rfl,rfl,trivial⟩ rfl ?_;refine Sa ?_;refine Ap rfl rfl (EH ref (by omega) _) ?_;rintro v w4 ⟨rfl,a6⟩;refine Sa ?_;refine QW.body1 Tryz.results116 rfl ⟨by simp [Ar,Fb,A6,a3,a1,a0],hx.trans a6⟩
 by_cases k6:kd=6
 ·subst k6;refine Sa ?_;refine B6 (λa3=>?_) λa3=>?_
  ·refine Sa ?_;refine QW.body1 Tryz.results116 rfl ⟨by have a3:num≠0:=(by simpa using a3);simp [Ar,A6,a3],hx⟩
  have a3:num=0:=by simpa using a3
  refine Sa ?_;refine B6 (λa1=>?_) λa1=>?_
  ·refine Sa ?_;refine QW.body1 Tryz.results116 rfl ⟨by have a1:text≠[]:=(by simpa using a1);simp [Ar,A6,a1],hx⟩
  have a1:text=[]:=by simpa using a1
  refine Sa ?_;refine LW.load_agg (cs:=AQ ref) rfl hA rfl rfl rfl ⟨rfl,rfl,rfl,rfl,rfl,trivial⟩ rfl ?_;refine Sa ?_;refine Ap rfl rfl (EH ref (by omega) _) ?_;rintro v w4 ⟨rfl,a6⟩;replace hA:=hA.ext a6;replace hx:=hx.trans a6;refine Sa ?_;refine B6 (λm1=>?_) λm1=>?_;rotate_left
  ·refine Sa ?_;refine QW.body1 Tryz.results116 rfl ⟨by simp [Ar,Fb,A6,m1],hx⟩
  have m1:AP ref=true:=m1;refine Sa ?_;refine LW.load_agg (cs:=AQ to) rfl hA rfl rfl rfl ⟨rfl,rfl,rfl,rfl,rfl,trivial⟩ rfl ?_;refine Sa ?_;refine Ap rfl rfl (EH to (by omega) _) ?_;rintro v w5 ⟨rfl,a7⟩;replace hA:=hA.ext a7;replace hx:=hx.trans a7;refine Sa ?_;refine B6 (λm2=>?_) λm2=>?_;rotate_left
  ·refine Sa ?_;refine QW.body1 Tryz.results116 rfl ⟨by simp [Ar,Fb,A6,m1,m2],hx⟩
  have m2:AP to=true:=m2;refine Sa ?_;refine LW.load_agg (cs:=AQ ref) rfl hA rfl rfl rfl ⟨rfl,rfl,rfl,rfl,rfl,trivial⟩ rfl ?_;refine Sa ?_;refine LW.load_agg (cs:=AQ to) rfl hA rfl rfl rfl ⟨rfl,rfl,rfl,rfl,rfl,trivial⟩ rfl ?_;refine Sa ?_;refine Ap rfl rfl (QI ref to _) ?_;rintro v w6 ⟨rfl,ab⟩;refine Sa ?_;refine QW.body1 Tryz.results116 rfl ⟨by simp [Ar,Fb,A6,a3,a1,m1,m2],hx.trans ab⟩
 have hb:A6 ⟨kd,num,text,ref,to,kids⟩=⟨kd,num,text,ref,to,kids⟩:=by simp [A6,k1,k2,k3,k5,k6,k7]
 have ac:Fb ⟨kd,num,text,ref,to,kids⟩=true:=by simp [Fb,k1,k2,k3,k5,k6,k7]
 have ad:Ar ⟨kd,num,text,ref,to,kids⟩=(decide (num=0)&&(decide (text=[])&&(decide (ref=A3)&&decide (to=A3)))):=by rw [Ar,hb,ac,Bool.true_and]
 rw [ad];refine Sa ?_;refine LW.know (t:=8) (c:=true) rfl (by simp [k1]) ?_;refine Sa ?_;refine LW.know (t:=13) (c:=true) rfl (by simp [k3]) ?_;refine Sa ?_;refine B6 (λa3=>?_) λa3=>?_
 ·refine Sa ?_;refine QW.body1 Tryz.results116 rfl ⟨by have a3:num≠0:=(by simpa using a3);simp [a3],hx⟩
 have a3:num=0:=by simpa using a3
 refine Sa ?_;refine LW.know (t:=22) (c:=true) rfl (by simp [k2]) ?_;refine Sa ?_;refine LW.know (t:=27) (c:=true) rfl (by simp [k7]) ?_;refine Sa ?_;refine B6 (λa1=>?_) λa1=>?_
 ·refine Sa ?_;refine QW.body1 Tryz.results116 rfl ⟨by have a1:text≠[]:=(by simpa using a1);simp [a1],hx⟩
 have a1:text=[]:=by simpa using a1
 refine Sa ?_;refine LW.know (t:=37) (c:=true) rfl (by simp [k5]) ?_;refine Sa ?_;refine LW.know (t:=42) (c:=true) rfl (by simp [k6]) ?_;refine Sa ?_;refine LW.load_agg (cs:=AQ ref) rfl hA rfl rfl rfl ⟨rfl,rfl,rfl,rfl,rfl,trivial⟩ rfl ?_;refine Sa ?_;refine Ap rfl rfl (CH ref _) ?_;rintro v w2 ⟨rfl,a5⟩;replace hA:=hA.ext a5;replace hx:=hx.trans a5;refine Sa ?_;refine B6 (λa2=>?_) λa2=>?_
 ·refine Sa ?_;refine QW.body1 Tryz.results116 rfl ⟨by have a2:ref≠A3:=(by simpa using a2);simp [a2],hx⟩
 have a2:ref=A3:=by simpa using a2
 refine Sa ?_;refine LW.know (t:=53) (c:=true) rfl (by simp [k6]) ?_;refine Sa ?_;refine LW.load_agg (cs:=AQ to) rfl hA rfl rfl rfl ⟨rfl,rfl,rfl,rfl,rfl,trivial⟩ rfl ?_;refine Sa ?_;refine Ap rfl rfl (CH to _) ?_;rintro v w3 ⟨rfl,a4⟩;replace hA:=hA.ext a4;replace hx:=hx.trans a4;refine Sa ?_;refine Am (λa0=>?_) λa0=>?_
 ·refine Sa ?_;refine QW.body1 Tryz.results116 rfl ⟨by have a0:to≠A3:=(by simpa using a0);simp [a0],hx⟩
 have a0:to=A3:=by simpa using a0
 refine Sa ?_;refine CW.no rfl (decide_eq_false k1) ?_;refine Sa ?_;refine CW.no rfl (decide_eq_false k3) ?_;refine Sa ?_;refine CW.no rfl (decide_eq_false k2) ?_;refine Sa ?_;refine CW.no rfl (decide_eq_false k7) ?_;refine Sa ?_;refine CW.no rfl (decide_eq_false k5) ?_;refine Sa ?_;refine CW.no rfl (decide_eq_false k6) ?_;refine Sa ?_;refine QW.body1 Tryz.results116 rfl ⟨by simp [a3,a1,a2,a0],hx⟩
theorem Oa (l:List Ag) (v:Value) (w:World) (hN:BM w v l) (hs:JO l) (hkl:∀n∈l,n.kids.length≤1000000):AA Tryz.prog 80 [v] w (λv' w'=>v'=.bool (BL l)∧Ae w w'):=by
 obtain ⟨p,c,rfl⟩:=hN.slice;have hl:=hN.1;refine AL Tryz.func80 Tryz.ntmps80 ?_;refine Sa ?_;refine CW.loop (ι:=Nat×List Int×Option Addr×Nat) (λx w'=>x.1≤l.length∧x.2.1.length≤x.1∧Ae w w'∧Bn 0 [] l=Bn x.1 x.2.1 (l.drop x.1)∧Ax w' w.heap.size 3 1 (.slice x.2.2.1 x.2.1.length x.2.2.2) x.2.1.length (Ac x.2.1))
  (λx=>[(0,.slice p l.length c),(3,.slice x.2.2.1 x.2.1.length x.2.2.2),(4,.int .i64 x.1)]) (λx=>l.length - x.1) (0,[],none,0) ⟨by omega,by simp,Chg.refl _ _,rfl,Ax.nil _ _ _ _⟩ Bh ?_
 rintro ⟨i,st,sp,sc⟩ w1 ⟨hi,aj,hx,a4,ho⟩;dsimp only at hi aj a4 ho ⊢;replace hN:=hN.ext hx;refine Sa ?_;refine Am (λh1=>?_) λh1=>?_;rotate_left
 ·have h1:i=l.length:=by simp at h1;omega
  subst h1;refine Sa ?_;refine QW.body1 Tryz.results80 rfl ⟨?_,hx⟩;rw [List.drop_length] at a4;rw [BL,a4];have:decide ((st.length:Int)=1)=decide (st.length=1):=decide_eq_decide.mpr (by omega);exact congrArg Value.bool this
 have h1:i<l.length:=by simp at h1;omega
 obtain ⟨nd,ab⟩:∃nd,l[i]?=some nd:=⟨_,List.getElem?_eq_getElem h1⟩;obtain ⟨a,kp,kc,rfl,hk,a5⟩:=hN.at ab;have a6:=List.mem_of_getElem? ab;obtain ⟨ak,al,am⟩:=hs nd a6;have av:=hkl nd a6;refine Sa ?_;refine LW.idx_addr rfl rfl rfl rfl rfl (by omega) (by omega) rfl ?_;refine LW.load_cells (cs:=Br ⟨nd,.slice kp nd.kids.length kc⟩) rfl a5 rfl rfl rfl rfl ?_;refine BP λC w2 aw af hC=>?_;refine AM λw3 an hC=>?_;replace hC:Blk w3 C (Br ⟨nd,.slice kp nd.kids.length kc⟩) 139:=hC;refine Sa ?_;refine Ap rfl rfl (U1 nd.kind w3) ?_;rintro v w4 ⟨rfl,ag⟩;replace hC:=hC.ext ag;have ao:=hx.size;have ap:=af.size;have a1:Ae w1 w4:=(af.step an (by simp;omega)).trans ag;replace hk:=hk.ext a1;replace ho:=ho.ext a1;replace hx:=hx.trans a1;refine Sl ?_;apply LW.nil;apply QW.then_n;refine CW.seq_cut (ι:=Unit) (λ_ w'=>w'=w4) (λ_=>[(0,.slice (some a) l.length c),(3,.slice sp st.length sc),(4,.int .i64 i),(5,.pointer (some ⟨C,0,none⟩)),(6,.int .i64 (EQ nd))]) ?_ ?_
 ·refine Sa ?_;refine Am (λh2=>?_) λh2=>?_
  ·have h2:B7 nd.kind=-1:=by simpa using h2
   refine Sa ?_;exact QW.head () rfl (by have:EQ nd=nd.kids.length:=if_pos h2;rw [this];exact (Ad.cons rfl (Ad.cons rfl (Ad.cons rfl (Ad.cons rfl (Ad.cons rfl (Ad.nil)))))))
  ·have h2:¬B7 nd.kind=-1:=by simpa using h2
   refine Sa ?_;exact QW.head () rfl (by have:EQ nd=B7 nd.kind:=if_neg h2;rw [this];exact (Ad.cons rfl (Ad.cons rfl (Ad.cons rfl (Ad.cons rfl (Ad.cons rfl (Ad.nil)))))))
 rintro _ w5 rfl;have ax:=hk.1;have a0:l.drop i=nd::l.drop (i+1):=by rw [List.drop_eq_getElem_cons h1];congr 1;rw [List.getElem?_eq_getElem h1] at ab;exact Option.some.inj ab
 have a7:¬(EQ nd=nd.kids.length∧nd.kids.length≤st.length∧st.drop (st.length - nd.kids.length)=nd.kids∧Ar nd=true)→Bn i st (l.drop i)=none:=λh=>by rw [a0,Bn,CV,if_neg h]
 have a8:∀w',Ae w5 w'→¬(EQ nd=nd.kids.length∧nd.kids.length≤st.length∧st.drop (st.length - nd.kids.length)=nd.kids∧Ar nd=true)→(Value.bool false=.bool (BL l)∧Ae w w'):=λw' aq h=>⟨by rw [BL,a4,a7 h],hx.trans aq⟩;refine Sa ?_;refine B6 (λq0=>?_) λq0=>?_
 ·have q0:EQ nd<0:=by simpa using q0
  refine Sa ?_;exact QW.body1 Tryz.results80 rfl (a8 _ (Chg.refl _ _) (λh=>by have:=h.1;omega))
 have q0:0≤EQ nd:=by simpa using q0
 refine Sa ?_;refine B6 (λq1=>?_) λq1=>?_
 ·have q1:EQ nd≠nd.kids.length:=by simpa using q1
  refine Sa ?_;exact QW.body1 Tryz.results80 rfl (a8 _ (Chg.refl _ _) (λh=>q1 h.1))
 have n1:EQ nd=nd.kids.length:=by simpa using q1
 refine Sa ?_;refine B6 (λq2=>?_) λq2=>?_
 ·have q2:st.length<EQ nd:=by simpa using q2
  refine Sa ?_;exact QW.body1 Tryz.results80 rfl (a8 _ (Chg.refl _ _) (λh=>by have:=h.2.1;omega))
 have n2:nd.kids.length≤st.length:=by simp at q2;omega
 refine Sa ?_;refine Ap rfl rfl (UX nd kp nd.kids.length kc _ ak al am) ?_;rintro v w6 ⟨rfl,a2⟩;refine Sa ?_;refine Am (λq3=>?_) λq3=>?_
 ·have q3:Ar nd=false:=by simpa using q3
  refine Sa ?_;exact QW.body1 Tryz.results80 rfl (a8 _ a2 (λh=>by rw [q3] at h;exact absurd h.2.2.2 (by simp)))
 have n4:Ar nd=true:=by simpa using q3
 rw [n1];replace hC:=hC.ext a2;replace hk:=hk.ext a2;replace ho:=ho.ext a2;refine Sa ?_;refine CW.loop (ι:=Nat) (λj w'=>j≤nd.kids.length∧Ae w6 w'∧∀m,m<j→st.getD (st.length - nd.kids.length+m) 0=nd.kids.getD m 0) (λj=>[(0,.slice (some a) l.length c),(3,.slice sp st.length sc),(4,.int .i64 i),(5,.pointer (some ⟨C,0,none⟩)),(6,.int .i64 (nd.kids.length:Int)),(7,.int .i64 (j:Int))]) (λj=>nd.kids.length - j) 0 ⟨by omega,Chg.refl _ _,by omega⟩ BQ ?_;rintro j w7 ⟨hj,a3,a9⟩;replace hC:=hC.ext a3;replace hk:=hk.ext a3;replace ho:=ho.ext a3;refine Sa ?_;refine Am (λq4=>?_) λq4=>?_
 ·have q4:j<nd.kids.length:=by simp at q4;omega
  obtain ⟨ka,rfl,ar⟩:=hk.at q4;obtain ⟨sa,rfl,au⟩:∃sa,sp=some sa∧∀m u,(Ac st)[m]?=some u→w7.cell? (sa.add m)=some u:=by
   rcases Ax.cells ho (Nat.le_refl _) with ⟨_,e⟩ | ⟨sa,e,hh⟩
   ·omega
   ·rw [List.take_length] at hh;exact ⟨sa,e,hh⟩
  have ad:=au (st.length - nd.kids.length+j) (.int .i64 (st.getD (st.length - nd.kids.length+j) 0)) (GG (by simp [List.getD_eq_getElem?_getD,List.getElem?_eq_getElem (show st.length - nd.kids.length+j<st.length by omega)]));refine Sa ?_;refine Hk ?_;refine Sq ?_;refine QL.yields rfl rfl rfl (λw' hw=>Y.idx_addr rfl rfl rfl rfl rfl (by omega) (by omega)) ?_;refine QL.yields rfl rfl rfl (λw' hw=>Y.load_cell rfl (Aw hw (by rw [←ad];congr 2;show ((st.length:Int) - nd.kids.length+j).toNat*1=_;omega)) rfl rfl) ?_;refine Sq ?_;refine QL.yields rfl rfl rfl (λw' hw=>Y.idx_addr rfl rfl rfl rfl rfl (by omega) (by omega)) ?_;refine QL.yields rfl rfl rfl (λw' hw=>Y.load_cell rfl (Aw hw (by rw [←ar];congr 2;show (j:Int).toNat*1=_;omega)) rfl rfl) ?_;refine Sq ?_;refine QL.nil λw8 ah=>?_;refine Sa ?_;refine Am (λq5=>?_) λq5=>?_
  ·have q5:st.getD (st.length - nd.kids.length+j) 0≠nd.kids.getD j 0:=by simpa only [Bool.not_eq_true',decide_eq_false_iff_not] using q5
   refine Sa ?_;refine QW.body1 Tryz.results80 rfl (a8 _ ((a2.trans a3).trans ah) (λh=>q5 ?_));have h3:=h.2.2.1;rw [show nd.kids.getD j 0=(st.drop (st.length - nd.kids.length)).getD j 0 from by rw [h3]];simp [List.getD_eq_getElem?_getD,List.getElem?_drop]
  ·have q5:st.getD (st.length - nd.kids.length+j) 0=nd.kids.getD j 0:=by simpa only [Bool.not_eq_false',decide_eq_true_eq] using q5
   refine Sa ?_;refine QW.again (j+1) ⟨by omega,a3.trans ah,λm hm=>?_⟩ BQ (by omega);by_cases e:m=j
   ·subst e;exact q5
   ·exact a9 m (by omega)
 have q4:j=nd.kids.length:=by simp at q4;omega
 subst q4;have n3:st.drop (st.length - nd.kids.length)=nd.kids:=by
  apply List.ext_getElem
  ·simp;omega
  ·intro m h1 h2;have:=a9 m h2;rw [List.getElem_drop]
   simpa [List.getD_eq_getElem?_getD,List.getElem?_eq_getElem h2,List.getElem?_eq_getElem (show st.length - nd.kids.length+m<st.length by omega)] using this
 have ac:=(hx.trans a2).trans a3;refine Sa ?_;refine LW.slice_to (i:=st.length - nd.kids.length) rfl (by show some (Value.int .i64 _)=some (Value.int .i64 _);congr 2;omega) (by show some (Value.int .i64 _)=some (Value.int .i64 _);congr 2;omega) rfl rfl rfl ?_ rfl ?_
 ·have:=Ax.cap_ ho;omega
 refine Sa ?_;refine Cl λB w9 ay ai hB=>?_;replace ho:=ho.ext ai;replace ac:=ac.trans ai;refine LW.append_full (xs:=Ac (st.take (st.length - nd.kids.length))) (lo:=w.heap.size) rfl rfl rfl rfl rfl (by exact rfl) ?_ (Ax.cells ho (by omega)) ac.size hB (by exact rfl) (by exact rfl) (by exact rfl) ?_ rfl λv' az ae aa=>?_
 ·rw [A7,List.length_take];show _=(st.length - nd.kids.length)*1;omega
 ·show (st.length - nd.kids.length+1)*(8+1)≤_;omega
 refine Sa ?_;obtain ⟨p',c',rfl⟩:=aa.slice;have e1:Ac (st.take (st.length - nd.kids.length))++[.int .i64 (i:Int)]=Ac (st.take (st.length - nd.kids.length)++[(i:Int)]):=by simp [Ac]
 have e2:(st.take (st.length - nd.kids.length)++[(i:Int)]).length=st.length - nd.kids.length+1:=by simp [List.length_take]
 refine QW.again (i+1,st.take (st.length - nd.kids.length)++[(i:Int)],p',c') ⟨by omega,by rw [e2];omega,ac.trans ae,?_,?_⟩ ?_ (by omega)
 ·rw [a4,a0,Bn,CV,if_pos ⟨n1,n2,n3,n4⟩]
 ·dsimp only;rw [e2,←e1];exact aa
 ·dsimp only;rw [e2];exact Bh
theorem Ob (l:List Ag) (v:Value) (w:World) (hN:BM w v l) (hs:D5 l) (hkl:∀n∈l,n.kids.length≤1000000):AA Tryz.prog 80 [v] w (λv' w'=>v'=.bool (BL l)∧Ae w w'):=Oa l v w hN hs.t hkl
end Go.Proofs.YtefaigjfkddelaaGreatDoor
