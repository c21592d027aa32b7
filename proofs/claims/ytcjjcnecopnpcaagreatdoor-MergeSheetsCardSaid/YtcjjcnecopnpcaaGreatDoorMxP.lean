/-
  Joined by program out of the texts MgeR Mge1 Mge2 Mge3.
-/
import Derived.Test.YtcjjcnecopnpcaaGreatDoorMxM
import Derived.Test.YtcjjcnecopnpcaaGreatDoorMxI
import Derived.Test.YtcjjcnecopnpcaaGreatDoorMxK
import Derived.Test.YtcjjcnecopnpcaaGreatDoorMxO
import Derived.Test.YtcjjcnecopnpcaaGreatDoorMxH
import Derived.Test.YtcjjcnecopnpcaaGreatDoorMxL
namespace Go.Proofs.YtcjjcnecopnpcaaGreatDoor
open Tryz
open Go Go.E
def shR(w:World)(cs:List Value)(s:Bg):Prop:=∃rv cv,cs=J7 s rv cv∧AY w rv s.rows.to∧AY w cv s.cols.to
theorem N6{V:List Nat}{w:World}{s:Bg}{rv cv:Value}{lo:Nat}(h1:E.Own w lo 3 1 rv s.rows.to.length (Af s.rows.to))(h2:E.Own w lo 3 1 cv s.cols.to.length (Af s.cols.to))(hb1:s.rows.to.length≤1000000)(hb2:s.cols.to.length≤1000000)(n1:∀b∈Ac rv,b∉V)(n2:∀b∈Ac cv,b∉V):ET V w λw'=>shR w' (J7 s rv cv) s:=λw' x=>
 ⟨rv,cv,rfl,Own.ints (h1.chg x n1) rfl AdE,Own.ints (h2.chg x n2) rfl AdE⟩
def Sj(U:List Nat)(lo:Nat)(w:World)(v:Value)(l:List Bg):Prop:=Aq 6 lo 79 (λ_ w cs s=>ET U w λw'=>shR w' cs s) w v l
section
variable {U U' S:List Nat} {lo:Nat} {w w':World} {v v':Value} {l:List Bg}
theorem Sj.nil:Sj U lo w (.slice none 0 0) []:=Aq.nil
theorem Sj.slice(h:Sj U lo w v l):∃p c,v=.slice p l.length c:=Aq.slice h
theorem Sj.lt(h:Sj U lo w v l){b:Nat}(hb:b∈Ac v):lo≤b∧b<w.heap.size:=Aq.lt h hb
theorem Sj.step(h:Sj U lo w v l)(x:Chg U w w')(hs:∀b,b∈Ac v→w'.heap[b]?=w.heap[b]?)(hu:∀j,j∈U'→j∈U∨w.heap.size≤j):Sj U' lo w' v l:=by
 obtain⟨css,h1,h2,h3,h4⟩:=h;refine⟨css,h1,h2,?_,λi x' cs hi hc=>(h4 i x' cs hi hc).step x hu⟩;obtain⟨e0,e1 | ⟨g,cap,sp,rfl,hB,e1,e2,e3⟩⟩:=h3
 ·exact⟨e0,.inl e1⟩
 ·refine⟨e0,.inr ⟨g,cap,sp,rfl,?_,e1,e2,e3⟩⟩;have:=hs g Aet;unfold Blk at hB ⊢;rw[this];exact hB
theorem Sj.ext(h:Sj U lo w v l)(x:Ai w w'):Sj U lo w' v l:=h.step x.chg (λb hb=>x.block b (h.lt hb).2 AdM) λ_=>.inl
theorem Sj.list(h:Sj U lo w v l)(hl:l.length≤1000000):Cw w v l:=by
 obtain⟨h0,h1 | ⟨a,c,e,hk,hc⟩⟩:=Aq.list (ok:=λ_=>True) h hl (λ_ _ _=>trivial)
 ·exact⟨h0,.inl h1⟩
 ·refine⟨h0,.inr ⟨a,c,e,λi s hi=>?_⟩⟩;obtain⟨cs,_,hR,a0⟩:=hc i s hi;obtain⟨rv,cv,rfl,h3,h4⟩:=hR.now;exact⟨rv,cv,h3,h4,a0⟩
end
abbrev ptr(b:Nat):Value:=.pointer (some ⟨b,0,none⟩)
def KZ(S:Fin 3→Nat):Nat→Value
 | 0=>.pointer none
 | 1=>ptr (S 1)
 | _=>ptr (S 2)
def F9(S:Fin 3→Nat)(p:A1):List Value:=[Ao p.name,.int .i64 p.rows,.int .i64 p.cols,KZ S p.whole,.bool p.clash]
def Aaw(S:Fin 3→Nat)(lo:Nat)(w:World)(v:Value)(l:List A1):Prop:=Aq 5 lo 70 (λ_ _ cs p=>cs=F9 S p) w v l
def Bw(M:Nat)(S:Fin 3→Nat)(sv:Fin 3→Value)(out:Value):List Nat:=M::S 0::S 1::S 2::(Ac (sv 0)++Ac (sv 1)++Ac (sv 2)++Ac out)
theorem Kv{M:Nat}{S:Fin 3→Nat}{sv:Fin 3→Value}{out:Value}{i:Fin 3}{b:Nat}(h:b∈Ac (sv i)):b∈Bw M S sv out:=by
 match i with
 | 0=>simp[Bw,h]
 | 1=>simp[Bw,h]
 | 2=>simp[Bw,h]
theorem PU{M:Nat}{S:Fin 3→Nat}{sv:Fin 3→Value}{out:Value}(i:Fin 3):S i∈Bw M S sv out:=by
 match i with
 | 0=>simp[Bw]
 | 1=>simp[Bw]
 | 2=>simp[Bw]
theorem Hw{M:Nat}{S:Fin 3→Nat}{sv:Fin 3→Value}{out:Value}{b:Nat}(h:b∈Bw M S sv out):b=M∨(∃i,b=S i)∨(∃i,b∈Ac (sv i))∨b∈Ac out:=by
 simp only[Bw,AaT,Abf] at h;rcases h with h | h | h | h | ((h | h) | h) | h
 ·exact .inl h
 ·exact .inr (.inl ⟨0,h⟩)
 ·exact .inr (.inl ⟨1,h⟩)
 ·exact .inr (.inl ⟨2,h⟩)
 ·exact .inr (.inr (.inl ⟨0,h⟩))
 ·exact .inr (.inr (.inl ⟨1,h⟩))
 ·exact .inr (.inr (.inl ⟨2,h⟩))
 ·exact .inr (.inr (.inr h))
structure FN(K:World→Prop)(w0 w:World)(M:Nat)(S:Fin 3→Nat)(bk:Fin 3→An)(bv sv:Fin 3→Value)(out:Value)(l:Fin 3→List Bg)(ps:List A1):Prop where
 ext:Ai w0 w
 book:∀i,AA w0 (bv i) (bk i)
 top:Blk w M [ptr (S 0),ptr (S 1),ptr (S 2),out] 66
 topN:w0.heap.size≤M
 side:∀i,Blk w (S i) [bv i,sv i] 63
 sideN:∀i,w0.heap.size≤S i
 apart:∀i j,i≠j→S i≠S j
 own:∀i,Sj (Bw M S sv out) w0.heap.size w (sv i) (l i)
 made:Aaw S w0.heap.size w out ps
 disj:∀i j,i≠j→∀b∈Ac (sv i),b∉Ac (sv j)
 keep:ET (Bw M S sv out) w K
section
variable {K:World→Prop} {w0 w w':World} {M:Nat} {S:Fin 3→Nat} {bk:Fin 3→An} {bv sv:Fin 3→Value} {out:Value} {l:Fin 3→List Bg} {ps:List A1}
theorem FN.later(h:FN K w0 w M S bk bv sv out l ps)(x:Ai w w'):FN K w0 w' M S bk bv sv out l ps:=
 ⟨h.ext.trans x,h.book,h.top.ext x,h.topN,λi=>(h.side i).ext x,h.sideN,h.apart,λi=>(h.own i).ext x,Aq.ext' h.made x λ_ _ _ _ h=>h,h.disj,h.keep.ext x⟩
theorem FN.keeps{K':World→Prop}(h:FN K w0 w M S bk bv sv out l ps)(k:ET (Bw M S sv out) w K'):FN K' w0 w M S bk bv sv out l ps:={h with keep:=k}
theorem FN.lt(h:FN K w0 w M S bk bv sv out l ps):M<w.heap.size∧∀i,S i<w.heap.size:=⟨h.top.lt,λi=>(h.side i).lt⟩
theorem FN.used(h:FN K w0 w M S bk bv sv out l ps){b:Nat}(hb:b∈Bw M S sv out):w0.heap.size≤b∧b<w.heap.size:=by
 rcases Hw hb with rfl | ⟨i,rfl⟩ | ⟨i,hb⟩ | hb
 ·exact⟨h.topN,h.lt.1⟩
 ·exact⟨h.sideN i,h.lt.2 i⟩
 ·exact(h.own i).lt hb
 ·exact Aq.lt h.made hb
theorem FN.kinds(h:FN K w0 w M S bk bv sv out l ps):(∀i,S i≠M)∧(∀i,M∉Ac (sv i))∧(∀i j,S i∉Ac (sv j))∧M∉Ac out∧(∀i,S i∉Ac out)∧∀i,∀b∈Ac (sv i),b∉Ac out:=by
 have hs:∀i b,b∈Ac (sv i)→∃cs,Blk w b cs 79:=λi b hb=>by
  obtain⟨css,_,_,⟨_,⟨e,_⟩ | ⟨g,cap,sp,e,hB,_⟩⟩,_⟩:=h.own i
  ·rw[e] at hb;simp[Ac] at hb
  ·rw[e] at hb;simp[Ac] at hb;subst hb;exact⟨_,hB⟩
 have ho:∀b,b∈Ac out→∃cs,Blk w b cs 70:=λb hb=>by
  obtain⟨css,_,_,⟨_,⟨e,_⟩ | ⟨g,cap,sp,e,hB,_⟩⟩,_⟩:=h.made
  ·rw[e] at hb;simp[Ac] at hb
  ·rw[e] at hb;simp[Ac] at hb;subst hb;exact⟨_,hB⟩
 have a0:∀(b:Nat) (cs ds:List Value) (T T':TypeId),Blk w b cs T→Blk w b ds T'→T=T':=λb cs ds T T' h1 h2=>by
  unfold Blk at h1 h2;rw[h1] at h2;cases h2;rfl
 refine⟨λi e=>?_,λi hm=>?_,λi j hm=>?_,λhm=>?_,λi hm=>?_,λi b hb hm=>?_⟩
 ·have:=a0 _ _ _ _ _ (h.side i) (e ▸ h.top);cases this
 ·obtain⟨cs,hB⟩:=hs i _ hm;have:=a0 _ _ _ _ _ hB h.top;cases this
 ·obtain⟨cs,hB⟩:=hs j _ hm;have:=a0 _ _ _ _ _ hB (h.side i);cases this
 ·obtain⟨cs,hB⟩:=ho _ hm;have:=a0 _ _ _ _ _ hB h.top;cases this
 ·obtain⟨cs,hB⟩:=ho _ hm;have:=a0 _ _ _ _ _ hB (h.side i);cases this
 ·obtain⟨cs,hB⟩:=ho _ hm;obtain⟨ds,hD⟩:=hs i _ hb;have:=a0 _ _ _ _ _ hB hD;cases this
theorem FN.other{X:Nat}{cs:List Value}{T:TypeId}(h:FN K w0 w M S bk bv sv out l ps)(hX:Blk w X cs T)(h1:T≠66:=by decide)(h2:T≠63:=by decide)(h3:T≠79:=by decide)(h4:T≠70:=by decide):X∉Bw M S sv out:=λhm=>by
 have a0:∀{cs ds:List Value} {T T':TypeId},Blk w X cs T→Blk w X ds T'→T=T':=λh1 h2=>by
  unfold Blk at h1 h2;rw[h1] at h2;cases h2;rfl
 rcases Hw hm with rfl | ⟨i,rfl⟩ | ⟨i,hb⟩ | hb
 ·exact h1 (a0 hX h.top)
 ·exact h2 (a0 hX (h.side i))
 ·obtain⟨css,_,_,⟨_,⟨e,_⟩ | ⟨g,cap,sp,e,hB,_⟩⟩,_⟩:=h.own i
  ·rw[e] at hb;simp[Ac] at hb
  ·rw[e] at hb;simp[Ac] at hb;subst hb;exact h3 (a0 hX hB)
 ·obtain⟨css,_,_,⟨_,⟨e,_⟩ | ⟨g,cap,sp,e,hB,_⟩⟩,_⟩:=h.made
  ·rw[e] at hb;simp[Ac] at hb
  ·rw[e] at hb;simp[Ac] at hb;subst hb;exact h4 (a0 hX hB)
def Ky{α:Type}(f:Fin 3→α)(i:Fin 3)(x:α):Fin 3→α:=λj=>if j=i then x else f j
theorem GH{α:Type}(f:Fin 3→α)(i:Fin 3)(x:α):Ky f i x i=x:=if_pos rfl
theorem Im{α:Type}{f:Fin 3→α}{i j:Fin 3}{x:α}(h:j≠i):Ky f i x j=f j:=if_neg h
theorem FN.goes{i:Fin 3}{v':Value}{s:Bg}{cs:List Value}{w1:World}(h:FN K w0 w M S bk bv sv out l ps)(hc:Chg (S i::Ac (sv i)) w w1)(hlen:cs.length=6)
  (hB:Blk w1 (S i) [bv i,v'] 63) (hO:∀css:List (List Value),css.length=(l i).length→E.Own w w0.heap.size 79 6 (sv i) (l i).length css.flatten→E.Own w1 w0.heap.size 79 6 v' ((l i).length+1) (css.flatten++cs)) (hv:∀j,j∈Ac v'→j∈Ac (sv i)∨w.heap.size≤j)
  (hs:ET (Bw M S sv out) w λw'=>shR w' cs s):FN K w0 w1 M S bk bv (Ky sv i v') out (Ky l i (l i++[s])) ps:=by
 obtain⟨k1,k2,k3,k4,k5,k6⟩:=h.kinds;obtain⟨t1,t2⟩:=h.lt;have hU:Chg (Bw M S sv out) w w1:=hc.mono λb hb _=>by
  rcases AaT.1 hb with rfl | hb
  ·exact PU i
  ·exact Kv hb
 have hu:∀j,j∈Bw M S (Ky sv i v') out→j∈Bw M S sv out∨w.heap.size≤j:=λj hj=>by
  rcases Hw hj with rfl | ⟨k,rfl⟩ | ⟨k,hk⟩ | hk
  ·exact .inl (by simp[Bw])
  ·exact .inl (PU k)
  ·by_cases e:k=i
   ·subst e;rw[GH] at hk;rcases hv j hk with hk | hk
    ·exact .inl (Kv hk)
    ·exact .inr hk
   ·rw[Im e] at hk;exact .inl (Kv hk)
  ·exact .inl (by simp[Bw,hk])
 have a0:∀b,b<w.heap.size→b≠S i→b∉Ac (sv i)→w1.heap[b]?=w.heap[b]?:=λb hb h1 h2=>hc.block b hb (by simp[h1,h2]);have a2:∀b,b∈Ac out→b≠S i∧b∉Ac (sv i):=λb hb=>⟨λe=>k5 i (e ▸ hb),λhm=>k6 i b hm hb⟩;have a3:=h.ext.size;refine⟨h.ext.step hc λb hb=>?_,h.book,h.top.chg hc (by simp only[AaT,not_or];exact⟨λe=>k1 i e.symm,k2 i⟩),h.topN,λj=>?_,h.sideN,h.apart,λj=>?_,?_,λj k a1 b hb=>?_,h.keep.step hU hu⟩
 ·rcases AaT.1 hb with rfl | hb
  ·exact h.sideN i
  ·exact((h.own i).lt hb).1
 ·by_cases e:j=i
  ·subst e;rw[GH];exact hB
  ·rw[Im e];exact(h.side j).chg hc (by simp only[AaT,not_or];exact⟨h.apart j i e,k3 j i⟩)
 ·by_cases e:j=i
  ·subst e;rw[GH,GH];obtain⟨css,g1,g2,g3,g4⟩:=h.own j;refine Aq.snoc g1 g2 (hO css g1 g3) hlen (λi' y ds hy hd=>(g4 i' y ds hy hd).step hU hu) (hs.step hU hu)
  ·rw[Im e,Im e];exact(h.own j).step hU (λb hb=>a0 b ((h.own j).lt hb).2 (λe'=>k3 i j (e' ▸ hb)) (h.disj j i e b hb)) hu
 ·exact Aq.chg h.made hc (λb hb=>by simp only[AaT,not_or];exact a2 b hb) λ_ _ _ _ h=>h
 ·by_cases e1:j=i
  ·subst e1;rw[GH] at hb;rw[Im (λe=>a1 e.symm)];rcases hv b hb with hb | hb
   ·exact h.disj j k a1 b hb
   ·intro hm;have:=((h.own k).lt hm).2;omega
  ·rw[Im e1] at hb;by_cases e2:k=i
   ·subst e2;rw[GH];intro hm;rcases hv b hm with hm | hm
    ·exact h.disj j k a1 b hb hm
    ·have:=((h.own j).lt hb).2;omega
   ·rw[Im e2];exact h.disj j k a1 b hb
theorem FN.more{out':Value}{p:A1}{w1:World}(h:FN K w0 w M S bk bv sv out l ps)(hc:Chg (M::Ac out) w w1)
  (hB:Blk w1 M [ptr (S 0),ptr (S 1),ptr (S 2),out'] 66) (hO:∀css:List (List Value),css.length=ps.length→E.Own w w0.heap.size 70 5 out ps.length css.flatten→E.Own w1 w0.heap.size 70 5 out' (ps.length+1) (css.flatten++F9 S p)) (hv:∀j,j∈Ac out'→j∈Ac out∨w.heap.size≤j):FN K w0 w1 M S bk bv sv out' l (ps++[p]):=by
 obtain⟨k1,k2,k3,k4,k5,k6⟩:=h.kinds;have hU:Chg (Bw M S sv out) w w1:=hc.mono λb hb _=>by
  rcases AaT.1 hb with rfl | hb
  ·simp[Bw]
  ·simp[Bw,hb]
 have hu:∀j,j∈Bw M S sv out'→j∈Bw M S sv out∨w.heap.size≤j:=λj hj=>by
  rcases Hw hj with rfl | ⟨k,rfl⟩ | ⟨k,hk⟩ | hk
  ·exact .inl (by simp[Bw])
  ·exact .inl (PU k)
  ·exact .inl (Kv hk)
  ·rcases hv j hk with hk | hk
   ·exact .inl (by simp[Bw,hk])
   ·exact .inr hk
 refine⟨h.ext.step hc λb hb=>?_,h.book,hB,h.topN,λj=>(h.side j).chg hc (by simp only[AaT,not_or];exact⟨k1 j,k5 j⟩),h.sideN,h.apart,λj=>(h.own j).step hU (λb hb=>hc.block b ((h.own j).lt hb).2 (by simp only[AaT,not_or];exact⟨λe=>k2 j (e ▸ hb),k6 j b hb⟩)) hu,?_,h.disj,h.keep.step hU hu⟩
 ·rcases AaT.1 hb with rfl | hb
  ·exact h.topN
  ·exact(Aq.lt h.made hb).1
 ·obtain⟨css,g1,g2,g3,g4⟩:=h.made;exact Aq.snoc g1 g2 (hO css g1 g3) rfl (λi' y ds hy hd=>g4 i' y ds hy hd) rfl
end
theorem VC(n:Nat)(hn:n≤1000000)(w:World):AF prog 212 [.int .i64 (n:Int)] w (λv w'=>v=.int .i64 (n:Int)∧Ai w w'):=by
 refine Bj func212 ntmps212 ?_;refine Sa ?_;refine LW.min2 rfl rfl rfl ?_;rw[show(if (1048576:Int)<(n:Int) then(1048576:Int) else(n:Int))=(n:Int) by rw[if_neg AdE]];refine Sa ?_;refine LW.max2 rfl rfl rfl ?_;rw[show(if (0:Int)<(n:Int) then(n:Int) else 0)=(n:Int) by split<;>omega];refine Sa ?_;exact QW.body1 rfl rfl ⟨rfl,Chg.refl _ _⟩
theorem YT(i:Int)(w:World):AF prog 214 [.int .i64 i] w (λv w'=>v=.int .i64 i∧Ai w w'):=by
 refine Bj func214 ntmps214 ?_;refine Sa ?_;exact QW.body1 rfl rfl ⟨rfl,Chg.refl _ _⟩
theorem YF(n k:Nat)(h:k<n):(Af (DK k (λi=>(i:Int))++List.replicate (n - k) 0)).set k (.int .i64 (k:Int))=Af (DK (k+1) (λi=>(i:Int))++List.replicate (n - (k+1)) 0):=by
 rw[DG,Ach _ _ (by rw[B1];exact Abi _),B1,Acz,show n - k=(n - (k+1))+1 by omega,Acf,AcA,R4,AaR];rfl
set_option maxRecDepth 8000 in
theorem VA(n:Nat)(hn:n≤1000000)(w:World):AF prog 213 [.int .i64 (n:Int),.int .i64 (n:Int),.func (.func 214) ⟨[]⟩ ⟨[]⟩] w (λv w'=>ZK w w' v (B7 n)∧Ai w w'):=by
 refine Bj func213 ntmps213 ?_;refine Sa ?_;refine Bo λR w1 af a4 hR=>?_;have ag:=a4.size;have ah:=hR.lt;refine Sa ?_;refine LW.makeSlice (m:=n) rfl rfl rfl rfl rfl rfl rfl AdE rfl rfl ?_;intro T w2 ai a3 hT;have aj:=a3.size;have ak:=hT.lt;refine Sa ?_;refine Bo λX w3 al a5 hX=>?_;have am:=a5.size;have an:=hX.lt;refine Sa ?_;refine AD λw4 ac hX=>?_;replace hX:Blk w4 X [.slice (some ⟨T,0,none⟩) n n,.int .i64 (n:Int)] 77:=hX;have a0:Ai w2 w4:=a5.step ac AdG;replace hR:=(hR.ext a3).ext a0;replace hT:=hT.ext a0;have a1:Ai w w4:=(a4.trans a3).trans a0;have e0:List.replicate n (Value.int .i64 0)=Af (DK 0 (λi=>(i:Int))++List.replicate (n - 0) 0):=by simp[Af,DK]
 rw[e0] at hT;refine Sw ?_;refine CW.loop (ι:=Nat) (λk w'=>k≤n∧Chg [T] w4 w'∧Blk w' T (Af (DK k (λi=>(i:Int))++List.replicate (n - k) 0)) 3) (λk=>[(2,.func (.func 214) ⟨[]⟩ ⟨[]⟩),(6,.pointer (some ⟨R,0,none⟩)),(7,.pointer (some ⟨X,0,none⟩)),(13,.int .i64 (n:Int)),(14,.int .i64 (k:Int))]) (λk=>n - k) 0 ⟨by omega,Chg.refl _ _,hT⟩ Et ?_;rintro k w5 ⟨hk,a2,a8⟩;have ao:=hX.chg a2 AdG;have a9:=hR.chg a2 AdG;have ap:=a2.size;refine Sw ?_;refine A8 (λh1=>?_) λh1=>?_
 ·have h1:k<n:=by simp at h1;omega
  clear a1 a0 a4 a3 a5 hR hX hT;refine Sw ?_;refine CW.drawG (Ai w5) 6 (λw' h=>h) AdF λwa aq=>?_;refine AJ ?_;refine BE 5 λhS=>?_;refine LW.call (fs:=[]) (cs:=[]) rfl rfl rfl (YT (k:Int) _) ?_;rintro v w6 ⟨rfl,ad⟩;have hE:=hS.trans ad;clear hS;apply LW.nil;refine QW.headed hE ?_;refine AJ ?_;refine GW.tail rfl AdF (λhS=>?_);have a6:=a8.ext hE;refine Sw ?_;refine LW.store (i:=0+((k:Nat):Int).toNat*1) AdV rfl rfl a6 (AbD (by show _+1≤_;rw[A9,Aaq,B1,Acp];omega)) rfl rfl λw7 ae aa=>?_;rw[show 0+((k:Nat):Int).toNat*1=k by omega,YF n k h1] at aa;refine Sw ?_;exact QW.again (k+1) ⟨by omega,(Chg.trans (Chg.trans a2 hE) ae).mono λx hx _=>by simpa using hx,aa⟩ Et AdE
 have h1:k=n:=by simp at h1;omega
 subst h1;have a7:Ai w w5:=a1.step a2 AdG;refine Sw ?_;refine AD λw6 ab a9=>?_;refine Sw ?_;refine QW.body_c rfl rfl a9 rfl rfl rfl ⟨⟨_,rfl,?_⟩,a7.step ab AdG⟩;have a6:=a8.chg ab AdG;refine⟨by simp[Af,B7,DK],.inr ⟨T,k,[],by simp[B7,B1],by simpa[B7] using a6,by simp[B7,B1],by simp[B7,B1],by omega⟩⟩
theorem Oh(n:Nat)(hn:n≤1000000)(w:World):AF prog 164 [.int .i64 (n:Int)] w (λv w'=>ZK w w' v (B7 n)∧Ai w w'):=by
 refine Bj func164 ntmps164 ?_;refine Sa ?_;refine Bo λR w1 a5 a2 hR=>?_;have a6:=a2.size;have a7:=hR.lt;refine Sa ?_;refine Ay rfl rfl (VC n hn w1) ?_;rintro v w2 ⟨rfl,a0⟩;refine Sa ?_;refine Ay rfl rfl (VA n hn w2) ?_;rintro v w3 ⟨⟨tv,rfl,hO⟩,a1⟩;replace hR:=(hR.ext a0).ext a1;have a8:=a0.size;have a9:=a1.size;obtain⟨p,c,rfl⟩:=hO.slice;have a4:∀b∈Ac (Value.slice p (B7 n).to.length c),b≠R:=λb hb=>by have:=(hO.lt hb).1;omega
 refine Sa ?_;refine AD λw4 a3 hR=>?_;refine Sa ?_;exact QW.body_c rfl rfl hR rfl rfl rfl ⟨⟨_,rfl,(hO.chg a3 (λb hb hm=>a4 b hb Aer)).low AdE⟩,((a2.trans a0).trans a1).step a3 AdG⟩
theorem YB{w:World}{A i:Nat}{cs:List Value}{T:TypeId}{u:Value}(h:Blk w A cs T)(hc:cs[i]?=some u):∀j v,([u]:List Value)[j]?=some v→w.cell? ((⟨A,i,none⟩:Addr).add j)=some v:=λj v hj=>by
 cases j with
 | zero=>
  obtain rfl:=Abm hj;rw[Au]
  exact h.cell hc
 | succ j=>simp at hj
set_option maxRecDepth 8000 in
theorem OT(s:Ae)(q:Option Addr)(k:Nat)(h1:s.rows.length≤1000000)(h2:0≤s.cols)(h3:s.cols≤1000000)(w:World):AF prog 113 [.agg ⟨Am s (.slice q s.rows.length k)⟩] w (λv w'=>∃rv cv,v=.agg ⟨J7 {Aw s with sheet:=[]} rv cv⟩∧E.Own w' w.heap.size 3 1 rv (Aw s).rows.to.length (Af (Aw s).rows.to)∧E.Own w' w.heap.size 3 1 cv (Aw s).cols.to.length (Af (Aw s).cols.to)∧Ai w w'):=by
 have g:∀w,AF prog 164 [.int .i64 s.cols] w (λv w'=>ZK w w' v (B7 s.cols.toNat)∧Ai w w'):=λw=>by
  have:=Oh s.cols.toNat AdE w
  rwa [AbY h2] at this
 refine Bj func113 ntmps113 ?_;apply CW.seq;apply CW.region;refine Sl ?_;refine CM λA w1 a8 a6 hA=>?_;replace hA:Blk w1 A (Am s (.slice q s.rows.length k)) 46:=hA;refine Sl ?_;refine Bo λR w2 a9 a1 hR=>?_;replace hA:=hA.ext a1;have aa:=a6.size;have ab:=a1.size;have ac:=hR.lt;have a2:=a6.trans a1;refine Sw ?_;refine CW.drawG (Ai w2) 8 (λw' h=>h) AdF λwa ad=>?_;refine AJ ?_;refine BE 3 λhS=>?_;refine Ay rfl rfl (Oh s.rows.length h1 _) ?_;rintro v w3 ⟨⟨rv,rfl,a0⟩,a7⟩;obtain⟨p1,c1,rfl⟩:=a0.slice;have ae:=hS.size;have af:=a7.size;have hE:=hS.trans a7;clear hS;apply LW.nil;refine QW.headed hE ?_;refine AJ ?_;refine BE 6 λhS=>?_;refine Ay rfl rfl (g _) ?_;rintro v w4 ⟨⟨cv,rfl,a3⟩,a4⟩;obtain⟨p2,c2,rfl⟩:=a3.slice;have ag:=a4.size;replace a0:=a0.ext a4;have hE:=hE.trans a4;clear hS;apply LW.nil;refine QW.headed hE ?_;refine AJ ?_;refine GW.tail rfl AdF (λhS=>?_);replace hR:=hR.ext hE;have n1:∀b∈Ac (Value.slice p1 (B7 s.rows.length).to.length c1),b≠R:=λb hb=>by have:=(a0.lt hb).1;omega
 have n2:∀b∈Ac (Value.slice p2 (B7 s.cols.toNat).to.length c2),b≠R:=λb hb=>by have:=(a3.lt hb).1;omega
 refine Sw ?_;refine AD λw5 a5 hR=>?_;refine Sw ?_;exact QW.body_c rfl rfl hR rfl rfl rfl ⟨_,_,rfl,(a0.chg a5 (λb hb hm=>n1 b hb Aer)).low AdE,(a3.chg a5 (λb hb hm=>n2 b hb Aer)).low AdE,(a2.trans hE).step a5 AdG⟩
theorem Ht(b:An)(S:Nat)(bv sv:Value)(nm:List UInt8)(w0 w:World)(hS:Blk w S [bv,sv] 63)(h:AA w0 bv b)(hx:Ai w0 w):AF prog 46 [.pointer (some ⟨S,0,none⟩),Ao nm] w (λv w'=>((Bh b nm=none∧v=.tuple #[.agg ⟨[Ao [],.int .i64 0,.slice none 0 0]⟩,.bool false])∨∃s q k,Bh b nm=some s∧v=.tuple #[.agg ⟨Am s (.slice q s.rows.length k)⟩,.bool true]∧BA w0 (.slice q s.rows.length k) s.rows)∧Ai w w'):=by
 obtain⟨p,c,rfl⟩:=h.slice;refine Bj func46 ntmps46 ?_;refine Sa ?_;refine Bo λR w1 a6 a3 hR=>?_;have a7:=hR.lt;replace hS:=hS.ext a3;refine Sa ?_;refine LW.load_cells rfl (YB hS rfl) rfl rfl rfl rfl ?_;refine Sa ?_;refine Ay rfl rfl (WA b _ nm _ (Aa.ext h (hx.trans a3))) ?_;rintro v w2 ⟨rfl,a4⟩;replace hR:=hR.ext a4;replace hS:=hS.ext a4;have a8:=a3.size;have a9:=a4.size;have a0:=a3.trans a4
 cases hk:NG b nm with
 | none=>
  have e:Bh b nm=none:=by rw[Bh,hk];rfl
  refine Sa ?_;refine AD λw3 a5 hR=>?_;refine Sa ?_
  exact QW.body_ct rfl rfl hR rfl rfl rfl rfl ⟨.inl ⟨e,rfl⟩,a0.step a5 AdG⟩
 | some i=>
  obtain⟨s,hs,hn⟩:=Mr hk;have e:Bh b nm=some s:=by rw[Bh,hk];exact hs
  have aa:=(Abg.1 hs).1;obtain⟨a,q,k,rfl,-,ab,hr,a2⟩:=Aa.at h hs;have a1:∀j u,(Am s (.slice q s.rows.length k))[j]?=some u→w2.cell? ((a.add (((i:Nat):Int).toNat*3)).add j)=some u:=λj u hj=>A0 (hx.trans a0) (a2 j u hj);rw[show V0 (some i)=(i:Int) from rfl];refine Sa ?_;refine Lo ?_;refine LW.load_cells rfl a1 rfl rfl rfl rfl ?_;refine Sa ?_;refine AD λw3 a5 hR=>?_;refine Sa ?_;exact QW.body_ct rfl rfl hR rfl rfl rfl rfl ⟨.inr ⟨s,q,k,e,rfl,hr⟩,a0.step a5 AdG⟩
theorem Hu(b:An)(S:Nat)(bv sv:Value)(nm:List UInt8)(w0 w:World)(hS:Blk w S [bv,sv] 63)(h:AA w0 bv b)(hx:Ai w0 w):AF prog 46 [.pointer (some ⟨S,0,none⟩),Ao nm] w (λv w'=>(∃n1 z1 p1 m1 k1,v=.tuple #[.agg ⟨[Ao n1,.int .i64 z1,.slice p1 m1 k1]⟩,.bool (Bh b nm).isSome]∧∀s,Bh b nm=some s→n1=s.name∧z1=s.cols∧m1=s.rows.length∧BA w0 (.slice p1 m1 k1) s.rows)∧Ai w w'):=
 (Ht b S bv sv nm w0 w hS h hx).mono λv w' ⟨hv,hx'⟩=>⟨by
  rcases hv with ⟨e,rfl⟩ | ⟨s,q,k,e,rfl,hr⟩
  ·rw[e];exact⟨_,_,_,_,_,rfl,λs h=>by cases h⟩
  ·rw[e];exact⟨_,_,_,_,_,rfl,λs' h=>by
    obtain rfl:=Abm h;exact⟨rfl,rfl,rfl,hr⟩⟩,hx'⟩
theorem Nc{w:World}{lo e size n:Nat}{v:Value}{xs ys:List Value}(h:E.Own w lo e size v n xs)(k:E.Own w lo e size v n ys):xs=ys:=by
 obtain⟨h0,⟨h1,h2⟩ | ⟨g,cap,sp,h1,hB,_⟩⟩:=h
 ·obtain⟨k0,_⟩:=k;subst h2;rw[Abt (l:=xs) AdE,Abt (l:=ys) AdE]
 ·obtain⟨k0,⟨k1,k2⟩ | ⟨g',cap',sp',k1,kB,_⟩⟩:=k
  ·rw[h1] at k1;cases k1
  ·rw[h1] at k1;cases k1;unfold Blk at hB kB;rw[hB] at kB;simp only[Aar,Obj.cells.injEq,Array.mk.injEq] at kB;exact(List.append_inj kB.1 AdE).1
section
variable {K:World→Prop} {w0 w:World} {M:Nat} {S:Fin 3→Nat} {bk:Fin 3→An} {bv sv:Fin 3→Value} {out:Value} {l:Fin 3→List Bg} {ps:List A1}
set_option maxRecDepth 8000 in
set_option maxHeartbeats 2000000 in
theorem F5(h:FN K w0 w M S bk bv sv out l ps)(i:Fin 3)(nm:List UInt8)(x:Bg)(rv cv:Value)(hl:(l i).length≤1000)(hs:ET (Bw M S sv out) w λw'=>shR w' (J7 {x with sheet:=nm} rv cv) {x with sheet:=nm}) :
  AF prog 74 [.pointer (some ⟨S i,0,none⟩),Ao nm,.agg ⟨J7 x rv cv⟩] w (λv w'=>v=.tuple #[]∧Chg (Bw M S sv out) w w'∧∃sv',FN K w0 w' M S bk bv sv' out (Ky l i (l i++if (Bh (bk i) nm).isSome=true then[{x with sheet:=nm}] else[])) ps):=by
 have hS:=h.side i;obtain⟨p1,c1,p2,c2,rfl,rfl⟩:∃p1 c1 p2 c2,rv=.slice p1 x.rows.to.length c1∧cv=.slice p2 x.cols.to.length c2:=by
  obtain⟨rv',cv',e,i1,i2⟩:=hs.now;obtain⟨p1,c1,rfl⟩:=i1.slice;obtain⟨p2,c2,rfl⟩:=i2.slice;simp only[J7,Acu,true_and] at e;exact⟨p1,c1,p2,c2,e.1,e.2.1⟩
 obtain⟨p,c,esv⟩:=(h.own i).slice;have al:=h.ext.size;have am:=h.sideN i;refine Bj func74 ntmps74 ?_;refine Sa ?_;refine CM λX w1 an a1 hX=>?_;replace hX:Blk w1 X (J7 x (.slice p1 x.rows.to.length c1) (.slice p2 x.cols.to.length c2)) 79:=hX;have ao:=hX.lt;have ap:=a1.size;refine Sa ?_;refine Ay rfl rfl (Ht (bk i) (S i) (bv i) _ nm w0 w1 (hS.ext a1) (h.book i) (h.ext.trans a1)) ?_;rintro v w2 ⟨hv,a3⟩;replace hX:=hX.ext a3;have aq:=a3.size;rcases hv with ⟨e,rfl⟩ | ⟨s,q,k,e,rfl,-⟩
 ·refine Sa ?_;refine Bo λH w3 ah a0 hH=>?_;have ai:=a0.size;refine Sa ?_;refine AD λw4 a2 hH=>?_;have a4:Ai w w4:=((a1.trans a3).trans a0).step a2 AdG;refine Sa ?_;refine QW.body_n (rs:=[]) (vs:=[]) results74 trivial rfl ⟨rfl,a4.chg,sv,?_⟩;have e2:Ky l i (l i++if (Bh (bk i) nm).isSome=true then[{x with sheet:=nm}] else[])=l:=by
   funext j
   unfold Ky
   split
   ·rename_i ej;rw[e,ej];simp
   ·rfl
  rw[e2];exact h.later a4
 ·refine Sa ?_;refine Bo λH w3 ah a0 hH=>?_;have ai:=a0.size;refine Sa ?_;refine AD λw4 a2 hH=>?_;have a8:=(hX.ext a0).chg a2 AdG;have a4:Ai w w4:=((a1.trans a3).trans a0).step a2 AdG;have ar:=a2.size;refine Sa ?_;refine CR λw5 a9 a8=>?_;replace a8:Blk w5 X (J7 {x with sheet:=nm} (.slice p1 x.rows.to.length c1) (.slice p2 x.cols.to.length c2)) 79:=a8;have au:=a9.size;have aa:Ai w w5:=a4.step a9 AdG;have aj:=hS.ext aa;obtain⟨-,-,k3,-⟩:=h.kinds;have nS:S i∉Ac (sv i):=k3 i i;have nX:X∉Ac (sv i):=λhm=>by have:=((h.own i).lt hm).2;omega
  obtain⟨css,g1,g2,g3,g4⟩:=h.own i;clear hX a1 a3 a0 a2 a9 a4 hH g2 g4;refine Sa ?_;refine CW.drawG (Chg (Ac (sv i)) w5) 8 (λw' h=>h.chg) AdF λwa a6=>?_;refine Sg ?_;refine AJ ?_;refine Sg ?_;refine BE 6 λhS=>?_;refine Dt λD w6 av a5 hD=>?_;replace hD:Blk w6 D (J7 {x with sheet:=nm} (.slice p1 x.rows.to.length c1) (.slice p2 x.cols.to.length c2)) 79:=hD;have aw:=a5.size;have ax:=a6.size;have hE:=hS.ext a5;apply LW.nil;refine QW.headed hE ?_;refine BE 7 λhS=>?_;refine LW.append (lo:=w0.heap.size) (k:=(l i).length) rfl rfl rfl rfl rfl rfl (((g3.ext aa).ext a6).ext a5) AdE hD rfl rfl rfl (by show(_+1)*89≤_;omega) rfl ?_;intro v7 w7 ab ac ad;have hE:=hE.same ab;apply LW.nil;refine QW.headed hE ?_;refine AJ ?_;refine GW.tail rfl AdF (λhS=>?_);have a7:=(aj.ext (a6.trans a5)).chg ab nS;obtain⟨p7,c7,rfl⟩:=ac.slice;refine Sw ?_;refine CR λw8 ae a7=>?_;replace a7:Blk w8 (S i) [bv i,.slice p7 ((l i).length+1) c7] 63:=a7;have nS7:S i∉Ac (Value.slice p7 ((l i).length+1) c7):=λhm=>by
   rcases ad _ hm with hm | hm
   ·exact nS hm
   ·have:=(h.side i).lt;omega
  refine Sw ?_;have af:Ai w w6:=(aa.trans a6).trans a5;have ay:=af.size;have ag:Chg (S i::Ac (sv i)) w w8:=(Chg.trans (Chg.trans af ab) ae).mono λb hb _=>by
   simp only[Ab5,Abf,Aad] at hb;rcases hb with hb | rfl
   ·exact Abj _ hb
   ·exact Abo ..
  refine QW.body_n (rs:=[]) (vs:=[]) results74 trivial rfl ⟨rfl,ag.mono λb hb _=>by
   rcases AaT.1 hb with rfl | hb
   ·exact PU i
   ·exact Kv hb,Ky sv i (.slice p7 ((l i).length+1) c7),?_⟩
  rw[if_pos (by rw[e];rfl)];refine h.goes (w1:=w8) (cs:=J7 {x with sheet:=nm} (.slice p1 x.rows.to.length c1) (.slice p2 x.cols.to.length c2)) ag rfl a7 (λcss' _ ak=>?_) (λj hj=>?_) hs
  ·rw[Nc ak g3];exact ac.chg ae λb hb hm=>nS7 (by simp only[Aad] at hm;exact hm ▸ hb)
  ·rcases ad j hj with hj | hj
   ·exact .inl hj
   ·exact .inr AdE
theorem G4{s:Ae}(h:A7 s=true):s.rows.length≤1000000∧0≤s.cols∧s.cols≤1000000:=by
 obtain⟨_,h2,h3,h4,_⟩:=AZ.1 h;omega
theorem OD(h:FN K w0 w M S bk bv sv out l ps)(i:Fin 3)(hm:Av (bk i)=true)(t:Ae)(ht:A7 t=true)(q:Option Addr)(k:Nat) :
  AF prog 75 [.pointer (some ⟨M,0,none⟩),.pointer (some ⟨S i,0,none⟩),.agg ⟨Am t (.slice q t.rows.length k)⟩] w (λv w'=>∃rv cv,v=.agg ⟨J7 {Aw ((Bh (bk i) t.name).getD t) with sheet:=[]} rv cv⟩∧E.Own w' w.heap.size 3 1 rv (Aw ((Bh (bk i) t.name).getD t)).rows.to.length (Af (Aw ((Bh (bk i) t.name).getD t)).rows.to)∧E.Own w' w.heap.size 3 1 cv (Aw ((Bh (bk i) t.name).getD t)).cols.to.length (Af (Aw ((Bh (bk i) t.name).getD t)).cols.to)∧Ai w w'):=by
 have hS:=h.side i;obtain⟨t1,t2,t3⟩:=G4 ht;refine Bj func75 ntmps75 ?_;refine Sa ?_;refine CM λX w1 af ab hX=>?_;replace hX:Blk w1 X (Am t (.slice q t.rows.length k)) 46:=hX;have ag:=hX.lt;have ah:=ab.size;refine Sa ?_;refine Bo λR w2 ai a9 hR=>?_;replace hX:=hX.ext a9;have aj:=a9.size;have ak:=hR.lt;have a3:=ab.trans a9;refine Sa ?_;refine Ay rfl rfl (Ht (bk i) (S i) (bv i) _ t.name w0 w2 (hS.ext a3) (h.book i) (h.ext.trans a3)) ?_;rintro v w3 ⟨hv,a8⟩;replace hX:=hX.ext a8;replace hR:=hR.ext a8;have al:=a8.size;have a5:=a3.trans a8;rcases hv with ⟨e,rfl⟩ | ⟨s,q',k',e,rfl,-⟩
 ·rw[e];refine Sa ?_;refine Bo λH w4 ac a1 hH=>?_;have ad:=a1.size;refine Sa ?_;refine AD λw5 a2 hH=>?_;have am:=(hX.ext a1).chg a2 AdG;have a0:=(hR.ext a1).chg a2 AdG;have a6:Ai w w5:=(a5.trans a1).step a2 AdG;have ae:=a6.size;refine Sa ?_;refine Ay rfl rfl (OT t q k t1 t2 t3 _) ?_;rintro v w6 ⟨rv,cv,rfl,o1,o2,a7⟩;obtain⟨p1,c1,rfl⟩:=o1.slice;obtain⟨p2,c2,rfl⟩:=o2.slice;replace a0:=a0.ext a7;have aa:=a2.size;have n1:∀b∈Ac (Value.slice p1 (Aw t).rows.to.length c1),b≠R:=λb hb=>by have:=(o1.lt hb).1;omega
  have n2:∀b∈Ac (Value.slice p2 (Aw t).cols.to.length c2),b≠R:=λb hb=>by have:=(o2.lt hb).1;omega
  refine Sa ?_;refine AD λw7 a4 a0=>?_;refine Sa ?_;exact QW.body_c rfl rfl a0 rfl rfl rfl ⟨_,_,rfl,(o1.chg a4 (λb hb hm=>n1 b hb Aer)).low AdE,(o2.chg a4 (λb hb hm=>n2 b hb Aer)).low AdE,(a6.trans a7).step a4 AdG⟩
 ·rw[e];obtain⟨s1,s2,s3⟩:=G4 (B9 hm e).1;refine Sa ?_;refine Bo λH w4 ac a1 hH=>?_;have ad:=a1.size;refine Sa ?_;refine AD λw5 a2 hH=>?_;replace hH:Blk w5 H (Am s (.slice q' s.rows.length k')) 46:=hH;have a0:=(hR.ext a1).chg a2 AdG;have a6:Ai w w5:=(a5.trans a1).step a2 AdG;have ae:=a6.size;refine Sa ?_;refine Ay rfl rfl (OT s q' k' s1 s2 s3 _) ?_;rintro v w6 ⟨rv,cv,rfl,o1,o2,a7⟩;obtain⟨p1,c1,rfl⟩:=o1.slice;obtain⟨p2,c2,rfl⟩:=o2.slice;replace a0:=a0.ext a7;have aa:=a2.size;have n1:∀b∈Ac (Value.slice p1 (Aw s).rows.to.length c1),b≠R:=λb hb=>by have:=(o1.lt hb).1;omega
  have n2:∀b∈Ac (Value.slice p2 (Aw s).cols.to.length c2),b≠R:=λb hb=>by have:=(o2.lt hb).1;omega
  refine Sa ?_;refine AD λw7 a4 a0=>?_;refine Sa ?_;exact QW.body_c rfl rfl a0 rfl rfl rfl ⟨_,_,rfl,(o1.chg a4 (λb hb hm=>n1 b hb Aer)).low AdE,(o2.chg a4 (λb hb hm=>n2 b hb Aer)).low AdE,(a6.trans a7).step a4 AdG⟩
end
theorem Fv{s:Ae}(h:A7 s=true):Dk s:=by
 obtain⟨_,h2,h3,h4,h5⟩:=AZ.1 h;exact⟨by omega,⟨h2,by omega⟩,λr hr=>(h5 r hr).1,λr hr t ht=>by have:=FA ((h5 r hr).2 t ht);omega⟩
theorem Wu{s:Ae}{nm:List UInt8}(h:s.name=nm):({({Aw s with sheet:=[]}:Bg) with sheet:=nm}:Bg)=Aw s:=by
 subst h;rfl
theorem TI{s t:Ae}{nm:List UInt8}(h:s.name=nm):({Ag s t with sheet:=nm}:Bg)=Ag s t:=by
 subst h;rfl
def EQ(b:An)(nm:List UInt8):List Bg:=match Bh b nm with
 | some u=>[Aw u]
 | none=>[]
def Tx(b:An)(nm:List UInt8)(t:Ae):List Bg:=match Bh b nm with
 | some u=>[Ag u t]
 | none=>[]
def NF(bk:Fin 3→An)(l:Fin 3→List Bg)(t:Ae):Fin 3→List Bg
 | 0=>l 0++Tx (bk 0) t.name t
 | 1=>l 1++EQ (bk 1) t.name
 | 2=>l 2++EQ (bk 2) t.name
section
variable {K:World→Prop} {w0 w:World} {M:Nat} {S:Fin 3→Nat} {bk:Fin 3→An} {bv sv:Fin 3→Value} {out:Value} {l:Fin 3→List Bg} {ps:List A1}
theorem FN.far(h:FN K w0 w M S bk bv sv out l ps){v:Value}(hv:∀b∈Ac v,w.heap.size≤b):∀b∈Ac v,b∉Bw M S sv out:=λb hb hm=>by
 have:=hv b hb;have:=(h.used hm).2;omega
theorem Wt{s:Ae}(h:A7 s=true):(Aw s).rows.to.length≤1000000∧(Aw s).cols.to.length≤1000000:=by
 obtain⟨_,h2,h3,h4,_⟩:=AZ.1 h;simp only[Aw,B7,B1];omega
theorem FN.stays{rv cv:Value}{w1:World}(h:FN K w0 w M S bk bv sv out l ps)(_x:Ai w w1){s:Ae}{nm:List UInt8}(hs:A7 s=true)
  (o1:E.Own w1 w.heap.size 3 1 rv (Aw s).rows.to.length (Af (Aw s).rows.to)) (o2:E.Own w1 w.heap.size 3 1 cv (Aw s).cols.to.length (Af (Aw s).cols.to)) :
  ET (Bw M S sv out) w1 λw'=>shR w' (J7 {({Aw s with sheet:=[]}:Bg) with sheet:=nm} rv cv) {({Aw s with sheet:=[]}:Bg) with sheet:=nm}:=by
 obtain⟨b1,b2⟩:=Wt hs;exact N6 (s:={({Aw s with sheet:=[]}:Bg) with sheet:=nm}) o1 o2 b1 b2 (h.far λb hb=>(o1.lt hb).1) (h.far λb hb=>(o2.lt hb).1)
set_option maxRecDepth 8000 in
set_option maxHeartbeats 4000000 in
theorem E0(h:FN K w0 w M S bk bv sv out l ps)(hm:∀i,Av (bk i)=true)(t:Ae)(ht:A7 t=true)(q:Option Addr)(k wh:Nat)(cl:Bool)(P:A1)(hP:P.name=t.name∧P.rows=t.rows.length∧P.cols=t.cols∧P.whole=wh∧P.clash=cl)(hr:BA w0 (.slice q t.rows.length k) t.rows)(hl:∀i,(l i).length≤900)(hp:ps.length≤900) :
  AF prog 50 [.pointer (some ⟨M,0,none⟩),KZ S wh,.agg ⟨Am t (.slice q t.rows.length k)⟩,.bool cl] w (λv w'=>v=.tuple #[]∧∃sv' out',FN K w0 w' M S bk bv sv' out' (NF bk l t) (ps++[P])):=by
 have hM:=h.top;have az:=h.ext.size;obtain⟨e1,e2,e3,e4,e5⟩:=hP;obtain⟨po,co,eo⟩:∃po co,out=.slice po ps.length co:=Aq.slice h.made;have ewv:∃pp,KZ S wh=.pointer pp:=by
  match wh with
  | 0=>exact⟨_,rfl⟩
  | 1=>exact⟨_,rfl⟩
  | _+2=>exact⟨_,rfl⟩
 obtain⟨pp,ewv⟩:=ewv;have emL:F9 S P=[Ao t.name,.int .i64 t.rows.length,.int .i64 t.cols,.pointer pp,.bool cl]:=by rw[F9,e1,e2,e3,e4,e5,ewv]
 rw[ewv];refine Bj func50 ntmps50 ?_;refine Sa ?_;refine CM λX w1 bd a7 hX=>?_;replace hX:Blk w1 X (Am t (.slice q t.rows.length k)) 46:=hX;have be:=hX.lt;have bf:=a7.size;have ap:=hM.ext a7;obtain⟨k1,k2,k3,k4,k5,k6⟩:=h.kinds;have nX:X∉Ac out:=λhm'=>by have:=(Aq.lt h.made hm').2;omega
 obtain⟨css,g1,g2,g3,g4⟩:=h.made;refine Sa ?_;refine CW.drawG (Chg (Ac out) w1) 17 (λw' h=>h.chg) AdF λwa a1=>?_;refine Sg ?_;refine AJ ?_;refine Sg ?_;refine AJ ?_;refine BE 15 λhS=>?_;refine Dt λD w2 bg a2 hD=>?_;have bh:=a2.size;have bi:=a1.size;replace hD:Blk w2 D (F9 S P) 70:=by rw[emL];exact hD
 have hE:=hS.ext a2;apply LW.nil;refine QW.headed hE ?_;refine BE 16 λhS=>?_;refine LW.append (lo:=w0.heap.size) (k:=ps.length) rfl rfl rfl rfl rfl rfl (((g3.ext a7).ext a1).ext a2) AdE hD rfl (by rw[emL];rfl) rfl (by show(_+1)*49≤_;omega) rfl ?_;intro v3 w3 a8 ae aq;have hE:=hE.same a8;apply LW.nil;refine QW.headed hE ?_;refine AJ ?_;refine GW.tail rfl AdF (λhS=>?_);have a9:=((ap.ext a1).ext a2).chg a8 k4;obtain⟨p3,c3,rfl⟩:=ae.slice;refine Sw ?_;refine CR λw4 ab a9=>?_;replace a9:Blk w4 M [ptr (S 0),ptr (S 1),ptr (S 2),.slice p3 (ps.length+1) c3] 66:=a9;have nM3:M∉Ac (Value.slice p3 (ps.length+1) c3):=λhm'=>by
  rcases aq _ hm' with hm' | hm'
  ·exact k4 hm'
  ·have:=h.lt.1;omega
 have a3:=(a7.trans a1).trans a2;have b0:=a3.size;have hH:=h.more (w1:=w4) (p:=P) ((Chg.trans (Chg.trans a3 a8) ab).mono λb hb _=>by
   simp only[Ab5,Abf,Aad] at hb;rcases hb with hb | rfl
   ·exact Abj _ hb
   ·exact Abo ..) a9 (λcss' _ b3=>by
   rw[Nc b3 g3];exact ae.chg ab λb hb hm'=>nM3 (by simp only[Aad] at hm';exact hm' ▸ hb)) λj hj=>by
   rcases aq j hj with hj | hj
   ·exact .inl hj
   ·exact .inr AdE
 have ar:Blk w4 X (Am t (.slice q t.rows.length k)) 46:=(((hX.ext a1).ext a2).chg a8 nX).chg ab (by have:=h.lt.1;simp;omega);clear hX a7 a1 a2 a8 ab hD ae hE hM ap a9 g1 g2 g3 g4 hS a3;have hM:=hH.top;have b4:=hH.side 1;have af:=hH.side 2;have ag:=hH.side 0;have got:∀i,A7 ((Bh (bk i) t.name).getD t)=true:=λi=>by
  cases e:Bh (bk i) t.name with
  | none=>exact ht
  | some u=>exact(B9 (hm i) e).1
 have eget:∀(i:Fin 3) (L:List Bg),(L++if (Bh (bk i) t.name).isSome=true then[{({Aw ((Bh (bk i) t.name).getD t) with sheet:=[]}:Bg) with sheet:=t.name}] else[])=L++EQ (bk i) t.name:=λi L=>by
  unfold EQ
  cases e:Bh (bk i) t.name with
  | none=>rfl
  | some u=>
   show L++[({({Aw u with sheet:=[]}:Bg) with sheet:=t.name}:Bg)]=L++[Aw u];rw[Wu (BD e).1]
 refine Sw ?_;refine CW.drawG (Ai w4) 13 (λw' h=>h) AdF λwa a1=>?_;refine AJ ?_;refine BE 12 λhS=>?_;refine Ay rfl rfl (OD (hH.later hS) 1 (hm 1) t ht q k) ?_;rintro v w5 ⟨rv,cv,rfl,o1,o2,a4⟩;obtain⟨p1,c1,rfl⟩:=o1.slice;obtain⟨p2,c2,rfl⟩:=o2.slice;have ac:=hH.later hS;have ah:=(ar.ext hS).ext a4;have hE:=hS.trans a4;clear hS;apply LW.nil;refine QW.headed hE ?_;refine GW.tail rfl AdF (λhS=>?_);refine Ay rfl rfl (F5 (ac.later a4) 1 t.name _ _ _ (by have:=hl 1;omega) (ac.stays a4 (got 1) o1 o2)) ?_;rintro v w6 ⟨rfl,au,sv',hK⟩;rw[eget] at hK;have av:=ah.chg au ((ac.later a4).other ah);clear ar ah ag b4 af hM a4 hE hS ac o1 o2 au;have hM:=hK.top;have af:=hK.side 2;refine Sw ?_;refine CW.drawG (Ai w6) 13 (λw' h=>h) AdF λwa a1=>?_;refine AJ ?_;refine BE 12 λhS=>?_;refine Ay rfl rfl (OD (hK.later hS) 2 (hm 2) t ht q k) ?_;rintro v w7 ⟨rv,cv,rfl,o1,o2,a5⟩;obtain⟨p1,c1,rfl⟩:=o1.slice;obtain⟨p2,c2,rfl⟩:=o2.slice;have ad:=hK.later hS;have ai:=(av.ext hS).ext a5;have hE:=hS.trans a5;clear hS;apply LW.nil;refine QW.headed hE ?_;refine GW.tail rfl AdF (λhS=>?_);refine Ay rfl rfl (F5 (ad.later a5) 2 t.name _ _ _ (by rw[Im AdH];have:=hl 2;omega) (ad.stays a5 (got 2) o1 o2)) ?_;rintro v w8 ⟨rfl,aw,sv'',hN⟩;rw[eget] at hN;have ax:=ai.chg aw ((ad.later a5).other ai);clear ai av af hM a5 hE hS ad o1 o2 aw;have hM:=hN.top;have ag:=hN.side 0;refine Sl ?_;apply LW.nil;apply QW.then_n;refine CW.seq_cut (ι:=Nat×List UInt8×Int×Option Addr×Nat×Nat) (λx w'=>Ai w8 w'∧Blk w' x.1 [Ao x.2.1,.int .i64 x.2.2.1,.slice x.2.2.2.1 x.2.2.2.2.1 x.2.2.2.2.2] 46∧w8.heap.size≤x.1∧∀s,Bh (bk 0) t.name=some s→x.2.1=s.name∧x.2.2.1=s.cols∧x.2.2.2.2.1=s.rows.length∧BA w0 (.slice x.2.2.2.1 x.2.2.2.2.1 x.2.2.2.2.2) s.rows) (λx=>[(0,.pointer (some ⟨M,0,none⟩)),(6,.pointer (some ⟨X,0,none⟩)),(8,.pointer (some ⟨x.1,0,none⟩)),(9,.bool (Bh (bk 0) t.name).isSome)]) ?_ ?_
 ·have ay:=λw (hx:Ai w8 w)=>Hu (bk 0) (S 0) (bv 0) (sv'' 0) t.name w0 w ((hN.side 0).ext hx) (hN.book 0) (hN.ext.trans hx);clear got eget az k1 k2 k3 k4 k5 k6 nX h hH hK;refine CW.drawG (Ai w8) 12 (λw' h=>h) AdF λwa a1=>?_;have hE:=a1;refine AJ ?_;refine GW.two 6 10 AdF rfl rfl rfl rfl rfl rfl (λhS=>?_) (λhS=>?_)
  ·refine Ay rfl rfl (ay _ hE) ?_;rintro v wt ⟨⟨n1,z1,p1,m1,k1,rfl,hv⟩,a0⟩;have b5:=a0.size;have hE:=hE.trans a0;clear hS;apply LW.nil;refine QW.headed hE ?_;refine AJ ?_;refine BE 10 λhS=>?_;refine Bo λH wl aj a0 hH=>?_;have ak:=hH.lt;have b6:w8.heap.size≤H:=by rw[aj];exact hE.size
   have b7:=a0.size;have hE:=hE.trans a0;clear hS;apply LW.nil;refine QW.headed hE ?_;refine AJ ?_;refine BE 11 λhS=>?_;refine AD λwe al hH=>?_;have hE:=hE.step al AdG;clear hS;apply LW.nil;refine QW.headed hE ?_;refine GW.tail rfl AdF (λhS=>?_);refine Sw ?_;exact QW.head (H,n1,z1,p1,m1,k1) ⟨hE,hH,by omega,hv⟩ Bx
  ·refine Bo λH wl aj a0 hH=>?_;have ak:=hH.lt;have b6:w8.heap.size≤H:=by rw[aj];exact hE.size
   have b8:=a0.size;have hE:=hE.trans a0;clear hS;apply LW.nil;refine QW.headed hE ?_;refine AJ ?_;refine BE 6 λhS=>?_;refine Ay rfl rfl (ay _ hE) ?_;rintro v wt ⟨⟨n1,z1,p1,m1,k1,rfl,hv⟩,a0⟩;replace hH:=by first | exact hH.ext a0 | exact Ab.ext' hH a0 (λ_ _ _ _ h=>h) | exact Aa.ext hH a0
   have b9:=a0.size;have hE:=hE.trans a0;clear hS;apply LW.nil;refine QW.headed hE ?_;refine AJ ?_;refine BE 11 λhS=>?_;refine AD λwe al hH=>?_;have hE:=hE.step al AdG;clear hS;apply LW.nil;refine QW.headed hE ?_;refine GW.tail rfl AdF (λhS=>?_);refine Sw ?_;exact QW.head (H,n1,z1,p1,m1,k1) ⟨hE,hH,by omega,hv⟩ Bx
 rintro⟨H,n1,z1,p1,m1,k1⟩ w9 ⟨am,ba,lB9,hv⟩;dsimp only at ba lB9 hv;show CW _ _ _ _ _ [(0,.pointer (some ⟨M,0,none⟩)),(6,.pointer (some ⟨X,0,none⟩)),(8,.pointer (some ⟨H,0,none⟩)),(9,.bool (Bh (bk 0) t.name).isSome)] _;have a6:=hN.later am;have bj:=ax.ext am;have bl:=a6.top;have bm:=a6.side 0;clear hN ax hM ag am hK hH;have efin:∀L:List Bg,L=Tx (bk 0) t.name t→Ky (Ky (Ky l 1 (l 1++EQ (bk 1) t.name)) 2 (Ky l 1 (l 1++EQ (bk 1) t.name) 2++EQ (bk 2) t.name)) 0 (Ky (Ky l 1 (l 1++EQ (bk 1) t.name)) 2 (Ky l 1 (l 1++EQ (bk 1) t.name) 2++EQ (bk 2) t.name) 0++L)=NF bk l t:=λL hL=>by
  subst hL
  funext j
  match j with
  | 0=>rfl
  | 1=>rfl
  | 2=>rfl
 cases e:Bh (bk 0) t.name with
 | none=>
  refine Sw ?_;refine QW.body_n (rs:=[]) (vs:=[]) results50 trivial rfl ⟨rfl,sv'',.slice p3 (ps.length+1) c3,?_⟩;have e2:Ky (Ky l 1 (l 1++EQ (bk 1) t.name)) 2 (Ky l 1 (l 1++EQ (bk 1) t.name) 2++EQ (bk 2) t.name)=NF bk l t:=by
   funext j
   match j with
   | 0=>
    show l 0=l 0++Tx (bk 0) t.name t
    rw[Tx,e,Aby]
   | 1=>rfl
   | 2=>rfl
  rw[←e2]
  exact a6
 | some u=>
  obtain⟨rfl,rfl,rfl,bb⟩:=hv u e;obtain⟨an,bc⟩:=B9 (hm 0) e;refine Sw ?_;refine CW.drawG (Ai w9) 9 (λw' h=>h) AdF λwa a1=>?_;refine AJ ?_;refine BE 8 λhS=>?_;refine Ay rfl rfl (HJ u t _ _ _ (Bb.ext bb (a6.ext.trans hS)) (Bb.ext hr (a6.ext.trans hS)) (Fv an) (Fv ht)) ?_;rintro v bn ⟨rv,cv,rfl,o1,o2,aa⟩;obtain⟨pa,ca,rfl⟩:=o1.slice;obtain⟨pb,cb,rfl⟩:=o2.slice;have ao:=a6.later hS;have hE:=hS.trans aa;clear hS;apply LW.nil;refine QW.headed hE ?_;refine GW.tail rfl AdF (λhS=>?_);have l1:=Cv u t;have l2:=Ct u t (AO u t);have b1:=(G4 an).1;have b2:=(G4 an).2;refine Ay rfl rfl (F5 (ao.later aa) 0 t.name (Ag u t) _ _ (by show(l 0).length≤1000;have:=hl 0;omega) (N6 (s:={Ag u t with sheet:=t.name}) (by show E.Own _ _ _ _ _ (AO u t).length _;rw[l1];exact o1) (by show E.Own _ _ _ _ _ (CT u t (AO u t)).length _;rw[l2];exact o2) (by show(AO u t).length≤_;omega) (by show(CT u t (AO u t)).length≤_;omega) (ao.far λb hb=>(o1.lt hb).1) (ao.far λb hb=>(o2.lt hb).1))) ?_;rintro v bo ⟨rfl,-,sv3,hL⟩;refine Sw ?_;refine QW.body_n (rs:=[]) (vs:=[]) results50 trivial rfl ⟨rfl,sv3,.slice p3 (ps.length+1) c3,?_⟩;rw[efin _ (by
   unfold Tx;rw[e];show[({Ag u t with sheet:=t.name}:Bg)]=[Ag u t];rw[TI bc])] at hL
  exact hL
end
def QJ(b:An)(nm:List UInt8):List Bg:=if (Bh b nm).isSome=true then[C9 nm] else[]
section
variable {K:World→Prop} {w0 w:World} {M:Nat} {S:Fin 3→Nat} {bk:Fin 3→An} {bv sv:Fin 3→Value} {out:Value} {l:Fin 3→List Bg} {ps:List A1}
theorem UU(h:FN K w0 w M S bk bv sv out l ps)(hm:∀i,Av (bk i)=true)(t:Ae)(ht:A7 t=true)(q:Option Addr)(k:Nat)(P:A1)(hP:P.name=t.name∧P.rows=t.rows.length∧P.cols=t.cols∧P.whole=0∧P.clash=false)(hr:BA w0 (.slice q t.rows.length k) t.rows)(hl:∀i,(l i).length≤900)(hp:ps.length≤900) :
  AF prog 48 [.pointer (some ⟨M,0,none⟩),.agg ⟨Am t (.slice q t.rows.length k)⟩] w (λv w'=>v=.tuple #[]∧∃sv' out',FN K w0 w' M S bk bv sv' out' (NF bk l t) (ps++[P])):=by
 refine Bj func48 ntmps48 ?_;refine Sa ?_;refine CM λX w1 a1 a0 hX=>?_;replace hX:Blk w1 X (Am t (.slice q t.rows.length k)) 46:=hX;refine Sa ?_;refine Ay rfl rfl (E0 (h.later a0) hm t ht q k 0 false P hP hr hl hp) ?_;rintro v w2 ⟨rfl,sv',out',hN⟩;refine Sa ?_;exact QW.body_n (rs:=[]) (vs:=[]) results48 trivial rfl ⟨rfl,sv',out',hN⟩
def H2(bk:Fin 3→An)(l:Fin 3→List Bg)(nm:List UInt8)(i:Nat):Fin 3→List Bg:=λk=>if k.val<i then l k++QJ (bk k) nm else l k
theorem SQ(nm:List UInt8){i:Nat}(hi:i<3):H2 bk l nm (i+1)=Ky (H2 bk l nm i) ⟨i,hi⟩ (H2 bk l nm i ⟨i,hi⟩++QJ (bk ⟨i,hi⟩) nm):=by
 funext k
 unfold H2 Ky;by_cases e:k=⟨i,hi⟩
 ·subst e;simp
 ·have e2:k.val≠i:=λe'=>e (Fin.ext e');rw[if_neg e];have e3:k.val<i+1↔k.val<i:=AdE
  simp only[e3]
set_option maxRecDepth 8000 in
theorem I8(h:FN K w0 w M S bk bv sv out l ps)(nm:List UInt8)(hl:∀i,(l i).length≤900) :
  AF prog 51 [.pointer (some ⟨M,0,none⟩),Ao nm] w (λv w'=>v=.tuple #[]∧∃sv',FN K w0 w' M S bk bv sv' out (λk=>l k++QJ (bk k) nm) ps):=by
 have hM:=h.top;refine Bj func51 ntmps51 ?_;refine CW.seq_cut (ι:=Nat) (λA w'=>Ai w w'∧Blk w' A [ptr (S 0),ptr (S 1),ptr (S 2)] 60∧w.heap.size≤A) (λA=>[(1,Ao nm),(18,.slice (some ⟨A,0,none⟩) 3 3),(19,.int .i64 3),(20,.int .i64 0)]) ?_ ?_
 ·refine CW.drawHeld (λw'=>Ai w w') (λw' h=>h) AdF λwa a6=>?_;refine HW.take 0 rfl rfl rfl rfl (λw _=>Y.pure rfl) rfl AdF AdF AdF (λ_ _ _ h=>h) ?_;refine HW.take 1 rfl rfl rfl rfl (λw _=>Y.pure rfl) rfl AdF AdF AdF (λ_ _ _ h=>h) ?_;refine HW.take 2 rfl rfl rfl rfl (λw _=>Y.pure rfl) rfl AdF AdF AdF (λ_ _ _ h=>h) ?_;refine HW.take 3 rfl rfl rfl rfl (λw' hw=>Y.load rfl (hM.ext hw) rfl rfl rfl) rfl AdF AdF AdF (λ_ _ _ h=>h) ?_;refine HW.take 4 rfl rfl rfl rfl (λw _=>Y.pure rfl) rfl AdF AdF AdF (λ_ _ _ h=>h) ?_;refine HW.take 5 rfl rfl rfl rfl (λw _=>Y.pure rfl) rfl AdF AdF AdF (λ_ _ _ h=>h) ?_;refine HW.take 6 rfl rfl rfl rfl (λw _=>Y.pure rfl) rfl AdF AdF AdF (λ_ _ _ h=>h) ?_;refine HW.take 7 rfl rfl rfl rfl (λw' hw=>Y.load rfl (hM.ext hw) rfl rfl rfl) rfl AdF AdF AdF (λ_ _ _ h=>h) ?_;refine HW.take 8 rfl rfl rfl rfl (λw _=>Y.pure rfl) rfl AdF AdF AdF (λ_ _ _ h=>h) ?_;refine HW.take 9 rfl rfl rfl rfl (λw _=>Y.pure rfl) rfl AdF AdF AdF (λ_ _ _ h=>h) ?_;refine HW.take 10 rfl rfl rfl rfl (λw _=>Y.pure rfl) rfl AdF AdF AdF (λ_ _ _ h=>h) ?_;refine HW.take 11 rfl rfl rfl rfl (λw' hw=>Y.load rfl (hM.ext hw) rfl rfl rfl) rfl AdF AdF AdF (λ_ _ _ h=>h) ?_;refine HW.take 14 rfl rfl rfl rfl (λw _=>Y.pure rfl) rfl AdF AdF AdF (λ_ _ _ h=>h) ?_;refine HW.one 12 AdF rfl rfl (λhS=>?_);refine Dt λA w1 a7 a0 hA=>?_;replace hA:Blk w1 A [ptr (S 0),ptr (S 1),ptr (S 2)] 60:=hA;have hE:=hS.trans a0;have hz:=hS.size;apply LW.nil;refine QW.held hE ?_;refine HW.take 13 rfl rfl rfl rfl (λw _=>Y.pure rfl) rfl AdF AdF AdF (λ_ _ _ h=>h) ?_;refine HW.done AdF ?_;exact QW.head A ⟨hE,hA,by omega⟩ Bx
 rintro A w1 ⟨a0,hA,lA⟩;have h0:FN K w0 w1 M S bk bv sv out (H2 bk l nm 0) ps:=by
  have e:H2 bk l nm 0=l:=by
   funext k
   unfold H2;rw[if_neg AdE]
  rw[e];exact h.later a0
 refine Sw ?_;refine CW.loop (ι:=Nat×(Fin 3→Value)) (λx w'=>x.1≤3∧FN K w0 w' M S bk bv x.2 out (H2 bk l nm x.1) ps∧Blk w' A [ptr (S 0),ptr (S 1),ptr (S 2)] 60) (λx=>[(1,Ao nm),(18,.slice (some ⟨A,0,none⟩) 3 3),(19,.int .i64 3),(20,.int .i64 (x.1:Int))]) (λx=>3 - x.1) (0,sv) ⟨by omega,h0,hA⟩ Bx ?_;rintro⟨i,sv1⟩ w2 ⟨hi,hH,a1⟩;dsimp only at hi hH;show CW _ _ _ _ _ [(1,Ao nm),(18,.slice (some ⟨A,0,none⟩) 3 3),(19,.int .i64 3),(20,.int .i64 (i:Int))] _;refine Sw ?_;refine A8 (λc1=>?_) λc1=>?_
 ·have c1:i<3:=by simp at c1;omega
  have a3:w2.cell? ((⟨A,0,none⟩:Addr).add (((i:Nat):Int).toNat*1))=some (ptr (S ⟨i,c1⟩)):=by
   rw[Au];refine a1.cell ?_;rcases(show i=0∨i=1∨i=2 by omega) with rfl | rfl | rfl<;>rfl
  have a2:(H2 bk l nm i ⟨i,c1⟩).length≤1000:=by
   unfold H2;rw[if_neg (by show ¬i<i;omega)];have:=hl ⟨i,c1⟩;omega
  refine Sw ?_;refine Ay rfl rfl (F5 hH ⟨i,c1⟩ nm ⟨[],⟨[],0⟩,⟨[],0⟩,true⟩ (.slice none 0 0) (.slice none 0 0) a2 (λw' _=>⟨_,_,rfl,⟨by simp,.inl ⟨rfl,rfl⟩⟩,⟨by simp,.inl ⟨rfl,rfl⟩⟩⟩)) ?_;rintro v w3 ⟨rfl,a4,sv2,hK⟩;have a5:=a1.chg a4 (hH.other a1);refine Sw ?_;refine QW.again (i+1,sv2) ⟨by show i+1≤3;omega,?_,a5⟩ Bx (by show 3 - (i+1)<3 - i;omega);rw[SQ nm c1];exact hK
 ·have c1:i=3:=by simp at c1;omega
  subst c1;refine Sw ?_;refine QW.body_n (rs:=[]) (vs:=[]) results51 trivial rfl ⟨rfl,sv1,?_⟩;have e:H2 bk l nm 3=λk=>l k++QJ (bk k) nm:=by
   funext k
   unfold H2;rw[if_pos k.isLt]
  rw[←e];exact hH
end
end Go.Proofs.YtcjjcnecopnpcaaGreatDoor
