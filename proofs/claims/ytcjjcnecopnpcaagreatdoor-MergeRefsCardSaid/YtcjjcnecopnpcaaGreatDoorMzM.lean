/-
  Joined by program out of the texts MvbP LinP FusP MrgP MrgQ MrgA Saf MapG.
-/
import Derived.Test.YtcjjcnecopnpcaaGreatDoorMzJ
import Derived.Test.YtcjjcnecopnpcaaGreatDoorMzI
import Derived.Test.YtcjjcnecopnpcaaGreatDoorMzH
import Derived.Test.YtcjjcnecopnpcaaGreatDoorMzA
import Derived.Test.YtcjjcnecopnpcaaGreatDoorMzE
import Derived.Maps.Own
import Derived.Carry
import Derived.Maps.Views
import Derived.WideKeyPair
namespace Go.Proofs.YtcjjcnecopnpcaaGreatDoor
open Tryz
open Go Go.E
noncomputable def Kg(nm:List UInt8)(ss:List Bl)(r:List (List UInt8)):List (List UInt8):=r.map (CP nm ss)
noncomputable def NU(ss:List Bl)(s:Af):Af:={s with rows:=s.rows.map (Kg s.name ss)}
noncomputable def Ch(ss:List Bl)(b:Ao):Ao:=b.map (NU ss)
theorem B1{s:Af}:AX s=true↔DM s.name=true∧0≤s.cols∧s.cols≤12∧s.rows.length≤24∧∀r∈s.rows,(r.length:Int)=s.cols∧∀t∈r,Cs t=true:=by
 simp only[AX,AaG,AcH,decide_eq_true_eq];constructor
 ·rintro⟨⟨⟨⟨h1,h2⟩,h3⟩,h4⟩,h5⟩;exact⟨h1,h2,h3,h4,h5⟩
 ·rintro⟨h1,h2,h3,h4,h5⟩;exact⟨⟨⟨⟨h1,h2⟩,h3⟩,h4⟩,h5⟩
def PV(m:Bg):Nat→Nat→List Nat
 | 0,_=>[]
 | f+1,k=>if (k:Int)<m.new∧(k:Int)∉m.to then k::PV m f (k+1) else[]
def NZ(m:Bg)(k:Nat):List Nat:=PV m m.new.toNat k
def Dq(m:Bg):Nat→List Nat
 | 0=>NZ m 0
 | g+1=>if m.to.getD g 0<0 then[] else NZ m ((m.to.getD g 0).toNat+1)
def Dc(l:List Int):Nat→List Nat→List Int
 | _,[]=>l
 | now,k::r=>Dc (l.set k now) (now+1) r
structure D8 where
 o:List Int
 x:List Int
 y:List Int
 now:Nat
def Du(a b:Bg)(st:D8):Nat→D8
 | 0=>st
 | g+1=>if 0≤a.to.getD g 0∧0≤b.to.getD g 0 then⟨st.o.set g st.now,st.x.set (a.to.getD g 0).toNat st.now,st.y.set (b.to.getD g 0).toNat st.now,st.now+1⟩ else st
def JW(a:Bg)(st:D8)(j:Nat):D8:={st with x:=Dc st.x st.now (Dq a j),now:=st.now+(Dq a j).length}
def MC(b:Bg)(st:D8)(j:Nat):D8:={st with y:=Dc st.y st.now (Dq b j),now:=st.now+(Dq b j).length}
def MD(a b:Bg)(st:D8)(j:Nat):D8:=MC b (JW a (Du a b st j) j) j
def QJ(a b:Bg):D8:=⟨List.replicate a.to.length (-1),List.replicate a.new.toNat (-1),List.replicate b.new.toNat (-1),0⟩
def Bf(a b:Bg)(j:Nat):D8:=(List.range j).foldl (MD a b) (QJ a b)
def A8(a b:Bg):D8:=Bf a b (a.to.length+1)
theorem FI(a b:Bg)(j:Nat):Bf a b (j+1)=MD a b (Bf a b j) j:=by simp[Bf,Ace]
theorem JC:∀(l:List Int) (now:Nat) (ks:List Nat),(Dc l now ks).length=l.length
 | l,now,[]=>rfl
 | l,now,k::r=>by rw[Dc,JC,Acs]
theorem N6:∀(l:List Int) (now:Nat) (ks:List Nat) (k:Nat),Dc l now (ks++[k])=(Dc l now ks).set k ((now+ks.length:Nat):Int)
 | l,now,[],k=>by simp[Dc]
 | l,now,j::r,k=>by
  rw[Aco,Dc,Dc,N6 (l.set j now) (now+1) r k,AaF]
  congr 2
  omega
theorem D3(a b:Bg)(j:Nat):(Bf a b j).o.length=a.to.length∧(Bf a b j).x.length=a.new.toNat∧(Bf a b j).y.length=b.new.toNat:=by
 induction j with
 | zero=>simp[Bf,QJ]
 | succ j ih=>
  rw[FI];have h1:∀st:D8,(Du a b st j).o.length=st.o.length∧(Du a b st j).x.length=st.x.length∧(Du a b st j).y.length=st.y.length:=λst=>by
   cases j with
   | zero=>exact⟨rfl,rfl,rfl⟩
   | succ g=>rw[Du];split<;>simp
  obtain⟨e1,e2,e3⟩:=h1 (Bf a b j);simp only[MD,JW,MC,JC];rw[e1,e2,e3];exact ih
theorem RK:∀{m:Bg} {f k i:Nat},i∈PV m f k→k≤i∧(i:Int)<m.new∧(i:Int)∉m.to∧∀j,k≤j→j≤i→(j:Int)∉m.to
 | m,0,k,i,h=>by simp[PV] at h
 | m,f+1,k,i,h=>by
  rw[PV] at h
  split at h
  ·rename_i hk;rcases AaH.1 h with rfl | h
   ·refine⟨Abv _,hk.1,hk.2,λj h1 h2=>?_⟩;have e:j=i:=AdV
    rw[e];exact hk.2
   ·obtain⟨h1,h2,h3,h4⟩:=RK h;exact⟨by omega,h2,h3,λj h5 h6=>by
     by_cases e:j=k
     ·rw[e];exact hk.2
     ·exact h4 j AdV h6⟩
  ·cases h
theorem RJ:∀{m:Bg} {f k i:Nat},m.new≤k+f→k≤i→(i:Int)<m.new→(∀j:Nat,k≤j→j≤i→(j:Int)∉m.to)→i∈PV m f k
 | m,0,k,i,hf,hk,hi,h=>by omega
 | m,f+1,k,i,hf,hk,hi,h=>by
  rw[PV,if_pos ⟨by omega,h k (Abv _) hk⟩];by_cases e:i=k
  ·rw[e];exact Ab6 ..
  ·exact Abk _ (RJ AdV AdV hi λj h1 h2=>h j AdV h2)
theorem RL:∀(m:Bg) (f k:Nat),∃n,PV m f k=List.range' k n∧n≤f
 | m,0,k=>⟨0,rfl,Abv _⟩
 | m,f+1,k=>by
  rw[PV]
  split
  ·obtain⟨n,h,hn⟩:=RL m f (k+1);exact⟨n+1,by rw[h];rfl,by omega⟩
  ·exact⟨0,rfl,by omega⟩
theorem GO{m:Bg}{k i:Nat}:i∈NZ m k↔k≤i∧(i:Int)<m.new∧∀j:Nat,k≤j→j≤i→(j:Int)∉m.to:=by
 constructor
 ·intro h;obtain⟨h1,h2,h3,h4⟩:=RK h;exact⟨h1,h2,h4⟩
 ·rintro⟨h1,h2,h3⟩;exact RJ AdV h1 h2 h3
theorem FS(m:Bg)(k:Nat):∃n,NZ m k=List.range' k n∧n≤m.new.toNat:=RL m _ k
theorem Kn{α:Type}{r:α→α→Prop}(hr:∀a b,r a b→¬r b a):∀{l m:List α},l.Pairwise r→m.Pairwise r→(∀x,x∈l↔x∈m)→l=m
 | [],[],_,_,_=>rfl
 | [],y::m,_,_,h=>absurd ((h y).2 (Ab6 ..)) Aei
 | x::l,[],_,_,h=>absurd ((h x).1 (Ab6 ..)) Aei
 | x::l,y::m,hl,hm,h=>by
  obtain⟨h1,h2⟩:=AcX.1 hl;obtain⟨h3,h4⟩:=AcX.1 hm;have e:x=y:=by
   rcases AaH.1 ((h x).1 (Ab6 ..)) with e | hx
   ·exact e
   rcases AaH.1 ((h y).2 (Ab6 ..)) with e | hy
   ·exact e.symm
   exact absurd (h3 x hx) (hr _ _ (h1 y hy))
  subst e
  congr 1
  refine Kn hr h2 h4 λz=>?_;have hz:=h z;simp only[AaH] at hz;constructor
  ·intro a0;rcases hz.1 (.inr a0) with e | h
   ·exact absurd (h1 z a0) (λk=>hr _ _ k (e ▸ k))
   ·exact h
  ·intro a1;rcases hz.2 (.inr a1) with e | h
   ·exact absurd (h3 z a1) (λk=>hr _ _ k (e ▸ k))
   ·exact h
theorem QK{l:List Int}{j:Nat}(h:j<l.length):l.getD j 0∈l:=by
 rw[AaE,B7 h];exact Acm h
theorem OM(m:Bg)(j:Nat):(Dq m j).Pairwise (·<·):=by
 have:∀k,(NZ m k).Pairwise (·<·):=λk=>by
  obtain⟨n,e,-⟩:=FS m k;rw[e];exact Adv
 cases j with
 | zero=>exact this 0
 | succ g=>
  rw[Dq]
  split
  ·exact .nil
  ·exact this _
def K2(to:List Int)(j now:Nat)(xs:List Int):Prop:=∀i,i<xs.length→xs.getD i 0=-1∨(0≤xs.getD i 0∧xs.getD i 0<now∧(∀g,j≤g→g<to.length→0≤to.getD g 0→(i:Int)<to.getD g 0)∧∀q,q<i→xs.getD q 0<xs.getD i 0)
theorem K2.up{to:List Int}{j j' now now':Nat}{xs:List Int}(h:K2 to j now xs)(hj:j≤j')(hn:now≤now'):K2 to j' now' xs:=λi hi=>by
 rcases h i hi with h | ⟨h1,h2,h3,h4⟩
 ·exact .inl h
 ·exact .inr ⟨h1,by omega,λg hg=>h3 g AdV,h4⟩
theorem K2.none(to:List Int)(j now n:Nat):K2 to j now (List.replicate n (-1)):=λi hi=>by
 simp at hi;exact .inl (by simp[hi])
theorem FU{l:List Int}{k i:Nat}{x:Int}(hi:i<l.length):(l.set k x).getD i 0=if k=i then x else l.getD i 0:=by
 simp only[AaE,List.getElem?_set];by_cases e:k=i
 ·subst e;simp[hi]
 ·simp[e]
theorem K2.set{to:List Int}{j now k:Nat}{xs:List Int}(h:K2 to j now xs)(hk:k<xs.length)(hb:∀i,i<xs.length→xs.getD i 0≠-1→i<k)(ha:∀g,j≤g→g<to.length→0≤to.getD g 0→(k:Int)<to.getD g 0):K2 to j (now+1) (xs.set k now)∧∀i,i<xs.length→(xs.set k now).getD i 0≠-1→i≤k:=by
 refine⟨λi hi=>?_,λi hi hn=>?_⟩
 ·rw[Acs] at hi;rw[FU hi];by_cases e:k=i
  ·subst e;rw[if_pos rfl];refine .inr ⟨by omega,by omega,ha,λq hq=>?_⟩;rw[FU AdV,if_neg AdV];rcases h q AdV with h | ⟨h1,h2,h3,h4⟩<;>omega
  ·rw[if_neg e];rcases h i hi with h1 | ⟨h1,h2,h3,h4⟩
   ·exact .inl h1
   ·refine .inr ⟨h1,by omega,h3,λq hq=>?_⟩;have:=hb i hi AdV;rw[FU AdV,if_neg AdV];exact h4 q hq
 ·rw[FU hi] at hn;by_cases e:k=i
  ·omega
  ·rw[if_neg e] at hn;exact Nat.le_of_lt (hb i hi hn)
theorem K2.run{to:List Int}{j:Nat}:∀{now:Nat} {xs:List Int} {ks:List Nat},K2 to j now xs→ks.Pairwise (·<·)→(∀k∈ks,k<xs.length∧∀g,j≤g→g<to.length→0≤to.getD g 0→(k:Int)<to.getD g 0)→(∀i,i<xs.length→xs.getD i 0≠-1→∀k∈ks,i<k)→K2 to j (now+ks.length) (Dc xs now ks)
 | now,xs,[],h,_,_,_=>h
 | now,xs,k::r,h,hp,hk,hb=>by
  obtain⟨h1,h2⟩:=AcX.1 hp;obtain⟨hk1,hk2⟩:=hk k (Ab6 ..);obtain⟨h3,h4⟩:=h.set hk1 (λi hi hn=>hb i hi hn k (Ab6 ..)) hk2;have:=K2.run (now:=now+1) (xs:=xs.set k now) (ks:=r) h3 h2 (λq hq=>by rw[Acs];exact hk q (Abk _ hq)) (λi hi hn q hq=>by
   rw[Acs] at hi;have:=h4 i hi hn;have:=h1 q hq;omega)
  rw[Dc,AaF,show now+(r.length+1)=now+1+r.length by omega];exact this
theorem K2.side{m:Bg}(hm:GX m)(hn:0≤m.new){g now now':Nat}{xs:List Int}(hl:xs.length=m.new.toNat)(hg:g<m.to.length)(h:K2 m.to g now xs)(hw:now≤now'){kept:Bool}(hk:kept=true→0≤m.to.getD g 0∧now<now') :
  K2 m.to (g+1) (now'+(Dq m (g+1)).length) (Dc (if kept then xs.set (m.to.getD g 0).toNat now else xs) now' (Dq m (g+1))):=by
 have hr:=hm g hg;have a0:0≤m.to.getD g 0→∀q,g+1≤q→q<m.to.length→0≤m.to.getD q 0→m.to.getD g 0<m.to.getD q 0:=λ_ q hq a2 h0=>by
  rcases hm q a2 with h | ⟨_,_,h⟩
  ·omega
  ·exact h g AdV
 obtain⟨ys,a3⟩:∃ys,ys=(if kept then xs.set (m.to.getD g 0).toNat now else xs):=⟨_,rfl⟩;have a5:ys.length=m.new.toNat:=by rw[a3];split<;>simp[hl]
 have hy:K2 m.to (g+1) now' ys∧(0≤m.to.getD g 0→∀i,i<ys.length→ys.getD i 0≠-1→(i:Int)≤m.to.getD g 0):=by
  rw[a3];by_cases e:kept=true
  ·rw[if_pos e];obtain⟨h0,h1⟩:=hk e;have a4:(m.to.getD g 0).toNat<xs.length:=by rw[hl];omega
   obtain⟨h2,h3⟩:=(h.up (AdF g) (Abv now)).set a4 (λi hi hn=>by
    rcases h i hi with h4 | ⟨_,_,h4,_⟩
    ·exact absurd h4 hn
    ·have:=h4 g (Abv _) hg h0;omega) (λq hq a2 h4=>by
    have:=a0 h0 q hq a2 h4;omega)
   refine⟨h2.up (Abv _) AdV,λ_ i hi hn=>?_⟩;rw[Acs] at hi;have:=h3 i hi hn;omega
  ·rw[if_neg e];refine⟨h.up (AdF g) hw,λh0 i hi hn=>?_⟩;rcases h i hi with h4 | ⟨_,_,h4,_⟩
   ·exact absurd h4 hn
   ·have:=h4 g (Abv _) hg h0;omega
 rw[←a3];refine hy.1.run (OM m _) (λk a1=>?_) (λi hi hn k a1=>?_)
 ·rw[Dq] at a1
  split at a1
  ·cases a1
  ·rename_i h0;obtain⟨h1,h2,h3⟩:=GO.1 a1;refine⟨by omega,λq hq a2 h4=>?_⟩;have h5:=a0 AdV q hq a2 h4;by_cases h6:(k:Int)<m.to.getD q 0
   ·exact h6
   ·exact absurd (QK a2) (by
     have:=h3 (m.to.getD q 0).toNat AdV AdV
     rwa [Acr h4] at this)
 ·rw[Dq] at a1
  split at a1
  ·cases a1
  ·rename_i h0;obtain⟨h1,h2,h3⟩:=GO.1 a1;have:=hy.2 AdV i hi hn;omega
theorem K2.first{m:Bg}{now n:Nat}(hn:n=m.new.toNat):K2 m.to 0 (now+(Dq m 0).length) (Dc (List.replicate n (-1)) now (Dq m 0)):=by
 refine(K2.none m.to 0 now n).run (OM m _) (λk hk=>?_) (λi hi h=>?_)
 ·obtain⟨h1,h2,h3⟩:=GO.1 hk;refine⟨by simp;omega,λq _ a0 h4=>?_⟩;by_cases h6:(k:Int)<m.to.getD q 0
  ·exact h6
  ·exact absurd (QK a0) (by
    have:=h3 (m.to.getD q 0).toNat AdV AdV
    rwa [Acr h4] at this)
 ·simp at hi;exact absurd (by simp[hi]) h
def Sk(j now:Nat)(xs:List Int):Prop:=∀i,i<xs.length→xs.getD i 0=-1∨(0≤xs.getD i 0∧xs.getD i 0<now∧i<j∧∀q,q<i→xs.getD q 0<xs.getD i 0)
theorem Sk.up{j j' now now':Nat}{xs:List Int}(h:Sk j now xs)(hj:j≤j')(hn:now≤now'):Sk j' now' xs:=λi hi=>by
 rcases h i hi with h | ⟨h1,h2,h3,h4⟩
 ·exact .inl h
 ·exact .inr ⟨h1,by omega,by omega,h4⟩
theorem Sk.set{j now:Nat}{xs:List Int}(h:Sk j now xs):Sk (j+1) (now+1) (xs.set j now):=λi hi=>by
 rw[Acs] at hi;rw[FU hi];by_cases e:j=i
 ·subst e;rw[if_pos rfl];refine .inr ⟨by omega,by omega,by omega,λq hq=>?_⟩;rw[FU AdV,if_neg AdV];rcases h q AdV with h | ⟨h1,h2,h3,h4⟩<;>omega
 ·rw[if_neg e];rcases h i hi with h1 | ⟨h1,h2,h3,h4⟩
  ·exact .inl h1
  ·refine .inr ⟨h1,by omega,by omega,λq hq=>?_⟩;rw[FU AdV,if_neg AdV];exact h4 q hq
theorem O3{a b:Bg}(ha:GX a)(hb:GX b)(ha0:0≤a.new)(hb0:0≤b.new)(hl:b.to.length=a.to.length):∀j,j≤a.to.length→K2 a.to j (Bf a b (j+1)).now (Bf a b (j+1)).x∧K2 b.to j (Bf a b (j+1)).now (Bf a b (j+1)).y∧Sk j (Bf a b (j+1)).now (Bf a b (j+1)).o∧(Bf a b (j+1)).now≤(j+1)*(1+a.new.toNat+b.new.toNat)
 | 0,_=>by
  rw[FI];have e0:Bf a b 0=QJ a b:=rfl;have n1:(Dq a 0).length≤a.new.toNat:=by obtain⟨n,e,h⟩:=FS a 0;rw[Dq,e];simpa using h
  have n2:(Dq b 0).length≤b.new.toNat:=by obtain⟨n,e,h⟩:=FS b 0;rw[Dq,e];simpa using h
  simp only[e0,MD,MC,JW,Du,QJ];refine⟨(K2.first (m:=a) (now:=0) rfl).up (Abv _) AdV,K2.first (m:=b) rfl,λi hi=>.inl ?_,by omega⟩;simp at hi
  simp[hi]
 | g+1,hj=>by
  obtain⟨h1,h2,h3,h4⟩:=O3 ha hb ha0 hb0 hl g AdV;obtain⟨l1,l2,l3⟩:=D3 a b (g+1);rw[FI];generalize Bf a b (g+1)=st at h1 h2 h3 h4 l1 l2 l3;have n1:(Dq a (g+1)).length≤a.new.toNat:=by
   rw[Dq];split
   ·simp
   ·obtain⟨n,e,h⟩:=FS a ((a.to.getD g 0).toNat+1);rw[e];simpa using h
  have n2:(Dq b (g+1)).length≤b.new.toNat:=by
   rw[Dq];split
   ·simp
   ·obtain⟨n,e,h⟩:=FS b ((b.to.getD g 0).toNat+1);rw[e];simpa using h
  have a0:(g+1+1)*(1+a.new.toNat+b.new.toNat)=(g+1)*(1+a.new.toNat+b.new.toNat)+(1+a.new.toNat+b.new.toNat):=Nat.succ_mul _ _;by_cases hk:0≤a.to.getD g 0∧0≤b.to.getD g 0
  ·simp only[MD,MC,JW,Du,if_pos hk];have i1:=K2.side ha ha0 l2 AdV h1 (now':=st.now+1) AdV (kept:=true) (λ_=>⟨hk.1,by omega⟩);have i2:=K2.side hb hb0 l3 AdV h2 (now':=st.now+1+(Dq a (g+1)).length) AdV (kept:=true) (λ_=>⟨hk.2,by omega⟩);simp only[if_true] at i1 i2;exact⟨i1.up (Abv _) AdV,i2,h3.set.up (Abv _) AdV,by omega⟩
  ·simp only[MD,MC,JW,Du,if_neg hk];have i1:=K2.side ha ha0 l2 AdV h1 (now':=st.now) AdV (kept:=false) (λh=>by cases h);have i2:=K2.side hb hb0 l3 AdV h2 (now':=st.now+(Dq a (g+1)).length) AdV (kept:=false) (λh=>by cases h);simp only[AbZ,if_false] at i1 i2;exact⟨i1.up (Abv _) AdV,i2,h3.up (AdF _) AdV,by omega⟩
theorem Xt{a b:Bg}(_ha:Er a=true)(_hb:Er b=true)(hl:b.to.length=a.to.length)(h1:a.to.length≤200)(h2:a.new≤200)(h3:b.new≤200)(ra:GX a)(rb:GX b)(ha0:0≤a.new)(hb0:0≤b.new):Er ⟨(A8 a b).o,(A8 a b).now⟩=true∧Er ⟨(A8 a b).x,(A8 a b).now⟩=true∧Er ⟨(A8 a b).y,(A8 a b).now⟩=true∧(A8 a b).now≤1000000:=by
 obtain⟨i1,i2,i3,i4⟩:=O3 ra rb ha0 hb0 hl a.to.length (Abv _);obtain⟨l1,l2,l3⟩:=D3 a b (a.to.length+1);have a0:(A8 a b).now≤1000000:=by
  have:(a.to.length+1)*(1+a.new.toNat+b.new.toNat)≤201*401:=AcA AdV AdV;unfold A8;omega
 refine⟨Mc Aei (by simp only;omega) (by simp only[A8];omega) λj hj=>?_,Mc Aei (by simp only;omega) (by simp only[A8];omega) λj hj=>?_,Mc Aei (by simp only;omega) (by simp only[A8];omega) λj hj=>?_,a0⟩
 ·rcases i3 j hj with h | ⟨h4,h5,-,h6⟩
  ·exact .inl h
  ·exact .inr ⟨h4,h5,h6⟩
 ·rcases i1 j hj with h | ⟨h4,h5,-,h6⟩
  ·exact .inl h
  ·exact .inr ⟨h4,h5,h6⟩
 ·rcases i2 j hj with h | ⟨h4,h5,-,h6⟩
  ·exact .inl h
  ·exact .inr ⟨h4,h5,h6⟩
structure AF where
 name:List UInt8
 rows:Int
 cols:Int
 whole:Nat
 clash:Bool
 gone:Bool
 o:Bl
 a:Bl
 b:Bl
structure HA where
 sheet:List UInt8
 row:Int
 col:Int
 base:List UInt8
 ours:List UInt8
 their:List UInt8
deriving DecidableEq
def BE(b:Ao)(nm:List UInt8):Option Af:=(Pq b nm).bind λi=>b[i]?
def A7(s:Af):Bl:=⟨s.name,BU s.rows.length,BU s.cols.toNat,false⟩
def E1(nm:List UInt8):Bl:=⟨nm,⟨[],0⟩,⟨[],0⟩,true⟩
def ET(nm:List UInt8):AF:=⟨nm,0,0,0,false,true,E1 nm,E1 nm,E1 nm⟩
def Dx(nm:List UInt8)(o a b:Af):AF:=
 let r:=A8 (Aj o a).rows (Aj o b).rows
 let c:=A8 (Aj o a).cols (Aj o b).cols
 ⟨nm,r.now,c.now,0,false,false,⟨nm,⟨r.o,r.now⟩,⟨c.o,c.now⟩,false⟩,⟨nm,⟨r.x,r.now⟩,⟨c.x,c.now⟩,false⟩,⟨nm,⟨r.y,r.now⟩,⟨c.y,c.now⟩,false⟩⟩
def XS(nm:List UInt8)(o:Option Af)(t:Af):Bl:=match o with
 | some u=>Aj u t
 | none=>E1 nm
def CR(nm:List UInt8)(o:Option Af)(x y:Bl)(t:Af)(wh:Nat)(cl:Bool):AF:=⟨nm,t.rows.length,t.cols,wh,cl,false,XS nm o t,x,y⟩
def BN(nm:List UInt8)(o:Option Af):Option Af→Option Af→AF
 | some s,some t=>if s=t then CR nm o (A7 s) (A7 t) s 0 false else match o with
  | some u=>Dx nm u s t
  | none=>CR nm o (A7 s) (A7 t) s 1 true
 | some s,none=>if o=some s then ET nm else CR nm o (A7 s) (E1 nm) s 1 o.isSome
 | none,some t=>if o=some t then ET nm else CR nm o (E1 nm) (A7 t) t 2 o.isSome
 | none,none=>ET nm
def Je(x:List UInt8):List (List UInt8)→List (List UInt8)
 | []=>[x]
 | y::r=>if Op.bytesLess y x=true then y::Je x r else if y=x then y::r else x::y::r
def Ii(l:List (List UInt8)):List (List UInt8):=l.foldl (λr x=>Je x r) []
def Gx(o a b:Ao):List (List UInt8):=Ii (o.map Af.name++a.map Af.name++b.map Af.name)
def DS(o a b:Ao):List AF:=(Gx o a b).map λnm=>BN nm (BE o nm) (BE a nm) (BE b nm)
def Il(b:Ao)(l:List Bl):List Bl:=l.filter λs=>(Pq b s.sheet).isSome
def Dl(to:List Int)(x:Int):Option Nat:=to.findIdx? λz=>decide (z=x)
def HF(b:Ao)(s:Bl)(row col:Nat):Option (List UInt8):=match BE b s.sheet with
 | none=>none
 | some t=>if s.gone=true then none else match Dl s.rows.to row,Dl s.cols.to col with
  | some r,some c=>some ((t.rows.getD r []).getD c [])
  | _,_=>none
def DY(old x y:Option (List UInt8)):List UInt8×Option (List UInt8×List UInt8×List UInt8):=match x,y with
 | none,y=>(y.getD [],none)
 | some x,none=>(x,none)
 | some x,some y=>if x=y∨old=some y then(x,none) else if old=some x then(y,none) else(x,some (old.getD [],x,y))
def atD(b:Ao)(nm:List UInt8)(row col:Nat):List UInt8:=match BE b nm with
 | some t=>(t.rows.getD row []).getD col []
 | none=>[]
def Jo(p:AF)(mo ma mb:Ao)(r c:Nat):List UInt8×Option (List UInt8×List UInt8×List UInt8):=match p.whole with
 | 0=>DY (HF mo p.o r c) (HF ma p.a r c) (HF mb p.b r c)
 | 1=>(atD ma p.name r c,none)
 | _=>(atD mb p.name r c,none)
def Yp(p:AF)(mo ma mb:Ao)(r:Nat):List (List UInt8):=(List.range p.cols.toNat).map λc=>(Jo p mo ma mb r c).1
def Fm(p:AF)(mo ma mb:Ao):Af:=⟨p.name,p.cols,(List.range p.rows.toNat).map (Yp p mo ma mb)⟩
def Q9(p:AF)(mo ma mb:Ao)(r c:Nat):List HA:=match (Jo p mo ma mb r c).2 with
 | some (x,y,z)=>[⟨p.name,r,c,x,y,z⟩]
 | none=>[]
def Jj(p:AF)(mo ma mb:Ao):List HA:=(if p.clash=true then[⟨p.name,-1,-1,[],[],[]⟩] else[])++(List.range p.rows.toNat).flatMap λr=>(List.range p.cols.toNat).flatMap λc=>Q9 p mo ma mb r c
def FL(ps:List AF):List AF:=ps.filter λp=>!p.gone
structure JJ where
 b:Ao
 c:List HA
 e:Int
noncomputable def E3(b:Ao)(l:List Bl):Ao:=Ch (Il b l) b
noncomputable def MQ(o a b:Ao):JJ:=
 let ps:=DS o a b
 let mo:=E3 o (ps.map AF.o)
 let ma:=E3 a (ps.map AF.a)
 let mb:=E3 b (ps.map AF.b)
 ⟨(FL ps).map λp=>Fm p mo ma mb,(FL ps).flatMap λp=>Jj p mo ma mb,0⟩
def Ju(ps:List AF):Bool:=(ps.any λp=>decide (24<p.rows)||decide (12<p.cols))||decide (5<(FL ps).length)
noncomputable def CN(o a b:Ao):JJ:=if Aw o=true∧Aw a=true∧Aw b=true then(if Ju (DS o a b)=true then⟨[],[],4⟩ else MQ o a b) else⟨[],[],1⟩
theorem MG{x y:List UInt8}:∀{l:List (List UInt8)},y∈Je x l↔y=x∨y∈l
 | []=>by simp[Je]
 | z::r=>by
  rw[Je]
  split
  ·simp only[AaH,MG (l:=r)];constructor
   ·rintro(h | h | h)
    ·exact .inr (.inl h)
    ·exact .inl h
    ·exact .inr (.inr h)
   ·rintro(h | h | h)
    ·exact .inr (.inl h)
    ·exact .inl h
    ·exact .inr (.inr h)
  ·split
   ·rename_i e;subst e;simp
   ·simp
theorem FN:∀{a b:List UInt8},Op.bytesLess a b=false→a≠b→Op.bytesLess b a=true
 | [],[],_,h=>absurd rfl h
 | [],_::_,h,_=>by simp[Op.bytesLess] at h
 | _::_,[],_,_=>by simp[Op.bytesLess]
 | x::a,y::b,h,k=>by
  simp only[Op.bytesLess,Adm,Ad0,decide_eq_false_iff_not,beq_eq_false_iff_ne,Acn,AaG,decide_eq_true_eq,beq_iff_eq] at h ⊢;obtain⟨h1,h2⟩:=h;by_cases e:x=y
  ·subst e;refine .inr ⟨rfl,FN ?_ λe=>k (by rw[e])⟩;rcases h2 with h2 | h2
   ·exact absurd rfl h2
   ·exact h2
  ·exact .inl (by
    rcases UInt8.lt_or_lt_of_ne e with h | h
    ·exact absurd h h1
    ·exact h)
theorem Jv(a b:List UInt8)(h:Op.bytesLess a b=true):¬Op.bytesLess b a=true:=λk=>by
 have:=ED h k;rw[Ic] at this;cases this
theorem O8{x:List UInt8}:∀{l:List (List UInt8)},l.Pairwise (λx y=>Op.bytesLess x y=true)→(Je x l).Pairwise (λx y=>Op.bytesLess x y=true)
 | [],_=>by simp[Je]
 | y::r,h=>by
  obtain⟨h1,h2⟩:=AcX.1 h;rw[Je]
  split
  ·rename_i e;refine .cons (λz hz=>?_) (O8 h2);rcases MG.1 hz with rfl | hz
   ·exact e
   ·exact h1 z hz
  ·split
   ·exact h
   ·rename_i e1 e2;have e:=FN (by simpa using e1) e2;refine .cons (λz hz=>?_) h;rcases AaH.1 hz with rfl | hz
    ·exact e
    ·exact ED e (h1 z hz)
theorem L7(l:List (List UInt8)):(Ii l).Pairwise (λx y=>Op.bytesLess x y=true)∧∀x,x∈Ii l↔x∈l:=by
 have:∀(l r:List (List UInt8)),r.Pairwise (λx y=>Op.bytesLess x y=true)→(l.foldl (λr x=>Je x r) r).Pairwise (λx y=>Op.bytesLess x y=true)∧∀x,x∈l.foldl (λr x=>Je x r) r↔x∈l∨x∈r:=λl=>by
  induction l with
  | nil=>intro r h;exact⟨h,by simp⟩
  | cons y l ih=>
   intro r h;obtain⟨h1,h2⟩:=ih (Je y r) (O8 h);refine⟨h1,λx=>?_⟩;rw[AcN,h2,MG,AaH];constructor
   ·rintro(h | h | h)
    ·exact .inl (.inr h)
    ·exact .inl (.inl h)
    ·exact .inr h
   ·rintro((h | h) | h)
    ·exact .inr (.inl h)
    ·exact .inl h
    ·exact .inr (.inr h)
 obtain⟨h1,h2⟩:=this l [] .nil;exact⟨h1,λx=>by rw[Ii,h2];simp⟩
theorem BO{b:Ao}{nm:List UInt8}{s:Af}(h:BE b nm=some s):s.name=nm∧s∈b:=by
 unfold BE at h
 cases e:Pq b nm with
 | none=>rw[e] at h;cases h
 | some i=>
  rw[e] at h;obtain⟨t,ht,hn⟩:=Mt e;have h:b[i]?=some s:=h;rw[ht] at h;obtain rfl:=Ab9 h;exact⟨hn,Ab7 ht⟩
theorem AaA{b:Ao}(hb:b.Pairwise (λs u=>Op.bytesLess s.name u.name=true)){s:Af}(h:s∈b):BE b s.name=some s:=by
 obtain⟨i,hi⟩:=AcQ h;unfold BE;rw[Aan hb hi];exact hi
theorem N7{b:Ao}{nm:List UInt8}:(BE b nm).isSome=(Pq b nm).isSome:=by
 unfold BE
 cases e:Pq b nm with
 | none=>rfl
 | some i=>
  obtain⟨t,ht,-⟩:=Mt e;simp[ht]
theorem Z8{m:Bg}{k c:Nat}(h:k≤c)(hc:(c:Int)≤m.new)(hn:(c:Int)=m.new∨(c:Int)∈m.to)(hm:∀i:Nat,k≤i→i<c→(i:Int)∉m.to):NZ m k=List.range' k (c - k):=by
 refine Kn (r:=(·<·)) (λa b h=>by omega) ?_ Adv λi=>?_
 ·obtain⟨n,e,-⟩:=FS m k;rw[e];exact Adv
 ·rw[GO,List.mem_range'_1];constructor
  ·rintro⟨h1,h2,h3⟩;refine⟨h1,?_⟩;by_cases hi:i<c
   ·omega
   ·rcases hn with h4 | h4
    ·omega
    ·exact absurd h4 (h3 c h AdV)
  ·rintro⟨h1,h2⟩;exact⟨h1,by omega,λj h3 h4=>hm j h3 AdV⟩
theorem Ww{b:Ao}(hb:Aw b=true){ss:List Bl}(hs:∀x∈ss,∃s∈b,x=A7 s){l:List Ag}(hp:∀x∈l,AH x=true)(own:List UInt8):Aai ss l own:=λx hx hk s hf=>by
 obtain⟨u,hu,rfl⟩:=hs s (GA hf).1;obtain⟨_,h2,h3,h4,_⟩:=B1.1 ((Co.1 hb).2.1 u hu);exact Xx (a:=u.rows.length) (b:=u.cols.toNat) AdV AdV rfl rfl rfl (hp x hx) hk
theorem Wn{b:Ao}(hb:Aw b=true){l:List Bl}(hs:∀x∈Il b l,∃s∈b,x=A7 s):E3 b l=b:=by
 unfold E3 Ch;have:∀s∈b,NU (Il b l) s=s:=λs a0=>by
  obtain⟨_,_,_,_,h5⟩:=B1.1 ((Co.1 hb).2.1 s a0);have e:s.rows.map (Kg s.name (Il b l))=s.rows:=by
   refine(Acq (g:=id) λr hr=>?_).trans (AdW _);unfold Kg;refine(Acq (g:=id) λt ht=>?_).trans (AdW _);exact Rh ((h5 r hr).2 t ht) λk hl=>Ww hb hs (JF (EX hl).2.1) _
  unfold NU;rw[e]
 exact(Acq (g:=id) this).trans (AdW _)
theorem Hz{n i:Nat}(h:i<n):Dl (BU n).to (i:Int)=some i:=by
 unfold Dl BU DU;rw[AbN];refine⟨by simpa using h,by simp,λj hj=>?_⟩;simp;omega
theorem O2{b:Ao}{s:Af}{x:Bl}{nm:List UInt8}(hs:BE b nm=some s)(hx:x=A7 s){r c:Nat}(hr:r<s.rows.length)(hc:c<s.cols.toNat):HF b x r c=some ((s.rows.getD r []).getD c []):=by
 subst hx;have hn:=(BO hs).1;unfold HF;show(match BE b s.name with | none=>_ | some t=>_)=_;rw[hn,hs];simp only[A7,AbZ,if_false,Hz hr,Hz hc]
theorem Y7{p:AF}{s:Af}{mo ma mb:Ao}(hs:AX s=true)(hn:p.name=s.name)(hr:p.rows=s.rows.length)(hc:p.cols=s.cols)(hcl:p.clash=false)
  (ht:∀r c,r<s.rows.length→c<s.cols.toNat→Jo p mo ma mb r c=((s.rows.getD r []).getD c [],none)):Fm p mo ma mb=s∧Jj p mo ma mb=[]:=by
 obtain⟨_,h2,h3,h4,h5⟩:=B1.1 hs;have a0:p.rows.toNat=s.rows.length:=AdV
 have a1:p.cols.toNat=s.cols.toNat:=by rw[hc]
 constructor
 ·unfold Fm;rw[hn,hc,a0];have e:(List.range s.rows.length).map (Yp p mo ma mb)=s.rows:=by
   apply AcC;intro r;by_cases h:r<s.rows.length
   ·rw[AbH,Adp h,B7 h];show some (Yp p mo ma mb r)=_
    congr 1
    have hl:(s.rows[r].length:Int)=s.cols:=(h5 _ (Acm h)).1;have e0:s.rows.getD r []=s.rows[r]:=by rw[AaE,B7 h];rfl
    unfold Yp;rw[a1];apply AcC;intro c;by_cases hk:c<s.cols.toNat
    ·rw[AbH,Adp hk];show some (Jo p mo ma mb r c).1=_;rw[ht r c h hk,e0];show some (s.rows[r].getD c [])=_;rw[AaE,B7 AdV];rfl
    ·rw[AbI (by simpa using hk),AbI AdV]
   ·rw[AbI AeQ,AbI AdV]
  rw[e]
 ·unfold Jj;rw[hcl,a0,a1];simp only[AbZ,if_false,AbR];rw[AcU];intro r a2;rw[AcU];intro c a3;rw[Acg] at a2 a3;rw[Q9,ht r c a2 a3]
def YQ(a mo ma mb:Ao)(nm:List UInt8)(p:AF):Prop:=(BE a nm=none→p.gone=true∧p.rows=0∧p.cols=0)∧
 ∀s,BE a nm=some s→p.gone=false∧p.rows=s.rows.length∧p.cols=s.cols∧Fm p mo ma mb=s∧Jj p mo ma mb=[]
theorem VB{a mo ma mb:Ao}(ha:Aw a=true){nms:List (List UInt8)}{f:List UInt8→AF}(hr:nms.Pairwise (λx y=>Op.bytesLess x y=true))(hm:∀s∈a,s.name∈nms)(h:∀nm∈nms,YQ a mo ma mb nm (f nm)) :
  Ju (nms.map f)=false∧(FL (nms.map f)).map (λp=>Fm p mo ma mb)=a∧(FL (nms.map f)).flatMap (λp=>Jj p mo ma mb)=[]:=by
 obtain⟨h1,h2,h3⟩:=Co.1 ha;have a0:∀nm∈nms,(f nm).gone=false→∃s∈a,BE a nm=some s∧(f nm).rows=s.rows.length∧(f nm).cols=s.cols∧Fm (f nm) mo ma mb=s∧Jj (f nm) mo ma mb=[]:=λnm hn hg=>by
  obtain⟨a4,hp⟩:=h nm hn
  cases e:BE a nm with
  | none=>rw[(a4 e).1] at hg;cases hg
  | some s=>exact⟨s,(BO e).2,rfl,(hp s e).2⟩
 have a2:∀s∈a,s.name∈nms∧(f s.name).gone=false∧Fm (f s.name) mo ma mb=s:=λs hs=>by
  have hp:=(h s.name (hm s hs)).2 s (AaA h3 hs);exact⟨hm s hs,hp.1,hp.2.2.2.1⟩
 have a1:∀p,p∈FL (nms.map f)↔∃nm∈nms,f nm=p∧p.gone=false:=λp=>by
  unfold FL;rw[Ac4,AbJ];constructor
  ·rintro⟨⟨nm,hn,rfl⟩,hg⟩;exact⟨nm,hn,rfl,by simpa using hg⟩
  ·rintro⟨nm,hn,rfl,hg⟩;exact⟨⟨nm,hn,rfl⟩,by simpa using hg⟩
 have a3:(FL (nms.map f)).map (λp=>Fm p mo ma mb)=a:=by
  refine Kn (r:=λs u:Af=>Op.bytesLess s.name u.name=true) (λs u h=>Jv _ _ h) ?_ h3 λs=>?_
  ·unfold FL;rw[AdG,List.filter_map,AdG];refine List.Pairwise.imp_of_mem ?_ (hr.sublist List.filter_sublist);intro x y hx hy a5;simp only[Ac4,Function.comp] at hx hy;obtain⟨sx,_,ex,_,_,e1,_⟩:=a0 x hx.1 (by simpa using hx.2);obtain⟨sy,_,ey,_,_,e2,_⟩:=a0 y hy.1 (by simpa using hy.2);rw[e1,e2,(BO ex).1,(BO ey).1];exact a5
  ·rw[AbJ];constructor
   ·rintro⟨p,hp,rfl⟩;obtain⟨nm,hn,rfl,hg⟩:=(a1 p).1 hp;obtain⟨s,hs,_,_,_,e,_⟩:=a0 nm hn hg;rw[e];exact hs
   ·intro hs;obtain⟨q1,q2,q3⟩:=a2 s hs;exact⟨f s.name,(a1 _).2 ⟨_,q1,rfl,q2⟩,q3⟩
 refine⟨?_,a3,?_⟩
 ·unfold Ju;have hl:(FL (nms.map f)).length=a.length:=by rw[←a3,Abr]
  rw[hl];simp only[Adm,decide_eq_false_iff_not,List.any_eq_false,Acn,decide_eq_true_eq];refine⟨λp hp=>?_,by omega⟩;obtain⟨nm,hn,rfl⟩:=AbJ.1 hp;obtain⟨a4,hp⟩:=h nm hn
  cases e:BE a nm with
  | none=>obtain⟨_,e1,e2⟩:=a4 e;rw[e1,e2];omega
  | some s=>
   obtain⟨_,e1,e2,_⟩:=hp s e;obtain⟨_,q2,q3,q4,_⟩:=B1.1 (h2 s (BO e).2);rw[e1,e2];omega
 ·rw[AcU];intro p hp;obtain⟨nm,hn,rfl,hg⟩:=(a1 p).1 hp;obtain⟨_,_,_,_,_,_,e⟩:=a0 nm hn hg;exact e
theorem Di(a b:Af):(Bb a b).length=a.rows.length:=by rw[Bb,Gj,Abr]
theorem Dh(a b:Af)(m:List Int):(DE a b m).length=a.cols.toNat:=by rw[DE,Gj];simp[BB]
theorem L5(o a b:Ao):(Gx o a b).Pairwise (λx y=>Op.bytesLess x y=true)∧∀x,x∈Gx o a b↔x∈o.map Af.name∨x∈a.map Af.name∨x∈b.map Af.name:=by
 obtain⟨h1,h2⟩:=L7 (o.map Af.name++a.map Af.name++b.map Af.name);refine⟨h1,λx=>?_⟩;have:=h2 x;rw[AaC,AaC] at this;rw[Gx,this,or_assoc]
theorem UT(x:Option (List UInt8))(t:List UInt8):DY x (some t) (some t)=(t,none):=by simp[DY]
theorem VO{b:Ao}{nms:List (List UInt8)}{g:List UInt8→Bl}(hn:∀nm∈nms,(g nm).sheet=nm)(h:∀nm∈nms,∀s,BE b nm=some s→g nm=A7 s):∀x∈Il b (nms.map g),∃s∈b,x=A7 s:=λx hx=>by
 unfold Il at hx;obtain⟨h1,h2⟩:=Ac4.1 hx;obtain⟨nm,hm,rfl⟩:=AbJ.1 h1;rw[hn nm hm,←N7] at h2
 cases e:BE b nm with
 | none=>rw[e] at h2;cases h2
 | some s=>exact⟨s,(BO e).2,h nm hm s e⟩
theorem Nl(nm:List UInt8)(o:Option Af)(s t:Af):BN nm o (some s) (some t)=if s=t then CR nm o (A7 s) (A7 t) s 0 false else match o with
  | some u=>Dx nm u s t
  | none=>CR nm o (A7 s) (A7 t) s 1 true:=rfl
theorem Rz(nm:List UInt8)(o:Option Af)(s:Af):BN nm o (some s) none=if o=some s then ET nm else CR nm o (A7 s) (E1 nm) s 1 o.isSome:=rfl
theorem Ry(nm:List UInt8)(o:Option Af)(t:Af):BN nm o none (some t)=if o=some t then ET nm else CR nm o (E1 nm) (A7 t) t 2 o.isSome:=rfl
theorem XY(nm:List UInt8)(o:Option Af):BN nm o none none=ET nm:=rfl
theorem LA{nm:List UInt8}{o x y:Option Af}(ho:∀s,o=some s→s.name=nm)(hx:∀s,x=some s→s.name=nm)(hy:∀s,y=some s→s.name=nm):(BN nm o x y).o.sheet=nm∧(BN nm o x y).a.sheet=nm∧(BN nm o x y).b.sheet=nm∧(BN nm o x y).name=nm:=by
 have a0:∀t,(XS nm o t).sheet=nm:=λt=>by
  cases o with
  | none=>rfl
  | some u=>exact ho u rfl
 cases x with
 | none=>
  cases y with
  | none=>exact⟨rfl,rfl,rfl,rfl⟩
  | some t=>
   rw[Ry]
   split
   ·exact⟨rfl,rfl,rfl,rfl⟩
   ·exact⟨a0 t,rfl,hy t rfl,rfl⟩
 | some s=>
  cases y with
  | none=>
   rw[Rz]
   split
   ·exact⟨rfl,rfl,rfl,rfl⟩
   ·exact⟨a0 s,hx s rfl,rfl,rfl⟩
  | some t=>
   rw[Nl]
   split
   ·exact⟨a0 s,hx s rfl,hy t rfl,rfl⟩
   cases o with
   | none=>exact⟨rfl,hx s rfl,hy t rfl,rfl⟩
   | some u=>exact⟨rfl,rfl,rfl,rfl⟩
theorem Cu{b:Ao}(h:Aw b=true){nm:List UInt8}{s:Af}(hs:BE b nm=some s):AX s=true∧s.name=nm:=⟨(Co.1 h).2.1 s (BO hs).2,(BO hs).1⟩
theorem VX{nm:List UInt8}{o a:Option Af} :
  (a=none→BN nm o a a=ET nm)∧∀s,a=some s→(BN nm o a a).gone=false∧(BN nm o a a).rows=s.rows.length∧(BN nm o a a).cols=s.cols∧(BN nm o a a).clash=false∧(BN nm o a a).a=A7 s∧(BN nm o a a).b=A7 s∧(BN nm o a a).whole=0:=by
 refine⟨λh=>by rw[h,XY],λs h=>?_⟩;rw[h,Nl,if_pos rfl];exact⟨rfl,rfl,rfl,rfl,rfl,rfl,rfl⟩
theorem Tb{o a:Ao}(ho:Aw o=true)(ha:Aw a=true):CN o a a=⟨a,[],0⟩:=by
 obtain⟨n1,n2⟩:=L5 o a a;have a3:∀nm s,BE o nm=some s→AX s=true∧s.name=nm:=λnm s h=>Cu ho h;have a0:∀nm s,BE a nm=some s→AX s=true∧s.name=nm:=λnm s h=>Cu ha h;have a1:=λnm=>VX (nm:=nm) (o:=BE o nm) (a:=BE a nm);have a2:=λnm=>LA (nm:=nm) (λs h=>(a3 nm s h).2) (λs h=>(a0 nm s h).2) (λs h=>(a0 nm s h).2);have eside:∀g:AF→Bl,(∀nm,(g (BN nm (BE o nm) (BE a nm) (BE a nm))).sheet=nm)→(∀nm s,BE a nm=some s→g (BN nm (BE o nm) (BE a nm) (BE a nm))=A7 s)→E3 a ((DS o a a).map g)=a:=λg h1 h2=>by
  refine Wn ha ?_;unfold DS;rw[Adn];exact VO (λnm _=>h1 nm) λnm _ s hs=>h2 nm s hs
 have ema:=eside AF.a (λnm=>(a2 nm).2.1) λnm s hs=>((a1 nm).2 s hs).2.2.2.2.1;have emb:=eside AF.b (λnm=>(a2 nm).2.2.1) λnm s hs=>((a1 nm).2 s hs).2.2.2.2.2.1;have hk:=VB (mo:=E3 o ((DS o a a).map AF.o)) (ma:=a) (mb:=a) ha n1 (f:=λnm=>BN nm (BE o nm) (BE a nm) (BE a nm)) (λs hs=>(n2 s.name).2 (.inr (.inl (List.mem_map_of_mem hs)))) λnm h=>by
  obtain⟨p0,p2⟩:=a1 nm;have a4:=(a2 nm).2.2.2;refine⟨λe=>?_,λs e=>?_⟩
  ·show(BN _ _ _ _).gone=true∧_;rw[p0 e];exact⟨rfl,rfl,rfl⟩
  ·obtain⟨m1,m2⟩:=a0 nm s e;obtain⟨p2,p3,p4,p5,p6,p6',p7⟩:=p2 s e;refine⟨p2,p3,p4,Y7 m1 (a4.trans m2.symm) p3 p4 p5 λr c hr hc=>?_⟩;unfold Jo;rw[p7];show DY _ _ _=_;rw[O2 e p6 hr hc,O2 e p6' hr hc];exact UT _ _
 unfold CN;rw[if_pos ⟨ho,ha,ha⟩];have e1:Ju (DS o a a)=false:=hk.1;rw[e1];simp only[AbZ,if_false];unfold MQ;simp only[ema,emb];have e2:=hk.2.1;have e3:=hk.2.2;show(⟨(FL (DS o a a)).map _,(FL (DS o a a)).flatMap _,0⟩:JJ)=_;unfold DS at *;rw[e2,e3]
def Fu(V:List Nat)(w:World)(P:World→Prop):Prop:=∀w',Chg V w w'→P w'
theorem Fu.now{V:List Nat}{w:World}{P:World→Prop}(h:Fu V w P):P w:=h w (Chg.refl _ _)
theorem Fu.step{V V':List Nat}{w w':World}{P:World→Prop}(h:Fu V w P)(x:Chg V w w')(hv:∀j,j∈V'→j∈V∨w.heap.size≤j):Fu V' w' P:=λw2 x2=>h w2 ((Chg.trans x x2).mono λj hj hl=>by
 rcases AaC.1 hj with hj | hj
 ·exact hj
 ·rcases hv j hj with h | h
  ·exact h
  ·omega)
theorem Fu.ext{V:List Nat}{w w':World}{P:World→Prop}(h:Fu V w P)(x:Ah w w'):Fu V w' P:=h.step x.chg λ_=>.inl
theorem AaQ:Go.WideMaps.ArrKey prog 105 3 2:=⟨underlying105,by kernel_rfl,by kernel_rfl,by kernel_rfl⟩
theorem Zh:Go.Maps.Keyed prog 105:=Go.Maps.Keyed.of_law AaQ.law
abbrev QS(r c:Nat):Value:=.agg ⟨[.int .i64 (r:Int),.int .i64 (c:Int)]⟩
def XD(r c:Nat):Lit:=.string (keyBytes [.int .i64 (r:Int),.int .i64 (c:Int)])
theorem wfP{r:Nat}(hr:r≤1000000):(Lit.int .i64 (r:Int)).wf=true:=by
 have h1:IntKind.i64.min=-9223372036854775808:=AdZ
 have h2:IntKind.i64.max=9223372036854775807:=AdZ
 simp only[Lit.wf,h1,h2,AaG,decide_eq_true_eq];omega
theorem JZ{r c:Nat}(hr:r≤1000000)(hc:c≤1000000):keyOf prog 105 (QS r c)=some (XD r c):=
 Go.WideMaps.keyOf_pair AaQ underlying3 ⟨prog.types.size - 1,by kernel_rfl⟩ (wfP hr) (wfP hc)
theorem XE{r c i j:Nat}(hr:r≤1000000)(hc:c≤1000000)(hi:i≤1000000)(hj:j≤1000000)(h:XD r c=XD i j):r=i∧c=j:=by
 have h1:=JZ hr hc;rw[h] at h1;have:=Zh.inj h1 (JZ hi hj);simp only[QS,Value.agg.injEq,Array.mk.injEq,Ac7,Value.int.injEq,true_and,and_true] at this;omega
noncomputable abbrev Xh:Value→Option (DataW Unit×List MemPlace):=plainElem prog 9
theorem Vc{t:List UInt8}(h:t.length≤1000000):Xh (Av t)=some (.lit (.string t),[]):=by
 have:=plainElem_string (H:=Unit) (P:=prog) underlying9 (s:=⟨⟨t⟩⟩) (by show t.length≤maxLen;unfold maxLen;omega);exact this
theorem Xi{P:Program}{e:TypeId}(he:P.underlying e=some .string){v:Value}{y:DataW Unit×List MemPlace}{t:List UInt8}(h:plainElem P e v=some y)(hy:y.1=.lit (.string t)):v=Av t:=by
 unfold plainElem at h;rw[he] at h
 cases v with
 | string s=>
  simp only at h
  split at h
  ·cases h;simp only[DataW.lit.injEq,Lit.string.injEq] at hy;obtain⟨⟨l⟩⟩:=s;simp only at hy;rw[←hy]
  ·cases h
 | _=>simp at h
theorem Vb{v:Value}{y:DataW Unit×List MemPlace}{t:List UInt8}(h:Xh v=some y)(hy:y.1=.lit (.string t)):v=Av t:=Xi underlying9 h hy
def DC(w:World)(b n:Nat)(f:Nat→Nat→Option (List UInt8)):Prop:=
 ∃D:DataW Unit,w.ownsMap prog 105 Xh b n D∧∀r c,r≤1000000→c≤1000000→∀zd,D.atKey (XD r c) zd=match f r c with | none=>zd | some t=>.lit (.string t)
theorem DC.lt{w:World}{b n:Nat}{f:Nat→Nat→Option (List UInt8)}(h:DC w b n f):b<w.heap.size:=by
 obtain⟨D,h,-⟩:=h;exact h.lt
theorem DC.mono{w:World}{b n m:Nat}{f:Nat→Nat→Option (List UInt8)}(h:DC w b n f)(hm:n≤m):DC w b m f:=by
 obtain⟨D,h,k⟩:=h;exact⟨D,h.mono hm,k⟩
theorem DC.chg{S:List Nat}{w w':World}{b n:Nat}{f:Nat→Nat→Option (List UInt8)}(h:DC w b n f)(x:Chg S w w')(hb:b∉S):DC w' b n f:=by
 have hl:=h.lt;obtain⟨D,⟨es,clock,hh,F,hs,hD⟩,k⟩:=h;exact⟨D,⟨es,clock,(x.block b hl hb).trans hh,F,hs,hD⟩,k⟩
theorem DC.ext{w w':World}{b n:Nat}{f:Nat→Nat→Option (List UInt8)}(h:DC w b n f)(x:Ah w w'):DC w' b n f:=h.chg x Aei
theorem DC.congr{w:World}{b n:Nat}{f g:Nat→Nat→Option (List UInt8)}(h:DC w b n f)(hg:∀r c,f r c=g r c):DC w b n g:=by
 obtain⟨D,h1,k⟩:=h;exact⟨D,h1,λr c hr hc zd=>by rw[←hg];exact k r c hr hc zd⟩
theorem DC.look{w:World}{b n:Nat}{f:Nat→Nat→Option (List UInt8)}(h:DC w b n f){r c:Nat}(hr:r≤1000000)(hc:c≤1000000)(ok:Bool) :
  (Instr.lookup 103 (.map (some b)) (QS r c) ok).run prog w=.ok (if ok then .tuple #[Av ((f r c).getD []),.bool (f r c).isSome] else Av ((f r c).getD [])) w:=by
 obtain⟨D,⟨es,clock,hb,F,_,rfl⟩,hf⟩:=h;rcases Go.Maps.fit_look ok Zh underlying103 (zeroValue9 w) hb F (JZ hr hc) with ⟨a0,_,a1⟩ | ⟨e0,y,_,_,a0,a2,a1,_⟩
 ·cases e:f r c with
  | none=>rw[a0];rfl
  | some t=>
   exfalso;have h1:=hf r c hr hc (.lit (.bool true));rw[a1,e] at h1;cases h1
 ·cases e:f r c with
  | none=>
   exfalso;have h1:=hf r c hr hc (.lit (.bool true));have h2:=hf r c hr hc (.lit (.bool false));rw[a1,e] at h1 h2;rw[h1] at h2
   cases h2
  | some t=>
   have h1:=hf r c hr hc (.lit (.bool true));rw[a1,e] at h1;rw[a0,Vb a2 h1];rfl
theorem DC.put{w:World}{b n:Nat}{f:Nat→Nat→Option (List UInt8)}(h:DC w b n f)(hn:n<1000000){r c:Nat}(hr:r≤1000000)(hc:c≤1000000){t:List UInt8}(ht:t.length≤1000000) :
  ∃w',(Instr.mapUpdate 103 (.map (some b)) (QS r c) (Av t)).run prog w=.ok () w'∧DC w' b (n+1) (λi j=>if i=r∧j=c then some t else f i j)∧Chg [b] w w':=by
 obtain⟨D,hO,hf⟩:=h;obtain⟨w',a0,a1,hg⟩:=hO.update Zh underlying103 (by unfold maxLen;omega) (JZ hr hc) (Vc ht);have hM:Go.Maps.IsMap D:=by obtain⟨es,clock,_,_,_,rfl⟩:=hO;exact⟨_,rfl⟩
 have hK:WideAt.IsKeyLit (XD r c):=Zh.key (JZ hr hc);refine⟨w',a0,⟨_,a1,λi j hi hj zd=>?_⟩,⟨hg.os,hg.tape,hg.output,hg.size,λk hk hs=>hg.block k hk λe=>hs (by cases e;simp)⟩⟩;by_cases e:i=r∧j=c
 ·obtain⟨rfl,rfl⟩:=e;rw[Go.Maps.atKey_put_same hM hK];simp
 ·rw[Go.Maps.atKey_put_other (λk=>e (XE hi hj hr hc k))];refine(hf i j hi hj zd).trans ?_;show _=match (if i=r∧j=c then some t else f i j) with | none=>zd | some t=>DataW.lit (Lit.string t)
  rw[if_neg e]
section
variable {Q:Exit→Act→World→Prop} {D:List Deferred} {n d:Nat} {E:Ci} {w:World} {l rest:List Oper} {x y z:Operand} {T:TypeId} {pos:String} {af:Array Edge} {b m r c:Nat} {f:Nat→Nat→Option (List UInt8)} {t:List UInt8}
theorem LW.makeMap(hn:Nat.blt d n=true)(h:∀b w',b=w.heap.size→Ah w w'→DC w' b 0 (λ_ _=>none)→LW prog l Q rest D n ((d,.map (some b))::E) w') :
  LW prog l Q (⟨some d,.makeMap 103 none,T,pos,af,none⟩::rest) D n E w:=by
 refine LW.val (w':=w.alloc (.map #[] 0)) rfl rfl hn (λa ha=>?_) (h _ _ rfl (Ah.alloc ..) ⟨_,World.ownsMap_made ..,λ_ _ _ _ _=>rfl⟩);have e1:(execOp a.eval ⟨some d,.makeMap 103 none,T,pos,af,none⟩)=(do Pure.pure (Next.value (←Instr.makeMap 103 none))):=rfl;rw[e1,Abl,RowKit.run_makeMap];rfl
theorem Y.look(hM:DC w b m f)(hx:ev E x=some (.map (some b)))(hy:ev E y=some (QS r c))(hr:r≤1000000)(hc:c≤1000000){v:Value}(hv:v=Av ((f r c).getD [])):Y prog D n E w ⟨some d,.lookup 103 x y false,T,pos,af,none⟩ v:=λa ha=>by
 have e1:(execOp a.eval ⟨some d,.lookup 103 x y false,T,pos,af,none⟩)=(do Pure.pure (Next.value (←Instr.lookup 103 (a.eval x) (a.eval y) false))):=rfl;rw[e1,ha.eval hx,ha.eval hy,Abl,hM.look hr hc false,hv];rfl
theorem Y.look2(hM:DC w b m f)(hx:ev E x=some (.map (some b)))(hy:ev E y=some (QS r c))(hr:r≤1000000)(hc:c≤1000000):Y prog D n E w ⟨some d,.lookup 103 x y true,T,pos,af,none⟩ (.tuple #[Av ((f r c).getD []),.bool (f r c).isSome]):=λa ha=>by
 have e1:(execOp a.eval ⟨some d,.lookup 103 x y true,T,pos,af,none⟩)=(do Pure.pure (Next.value (←Instr.lookup 103 (a.eval x) (a.eval y) true))):=rfl;rw[e1,ha.eval hx,ha.eval hy,Abl,hM.look hr hc true];rfl
theorem LW.mapPut(hM:DC w b m f)(hm:m<1000000)(hx:ev E x=some (.map (some b)))(hy:ev E y=some (QS r c))(hz:ev E z=some (Av t))(hr:r≤1000000)(hc:c≤1000000)(ht:t.length≤1000000)
  (h:∀w',Chg [b] w w'→DC w' b (m+1) (λi j=>if i=r∧j=c then some t else f i j)→LW prog l Q rest D n E w'):LW prog l Q (⟨none,.mapUpdate 103 x y z,T,pos,af,none⟩::rest) D n E w:=by
 obtain⟨w',a0,h1,h2⟩:=hM.put hm hr hc ht;refine LW.unit rfl rfl (λa ha=>?_) (h w' h2 h1);simp only[execOp,ha.eval hx,ha.eval hy,ha.eval hz,Abl,AbB,Abe,a0]
end
end Go.Proofs.YtcjjcnecopnpcaaGreatDoor
