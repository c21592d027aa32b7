/-
  Joined by program out of the texts MvbP LinP FusP MrgP MrgQ MrgA Saf MapG.
-/
import Derived.Test.YtcjjcnecopnpcaaGreatDoorMxJ
import Derived.Test.YtcjjcnecopnpcaaGreatDoorMxI
import Derived.Test.YtcjjcnecopnpcaaGreatDoorMxH
import Derived.Test.YtcjjcnecopnpcaaGreatDoorMxA
import Derived.Test.YtcjjcnecopnpcaaGreatDoorMxE
import Derived.Maps.Own
import Derived.Carry
import Derived.Maps.Views
import Derived.WideKeyPair
namespace Go.Proofs.YtcjjcnecopnpcaaGreatDoor
open Tryz
open Go Go.E
noncomputable def Jh(nm:List UInt8)(ss:List Bg)(r:List (List UInt8)):List (List UInt8):=r.map (D7 nm ss)
noncomputable def KL(ss:List Bg)(s:Ae):Ae:={s with rows:=s.rows.map (Jh s.name ss)}
noncomputable def BU(ss:List Bg)(b:An):An:=b.map (KL ss)
theorem AZ{s:Ae}:A7 s=true↔Do s.name=true∧0≤s.cols∧s.cols≤12∧s.rows.length≤24∧∀r∈s.rows,(r.length:Int)=s.cols∧∀t∈r,BN t=true:=by
 simp only[A7,AaY,Ac1,decide_eq_true_eq];constructor
 ·rintro⟨⟨⟨⟨h1,h2⟩,h3⟩,h4⟩,h5⟩;exact⟨h1,h2,h3,h4,h5⟩
 ·rintro⟨h1,h2,h3,h4,h5⟩;exact⟨⟨⟨⟨h1,h2⟩,h3⟩,h4⟩,h5⟩
def PH(m:AH):Nat→Nat→List Nat
 | 0,_=>[]
 | f+1,k=>if (k:Int)<m.new∧(k:Int)∉m.to then k::PH m f (k+1) else[]
def KU(m:AH)(k:Nat):List Nat:=PH m m.new.toNat k
def C3(m:AH):Nat→List Nat
 | 0=>KU m 0
 | g+1=>if m.to.getD g 0<0 then[] else KU m ((m.to.getD g 0).toNat+1)
def BV(l:List Int):Nat→List Nat→List Int
 | _,[]=>l
 | now,k::r=>BV (l.set k now) (now+1) r
structure D0 where
 o:List Int
 x:List Int
 y:List Int
 now:Nat
def Cz(a b:AH)(st:D0):Nat→D0
 | 0=>st
 | g+1=>if 0≤a.to.getD g 0∧0≤b.to.getD g 0 then⟨st.o.set g st.now,st.x.set (a.to.getD g 0).toNat st.now,st.y.set (b.to.getD g 0).toNat st.now,st.now+1⟩ else st
def H1(a:AH)(st:D0)(j:Nat):D0:={st with x:=BV st.x st.now (C3 a j),now:=st.now+(C3 a j).length}
def Jf(b:AH)(st:D0)(j:Nat):D0:={st with y:=BV st.y st.now (C3 b j),now:=st.now+(C3 b j).length}
def Jg(a b:AH)(st:D0)(j:Nat):D0:=Jf b (H1 a (Cz a b st j) j) j
def L3(a b:AH):D0:=⟨List.replicate a.to.length (-1),List.replicate a.new.toNat (-1),List.replicate b.new.toNat (-1),0⟩
def AG(a b:AH)(j:Nat):D0:=(List.range j).foldl (Jg a b) (L3 a b)
def A3(a b:AH):D0:=AG a b (a.to.length+1)
theorem CV(a b:AH)(j:Nat):AG a b (j+1)=Jg a b (AG a b j) j:=by simp[AG,AbJ]
theorem J5:∀(l:List Int) (now:Nat) (ks:List Nat),(BV l now ks).length=l.length
 | l,now,[]=>rfl
 | l,now,k::r=>by rw[BV,J5,AbS]
theorem N5:∀(l:List Int) (now:Nat) (ks:List Nat) (k:Nat),BV l now (ks++[k])=(BV l now ks).set k ((now+ks.length:Nat):Int)
 | l,now,[],k=>by simp[BV]
 | l,now,j::r,k=>by
  rw[AbQ,BV,BV,N5 (l.set j now) (now+1) r k,AaL]
  congr 2
  omega
theorem Dw(a b:AH)(j:Nat):(AG a b j).o.length=a.to.length∧(AG a b j).x.length=a.new.toNat∧(AG a b j).y.length=b.new.toNat:=by
 induction j with
 | zero=>simp[AG,L3]
 | succ j ih=>
  rw[CV];have h1:∀st:D0,(Cz a b st j).o.length=st.o.length∧(Cz a b st j).x.length=st.x.length∧(Cz a b st j).y.length=st.y.length:=λst=>by
   cases j with
   | zero=>exact⟨rfl,rfl,rfl⟩
   | succ g=>rw[Cz];split<;>simp
  obtain⟨e1,e2,e3⟩:=h1 (AG a b j);simp only[Jg,H1,Jf,J5];rw[e1,e2,e3];exact ih
theorem RI:∀{m:AH} {f k i:Nat},i∈PH m f k→k≤i∧(i:Int)<m.new∧(i:Int)∉m.to∧∀j,k≤j→j≤i→(j:Int)∉m.to
 | m,0,k,i,h=>by simp[PH] at h
 | m,f+1,k,i,h=>by
  rw[PH] at h
  split at h
  ·rename_i hk;rcases AaT.1 h with rfl | h
   ·refine⟨Abi _,hk.1,hk.2,λj h1 h2=>?_⟩;have e:j=i:=AdE
    rw[e];exact hk.2
   ·obtain⟨h1,h2,h3,h4⟩:=RI h;exact⟨by omega,h2,h3,λj h5 h6=>by
     by_cases e:j=k
     ·rw[e];exact hk.2
     ·exact h4 j AdE h6⟩
  ·cases h
theorem RH:∀{m:AH} {f k i:Nat},m.new≤k+f→k≤i→(i:Int)<m.new→(∀j:Nat,k≤j→j≤i→(j:Int)∉m.to)→i∈PH m f k
 | m,0,k,i,hf,hk,hi,h=>by omega
 | m,f+1,k,i,hf,hk,hi,h=>by
  rw[PH,if_pos ⟨by omega,h k (Abi _) hk⟩];by_cases e:i=k
  ·rw[e];exact Abo ..
  ·exact Abj _ (RH AdE AdE hi λj h1 h2=>h j AdE h2)
theorem RJ:∀(m:AH) (f k:Nat),∃n,PH m f k=List.range' k n∧n≤f
 | m,0,k=>⟨0,rfl,Abi _⟩
 | m,f+1,k=>by
  rw[PH]
  split
  ·obtain⟨n,h,hn⟩:=RJ m f (k+1);exact⟨n+1,by rw[h];rfl,by omega⟩
  ·exact⟨0,rfl,by omega⟩
theorem FF{m:AH}{k i:Nat}:i∈KU m k↔k≤i∧(i:Int)<m.new∧∀j:Nat,k≤j→j≤i→(j:Int)∉m.to:=by
 constructor
 ·intro h;obtain⟨h1,h2,h3,h4⟩:=RI h;exact⟨h1,h2,h4⟩
 ·rintro⟨h1,h2,h3⟩;exact RH AdE h1 h2 h3
theorem FG(m:AH)(k:Nat):∃n,KU m k=List.range' k n∧n≤m.new.toNat:=RJ m _ k
theorem Ki{α:Type}{r:α→α→Prop}(hr:∀a b,r a b→¬r b a):∀{l m:List α},l.Pairwise r→m.Pairwise r→(∀x,x∈l↔x∈m)→l=m
 | [],[],_,_,_=>rfl
 | [],y::m,_,_,h=>absurd ((h y).2 (Abo ..)) AdM
 | x::l,[],_,_,h=>absurd ((h x).1 (Abo ..)) AdM
 | x::l,y::m,hl,hm,h=>by
  obtain⟨h1,h2⟩:=Ac4.1 hl;obtain⟨h3,h4⟩:=Ac4.1 hm;have e:x=y:=by
   rcases AaT.1 ((h x).1 (Abo ..)) with e | hx
   ·exact e
   rcases AaT.1 ((h y).2 (Abo ..)) with e | hy
   ·exact e.symm
   exact absurd (h3 x hx) (hr _ _ (h1 y hy))
  subst e
  congr 1
  refine Ki hr h2 h4 λz=>?_;have hz:=h z;simp only[AaT] at hz;constructor
  ·intro a0;rcases hz.1 (.inr a0) with e | h
   ·exact absurd (h1 z a0) (λk=>hr _ _ k (e ▸ k))
   ·exact h
  ·intro a1;rcases hz.2 (.inr a1) with e | h
   ·exact absurd (h3 z a1) (λk=>hr _ _ k (e ▸ k))
   ·exact h
theorem JP{l:List Int}{j:Nat}(h:j<l.length):l.getD j 0∈l:=by
 rw[AaF,Aap h];exact AbL h
theorem Ra{l:List Int}{x:Int}(h:x∈l):∃j,j<l.length∧l.getD j 0=x:=by
 obtain⟨j,hj,e⟩:=Ado h;exact⟨j,hj,by rw[AaF,Aap hj];exact e⟩
theorem OA(m:AH)(j:Nat):(C3 m j).Pairwise (·<·):=by
 have:∀k,(KU m k).Pairwise (·<·):=λk=>by
  obtain⟨n,e,-⟩:=FG m k;rw[e];exact Ada
 cases j with
 | zero=>exact this 0
 | succ g=>
  rw[C3]
  split
  ·exact .nil
  ·exact this _
def Kz(to:List Int)(j now:Nat)(xs:List Int):Prop:=∀i,i<xs.length→xs.getD i 0=-1∨(0≤xs.getD i 0∧xs.getD i 0<now∧(∀g,j≤g→g<to.length→0≤to.getD g 0→(i:Int)<to.getD g 0)∧∀q,q<i→xs.getD q 0<xs.getD i 0)
theorem Kz.up{to:List Int}{j j' now now':Nat}{xs:List Int}(h:Kz to j now xs)(hj:j≤j')(hn:now≤now'):Kz to j' now' xs:=λi hi=>by
 rcases h i hi with h | ⟨h1,h2,h3,h4⟩
 ·exact .inl h
 ·exact .inr ⟨h1,by omega,λg hg=>h3 g AdE,h4⟩
theorem Kz.none(to:List Int)(j now n:Nat):Kz to j now (List.replicate n (-1)):=λi hi=>by
 simp at hi;exact .inl (by simp[hi])
theorem FI{l:List Int}{k i:Nat}{x:Int}(hi:i<l.length):(l.set k x).getD i 0=if k=i then x else l.getD i 0:=by
 simp only[AaF,AcI];by_cases e:k=i
 ·subst e;simp[hi]
 ·simp[e]
theorem Kz.set{to:List Int}{j now k:Nat}{xs:List Int}(h:Kz to j now xs)(hk:k<xs.length)(hb:∀i,i<xs.length→xs.getD i 0≠-1→i<k)(ha:∀g,j≤g→g<to.length→0≤to.getD g 0→(k:Int)<to.getD g 0):Kz to j (now+1) (xs.set k now)∧∀i,i<xs.length→(xs.set k now).getD i 0≠-1→i≤k:=by
 refine⟨λi hi=>?_,λi hi hn=>?_⟩
 ·rw[AbS] at hi;rw[FI hi];by_cases e:k=i
  ·subst e;rw[if_pos rfl];refine .inr ⟨by omega,by omega,ha,λq hq=>?_⟩;rw[FI AdE,if_neg AdE];rcases h q AdE with h | ⟨h1,h2,h3,h4⟩<;>omega
  ·rw[if_neg e];rcases h i hi with h1 | ⟨h1,h2,h3,h4⟩
   ·exact .inl h1
   ·refine .inr ⟨h1,by omega,h3,λq hq=>?_⟩;have:=hb i hi AdE;rw[FI AdE,if_neg AdE];exact h4 q hq
 ·rw[FI hi] at hn;by_cases e:k=i
  ·omega
  ·rw[if_neg e] at hn;exact Nat.le_of_lt (hb i hi hn)
theorem Kz.run{to:List Int}{j:Nat}:∀{now:Nat} {xs:List Int} {ks:List Nat},Kz to j now xs→ks.Pairwise (·<·)→(∀k∈ks,k<xs.length∧∀g,j≤g→g<to.length→0≤to.getD g 0→(k:Int)<to.getD g 0)→(∀i,i<xs.length→xs.getD i 0≠-1→∀k∈ks,i<k)→Kz to j (now+ks.length) (BV xs now ks)
 | now,xs,[],h,_,_,_=>h
 | now,xs,k::r,h,hp,hk,hb=>by
  obtain⟨h1,h2⟩:=Ac4.1 hp;obtain⟨hk1,hk2⟩:=hk k (Abo ..);obtain⟨h3,h4⟩:=h.set hk1 (λi hi hn=>hb i hi hn k (Abo ..)) hk2;have:=Kz.run (now:=now+1) (xs:=xs.set k now) (ks:=r) h3 h2 (λq hq=>by rw[AbS];exact hk q (Abj _ hq)) (λi hi hn q hq=>by
   rw[AbS] at hi;have:=h4 i hi hn;have:=h1 q hq;omega)
  rw[BV,AaL,show now+(r.length+1)=now+1+r.length by omega];exact this
theorem Kz.side{m:AH}(hm:EE m)(hn:0≤m.new){g now now':Nat}{xs:List Int}(hl:xs.length=m.new.toNat)(hg:g<m.to.length)(h:Kz m.to g now xs)(hw:now≤now'){kept:Bool}(hk:kept=true→0≤m.to.getD g 0∧now<now') :
  Kz m.to (g+1) (now'+(C3 m (g+1)).length) (BV (if kept then xs.set (m.to.getD g 0).toNat now else xs) now' (C3 m (g+1))):=by
 have hr:=hm g hg;have a0:0≤m.to.getD g 0→∀q,g+1≤q→q<m.to.length→0≤m.to.getD q 0→m.to.getD g 0<m.to.getD q 0:=λ_ q hq a2 h0=>by
  rcases hm q a2 with h | ⟨_,_,h⟩
  ·omega
  ·exact h g AdE
 obtain⟨ys,a3⟩:∃ys,ys=(if kept then xs.set (m.to.getD g 0).toNat now else xs):=⟨_,rfl⟩;have a5:ys.length=m.new.toNat:=by rw[a3];split<;>simp[hl]
 have hy:Kz m.to (g+1) now' ys∧(0≤m.to.getD g 0→∀i,i<ys.length→ys.getD i 0≠-1→(i:Int)≤m.to.getD g 0):=by
  rw[a3];by_cases e:kept=true
  ·rw[if_pos e];obtain⟨h0,h1⟩:=hk e;have a4:(m.to.getD g 0).toNat<xs.length:=by rw[hl];omega
   obtain⟨h2,h3⟩:=(h.up (Ad2 g) (Abi now)).set a4 (λi hi hn=>by
    rcases h i hi with h4 | ⟨_,_,h4,_⟩
    ·exact absurd h4 hn
    ·have:=h4 g (Abi _) hg h0;omega) (λq hq a2 h4=>by
    have:=a0 h0 q hq a2 h4;omega)
   refine⟨h2.up (Abi _) AdE,λ_ i hi hn=>?_⟩;rw[AbS] at hi;have:=h3 i hi hn;omega
  ·rw[if_neg e];refine⟨h.up (Ad2 g) hw,λh0 i hi hn=>?_⟩;rcases h i hi with h4 | ⟨_,_,h4,_⟩
   ·exact absurd h4 hn
   ·have:=h4 g (Abi _) hg h0;omega
 rw[←a3];refine hy.1.run (OA m _) (λk a1=>?_) (λi hi hn k a1=>?_)
 ·rw[C3] at a1
  split at a1
  ·cases a1
  ·rename_i h0;obtain⟨h1,h2,h3⟩:=FF.1 a1;refine⟨by omega,λq hq a2 h4=>?_⟩;have h5:=a0 AdE q hq a2 h4;by_cases h6:(k:Int)<m.to.getD q 0
   ·exact h6
   ·exact absurd (JP a2) (by
     have:=h3 (m.to.getD q 0).toNat AdE AdE
     rwa [AbY h4] at this)
 ·rw[C3] at a1
  split at a1
  ·cases a1
  ·rename_i h0;obtain⟨h1,h2,h3⟩:=FF.1 a1;have:=hy.2 AdE i hi hn;omega
theorem Kz.first{m:AH}{now n:Nat}(hn:n=m.new.toNat):Kz m.to 0 (now+(C3 m 0).length) (BV (List.replicate n (-1)) now (C3 m 0)):=by
 refine(Kz.none m.to 0 now n).run (OA m _) (λk hk=>?_) (λi hi h=>?_)
 ·obtain⟨h1,h2,h3⟩:=FF.1 hk;refine⟨by simp;omega,λq _ a0 h4=>?_⟩;by_cases h6:(k:Int)<m.to.getD q 0
  ·exact h6
  ·exact absurd (JP a0) (by
    have:=h3 (m.to.getD q 0).toNat AdE AdE
    rwa [AbY h4] at this)
 ·simp at hi;exact absurd (by simp[hi]) h
def Ss(j now:Nat)(xs:List Int):Prop:=∀i,i<xs.length→xs.getD i 0=-1∨(0≤xs.getD i 0∧xs.getD i 0<now∧i<j∧∀q,q<i→xs.getD q 0<xs.getD i 0)
theorem Ss.up{j j' now now':Nat}{xs:List Int}(h:Ss j now xs)(hj:j≤j')(hn:now≤now'):Ss j' now' xs:=λi hi=>by
 rcases h i hi with h | ⟨h1,h2,h3,h4⟩
 ·exact .inl h
 ·exact .inr ⟨h1,by omega,by omega,h4⟩
theorem Ss.set{j now:Nat}{xs:List Int}(h:Ss j now xs):Ss (j+1) (now+1) (xs.set j now):=λi hi=>by
 rw[AbS] at hi;rw[FI hi];by_cases e:j=i
 ·subst e;rw[if_pos rfl];refine .inr ⟨by omega,by omega,by omega,λq hq=>?_⟩;rw[FI AdE,if_neg AdE];rcases h q AdE with h | ⟨h1,h2,h3,h4⟩<;>omega
 ·rw[if_neg e];rcases h i hi with h1 | ⟨h1,h2,h3,h4⟩
  ·exact .inl h1
  ·refine .inr ⟨h1,by omega,by omega,λq hq=>?_⟩;rw[FI AdE,if_neg AdE];exact h4 q hq
theorem Oq{a b:AH}(ha:EE a)(hb:EE b)(ha0:0≤a.new)(hb0:0≤b.new)(hl:b.to.length=a.to.length):∀j,j≤a.to.length→Kz a.to j (AG a b (j+1)).now (AG a b (j+1)).x∧Kz b.to j (AG a b (j+1)).now (AG a b (j+1)).y∧Ss j (AG a b (j+1)).now (AG a b (j+1)).o∧(AG a b (j+1)).now≤(j+1)*(1+a.new.toNat+b.new.toNat)
 | 0,_=>by
  rw[CV];have e0:AG a b 0=L3 a b:=rfl;have n1:(C3 a 0).length≤a.new.toNat:=by obtain⟨n,e,h⟩:=FG a 0;rw[C3,e];simpa using h
  have n2:(C3 b 0).length≤b.new.toNat:=by obtain⟨n,e,h⟩:=FG b 0;rw[C3,e];simpa using h
  simp only[e0,Jg,Jf,H1,Cz,L3];refine⟨(Kz.first (m:=a) (now:=0) rfl).up (Abi _) AdE,Kz.first (m:=b) rfl,λi hi=>.inl ?_,by omega⟩;simp at hi
  simp[hi]
 | g+1,hj=>by
  obtain⟨h1,h2,h3,h4⟩:=Oq ha hb ha0 hb0 hl g AdE;obtain⟨l1,l2,l3⟩:=Dw a b (g+1);rw[CV];generalize AG a b (g+1)=st at h1 h2 h3 h4 l1 l2 l3;have n1:(C3 a (g+1)).length≤a.new.toNat:=by
   rw[C3];split
   ·simp
   ·obtain⟨n,e,h⟩:=FG a ((a.to.getD g 0).toNat+1);rw[e];simpa using h
  have n2:(C3 b (g+1)).length≤b.new.toNat:=by
   rw[C3];split
   ·simp
   ·obtain⟨n,e,h⟩:=FG b ((b.to.getD g 0).toNat+1);rw[e];simpa using h
  have a0:(g+1+1)*(1+a.new.toNat+b.new.toNat)=(g+1)*(1+a.new.toNat+b.new.toNat)+(1+a.new.toNat+b.new.toNat):=Nat.succ_mul _ _;by_cases hk:0≤a.to.getD g 0∧0≤b.to.getD g 0
  ·simp only[Jg,Jf,H1,Cz,if_pos hk];have i1:=Kz.side ha ha0 l2 AdE h1 (now':=st.now+1) AdE (kept:=true) (λ_=>⟨hk.1,by omega⟩);have i2:=Kz.side hb hb0 l3 AdE h2 (now':=st.now+1+(C3 a (g+1)).length) AdE (kept:=true) (λ_=>⟨hk.2,by omega⟩);simp only[if_true] at i1 i2;exact⟨i1.up (Abi _) AdE,i2,h3.set.up (Abi _) AdE,by omega⟩
  ·simp only[Jg,Jf,H1,Cz,if_neg hk];have i1:=Kz.side ha ha0 l2 AdE h1 (now':=st.now) AdE (kept:=false) (λh=>by cases h);have i2:=Kz.side hb hb0 l3 AdE h2 (now':=st.now+(C3 a (g+1)).length) AdE (kept:=false) (λh=>by cases h);simp only[Ab9,if_false] at i1 i2;exact⟨i1.up (Abi _) AdE,i2,h3.up (Ad2 _) AdE,by omega⟩
theorem Xj{a b:AH}(_ha:Ey a=true)(_hb:Ey b=true)(hl:b.to.length=a.to.length)(h1:a.to.length≤200)(h2:a.new≤200)(h3:b.new≤200)(ra:EE a)(rb:EE b)(ha0:0≤a.new)(hb0:0≤b.new):Ey ⟨(A3 a b).o,(A3 a b).now⟩=true∧Ey ⟨(A3 a b).x,(A3 a b).now⟩=true∧Ey ⟨(A3 a b).y,(A3 a b).now⟩=true∧(A3 a b).now≤1000000:=by
 obtain⟨i1,i2,i3,i4⟩:=Oq ra rb ha0 hb0 hl a.to.length (Abi _);obtain⟨l1,l2,l3⟩:=Dw a b (a.to.length+1);have a0:(A3 a b).now≤1000000:=by
  have:(a.to.length+1)*(1+a.new.toNat+b.new.toNat)≤201*401:=AcJ AdE AdE;unfold A3;omega
 refine⟨Mb AdM (by simp only;omega) (by simp only[A3];omega) λj hj=>?_,Mb AdM (by simp only;omega) (by simp only[A3];omega) λj hj=>?_,Mb AdM (by simp only;omega) (by simp only[A3];omega) λj hj=>?_,a0⟩
 ·rcases i3 j hj with h | ⟨h4,h5,-,h6⟩
  ·exact .inl h
  ·exact .inr ⟨h4,h5,h6⟩
 ·rcases i1 j hj with h | ⟨h4,h5,-,h6⟩
  ·exact .inl h
  ·exact .inr ⟨h4,h5,h6⟩
 ·rcases i2 j hj with h | ⟨h4,h5,-,h6⟩
  ·exact .inl h
  ·exact .inr ⟨h4,h5,h6⟩
structure A1 where
 name:List UInt8
 rows:Int
 cols:Int
 whole:Nat
 clash:Bool
 gone:Bool
 o:Bg
 a:Bg
 b:Bg
structure El where
 sheet:List UInt8
 row:Int
 col:Int
 base:List UInt8
 ours:List UInt8
 their:List UInt8
deriving DecidableEq
def Bh(b:An)(nm:List UInt8):Option Ae:=(NG b nm).bind λi=>b[i]?
def Aw(s:Ae):Bg:=⟨s.name,B7 s.rows.length,B7 s.cols.toNat,false⟩
def C9(nm:List UInt8):Bg:=⟨nm,⟨[],0⟩,⟨[],0⟩,true⟩
def D4(nm:List UInt8):A1:=⟨nm,0,0,0,false,true,C9 nm,C9 nm,C9 nm⟩
def AQ(nm:List UInt8)(o a b:Ae):A1:=
 let r:=A3 (Ag o a).rows (Ag o b).rows
 let c:=A3 (Ag o a).cols (Ag o b).cols
 ⟨nm,r.now,c.now,0,false,false,⟨nm,⟨r.o,r.now⟩,⟨c.o,c.now⟩,false⟩,⟨nm,⟨r.x,r.now⟩,⟨c.x,c.now⟩,false⟩,⟨nm,⟨r.y,r.now⟩,⟨c.y,c.now⟩,false⟩⟩
def XE(nm:List UInt8)(o:Option Ae)(t:Ae):Bg:=match o with
 | some u=>Ag u t
 | none=>C9 nm
def Bv(nm:List UInt8)(o:Option Ae)(x y:Bg)(t:Ae)(wh:Nat)(cl:Bool):A1:=⟨nm,t.rows.length,t.cols,wh,cl,false,XE nm o t,x,y⟩
def A4(nm:List UInt8)(o:Option Ae):Option Ae→Option Ae→A1
 | some s,some t=>if s=t then Bv nm o (Aw s) (Aw t) s 0 false else match o with
  | some u=>AQ nm u s t
  | none=>Bv nm o (Aw s) (Aw t) s 1 true
 | some s,none=>if o=some s then D4 nm else Bv nm o (Aw s) (C9 nm) s 1 o.isSome
 | none,some t=>if o=some t then D4 nm else Bv nm o (C9 nm) (Aw t) t 2 o.isSome
 | none,none=>D4 nm
def IU(x:List UInt8):List (List UInt8)→List (List UInt8)
 | []=>[x]
 | y::r=>if Op.bytesLess y x=true then y::IU x r else if y=x then y::r else x::y::r
def HT(l:List (List UInt8)):List (List UInt8):=l.foldl (λr x=>IU x r) []
def EV(o a b:An):List (List UInt8):=HT (o.map Ae.name++a.map Ae.name++b.map Ae.name)
def AN(o a b:An):List A1:=(EV o a b).map λnm=>A4 nm (Bh o nm) (Bh a nm) (Bh b nm)
def JZ(b:An)(l:List Bg):List Bg:=l.filter λs=>(NG b s.sheet).isSome
def Dg(to:List Int)(x:Int):Option Nat:=to.findIdx? λz=>decide (z=x)
def H0(b:An)(s:Bg)(row col:Nat):Option (List UInt8):=match Bh b s.sheet with
 | none=>none
 | some t=>if s.gone=true then none else match Dg s.rows.to row,Dg s.cols.to col with
  | some r,some c=>some ((t.rows.getD r []).getD c [])
  | _,_=>none
def CN(old x y:Option (List UInt8)):List UInt8×Option (List UInt8×List UInt8×List UInt8):=match x,y with
 | none,y=>(y.getD [],none)
 | some x,none=>(x,none)
 | some x,some y=>if x=y∨old=some y then(x,none) else if old=some x then(y,none) else(x,some (old.getD [],x,y))
def Y6(b:An)(nm:List UInt8)(row col:Nat):List UInt8:=match Bh b nm with
 | some t=>(t.rows.getD row []).getD col []
 | none=>[]
def GE(p:A1)(mo ma mb:An)(r c:Nat):List UInt8×Option (List UInt8×List UInt8×List UInt8):=match p.whole with
 | 0=>CN (H0 mo p.o r c) (H0 ma p.a r c) (H0 mb p.b r c)
 | 1=>(Y6 ma p.name r c,none)
 | _=>(Y6 mb p.name r c,none)
def Wd(p:A1)(mo ma mb:An)(r:Nat):List (List UInt8):=(List.range p.cols.toNat).map λc=>(GE p mo ma mb r c).1
def EY(p:A1)(mo ma mb:An):Ae:=⟨p.name,p.cols,(List.range p.rows.toNat).map (Wd p mo ma mb)⟩
def Uh(p:A1)(mo ma mb:An)(r c:Nat):List El:=match (GE p mo ma mb r c).2 with
 | some (x,y,z)=>[⟨p.name,r,c,x,y,z⟩]
 | none=>[]
def Jb(p:A1)(mo ma mb:An):List El:=(if p.clash=true then[⟨p.name,-1,-1,[],[],[]⟩] else[])++(List.range p.rows.toNat).flatMap λr=>(List.range p.cols.toNat).flatMap λc=>Uh p mo ma mb r c
def Ed(ps:List A1):List A1:=ps.filter λp=>!p.gone
structure GJ where
 b:An
 c:List El
 e:Int
noncomputable def C5(b:An)(l:List Bg):An:=BU (JZ b l) b
noncomputable def Gi(o a b:An):GJ:=
 let ps:=AN o a b
 let mo:=C5 o (ps.map A1.o)
 let ma:=C5 a (ps.map A1.a)
 let mb:=C5 b (ps.map A1.b)
 ⟨(Ed ps).map λp=>EY p mo ma mb,(Ed ps).flatMap λp=>Jb p mo ma mb,0⟩
def F6(ps:List A1):Bool:=(ps.any λp=>decide (24<p.rows)||decide (12<p.cols))||decide (5<(Ed ps).length)
noncomputable def Cs(o a b:An):GJ:=if Av o=true∧Av a=true∧Av b=true then(if F6 (AN o a b)=true then⟨[],[],4⟩ else Gi o a b) else⟨[],[],1⟩
theorem MC{x y:List UInt8}:∀{l:List (List UInt8)},y∈IU x l↔y=x∨y∈l
 | []=>by simp[IU]
 | z::r=>by
  rw[IU]
  split
  ·simp only[AaT,MC (l:=r)];constructor
   ·rintro(h | h | h)
    ·exact .inr (.inl h)
    ·exact .inl h
    ·exact .inr (.inr h)
   ·rintro(h | h | h)
    ·exact .inr (.inl h)
    ·exact .inl h
    ·exact .inr (.inr h)
  ·split
   ·rename_i e;subst e;simp
   ·simp
theorem F7:∀{a b:List UInt8},Op.bytesLess a b=false→a≠b→Op.bytesLess b a=true
 | [],[],_,h=>absurd rfl h
 | [],_::_,h,_=>by simp[Op.bytesLess] at h
 | _::_,[],_,_=>by simp[Op.bytesLess]
 | x::a,y::b,h,k=>by
  simp only[Op.bytesLess,AcP,Adh,decide_eq_false_iff_not,beq_eq_false_iff_ne,AbP,AaY,decide_eq_true_eq,beq_iff_eq] at h ⊢;obtain⟨h1,h2⟩:=h;by_cases e:x=y
  ·subst e;refine .inr ⟨rfl,F7 ?_ λe=>k (by rw[e])⟩;rcases h2 with h2 | h2
   ·exact absurd rfl h2
   ·exact h2
  ·exact .inl (by
    rcases UInt8.lt_or_lt_of_ne e with h | h
    ·exact absurd h h1
    ·exact h)
theorem Jp(a b:List UInt8)(h:Op.bytesLess a b=true):¬Op.bytesLess b a=true:=λk=>by
 have:=Ex h k;rw[HQ] at this;cases this
theorem O0{x:List UInt8}:∀{l:List (List UInt8)},l.Pairwise (λx y=>Op.bytesLess x y=true)→(IU x l).Pairwise (λx y=>Op.bytesLess x y=true)
 | [],_=>by simp[IU]
 | y::r,h=>by
  obtain⟨h1,h2⟩:=Ac4.1 h;rw[IU]
  split
  ·rename_i e;refine .cons (λz hz=>?_) (O0 h2);rcases MC.1 hz with rfl | hz
   ·exact e
   ·exact h1 z hz
  ·split
   ·exact h
   ·rename_i e1 e2;have e:=F7 (by simpa using e1) e2;refine .cons (λz hz=>?_) h;rcases AaT.1 hz with rfl | hz
    ·exact e
    ·exact Ex e (h1 z hz)
theorem LA(l:List (List UInt8)):(HT l).Pairwise (λx y=>Op.bytesLess x y=true)∧∀x,x∈HT l↔x∈l:=by
 have:∀(l r:List (List UInt8)),r.Pairwise (λx y=>Op.bytesLess x y=true)→(l.foldl (λr x=>IU x r) r).Pairwise (λx y=>Op.bytesLess x y=true)∧∀x,x∈l.foldl (λr x=>IU x r) r↔x∈l∨x∈r:=λl=>by
  induction l with
  | nil=>intro r h;exact⟨h,by simp⟩
  | cons y l ih=>
   intro r h;obtain⟨h1,h2⟩:=ih (IU y r) (O0 h);refine⟨h1,λx=>?_⟩;rw[Ac6,h2,MC,AaT];constructor
   ·rintro(h | h | h)
    ·exact .inl (.inr h)
    ·exact .inl (.inl h)
    ·exact .inr h
   ·rintro((h | h) | h)
    ·exact .inr (.inl h)
    ·exact .inl h
    ·exact .inr (.inr h)
 obtain⟨h1,h2⟩:=this l [] .nil;exact⟨h1,λx=>by rw[HT,h2];simp⟩
theorem BD{b:An}{nm:List UInt8}{s:Ae}(h:Bh b nm=some s):s.name=nm∧s∈b:=by
 unfold Bh at h
 cases e:NG b nm with
 | none=>rw[e] at h;cases h
 | some i=>
  rw[e] at h;obtain⟨t,ht,hn⟩:=Mr e;have h:b[i]?=some s:=h;rw[ht] at h;obtain rfl:=Abm h;exact⟨hn,Abn ht⟩
theorem Aal{b:An}(hb:b.Pairwise (λs u=>Op.bytesLess s.name u.name=true)){s:Ae}(h:s∈b):Bh b s.name=some s:=by
 obtain⟨i,hi⟩:=Acl h;unfold Bh;rw[ZO hb hi];exact hi
theorem J6{b:An}{nm:List UInt8}:(Bh b nm).isSome=(NG b nm).isSome:=by
 unfold Bh
 cases e:NG b nm with
 | none=>rfl
 | some i=>
  obtain⟨t,ht,-⟩:=Mr e;simp[ht]
theorem GB{b:An}{nm:List UInt8}(h:Bh b nm=none):nm∉b.map Ae.name:=λhm=>by
 have h1:NG b nm=none:=by
  have:=J6 (b:=b) (nm:=nm);rw[h] at this
  cases e:NG b nm with
  | none=>rfl
  | some i=>rw[e] at this;cases this
 obtain⟨s,hs,e⟩:=AbE.1 hm;rw[NG,Aco] at h1;have:=h1 s hs;simp[e] at this
theorem PI{m:AH}{k c:Nat}(h:k≤c)(hc:(c:Int)≤m.new)(hn:(c:Int)=m.new∨(c:Int)∈m.to)(hm:∀i:Nat,k≤i→i<c→(i:Int)∉m.to):KU m k=List.range' k (c - k):=by
 refine Ki (r:=(·<·)) (λa b h=>by omega) ?_ Ada λi=>?_
 ·obtain⟨n,e,-⟩:=FG m k;rw[e];exact Ada
 ·rw[FF,List.mem_range'_1];constructor
  ·rintro⟨h1,h2,h3⟩;refine⟨h1,?_⟩;by_cases hi:i<c
   ·omega
   ·rcases hn with h4 | h4
    ·omega
    ·exact absurd h4 (h3 c h AdE)
  ·rintro⟨h1,h2⟩;exact⟨h1,by omega,λj h3 h4=>hm j h3 AdE⟩
theorem RK{m:AH}{k:Nat}(h:m.new≤k∨(k:Int)∈m.to):KU m k=[]:=by
 cases e:KU m k with
 | nil=>rfl
 | cons x r=>
  have hx:x∈KU m k:=by rw[e];exact Abo ..
  obtain⟨h1,h2,h3⟩:=FF.1 hx;rcases h with h | h
  ·omega
  ·exact absurd h (h3 k (Abi _) h1)
theorem OL{n i:Nat}(h:i<n):(i:Int)∈A5 n:=AbE.2 ⟨i,AbB.2 h,rfl⟩
theorem OK(n:Nat):(A5 n).length=n:=by simp[A5]
theorem RM{n i:Nat}(h:i<n):(A5 n).getD i 0=i:=by simp[A5,h]
theorem MZ{n j:Nat}(hj:j≤n):C3 ⟨A5 n,(n:Int)⟩ j=[]:=by
 cases j with
 | zero=>
  rw[C3];refine RK ?_;by_cases h:n=0
  ·left;simp[h]
  ·exact .inr (OL AdE)
 | succ g=>
  rw[C3];simp only[RM (show g<n by omega)];rw[if_neg AdE];refine RK ?_;rw[AcH];by_cases h:g+1<n
  ·exact .inr (OL h)
  ·left;show(n:Int)≤((g+1:Nat):Int);omega
def NX(c n:Nat):List Int:=(List.range n).map λi=>if i<c then(i:Int) else -1
theorem W7(n:Nat):NX 0 n=List.replicate n (-1):=by
 apply AbT;intro i;by_cases h:i<n<;>simp[NX,h]
theorem Yz(n:Nat):NX n n=A5 n:=by
 unfold NX A5;exact Ab0 λi hi=>by simp only[AbB] at hi;rw[if_pos hi]
theorem Si{c n:Nat}:(NX c n).set c (c:Int)=NX (c+1) n:=by
 apply AbT;intro i;rw[AcI];simp only[NX,Ab1,AbA,Ac8];by_cases h:i<n
 ·by_cases e:c=i
  ·subst e;simp[h]
  ·have e2:i<c+1↔i<c:=AdE
   simp[h,e,e2]
 ·by_cases e:c=i
  ·subst e;simp[h]
  ·simp[h,e]
theorem NE:∀{m c n:Nat},BV (NX c n) c (List.range' c m)=NX (c+m) n
 | 0,c,n=>rfl
 | m+1,c,n=>by
  rw[List.range'_succ,BV,Si,NE (m:=m) (c:=c+1)]
  congr 1
  omega
def Fc(to:List Int)(j:Nat):List Int:=to.take j++List.replicate (to.length - j) (-1)
theorem MB{to:List Int}{j i:Nat}(hj:j≤to.length):(Fc to j)[i]?=if i<to.length then(if i<j then to[i]? else some (-1)) else none:=by
 unfold Fc;by_cases h:i<j
 ·rw[Abk AdG,AcS h,if_pos AdE,if_pos h]
 ·rw[Abx AdG,AcZ];simp only[Acb,AdA hj];by_cases h2:i<to.length
  ·rw[if_pos AdE,if_pos h2,if_neg h]
  ·rw[if_neg AdE,if_neg h2]
theorem SU(to:List Int):Fc to 0=List.replicate to.length (-1):=by simp[Fc]
theorem Vw(to:List Int):Fc to to.length=to:=by simp[Fc]
theorem Ow{to:List Int}{g:Nat}(hg:g<to.length):(Fc to g).set g (to.getD g 0)=Fc to (g+1):=by
 apply AbT;intro i;have hl:(Fc to g).length=to.length:=by simp[Fc];omega
 rw[AcI,MB AdE,MB AdE,hl];by_cases e:g=i
 ·subst e;simp only[if_true,hg,Nat.lt_succ_self];rw[AaF,Aap hg];rfl
 ·have e2:i<g+1↔i<g:=AdE
  simp only[e2,if_neg e]
theorem SS{to:List Int}{g:Nat}(hg:g<to.length)(h:to.getD g 0=-1):Fc to g=Fc to (g+1):=by
 rw[←Ow hg,h];apply AbT;intro i;have hl:(Fc to g).length=to.length:=by simp[Fc];omega
 rw[AcI,hl];by_cases e:g=i
 ·subst e;rw[MB AdE];simp[hg]
 ·rw[if_neg e]
def Di(m:AH)(j:Nat):Nat:=(CD m.new (m.to.drop j)).toNat
theorem MS{m:AH}(hm:EE m)(hn:0≤m.new):∀{j:Nat},j≤m.to.length→((Di m j:Nat):Int)≤m.new∧((Di m j:Int)=m.new∨∃p,j≤p∧p<m.to.length∧m.to.getD p 0=(Di m j:Int))∧(∀g,j≤g→g<m.to.length→0≤m.to.getD g 0→(Di m j:Int)≤m.to.getD g 0):=by
 intro j hj;obtain⟨k,hk⟩:∃k,k=m.to.length - j:=⟨_,rfl⟩
 induction k generalizing j with
 | zero=>
  have e:Di m j=m.new.toNat:=by
   unfold Di;rw[AbU AdE];rfl
  rw[e]
  exact⟨by omega,.inl AdE,λg h1 h2=>by omega⟩
 | succ k ih=>
  have a0:j<m.to.length:=AdE
  have e0:m.to.getD j 0=m.to[j]:=by rw[AaF,Aap a0];rfl
  have e:Di m j=if 0≤m.to.getD j 0 then(m.to.getD j 0).toNat else Di m (j+1):=by
   unfold Di;rw[Ace a0,CD,e0]
   split<;>rfl
  rw[e];by_cases h0:0≤m.to.getD j 0
  ·rw[if_pos h0,AbY h0];have hr:=hm j a0;refine⟨by omega,.inr ⟨j,Abi _,a0,rfl⟩,λg h1 h2 h3=>?_⟩;by_cases e1:g=j
   ·rw[e1];omega
   ·rcases hm g h2 with h4 | ⟨_,_,h4⟩
    ·omega
    ·have:=h4 j AdE;omega
  ·rw[if_neg h0];obtain⟨h1,h2,h3⟩:=ih (j:=j+1) AdE AdE;refine⟨h1,h2.imp id λ⟨p,h7,h8⟩=>⟨p,by omega,h8⟩,λg h4 h5 h6=>?_⟩;by_cases e1:g=j
   ·rw[e1] at h6;omega
   ·exact h3 g AdE h5 h6
theorem Rj{m:AH}{g:Nat}(hg:g<m.to.length):Di m g=if 0≤m.to.getD g 0 then(m.to.getD g 0).toNat else Di m (g+1):=by
 have e0:m.to.getD g 0=m.to[g]:=by rw[AaF,Aap hg];rfl
 unfold Di;rw[Ace hg,CD,e0]
 split<;>rfl
theorem XI{m:AH}(hm:EE m)(hn:0≤m.new){g:Nat}(hg:g<m.to.length)(h0:0≤m.to.getD g 0):C3 m (g+1)=List.range' ((m.to.getD g 0).toNat+1) (Di m (g+1) - ((m.to.getD g 0).toNat+1))∧(m.to.getD g 0).toNat+1≤Di m (g+1):=by
 obtain⟨h1,h2,h3⟩:=MS hm hn (j:=g+1) hg;have a0:(m.to.getD g 0).toNat+1≤Di m (g+1):=by
  have hr:=hm g hg;rcases h2 with h2 | ⟨p,h4,hp,e⟩
  ·omega
  ·rcases hm p hp with h | ⟨_,_,h⟩
   ·omega
   ·have:=h g AdE;omega
 rw[C3,if_neg AdE];refine⟨PI a0 h1 (h2.imp id λ⟨p,_,hp,e⟩=>by rw[←e];exact JP hp) λi hi a2 a1=>?_,a0⟩;obtain⟨p,hp,e⟩:=Ra a1;rcases Ac7 p g with hlt | rfl | hlt
 ·rcases hm g hg with h | ⟨_,_,h⟩
  ·omega
  ·have:=h p hlt;omega
 ·omega
 ·have:=h3 p hlt hp AdE;omega
theorem QF{m:AH}{n:Nat}(hm:EE m)(hn:0≤m.new)(hl:m.to.length=n):∀j,j≤n→AG m ⟨A5 n,(n:Int)⟩ (j+1)=⟨Fc m.to j,NX (Di m j) m.new.toNat,Fc m.to j,Di m j⟩
 | 0,_=>by
  obtain⟨h1,h2,h3⟩:=MS hm hn (j:=0) AdE;have e0:AG m ⟨A5 n,(n:Int)⟩ 0=L3 m ⟨A5 n,(n:Int)⟩:=rfl;have e1:C3 m 0=List.range' 0 (Di m 0):=by
   have hr:=PI (m:=m) (k:=0) (c:=Di m 0) (Acn _) h1 (h2.imp id λ⟨p,_,hp,e⟩=>by rw[←e];exact JP hp) λi _ hi a0=>by
    obtain⟨p,hp,e⟩:=Ra a0;have:=h3 p (Acn _) hp AdE;omega
   exact hr
  rw[CV,e0];simp only[Jg,Jf,H1,Cz,L3,MZ (Acn n),BV,Abl,e1,Adw,AbC,AbZ,SU,AcH,hl]
  rw[←W7 m.new.toNat,NE,AbC]
 | g+1,hj=>by
  have hg:g<m.to.length:=AdE
  have hy:(A5 n).getD g 0=(g:Int):=RM AdE;rw[CV,QF hm hn hl g AdE];simp only[Jg,Jf,H1,Cz,MZ hj,BV,Abl,AbZ,hy];by_cases h0:0≤m.to.getD g 0
  ·obtain⟨e1,a1⟩:=XI hm hn hg h0;have e2:Di m g=(m.to.getD g 0).toNat:=by rw[Rj hg,if_pos h0]
   rw[if_pos ⟨h0,by omega⟩];simp only[e2,AcH];have e3:(((m.to.getD g 0).toNat:Nat):Int)=m.to.getD g 0:=AbY h0;rw[Si,e1,NE,Adw,e3,Ow hg]
   congr 1
   ·congr 1;omega
   ·omega
  ·have h1:m.to.getD g 0=-1:=by rcases hm g hg with h | ⟨h,_⟩<;>omega
   rw[if_neg (λh=>h0 h.1)];have e1:C3 m (g+1)=[]:=by rw[C3,if_pos AdE]
   have e2:Di m g=Di m (g+1):=by rw[Rj hg,if_neg h0]
   simp only[e1,BV,Abl,AbZ,SS hg h1,e2]
theorem VF{m:AH}:Di m m.to.length=m.new.toNat:=by
 unfold Di;rw[AbU (Abi _)];rfl
theorem Jm{m:AH}{n:Nat}(hm:EE m)(hn:0≤m.new)(hl:m.to.length=n):A3 m ⟨A5 n,(n:Int)⟩=⟨m.to,A5 m.new.toNat,m.to,m.new.toNat⟩:=by
 have h:=QF hm hn hl n (Abi _);rw[A3,hl,h];subst hl;rw[Vw,VF,Yz]
def RU(st:D0):D0:=⟨st.o,st.y,st.x,st.now⟩
theorem Ov{m:AH}{n:Nat}:∀j,j≤n+1→AG ⟨A5 n,(n:Int)⟩ m j=if m.to.length=n then RU (AG m ⟨A5 n,(n:Int)⟩ j) else AG ⟨A5 n,(n:Int)⟩ m j
 | 0,_=>by
  split
  ·rename_i h;simp[AG,L3,RU,h,OK]
  ·rfl
 | j+1,hj=>by
  split
  ·rename_i h;have ih:=Ov (m:=m) (n:=n) j AdE;rw[if_pos h] at ih;rw[CV,CV,ih];generalize AG m ⟨A5 n,(n:Int)⟩ j=st;have e:∀st:D0,Cz ⟨A5 n,(n:Int)⟩ m (RU st) j=RU (Cz m ⟨A5 n,(n:Int)⟩ st j):=λst=>by
    cases j with
    | zero=>rfl
    | succ g=>
     rw[Cz,Cz];by_cases hk:0≤m.to.getD g 0∧0≤(A5 n).getD g 0
     ·rw[if_pos hk,if_pos ⟨hk.2,hk.1⟩];rfl
     ·rw[if_neg hk,if_neg (λk=>hk ⟨k.2,k.1⟩)]
   simp only[Jg,e];simp only[H1,Jf,MZ (show j≤n by omega),BV,Abl,AbZ,RU]
  ·rfl
theorem Ou{m:AH}{n:Nat}(hm:EE m)(hn:0≤m.new)(hl:m.to.length=n):A3 ⟨A5 n,(n:Int)⟩ m=⟨m.to,m.to,A5 m.new.toNat,m.new.toNat⟩:=by
 have h:=Ov (m:=m) (n:=n) (n+1) (Abi _);rw[if_pos hl] at h;have h2:=Jm hm hn hl;rw[A3,hl] at h2;rw[A3];simp only[OK];rw[h,h2];rfl
theorem Ws{b:An}(hb:Av b=true){ss:List Bg}(hs:∀x∈ss,∃s∈b,x=Aw s){l:List Ah}(hp:∀x∈l,AB x=true)(own:List UInt8):ZJ ss l own:=λx hx hk s hf=>by
 obtain⟨u,hu,rfl⟩:=hs s (Gy hf).1;obtain⟨_,h2,h3,h4,_⟩:=AZ.1 ((Bm.1 hb).2.1 u hu);exact Xm (a:=u.rows.length) (b:=u.cols.toNat) AdE AdE rfl rfl rfl (hp x hx) hk
theorem KW{b:An}(hb:Av b=true){l:List Bg}(hs:∀x∈JZ b l,∃s∈b,x=Aw s):C5 b l=b:=by
 unfold C5 BU;have:∀s∈b,KL (JZ b l) s=s:=λs a0=>by
  obtain⟨_,_,_,_,h5⟩:=AZ.1 ((Bm.1 hb).2.1 s a0);have e:s.rows.map (Jh s.name (JZ b l))=s.rows:=by
   refine(Ab0 (g:=id) λr hr=>?_).trans (AcN _);unfold Jh;refine(Ab0 (g:=id) λt ht=>?_).trans (AcN _);exact Rc ((h5 r hr).2 t ht) λk hl=>Ws hb hs (J9 (EK hl).2.1) _
  unfold KL;rw[e]
 exact(Ab0 (g:=id) this).trans (AcN _)
theorem Hj{n i:Nat}(h:i<n):Dg (B7 n).to (i:Int)=some i:=by
 unfold Dg B7 DK;rw[Ab2];refine⟨by simpa using h,by simp,λj hj=>?_⟩;simp;omega
theorem I3{b:An}{s:Ae}{x:Bg}{nm:List UInt8}(hs:Bh b nm=some s)(hx:x=Aw s){r c:Nat}(hr:r<s.rows.length)(hc:c<s.cols.toNat):H0 b x r c=some ((s.rows.getD r []).getD c []):=by
 subst hx;have hn:=(BD hs).1;unfold H0;show(match Bh b s.name with | none=>_ | some t=>_)=_;rw[hn,hs];simp only[Aw,Ab9,if_false,Hj hr,Hj hc]
theorem N7{p:A1}{s:Ae}{mo ma mb:An}(hs:A7 s=true)(hn:p.name=s.name)(hr:p.rows=s.rows.length)(hc:p.cols=s.cols)(hcl:p.clash=false)
  (ht:∀r c,r<s.rows.length→c<s.cols.toNat→GE p mo ma mb r c=((s.rows.getD r []).getD c [],none)):EY p mo ma mb=s∧Jb p mo ma mb=[]:=by
 obtain⟨_,h2,h3,h4,h5⟩:=AZ.1 hs;have a0:p.rows.toNat=s.rows.length:=AdE
 have a1:p.cols.toNat=s.cols.toNat:=by rw[hc]
 constructor
 ·unfold EY;rw[hn,hc,a0];have e:(List.range s.rows.length).map (Wd p mo ma mb)=s.rows:=by
   apply AbT;intro r;by_cases h:r<s.rows.length
   ·rw[Ab1,AbX h,Aap h];show some (Wd p mo ma mb r)=_
    congr 1
    have hl:(s.rows[r].length:Int)=s.cols:=(h5 _ (AbL h)).1;have e0:s.rows.getD r []=s.rows[r]:=by rw[AaF,Aap h];rfl
    unfold Wd;rw[a1];apply AbT;intro c;by_cases hk:c<s.cols.toNat
    ·rw[Ab1,AbX hk];show some (GE p mo ma mb r c).1=_;rw[ht r c h hk,e0];show some (s.rows[r].getD c [])=_;rw[AaF,Aap AdE];rfl
    ·rw[Abs (by simpa using hk),Abs AdE]
   ·rw[Abs Aeu,Abs AdE]
  rw[e]
 ·unfold Jb;rw[hcl,a0,a1];simp only[Ab9,if_false,Ab5];rw[Acs];intro r a2;rw[Acs];intro c a3;rw[AbB] at a2 a3;rw[Uh,ht r c a2 a3]
def YA(a mo ma mb:An)(nm:List UInt8)(p:A1):Prop:=(Bh a nm=none→p.gone=true∧p.rows=0∧p.cols=0)∧
 ∀s,Bh a nm=some s→p.gone=false∧p.rows=s.rows.length∧p.cols=s.cols∧EY p mo ma mb=s∧Jb p mo ma mb=[]
theorem KJ{a mo ma mb:An}(ha:Av a=true){nms:List (List UInt8)}{f:List UInt8→A1}(hr:nms.Pairwise (λx y=>Op.bytesLess x y=true))(hm:∀s∈a,s.name∈nms)(h:∀nm∈nms,YA a mo ma mb nm (f nm)) :
  F6 (nms.map f)=false∧(Ed (nms.map f)).map (λp=>EY p mo ma mb)=a∧(Ed (nms.map f)).flatMap (λp=>Jb p mo ma mb)=[]:=by
 obtain⟨h1,h2,h3⟩:=Bm.1 ha;have a0:∀nm∈nms,(f nm).gone=false→∃s∈a,Bh a nm=some s∧(f nm).rows=s.rows.length∧(f nm).cols=s.cols∧EY (f nm) mo ma mb=s∧Jb (f nm) mo ma mb=[]:=λnm hn hg=>by
  obtain⟨a4,hp⟩:=h nm hn
  cases e:Bh a nm with
  | none=>rw[(a4 e).1] at hg;cases hg
  | some s=>exact⟨s,(BD e).2,rfl,(hp s e).2⟩
 have a2:∀s∈a,s.name∈nms∧(f s.name).gone=false∧EY (f s.name) mo ma mb=s:=λs hs=>by
  have hp:=(h s.name (hm s hs)).2 s (Aal h3 hs);exact⟨hm s hs,hp.1,hp.2.2.2.1⟩
 have a1:∀p,p∈Ed (nms.map f)↔∃nm∈nms,f nm=p∧p.gone=false:=λp=>by
  unfold Ed;rw[Acj,AbE];constructor
  ·rintro⟨⟨nm,hn,rfl⟩,hg⟩;exact⟨nm,hn,rfl,by simpa using hg⟩
  ·rintro⟨nm,hn,rfl,hg⟩;exact⟨⟨nm,hn,rfl⟩,by simpa using hg⟩
 have a3:(Ed (nms.map f)).map (λp=>EY p mo ma mb)=a:=by
  refine Ki (r:=λs u:Ae=>Op.bytesLess s.name u.name=true) (λs u h=>Jp _ _ h) ?_ h3 λs=>?_
  ·unfold Ed;rw[Ad3,List.filter_map,Ad3];refine List.Pairwise.imp_of_mem ?_ (hr.sublist List.filter_sublist);intro x y hx hy a5;simp only[Acj,Function.comp] at hx hy;obtain⟨sx,_,ex,_,_,e1,_⟩:=a0 x hx.1 (by simpa using hx.2);obtain⟨sy,_,ey,_,_,e2,_⟩:=a0 y hy.1 (by simpa using hy.2);rw[e1,e2,(BD ex).1,(BD ey).1];exact a5
  ·rw[AbE];constructor
   ·rintro⟨p,hp,rfl⟩;obtain⟨nm,hn,rfl,hg⟩:=(a1 p).1 hp;obtain⟨s,hs,_,_,_,e,_⟩:=a0 nm hn hg;rw[e];exact hs
   ·intro hs;obtain⟨q1,q2,q3⟩:=a2 s hs;exact⟨f s.name,(a1 _).2 ⟨_,q1,rfl,q2⟩,q3⟩
 refine⟨?_,a3,?_⟩
 ·unfold F6;have hl:(Ed (nms.map f)).length=a.length:=by rw[←a3,AbA]
  rw[hl];simp only[AcP,decide_eq_false_iff_not,List.any_eq_false,AbP,decide_eq_true_eq];refine⟨λp hp=>?_,by omega⟩;obtain⟨nm,hn,rfl⟩:=AbE.1 hp;obtain⟨a4,hp⟩:=h nm hn
  cases e:Bh a nm with
  | none=>obtain⟨_,e1,e2⟩:=a4 e;rw[e1,e2];omega
  | some s=>
   obtain⟨_,e1,e2,_⟩:=hp s e;obtain⟨_,q2,q3,q4,_⟩:=AZ.1 (h2 s (BD e).2);rw[e1,e2];omega
 ·rw[Acs];intro p hp;obtain⟨nm,hn,rfl,hg⟩:=(a1 p).1 hp;obtain⟨_,_,_,_,_,_,e⟩:=a0 nm hn hg;exact e
theorem E6(s:Ae):Ag s s=Aw s:=by
 unfold Ag Aw;rw[RF,Q4];rfl
theorem OS{s t:Ae}(hs:A7 s=true)(ht:A7 t=true):EE (Ag s t).rows∧0≤(Ag s t).rows.new∧EE (Ag s t).cols∧0≤(Ag s t).cols.new:=by
 obtain⟨h1,h2⟩:=E5 hs ht;obtain⟨a1,_,_,a4⟩:=Bs h1;obtain⟨b1,_,_,b4⟩:=Bs h2;exact⟨a4,a1,b4,b1⟩
theorem Cv(a b:Ae):(AO a b).length=a.rows.length:=by rw[AO,FV,AbA]
theorem Ct(a b:Ae)(m:List Int):(CT a b m).length=a.cols.toNat:=by rw[CT,FV];simp[Bf]
theorem TN{o s:Ae}{nm:List UInt8}(ho:A7 o=true)(hs:A7 s=true)(hn:o.name=nm)(hsn:s.name=nm):AQ nm o s o=⟨nm,s.rows.length,s.cols,0,false,false,Ag o s,Aw s,Ag o s⟩:=by
 obtain⟨r1,r2,c1,c2⟩:=OS ho hs;obtain⟨_,h2,_⟩:=AZ.1 hs;have er:A3 (Ag o s).rows (Ag o o).rows=⟨(Ag o s).rows.to,A5 s.rows.length,(Ag o s).rows.to,s.rows.length⟩:=by
  rw[E6];exact Jm r1 r2 (Cv o s)
 have ec:A3 (Ag o s).cols (Ag o o).cols=⟨(Ag o s).cols.to,A5 s.cols.toNat,(Ag o s).cols.to,s.cols.toNat⟩:=by
  rw[E6];exact Jm c1 c2 (Ct o s _)
 unfold AQ;rw[er,ec];have e3:((s.cols.toNat:Nat):Int)=s.cols:=AbY h2;simp only[Aw,Ag,B7,hn,hsn,e3];rfl
theorem Sd{o s:Ae}{nm:List UInt8}(ho:A7 o=true)(hs:A7 s=true)(hn:o.name=nm)(hsn:s.name=nm):AQ nm o o s=⟨nm,s.rows.length,s.cols,0,false,false,Ag o s,Ag o s,Aw s⟩:=by
 obtain⟨r1,r2,c1,c2⟩:=OS ho hs;obtain⟨_,h2,_⟩:=AZ.1 hs;have er:A3 (Ag o o).rows (Ag o s).rows=⟨(Ag o s).rows.to,(Ag o s).rows.to,A5 s.rows.length,s.rows.length⟩:=by
  rw[E6];exact Ou r1 r2 (Cv o s)
 have ec:A3 (Ag o o).cols (Ag o s).cols=⟨(Ag o s).cols.to,(Ag o s).cols.to,A5 s.cols.toNat,s.cols.toNat⟩:=by
  rw[E6];exact Ou c1 c2 (Ct o s _)
 unfold AQ;rw[er,ec];have e3:((s.cols.toNat:Nat):Int)=s.cols:=AbY h2;simp only[Aw,Ag,B7,hn,hsn,e3];rfl
theorem FU(o a b:An):(EV o a b).Pairwise (λx y=>Op.bytesLess x y=true)∧∀x,x∈EV o a b↔x∈o.map Ae.name∨x∈a.map Ae.name∨x∈b.map Ae.name:=by
 obtain⟨h1,h2⟩:=LA (o.map Ae.name++a.map Ae.name++b.map Ae.name);refine⟨h1,λx=>?_⟩;have:=h2 x;rw[Abf,Abf] at this;rw[EV,this,or_assoc]
theorem Vc(x:Option (List UInt8))(t:List UInt8):CN x (some t) x=(t,none):=by
 cases x with
 | none=>rfl
 | some x=>simp[CN]
theorem Q2(x:Option (List UInt8))(t:List UInt8):CN x x (some t)=(t,none):=by
 cases x with
 | none=>rfl
 | some x=>by_cases e:x=t<;>simp[CN,e]
theorem Va(x:Option (List UInt8))(t:List UInt8):CN x (some t) (some t)=(t,none):=by simp[CN]
theorem KN{b:An}{nms:List (List UInt8)}{g:List UInt8→Bg}(hn:∀nm∈nms,(g nm).sheet=nm)(h:∀nm∈nms,∀s,Bh b nm=some s→g nm=Aw s):∀x∈JZ b (nms.map g),∃s∈b,x=Aw s:=λx hx=>by
 unfold JZ at hx;obtain⟨h1,h2⟩:=Acj.1 hx;obtain⟨nm,hm,rfl⟩:=AbE.1 h1;rw[hn nm hm,←J6] at h2
 cases e:Bh b nm with
 | none=>rw[e] at h2;cases h2
 | some s=>exact⟨s,(BD e).2,h nm hm s e⟩
theorem HZ(nm:List UInt8)(o:Option Ae)(s t:Ae):A4 nm o (some s) (some t)=if s=t then Bv nm o (Aw s) (Aw t) s 0 false else match o with
  | some u=>AQ nm u s t
  | none=>Bv nm o (Aw s) (Aw t) s 1 true:=rfl
theorem Ke(nm:List UInt8)(o:Option Ae)(s:Ae):A4 nm o (some s) none=if o=some s then D4 nm else Bv nm o (Aw s) (C9 nm) s 1 o.isSome:=rfl
theorem Kd(nm:List UInt8)(o:Option Ae)(t:Ae):A4 nm o none (some t)=if o=some t then D4 nm else Bv nm o (C9 nm) (Aw t) t 2 o.isSome:=rfl
theorem XM(nm:List UInt8)(o:Option Ae):A4 nm o none none=D4 nm:=rfl
theorem FX{nm:List UInt8}{o x y:Option Ae}(ho:∀s,o=some s→s.name=nm)(hx:∀s,x=some s→s.name=nm)(hy:∀s,y=some s→s.name=nm):(A4 nm o x y).o.sheet=nm∧(A4 nm o x y).a.sheet=nm∧(A4 nm o x y).b.sheet=nm∧(A4 nm o x y).name=nm:=by
 have a0:∀t,(XE nm o t).sheet=nm:=λt=>by
  cases o with
  | none=>rfl
  | some u=>exact ho u rfl
 cases x with
 | none=>
  cases y with
  | none=>exact⟨rfl,rfl,rfl,rfl⟩
  | some t=>
   rw[Kd]
   split
   ·exact⟨rfl,rfl,rfl,rfl⟩
   ·exact⟨a0 t,rfl,hy t rfl,rfl⟩
 | some s=>
  cases y with
  | none=>
   rw[Ke]
   split
   ·exact⟨rfl,rfl,rfl,rfl⟩
   ·exact⟨a0 s,hx s rfl,rfl,rfl⟩
  | some t=>
   rw[HZ]
   split
   ·exact⟨a0 s,hx s rfl,hy t rfl,rfl⟩
   cases o with
   | none=>exact⟨rfl,hx s rfl,hy t rfl,rfl⟩
   | some u=>exact⟨rfl,rfl,rfl,rfl⟩
theorem B9{b:An}(h:Av b=true){nm:List UInt8}{s:Ae}(hs:Bh b nm=some s):A7 s=true∧s.name=nm:=⟨(Bm.1 h).2.1 s (BD hs).2,(BD hs).1⟩
theorem VT{nm:List UInt8}{o a:Option Ae}(ho:∀s,o=some s→A7 s=true∧s.name=nm)(ha:∀s,a=some s→A7 s=true∧s.name=nm)(hsome:o.isSome∨a.isSome) :
  (A4 nm o a o).o=(A4 nm o a o).b∧(a=none→A4 nm o a o=D4 nm)∧∀s,a=some s→(A4 nm o a o).gone=false∧(A4 nm o a o).rows=s.rows.length∧(A4 nm o a o).cols=s.cols∧(A4 nm o a o).clash=false∧(A4 nm o a o).a=Aw s∧((A4 nm o a o).whole=0∨(A4 nm o a o).whole=1):=by
 cases a with
 | none=>
  cases o with
  | none=>simp at hsome
  | some t=>rw[Kd,if_pos rfl];exact⟨rfl,λ_=>rfl,λs h=>by cases h⟩
 | some s=>
  obtain⟨s1,s2⟩:=ha s rfl
  cases o with
  | none=>rw[Ke,if_neg AdM];exact⟨rfl,(λh=>by cases h),λs h=>by cases h;exact⟨rfl,rfl,rfl,rfl,rfl,.inr rfl⟩⟩
  | some t=>
   obtain⟨t1,t2⟩:=ho t rfl;rw[HZ];by_cases e:s=t
   ·subst e;rw[if_pos rfl];refine⟨?_,(λh=>by cases h),λs h=>by cases h;exact⟨rfl,rfl,rfl,rfl,rfl,.inl rfl⟩⟩;show Ag s s=Aw s;exact E6 s
   ·rw[if_neg e];show(AQ nm t s t).o=(AQ nm t s t).b∧(_→AQ nm t s t=_)∧∀_,_→(AQ nm t s t).gone=_∧(AQ nm t s t).rows=_∧(AQ nm t s t).cols=_∧(AQ nm t s t).clash=_∧(AQ nm t s t).a=_∧((AQ nm t s t).whole=_∨(AQ nm t s t).whole=_);rw[TN t1 s1 t2 s2];exact⟨rfl,(λh=>by cases h),λs h=>by cases h;exact⟨rfl,rfl,rfl,rfl,rfl,.inl rfl⟩⟩
theorem T5{nm:List UInt8}{o a:Option Ae}(ho:∀s,o=some s→A7 s=true∧s.name=nm)(ha:∀s,a=some s→A7 s=true∧s.name=nm)(hsome:o.isSome∨a.isSome) :
  (A4 nm o o a).o=(A4 nm o o a).a∧(a=none→A4 nm o o a=D4 nm)∧∀s,a=some s→(A4 nm o o a).gone=false∧(A4 nm o o a).rows=s.rows.length∧(A4 nm o o a).cols=s.cols∧(A4 nm o o a).clash=false∧(A4 nm o o a).b=Aw s∧((A4 nm o o a).whole=0∨(A4 nm o o a).whole=2):=by
 cases a with
 | none=>
  cases o with
  | none=>simp at hsome
  | some t=>rw[Ke,if_pos rfl];exact⟨rfl,λ_=>rfl,λs h=>by cases h⟩
 | some s=>
  obtain⟨s1,s2⟩:=ha s rfl
  cases o with
  | none=>rw[Kd,if_neg AdM];exact⟨rfl,(λh=>by cases h),λs h=>by cases h;exact⟨rfl,rfl,rfl,rfl,rfl,.inr rfl⟩⟩
  | some t=>
   obtain⟨t1,t2⟩:=ho t rfl;rw[HZ];by_cases e:t=s
   ·subst e;rw[if_pos rfl];refine⟨?_,(λh=>by cases h),λs h=>by cases h;exact⟨rfl,rfl,rfl,rfl,rfl,.inl rfl⟩⟩;show Ag t t=Aw t;exact E6 t
   ·rw[if_neg e];show(AQ nm t t s).o=(AQ nm t t s).a∧(_→AQ nm t t s=_)∧∀_,_→(AQ nm t t s).gone=_∧(AQ nm t t s).rows=_∧(AQ nm t t s).cols=_∧(AQ nm t t s).clash=_∧(AQ nm t t s).b=_∧((AQ nm t t s).whole=_∨(AQ nm t t s).whole=_);rw[Sd t1 s1 t2 s2];exact⟨rfl,(λh=>by cases h),λs h=>by cases h;exact⟨rfl,rfl,rfl,rfl,rfl,.inl rfl⟩⟩
theorem VS{nm:List UInt8}{o a:Option Ae} :
  (a=none→A4 nm o a a=D4 nm)∧∀s,a=some s→(A4 nm o a a).gone=false∧(A4 nm o a a).rows=s.rows.length∧(A4 nm o a a).cols=s.cols∧(A4 nm o a a).clash=false∧(A4 nm o a a).a=Aw s∧(A4 nm o a a).b=Aw s∧(A4 nm o a a).whole=0:=by
 refine⟨λh=>by rw[h,XM],λs h=>?_⟩;rw[h,HZ,if_pos rfl];exact⟨rfl,rfl,rfl,rfl,rfl,rfl,rfl⟩
theorem Ua{b:An}{nm:List UInt8}{s:Ae}(hs:Bh b nm=some s)(r c:Nat):Y6 b nm r c=(s.rows.getD r []).getD c []:=by rw[Y6,hs]
theorem Ti{o a:An}(ho:Av o=true)(ha:Av a=true):Cs o a o=⟨a,[],0⟩:=by
 obtain⟨n1,n2⟩:=FU o a o;have a0:∀nm s,Bh o nm=some s→A7 s=true∧s.name=nm:=λnm s h=>B9 ho h;have a1:∀nm s,Bh a nm=some s→A7 s=true∧s.name=nm:=λnm s h=>B9 ha h;have a2:∀nm∈EV o a o,(Bh o nm).isSome∨(Bh a nm).isSome:=λnm h=>by
  cases e1:Bh o nm with
  | some s=>exact .inl rfl
  | none=>
   cases e2:Bh a nm with
   | some s=>exact .inr rfl
   | none=>
        rcases(n2 nm).1 h with h | h | h
        ·exact absurd h (GB e1)
        ·exact absurd h (GB e2)
        ·exact absurd h (GB e1)
 have a3:=λnm h=>VT (nm:=nm) (a0 nm) (a1 nm) (a2 nm h);have a4:=λnm=>FX (nm:=nm) (λs h=>(a0 nm s h).2) (λs h=>(a1 nm s h).2) (λs h=>(a0 nm s h).2);have emo:(AN o a o).map A1.o=(AN o a o).map A1.b:=by
  unfold AN;rw[AbV,AbV];exact Ab0 λnm h=>(a3 nm h).1
 have ema:C5 a ((AN o a o).map A1.a)=a:=by
  refine KW ha ?_;unfold AN;rw[AbV];refine KN (λnm h=>(a4 nm).2.1) λnm h s hs=>?_;exact((a3 nm h).2.2 s hs).2.2.2.2.1
 have hk:=KJ (mo:=C5 o ((AN o a o).map A1.o)) (ma:=a) (mb:=C5 o ((AN o a o).map A1.b)) ha n1 (f:=λnm=>A4 nm (Bh o nm) (Bh a nm) (Bh o nm)) (λs hs=>(n2 s.name).2 (.inr (.inl (Adp hs)))) λnm h=>by
  obtain⟨p1,p0,p2⟩:=a3 nm h;have a5:=(a4 nm).2.2.2;refine⟨λe=>?_,λs e=>?_⟩
  ·show(A4 _ _ _ _).gone=true∧_;rw[p0 e];exact⟨rfl,rfl,rfl⟩
  ·obtain⟨m1,m2⟩:=a1 nm s e;obtain⟨p2,p3,p4,p5,p6,p7⟩:=p2 s e;refine⟨p2,p3,p4,N7 m1 (a5.trans m2.symm) p3 p4 p5 λr c hr hc=>?_⟩;rcases p7 with p7 | p7
   ·unfold GE;rw[p7];show CN _ _ _=_;rw[I3 e p6 hr hc,emo,p1];exact Vc _ _
   ·unfold GE;rw[p7,a5];show(Y6 a nm r c,none)=_;rw[Ua e]
 unfold Cs;rw[if_pos ⟨ho,ha,ho⟩];have e1:F6 (AN o a o)=false:=hk.1;rw[e1];simp only[Ab9,if_false];unfold Gi;simp only[ema];have e2:=hk.2.1;have e3:=hk.2.2;show(⟨(Ed (AN o a o)).map _,(Ed (AN o a o)).flatMap _,0⟩:GJ)=_;unfold AN at *;rw[e2,e3]
theorem FT{o a:An}(ho:Av o=true)(ha:Av a=true):Cs o o a=⟨a,[],0⟩:=by
 obtain⟨n1,n2⟩:=FU o o a;have a0:∀nm s,Bh o nm=some s→A7 s=true∧s.name=nm:=λnm s h=>B9 ho h;have a1:∀nm s,Bh a nm=some s→A7 s=true∧s.name=nm:=λnm s h=>B9 ha h;have a2:∀nm∈EV o o a,(Bh o nm).isSome∨(Bh a nm).isSome:=λnm h=>by
  cases e1:Bh o nm with
  | some s=>exact .inl rfl
  | none=>
   cases e2:Bh a nm with
   | some s=>exact .inr rfl
   | none=>
        rcases(n2 nm).1 h with h | h | h
        ·exact absurd h (GB e1)
        ·exact absurd h (GB e1)
        ·exact absurd h (GB e2)
 have a3:=λnm h=>T5 (nm:=nm) (a0 nm) (a1 nm) (a2 nm h);have a4:=λnm=>FX (nm:=nm) (λs h=>(a0 nm s h).2) (λs h=>(a0 nm s h).2) (λs h=>(a1 nm s h).2);have emo:(AN o o a).map A1.o=(AN o o a).map A1.a:=by
  unfold AN;rw[AbV,AbV];exact Ab0 λnm h=>(a3 nm h).1
 have emb:C5 a ((AN o o a).map A1.b)=a:=by
  refine KW ha ?_;unfold AN;rw[AbV];refine KN (λnm h=>(a4 nm).2.2.1) λnm h s hs=>?_;exact((a3 nm h).2.2 s hs).2.2.2.2.1
 have hk:=KJ (mo:=C5 o ((AN o o a).map A1.o)) (ma:=C5 o ((AN o o a).map A1.a)) (mb:=a) ha n1 (f:=λnm=>A4 nm (Bh o nm) (Bh o nm) (Bh a nm)) (λs hs=>(n2 s.name).2 (.inr (.inr (Adp hs)))) λnm h=>by
  obtain⟨p1,p0,p2⟩:=a3 nm h;have a5:=(a4 nm).2.2.2;refine⟨λe=>?_,λs e=>?_⟩
  ·show(A4 _ _ _ _).gone=true∧_;rw[p0 e];exact⟨rfl,rfl,rfl⟩
  ·obtain⟨m1,m2⟩:=a1 nm s e;obtain⟨p2,p3,p4,p5,p6,p7⟩:=p2 s e;refine⟨p2,p3,p4,N7 m1 (a5.trans m2.symm) p3 p4 p5 λr c hr hc=>?_⟩;rcases p7 with p7 | p7
   ·unfold GE;rw[p7];show CN _ _ _=_;rw[I3 e p6 hr hc,emo,p1];exact Q2 _ _
   ·unfold GE;rw[p7,a5];show(Y6 a nm r c,none)=_;rw[Ua e]
 unfold Cs;rw[if_pos ⟨ho,ho,ha⟩];have e1:F6 (AN o o a)=false:=hk.1;rw[e1];simp only[Ab9,if_false];unfold Gi;simp only[emb];have e2:=hk.2.1;have e3:=hk.2.2;show(⟨(Ed (AN o o a)).map _,(Ed (AN o o a)).flatMap _,0⟩:GJ)=_;unfold AN at *;rw[e2,e3]
theorem Th{o a:An}(ho:Av o=true)(ha:Av a=true):Cs o a a=⟨a,[],0⟩:=by
 obtain⟨n1,n2⟩:=FU o a a;have a3:∀nm s,Bh o nm=some s→A7 s=true∧s.name=nm:=λnm s h=>B9 ho h;have a0:∀nm s,Bh a nm=some s→A7 s=true∧s.name=nm:=λnm s h=>B9 ha h;have a1:=λnm=>VS (nm:=nm) (o:=Bh o nm) (a:=Bh a nm);have a2:=λnm=>FX (nm:=nm) (λs h=>(a3 nm s h).2) (λs h=>(a0 nm s h).2) (λs h=>(a0 nm s h).2);have eside:∀g:A1→Bg,(∀nm,(g (A4 nm (Bh o nm) (Bh a nm) (Bh a nm))).sheet=nm)→(∀nm s,Bh a nm=some s→g (A4 nm (Bh o nm) (Bh a nm) (Bh a nm))=Aw s)→C5 a ((AN o a a).map g)=a:=λg h1 h2=>by
  refine KW ha ?_;unfold AN;rw[AbV];exact KN (λnm _=>h1 nm) λnm _ s hs=>h2 nm s hs
 have ema:=eside A1.a (λnm=>(a2 nm).2.1) λnm s hs=>((a1 nm).2 s hs).2.2.2.2.1;have emb:=eside A1.b (λnm=>(a2 nm).2.2.1) λnm s hs=>((a1 nm).2 s hs).2.2.2.2.2.1;have hk:=KJ (mo:=C5 o ((AN o a a).map A1.o)) (ma:=a) (mb:=a) ha n1 (f:=λnm=>A4 nm (Bh o nm) (Bh a nm) (Bh a nm)) (λs hs=>(n2 s.name).2 (.inr (.inl (Adp hs)))) λnm h=>by
  obtain⟨p0,p2⟩:=a1 nm;have a4:=(a2 nm).2.2.2;refine⟨λe=>?_,λs e=>?_⟩
  ·show(A4 _ _ _ _).gone=true∧_;rw[p0 e];exact⟨rfl,rfl,rfl⟩
  ·obtain⟨m1,m2⟩:=a0 nm s e;obtain⟨p2,p3,p4,p5,p6,p6',p7⟩:=p2 s e;refine⟨p2,p3,p4,N7 m1 (a4.trans m2.symm) p3 p4 p5 λr c hr hc=>?_⟩;unfold GE;rw[p7];show CN _ _ _=_;rw[I3 e p6 hr hc,I3 e p6' hr hc];exact Va _ _
 unfold Cs;rw[if_pos ⟨ho,ha,ha⟩];have e1:F6 (AN o a a)=false:=hk.1;rw[e1];simp only[Ab9,if_false];unfold Gi;simp only[ema,emb];have e2:=hk.2.1;have e3:=hk.2.2;show(⟨(Ed (AN o a a)).map _,(Ed (AN o a a)).flatMap _,0⟩:GJ)=_;unfold AN at *;rw[e2,e3]
def ET(V:List Nat)(w:World)(P:World→Prop):Prop:=∀w',Chg V w w'→P w'
theorem ET.now{V:List Nat}{w:World}{P:World→Prop}(h:ET V w P):P w:=h w (Chg.refl _ _)
theorem ET.step{V V':List Nat}{w w':World}{P:World→Prop}(h:ET V w P)(x:Chg V w w')(hv:∀j,j∈V'→j∈V∨w.heap.size≤j):ET V' w' P:=λw2 x2=>h w2 ((Chg.trans x x2).mono λj hj hl=>by
 rcases Abf.1 hj with hj | hj
 ·exact hj
 ·rcases hv j hj with h | h
  ·exact h
  ·omega)
theorem ET.ext{V:List Nat}{w w':World}{P:World→Prop}(h:ET V w P)(x:Ai w w'):ET V w' P:=h.step x.chg λ_=>.inl
theorem Aa1:Go.WideMaps.ArrKey prog 105 3 2:=⟨underlying105,by kernel_rfl,by kernel_rfl,by kernel_rfl⟩
theorem YO:Go.Maps.Keyed prog 105:=Go.Maps.Keyed.of_law Aa1.law
abbrev QN(r c:Nat):Value:=.agg ⟨[.int .i64 (r:Int),.int .i64 (c:Int)]⟩
def X1(r c:Nat):Lit:=.string (keyBytes [.int .i64 (r:Int),.int .i64 (c:Int)])
theorem wfP{r:Nat}(hr:r≤1000000):(Lit.int .i64 (r:Int)).wf=true:=by
 have h1:IntKind.i64.min=-9223372036854775808:=AdH
 have h2:IntKind.i64.max=9223372036854775807:=AdH
 simp only[Lit.wf,h1,h2,AaY,decide_eq_true_eq];omega
theorem JS{r c:Nat}(hr:r≤1000000)(hc:c≤1000000):keyOf prog 105 (QN r c)=some (X1 r c):=
 Go.WideMaps.keyOf_pair Aa1 underlying3 ⟨prog.types.size - 1,by kernel_rfl⟩ (wfP hr) (wfP hc)
theorem X2{r c i j:Nat}(hr:r≤1000000)(hc:c≤1000000)(hi:i≤1000000)(hj:j≤1000000)(h:X1 r c=X1 i j):r=i∧c=j:=by
 have h1:=JS hr hc;rw[h] at h1;have:=YO.inj h1 (JS hi hj);simp only[QN,Value.agg.injEq,Array.mk.injEq,Acu,Value.int.injEq,true_and,and_true] at this;omega
noncomputable abbrev WZ:Value→Option (DataW Unit×List MemPlace):=plainElem prog 9
theorem Vk{t:List UInt8}(h:t.length≤1000000):WZ (Ao t)=some (.lit (.string t),[]):=by
 have:=plainElem_string (H:=Unit) (P:=prog) underlying9 (s:=⟨⟨t⟩⟩) (by show t.length≤maxLen;unfold maxLen;omega);exact this
theorem Xa{P:Program}{e:TypeId}(he:P.underlying e=some .string){v:Value}{y:DataW Unit×List MemPlace}{t:List UInt8}(h:plainElem P e v=some y)(hy:y.1=.lit (.string t)):v=Ao t:=by
 unfold plainElem at h;rw[he] at h
 cases v with
 | string s=>
  simp only at h
  split at h
  ·cases h;simp only[DataW.lit.injEq,Lit.string.injEq] at hy;obtain⟨⟨l⟩⟩:=s;simp only at hy;rw[←hy]
  ·cases h
 | _=>simp at h
theorem Vj{v:Value}{y:DataW Unit×List MemPlace}{t:List UInt8}(h:WZ v=some y)(hy:y.1=.lit (.string t)):v=Ao t:=Xa underlying9 h hy
def D6(w:World)(b n:Nat)(f:Nat→Nat→Option (List UInt8)):Prop:=
 ∃D:DataW Unit,w.ownsMap prog 105 WZ b n D∧∀r c,r≤1000000→c≤1000000→∀zd,D.atKey (X1 r c) zd=match f r c with | none=>zd | some t=>.lit (.string t)
theorem D6.lt{w:World}{b n:Nat}{f:Nat→Nat→Option (List UInt8)}(h:D6 w b n f):b<w.heap.size:=by
 obtain⟨D,h,-⟩:=h;exact h.lt
theorem D6.mono{w:World}{b n m:Nat}{f:Nat→Nat→Option (List UInt8)}(h:D6 w b n f)(hm:n≤m):D6 w b m f:=by
 obtain⟨D,h,k⟩:=h;exact⟨D,h.mono hm,k⟩
theorem D6.chg{S:List Nat}{w w':World}{b n:Nat}{f:Nat→Nat→Option (List UInt8)}(h:D6 w b n f)(x:Chg S w w')(hb:b∉S):D6 w' b n f:=by
 have hl:=h.lt;obtain⟨D,⟨es,clock,hh,F,hs,hD⟩,k⟩:=h;exact⟨D,⟨es,clock,(x.block b hl hb).trans hh,F,hs,hD⟩,k⟩
theorem D6.ext{w w':World}{b n:Nat}{f:Nat→Nat→Option (List UInt8)}(h:D6 w b n f)(x:Ai w w'):D6 w' b n f:=h.chg x AdM
theorem D6.congr{w:World}{b n:Nat}{f g:Nat→Nat→Option (List UInt8)}(h:D6 w b n f)(hg:∀r c,f r c=g r c):D6 w b n g:=by
 obtain⟨D,h1,k⟩:=h;exact⟨D,h1,λr c hr hc zd=>by rw[←hg];exact k r c hr hc zd⟩
theorem D6.look{w:World}{b n:Nat}{f:Nat→Nat→Option (List UInt8)}(h:D6 w b n f){r c:Nat}(hr:r≤1000000)(hc:c≤1000000)(ok:Bool) :
  (Instr.lookup 103 (.map (some b)) (QN r c) ok).run prog w=.ok (if ok then .tuple #[Ao ((f r c).getD []),.bool (f r c).isSome] else Ao ((f r c).getD [])) w:=by
 obtain⟨D,⟨es,clock,hb,F,_,rfl⟩,hf⟩:=h;rcases Go.Maps.fit_look ok YO underlying103 (zeroValue9 w) hb F (JS hr hc) with ⟨a0,_,a1⟩ | ⟨e0,y,_,_,a0,a2,a1,_⟩
 ·cases e:f r c with
  | none=>rw[a0];rfl
  | some t=>
   exfalso;have h1:=hf r c hr hc (.lit (.bool true));rw[a1,e] at h1;cases h1
 ·cases e:f r c with
  | none=>
   exfalso;have h1:=hf r c hr hc (.lit (.bool true));have h2:=hf r c hr hc (.lit (.bool false));rw[a1,e] at h1 h2;rw[h1] at h2
   cases h2
  | some t=>
   have h1:=hf r c hr hc (.lit (.bool true));rw[a1,e] at h1;rw[a0,Vj a2 h1];rfl
theorem D6.put{w:World}{b n:Nat}{f:Nat→Nat→Option (List UInt8)}(h:D6 w b n f)(hn:n<1000000){r c:Nat}(hr:r≤1000000)(hc:c≤1000000){t:List UInt8}(ht:t.length≤1000000) :
  ∃w',(Instr.mapUpdate 103 (.map (some b)) (QN r c) (Ao t)).run prog w=.ok () w'∧D6 w' b (n+1) (λi j=>if i=r∧j=c then some t else f i j)∧Chg [b] w w':=by
 obtain⟨D,hO,hf⟩:=h;obtain⟨w',a0,a1,hg⟩:=hO.update YO underlying103 (by unfold maxLen;omega) (JS hr hc) (Vk ht);have hM:Go.Maps.IsMap D:=by obtain⟨es,clock,_,_,_,rfl⟩:=hO;exact⟨_,rfl⟩
 have hK:WideAt.IsKeyLit (X1 r c):=YO.key (JS hr hc);refine⟨w',a0,⟨_,a1,λi j hi hj zd=>?_⟩,⟨hg.os,hg.tape,hg.output,hg.size,λk hk hs=>hg.block k hk λe=>hs (by cases e;simp)⟩⟩;by_cases e:i=r∧j=c
 ·obtain⟨rfl,rfl⟩:=e;rw[Go.Maps.atKey_put_same hM hK];simp
 ·rw[Go.Maps.atKey_put_other (λk=>e (X2 hi hj hr hc k))];refine(hf i j hi hj zd).trans ?_;show _=match (if i=r∧j=c then some t else f i j) with | none=>zd | some t=>DataW.lit (Lit.string t)
  rw[if_neg e]
section
variable {Q:Exit→Act→World→Prop} {D:List Deferred} {n d:Nat} {E:BW} {w:World} {l rest:List Oper} {x y z:Operand} {T:TypeId} {pos:String} {af:Array Edge} {b m r c:Nat} {f:Nat→Nat→Option (List UInt8)} {t:List UInt8}
theorem LW.makeMap(hn:Nat.blt d n=true)(h:∀b w',b=w.heap.size→Ai w w'→D6 w' b 0 (λ_ _=>none)→LW prog l Q rest D n ((d,.map (some b))::E) w') :
  LW prog l Q (⟨some d,.makeMap 103 none,T,pos,af,none⟩::rest) D n E w:=by
 refine LW.val (w':=w.alloc (.map #[] 0)) rfl rfl hn (λa ha=>?_) (h _ _ rfl (Ai.alloc ..) ⟨_,World.ownsMap_made ..,λ_ _ _ _ _=>rfl⟩);have e1:(execOp a.eval ⟨some d,.makeMap 103 none,T,pos,af,none⟩)=(do Pure.pure (Next.value (←Instr.makeMap 103 none))):=rfl;rw[e1,AaU,RowKit.run_makeMap];rfl
theorem Y.look(hM:D6 w b m f)(hx:ev E x=some (.map (some b)))(hy:ev E y=some (QN r c))(hr:r≤1000000)(hc:c≤1000000){v:Value}(hv:v=Ao ((f r c).getD [])):Y prog D n E w ⟨some d,.lookup 103 x y false,T,pos,af,none⟩ v:=λa ha=>by
 have e1:(execOp a.eval ⟨some d,.lookup 103 x y false,T,pos,af,none⟩)=(do Pure.pure (Next.value (←Instr.lookup 103 (a.eval x) (a.eval y) false))):=rfl;rw[e1,ha.eval hx,ha.eval hy,AaU,hM.look hr hc false,hv];rfl
theorem Y.look2(hM:D6 w b m f)(hx:ev E x=some (.map (some b)))(hy:ev E y=some (QN r c))(hr:r≤1000000)(hc:c≤1000000):Y prog D n E w ⟨some d,.lookup 103 x y true,T,pos,af,none⟩ (.tuple #[Ao ((f r c).getD []),.bool (f r c).isSome]):=λa ha=>by
 have e1:(execOp a.eval ⟨some d,.lookup 103 x y true,T,pos,af,none⟩)=(do Pure.pure (Next.value (←Instr.lookup 103 (a.eval x) (a.eval y) true))):=rfl;rw[e1,ha.eval hx,ha.eval hy,AaU,hM.look hr hc true];rfl
theorem LW.mapPut(hM:D6 w b m f)(hm:m<1000000)(hx:ev E x=some (.map (some b)))(hy:ev E y=some (QN r c))(hz:ev E z=some (Ao t))(hr:r≤1000000)(hc:c≤1000000)(ht:t.length≤1000000)
  (h:∀w',Chg [b] w w'→D6 w' b (m+1) (λi j=>if i=r∧j=c then some t else f i j)→LW prog l Q rest D n E w'):LW prog l Q (⟨none,.mapUpdate 103 x y z,T,pos,af,none⟩::rest) D n E w:=by
 obtain⟨w',a0,h1,h2⟩:=hM.put hm hr hc ht;refine LW.unit rfl rfl (λa ha=>?_) (h w' h2 h1);simp only[execOp,ha.eval hx,ha.eval hy,ha.eval hz,AaU,Abp,AaG,a0]
end
end Go.Proofs.YtcjjcnecopnpcaaGreatDoor
