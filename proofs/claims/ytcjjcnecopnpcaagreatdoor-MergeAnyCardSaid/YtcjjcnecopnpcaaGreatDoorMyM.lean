/-
  Joined by program out of the texts MvbP LinP FusP MrgP MrgQ MrgA Saf MapG.
-/
import Derived.Test.YtcjjcnecopnpcaaGreatDoorMyJ
import Derived.Test.YtcjjcnecopnpcaaGreatDoorMyI
import Derived.Test.YtcjjcnecopnpcaaGreatDoorMyH
import Derived.Test.YtcjjcnecopnpcaaGreatDoorMyA
import Derived.Test.YtcjjcnecopnpcaaGreatDoorMyE
import Derived.Maps.Own
import Derived.Carry
import Derived.Maps.Views
import Derived.WideKeyPair
namespace Go.Proofs.YtcjjcnecopnpcaaGreatDoor
open Tryz
open Go Go.E
noncomputable def N4(nm:List UInt8)(ss:List Br)(r:List (List UInt8)):List (List UInt8):=r.map (DJ nm ss)
noncomputable def RN(ss:List Br)(s:Af):Af:={s with rows:=s.rows.map (N4 s.name ss)}
noncomputable def Cn(ss:List Br)(b:Ao):Ao:=b.map (RN ss)
theorem Bn{s:Af}:A6 s=true↔D5 s.name=true∧0≤s.cols∧s.cols≤12∧s.rows.length≤24∧∀r∈s.rows,(r.length:Int)=s.cols∧∀t∈r,Ci t=true:=by
 simp only[A6,Abr,Ac5,decide_eq_true_eq];constructor
 ·rintro⟨⟨⟨⟨h1,h2⟩,h3⟩,h4⟩,h5⟩;exact⟨h1,h2,h3,h4,h5⟩
 ·rintro⟨h1,h2,h3,h4,h5⟩;exact⟨⟨⟨⟨h1,h2⟩,h3⟩,h4⟩,h5⟩
def Q7(m:AN):Nat→Nat→List Nat
 | 0,_=>[]
 | f+1,k=>if (k:Int)<m.new∧(k:Int)∉m.to then k::Q7 m f (k+1) else[]
def LD(m:AN)(k:Nat):List Nat:=Q7 m m.new.toNat k
def CG(m:AN):Nat→List Nat
 | 0=>LD m 0
 | g+1=>if m.to.getD g 0<0 then[] else LD m ((m.to.getD g 0).toNat+1)
def Co(l:List Int):Nat→List Nat→List Int
 | _,[]=>l
 | now,k::r=>Co (l.set k now) (now+1) r
structure DG where
 o:List Int
 x:List Int
 y:List Int
 now:Nat
def CE(a b:AN)(st:DG):Nat→DG
 | 0=>st
 | g+1=>if 0≤a.to.getD g 0∧0≤b.to.getD g 0 then⟨st.o.set g st.now,st.x.set (a.to.getD g 0).toNat st.now,st.y.set (b.to.getD g 0).toNat st.now,st.now+1⟩ else st
def HS(a:AN)(st:DG)(j:Nat):DG:={st with x:=Co st.x st.now (CG a j),now:=st.now+(CG a j).length}
def J5(b:AN)(st:DG)(j:Nat):DG:={st with y:=Co st.y st.now (CG b j),now:=st.now+(CG b j).length}
def J6(a b:AN)(st:DG)(j:Nat):DG:=J5 b (HS a (CE a b st j) j) j
def LZ(a b:AN):DG:=⟨List.replicate a.to.length (-1),List.replicate a.new.toNat (-1),List.replicate b.new.toNat (-1),0⟩
def AM(a b:AN)(j:Nat):DG:=(List.range j).foldl (J6 a b) (LZ a b)
def AB(a b:AN):DG:=AM a b (a.to.length+1)
theorem Di(a b:AN)(j:Nat):AM a b (j+1)=J6 a b (AM a b j) j:=by simp[AM,Acl]
theorem JV:∀(l:List Int) (now:Nat) (ks:List Nat),(Co l now ks).length=l.length
 | l,now,[]=>rfl
 | l,now,k::r=>by rw[Co,JV,Aco]
theorem On:∀(l:List Int) (now:Nat) (ks:List Nat) (k:Nat),Co l now (ks++[k])=(Co l now ks).set k ((now+ks.length:Nat):Int)
 | l,now,[],k=>by simp[Co]
 | l,now,j::r,k=>by
  rw[Ack,Co,Co,On (l.set j now) (now+1) r k,Abe]
  congr 2
  omega
theorem DB(a b:AN)(j:Nat):(AM a b j).o.length=a.to.length∧(AM a b j).x.length=a.new.toNat∧(AM a b j).y.length=b.new.toNat:=by
 induction j with
 | zero=>simp[AM,LZ]
 | succ j ih=>
  rw[Di];have h1:∀st:DG,(CE a b st j).o.length=st.o.length∧(CE a b st j).x.length=st.x.length∧(CE a b st j).y.length=st.y.length:=λst=>by
   cases j with
   | zero=>exact⟨rfl,rfl,rfl⟩
   | succ g=>rw[CE];split<;>simp
  obtain⟨e1,e2,e3⟩:=h1 (AM a b j);simp only[J6,HS,J5,JV];rw[e1,e2,e3];exact ih
theorem SG:∀{m:AN} {f k i:Nat},i∈Q7 m f k→k≤i∧(i:Int)<m.new∧(i:Int)∉m.to∧∀j,k≤j→j≤i→(j:Int)∉m.to
 | m,0,k,i,h=>by simp[Q7] at h
 | m,f+1,k,i,h=>by
  rw[Q7] at h
  split at h
  ·rename_i hk;rcases Ab0.1 h with rfl | h
   ·refine⟨Ab2 _,hk.1,hk.2,λj h1 h2=>?_⟩;have e:j=i:=Aeb
    rw[e];exact hk.2
   ·obtain⟨h1,h2,h3,h4⟩:=SG h;exact⟨by omega,h2,h3,λj h5 h6=>by
     by_cases e:j=k
     ·rw[e];exact hk.2
     ·exact h4 j Aeb h6⟩
  ·cases h
theorem SF:∀{m:AN} {f k i:Nat},m.new≤k+f→k≤i→(i:Int)<m.new→(∀j:Nat,k≤j→j≤i→(j:Int)∉m.to)→i∈Q7 m f k
 | m,0,k,i,hf,hk,hi,h=>by omega
 | m,f+1,k,i,hf,hk,hi,h=>by
  rw[Q7,if_pos ⟨by omega,h k (Ab2 _) hk⟩];by_cases e:i=k
  ·rw[e];exact AbC ..
  ·exact Ab5 _ (SF Aeb Aeb hi λj h1 h2=>h j Aeb h2)
theorem SH:∀(m:AN) (f k:Nat),∃n,Q7 m f k=List.range' k n∧n≤f
 | m,0,k=>⟨0,rfl,Ab2 _⟩
 | m,f+1,k=>by
  rw[Q7]
  split
  ·obtain⟨n,h,hn⟩:=SH m f (k+1);exact⟨n+1,by rw[h];rfl,by omega⟩
  ·exact⟨0,rfl,by omega⟩
theorem Gi{m:AN}{k i:Nat}:i∈LD m k↔k≤i∧(i:Int)<m.new∧∀j:Nat,k≤j→j≤i→(j:Int)∉m.to:=by
 constructor
 ·intro h;obtain⟨h1,h2,h3,h4⟩:=SG h;exact⟨h1,h2,h4⟩
 ·rintro⟨h1,h2,h3⟩;exact SF Aeb h1 h2 h3
theorem Gj(m:AN)(k:Nat):∃n,LD m k=List.range' k n∧n≤m.new.toNat:=SH m _ k
theorem KB{α:Type}{r:α→α→Prop}(hr:∀a b,r a b→¬r b a):∀{l m:List α},l.Pairwise r→m.Pairwise r→(∀x,x∈l↔x∈m)→l=m
 | [],[],_,_,_=>rfl
 | [],y::m,_,_,h=>absurd ((h y).2 (AbC ..)) Aej
 | x::l,[],_,_,h=>absurd ((h x).1 (AbC ..)) Aej
 | x::l,y::m,hl,hm,h=>by
  obtain⟨h1,h2⟩:=AcW.1 hl;obtain⟨h3,h4⟩:=AcW.1 hm;have e:x=y:=by
   rcases Ab0.1 ((h x).1 (AbC ..)) with e | hx
   ·exact e
   rcases Ab0.1 ((h y).2 (AbC ..)) with e | hy
   ·exact e.symm
   exact absurd (h3 x hx) (hr _ _ (h1 y hy))
  subst e
  congr 1
  refine KB hr h2 h4 λz=>?_;have hz:=h z;simp only[Ab0] at hz;constructor
  ·intro a0;rcases hz.1 (.inr a0) with e | h
   ·exact absurd (h1 z a0) (λk=>hr _ _ k (e ▸ k))
   ·exact h
  ·intro a1;rcases hz.2 (.inr a1) with e | h
   ·exact absurd (h3 z a1) (λk=>hr _ _ k (e ▸ k))
   ·exact h
theorem Kp{l:List Int}{j:Nat}(h:j<l.length):l.getD j 0∈l:=by
 rw[AaA,Aav h];exact AbY h
theorem RF{l:List Int}{x:Int}(h:x∈l):∃j,j<l.length∧l.getD j 0=x:=by
 obtain⟨j,hj,e⟩:=AcS h;exact⟨j,hj,by rw[AaA,Aav hj];exact e⟩
theorem Pp(m:AN)(j:Nat):(CG m j).Pairwise (·<·):=by
 have:∀k,(LD m k).Pairwise (·<·):=λk=>by
  obtain⟨n,e,-⟩:=Gj m k;rw[e];exact Adr
 cases j with
 | zero=>exact this 0
 | succ g=>
  rw[CG]
  split
  ·exact .nil
  ·exact this _
def KN(to:List Int)(j now:Nat)(xs:List Int):Prop:=∀i,i<xs.length→xs.getD i 0=-1∨(0≤xs.getD i 0∧xs.getD i 0<now∧(∀g,j≤g→g<to.length→0≤to.getD g 0→(i:Int)<to.getD g 0)∧∀q,q<i→xs.getD q 0<xs.getD i 0)
theorem KN.up{to:List Int}{j j' now now':Nat}{xs:List Int}(h:KN to j now xs)(hj:j≤j')(hn:now≤now'):KN to j' now' xs:=λi hi=>by
 rcases h i hi with h | ⟨h1,h2,h3,h4⟩
 ·exact .inl h
 ·exact .inr ⟨h1,by omega,λg hg=>h3 g Aeb,h4⟩
theorem KN.none(to:List Int)(j now n:Nat):KN to j now (List.replicate n (-1)):=λi hi=>by
 simp at hi;exact .inl (by simp[hi])
theorem Gl{l:List Int}{k i:Nat}{x:Int}(hi:i<l.length):(l.set k x).getD i 0=if k=i then x else l.getD i 0:=by
 simp only[AaA,Adf];by_cases e:k=i
 ·subst e;simp[hi]
 ·simp[e]
theorem KN.set{to:List Int}{j now k:Nat}{xs:List Int}(h:KN to j now xs)(hk:k<xs.length)(hb:∀i,i<xs.length→xs.getD i 0≠-1→i<k)(ha:∀g,j≤g→g<to.length→0≤to.getD g 0→(k:Int)<to.getD g 0):KN to j (now+1) (xs.set k now)∧∀i,i<xs.length→(xs.set k now).getD i 0≠-1→i≤k:=by
 refine⟨λi hi=>?_,λi hi hn=>?_⟩
 ·rw[Aco] at hi;rw[Gl hi];by_cases e:k=i
  ·subst e;rw[if_pos rfl];refine .inr ⟨by omega,by omega,ha,λq hq=>?_⟩;rw[Gl Aeb,if_neg Aeb];rcases h q Aeb with h | ⟨h1,h2,h3,h4⟩<;>omega
  ·rw[if_neg e];rcases h i hi with h1 | ⟨h1,h2,h3,h4⟩
   ·exact .inl h1
   ·refine .inr ⟨h1,by omega,h3,λq hq=>?_⟩;have:=hb i hi Aeb;rw[Gl Aeb,if_neg Aeb];exact h4 q hq
 ·rw[Gl hi] at hn;by_cases e:k=i
  ·omega
  ·rw[if_neg e] at hn;exact Nat.le_of_lt (hb i hi hn)
theorem KN.run{to:List Int}{j:Nat}:∀{now:Nat} {xs:List Int} {ks:List Nat},KN to j now xs→ks.Pairwise (·<·)→(∀k∈ks,k<xs.length∧∀g,j≤g→g<to.length→0≤to.getD g 0→(k:Int)<to.getD g 0)→(∀i,i<xs.length→xs.getD i 0≠-1→∀k∈ks,i<k)→KN to j (now+ks.length) (Co xs now ks)
 | now,xs,[],h,_,_,_=>h
 | now,xs,k::r,h,hp,hk,hb=>by
  obtain⟨h1,h2⟩:=AcW.1 hp;obtain⟨hk1,hk2⟩:=hk k (AbC ..);obtain⟨h3,h4⟩:=h.set hk1 (λi hi hn=>hb i hi hn k (AbC ..)) hk2;have:=KN.run (now:=now+1) (xs:=xs.set k now) (ks:=r) h3 h2 (λq hq=>by rw[Aco];exact hk q (Ab5 _ hq)) (λi hi hn q hq=>by
   rw[Aco] at hi;have:=h4 i hi hn;have:=h1 q hq;omega)
  rw[Co,Abe,show now+(r.length+1)=now+1+r.length by omega];exact this
theorem KN.side{m:AN}(hm:EV m)(hn:0≤m.new){g now now':Nat}{xs:List Int}(hl:xs.length=m.new.toNat)(hg:g<m.to.length)(h:KN m.to g now xs)(hw:now≤now'){kept:Bool}(hk:kept=true→0≤m.to.getD g 0∧now<now') :
  KN m.to (g+1) (now'+(CG m (g+1)).length) (Co (if kept then xs.set (m.to.getD g 0).toNat now else xs) now' (CG m (g+1))):=by
 have hr:=hm g hg;have a0:0≤m.to.getD g 0→∀q,g+1≤q→q<m.to.length→0≤m.to.getD q 0→m.to.getD g 0<m.to.getD q 0:=λ_ q hq a2 h0=>by
  rcases hm q a2 with h | ⟨_,_,h⟩
  ·omega
  ·exact h g Aeb
 obtain⟨ys,a3⟩:∃ys,ys=(if kept then xs.set (m.to.getD g 0).toNat now else xs):=⟨_,rfl⟩;have a5:ys.length=m.new.toNat:=by rw[a3];split<;>simp[hl]
 have hy:KN m.to (g+1) now' ys∧(0≤m.to.getD g 0→∀i,i<ys.length→ys.getD i 0≠-1→(i:Int)≤m.to.getD g 0):=by
  rw[a3];by_cases e:kept=true
  ·rw[if_pos e];obtain⟨h0,h1⟩:=hk e;have a4:(m.to.getD g 0).toNat<xs.length:=by rw[hl];omega
   obtain⟨h2,h3⟩:=(h.up (AdL g) (Ab2 now)).set a4 (λi hi hn=>by
    rcases h i hi with h4 | ⟨_,_,h4,_⟩
    ·exact absurd h4 hn
    ·have:=h4 g (Ab2 _) hg h0;omega) (λq hq a2 h4=>by
    have:=a0 h0 q hq a2 h4;omega)
   refine⟨h2.up (Ab2 _) Aeb,λ_ i hi hn=>?_⟩;rw[Aco] at hi;have:=h3 i hi hn;omega
  ·rw[if_neg e];refine⟨h.up (AdL g) hw,λh0 i hi hn=>?_⟩;rcases h i hi with h4 | ⟨_,_,h4,_⟩
   ·exact absurd h4 hn
   ·have:=h4 g (Ab2 _) hg h0;omega
 rw[←a3];refine hy.1.run (Pp m _) (λk a1=>?_) (λi hi hn k a1=>?_)
 ·rw[CG] at a1
  split at a1
  ·cases a1
  ·rename_i h0;obtain⟨h1,h2,h3⟩:=Gi.1 a1;refine⟨by omega,λq hq a2 h4=>?_⟩;have h5:=a0 Aeb q hq a2 h4;by_cases h6:(k:Int)<m.to.getD q 0
   ·exact h6
   ·exact absurd (Kp a2) (by
     have:=h3 (m.to.getD q 0).toNat Aeb Aeb
     rwa [Acs h4] at this)
 ·rw[CG] at a1
  split at a1
  ·cases a1
  ·rename_i h0;obtain⟨h1,h2,h3⟩:=Gi.1 a1;have:=hy.2 Aeb i hi hn;omega
theorem KN.first{m:AN}{now n:Nat}(hn:n=m.new.toNat):KN m.to 0 (now+(CG m 0).length) (Co (List.replicate n (-1)) now (CG m 0)):=by
 refine(KN.none m.to 0 now n).run (Pp m _) (λk hk=>?_) (λi hi h=>?_)
 ·obtain⟨h1,h2,h3⟩:=Gi.1 hk;refine⟨by simp;omega,λq _ a0 h4=>?_⟩;by_cases h6:(k:Int)<m.to.getD q 0
  ·exact h6
  ·exact absurd (Kp a0) (by
    have:=h3 (m.to.getD q 0).toNat Aeb Aeb
    rwa [Acs h4] at this)
 ·simp at hi;exact absurd (by simp[hi]) h
def Tu(j now:Nat)(xs:List Int):Prop:=∀i,i<xs.length→xs.getD i 0=-1∨(0≤xs.getD i 0∧xs.getD i 0<now∧i<j∧∀q,q<i→xs.getD q 0<xs.getD i 0)
theorem Tu.up{j j' now now':Nat}{xs:List Int}(h:Tu j now xs)(hj:j≤j')(hn:now≤now'):Tu j' now' xs:=λi hi=>by
 rcases h i hi with h | ⟨h1,h2,h3,h4⟩
 ·exact .inl h
 ·exact .inr ⟨h1,by omega,by omega,h4⟩
theorem Tu.set{j now:Nat}{xs:List Int}(h:Tu j now xs):Tu (j+1) (now+1) (xs.set j now):=λi hi=>by
 rw[Aco] at hi;rw[Gl hi];by_cases e:j=i
 ·subst e;rw[if_pos rfl];refine .inr ⟨by omega,by omega,by omega,λq hq=>?_⟩;rw[Gl Aeb,if_neg Aeb];rcases h q Aeb with h | ⟨h1,h2,h3,h4⟩<;>omega
 ·rw[if_neg e];rcases h i hi with h1 | ⟨h1,h2,h3,h4⟩
  ·exact .inl h1
  ·refine .inr ⟨h1,by omega,by omega,λq hq=>?_⟩;rw[Gl Aeb,if_neg Aeb];exact h4 q hq
theorem OW{a b:AN}(ha:EV a)(hb:EV b)(ha0:0≤a.new)(hb0:0≤b.new)(hl:b.to.length=a.to.length):∀j,j≤a.to.length→KN a.to j (AM a b (j+1)).now (AM a b (j+1)).x∧KN b.to j (AM a b (j+1)).now (AM a b (j+1)).y∧Tu j (AM a b (j+1)).now (AM a b (j+1)).o∧(AM a b (j+1)).now≤(j+1)*(1+a.new.toNat+b.new.toNat)
 | 0,_=>by
  rw[Di];have e0:AM a b 0=LZ a b:=rfl;have n1:(CG a 0).length≤a.new.toNat:=by obtain⟨n,e,h⟩:=Gj a 0;rw[CG,e];simpa using h
  have n2:(CG b 0).length≤b.new.toNat:=by obtain⟨n,e,h⟩:=Gj b 0;rw[CG,e];simpa using h
  simp only[e0,J6,J5,HS,CE,LZ];refine⟨(KN.first (m:=a) (now:=0) rfl).up (Ab2 _) Aeb,KN.first (m:=b) rfl,λi hi=>.inl ?_,by omega⟩;simp at hi
  simp[hi]
 | g+1,hj=>by
  obtain⟨h1,h2,h3,h4⟩:=OW ha hb ha0 hb0 hl g Aeb;obtain⟨l1,l2,l3⟩:=DB a b (g+1);rw[Di];generalize AM a b (g+1)=st at h1 h2 h3 h4 l1 l2 l3;have n1:(CG a (g+1)).length≤a.new.toNat:=by
   rw[CG];split
   ·simp
   ·obtain⟨n,e,h⟩:=Gj a ((a.to.getD g 0).toNat+1);rw[e];simpa using h
  have n2:(CG b (g+1)).length≤b.new.toNat:=by
   rw[CG];split
   ·simp
   ·obtain⟨n,e,h⟩:=Gj b ((b.to.getD g 0).toNat+1);rw[e];simpa using h
  have a0:(g+1+1)*(1+a.new.toNat+b.new.toNat)=(g+1)*(1+a.new.toNat+b.new.toNat)+(1+a.new.toNat+b.new.toNat):=Nat.succ_mul _ _;by_cases hk:0≤a.to.getD g 0∧0≤b.to.getD g 0
  ·simp only[J6,J5,HS,CE,if_pos hk];have i1:=KN.side ha ha0 l2 Aeb h1 (now':=st.now+1) Aeb (kept:=true) (λ_=>⟨hk.1,by omega⟩);have i2:=KN.side hb hb0 l3 Aeb h2 (now':=st.now+1+(CG a (g+1)).length) Aeb (kept:=true) (λ_=>⟨hk.2,by omega⟩);simp only[if_true] at i1 i2;exact⟨i1.up (Ab2 _) Aeb,i2,h3.set.up (Ab2 _) Aeb,by omega⟩
  ·simp only[J6,J5,HS,CE,if_neg hk];have i1:=KN.side ha ha0 l2 Aeb h1 (now':=st.now) Aeb (kept:=false) (λh=>by cases h);have i2:=KN.side hb hb0 l3 Aeb h2 (now':=st.now+(CG a (g+1)).length) Aeb (kept:=false) (λh=>by cases h);simp only[AbK,if_false] at i1 i2;exact⟨i1.up (Ab2 _) Aeb,i2,h3.up (AdL _) Aeb,by omega⟩
theorem XO{a b:AN}(_ha:EK a=true)(_hb:EK b=true)(hl:b.to.length=a.to.length)(h1:a.to.length≤200)(h2:a.new≤200)(h3:b.new≤200)(ra:EV a)(rb:EV b)(ha0:0≤a.new)(hb0:0≤b.new):EK ⟨(AB a b).o,(AB a b).now⟩=true∧EK ⟨(AB a b).x,(AB a b).now⟩=true∧EK ⟨(AB a b).y,(AB a b).now⟩=true∧(AB a b).now≤1000000:=by
 obtain⟨i1,i2,i3,i4⟩:=OW ra rb ha0 hb0 hl a.to.length (Ab2 _);obtain⟨l1,l2,l3⟩:=DB a b (a.to.length+1);have a0:(AB a b).now≤1000000:=by
  have:(a.to.length+1)*(1+a.new.toNat+b.new.toNat)≤201*401:=Adg Aeb Aeb;unfold AB;omega
 refine⟨M8 Aej Afl (by simp only[AB];omega) λj hj=>?_,M8 Aej Afl (by simp only[AB];omega) λj hj=>?_,M8 Aej Afl (by simp only[AB];omega) λj hj=>?_,a0⟩
 ·rcases i3 j hj with h | ⟨h4,h5,-,h6⟩
  ·exact .inl h
  ·exact .inr ⟨h4,h5,h6⟩
 ·rcases i1 j hj with h | ⟨h4,h5,-,h6⟩
  ·exact .inl h
  ·exact .inr ⟨h4,h5,h6⟩
 ·rcases i2 j hj with h | ⟨h4,h5,-,h6⟩
  ·exact .inl h
  ·exact .inr ⟨h4,h5,h6⟩
structure A8 where
 name:List UInt8
 rows:Int
 cols:Int
 whole:Nat
 clash:Bool
 gone:Bool
 o:Br
 a:Br
 b:Br
structure HO where
 sheet:List UInt8
 row:Int
 col:Int
 base:List UInt8
 ours:List UInt8
 their:List UInt8
deriving DecidableEq
def Bq(b:Ao)(nm:List UInt8):Option Af:=(O2 b nm).bind λi=>b[i]?
def A3(s:Af):Br:=⟨s.name,BL s.rows.length,BL s.cols.toNat,false⟩
def E6(nm:List UInt8):Br:=⟨nm,⟨[],0⟩,⟨[],0⟩,true⟩
def Es(nm:List UInt8):A8:=⟨nm,0,0,0,false,true,E6 nm,E6 nm,E6 nm⟩
def Bd(nm:List UInt8)(o a b:Af):A8:=
 let r:=AB (Ag o a).rows (Ag o b).rows
 let c:=AB (Ag o a).cols (Ag o b).cols
 ⟨nm,r.now,c.now,0,false,false,⟨nm,⟨r.o,r.now⟩,⟨c.o,c.now⟩,false⟩,⟨nm,⟨r.x,r.now⟩,⟨c.x,c.now⟩,false⟩,⟨nm,⟨r.y,r.now⟩,⟨c.y,c.now⟩,false⟩⟩
def Ys(nm:List UInt8)(o:Option Af)(t:Af):Br:=match o with
 | some u=>Ag u t
 | none=>E6 nm
def De(nm:List UInt8)(o:Option Af)(x y:Br)(t:Af)(wh:Nat)(cl:Bool):A8:=⟨nm,t.rows.length,t.cols,wh,cl,false,Ys nm o t,x,y⟩
def AJ(nm:List UInt8)(o:Option Af):Option Af→Option Af→A8
 | some s,some t=>if s=t then De nm o (A3 s) (A3 t) s 0 false else match o with
  | some u=>Bd nm u s t
  | none=>De nm o (A3 s) (A3 t) s 1 true
 | some s,none=>if o=some s then Es nm else De nm o (A3 s) (E6 nm) s 1 o.isSome
 | none,some t=>if o=some t then Es nm else De nm o (E6 nm) (A3 t) t 2 o.isSome
 | none,none=>Es nm
def Jw(x:List UInt8):List (List UInt8)→List (List UInt8)
 | []=>[x]
 | y::r=>if Op.bytesLess y x=true then y::Jw x r else if y=x then y::r else x::y::r
def Iz(l:List (List UInt8)):List (List UInt8):=l.foldl (λr x=>Jw x r) []
def Ge(o a b:Ao):List (List UInt8):=Iz (o.map Af.name++a.map Af.name++b.map Af.name)
def Bs(o a b:Ao):List A8:=(Ge o a b).map λnm=>AJ nm (Bq o nm) (Bq a nm) (Bq b nm)
def Ml(b:Ao)(l:List Br):List Br:=l.filter λs=>(O2 b s.sheet).isSome
def Eu(to:List Int)(x:Int):Option Nat:=to.findIdx? λz=>decide (z=x)
def Nm(b:Ao)(s:Br)(row col:Nat):Option (List UInt8):=match Bq b s.sheet with
 | none=>none
 | some t=>if s.gone=true then none else match Eu s.rows.to row,Eu s.cols.to col with
  | some r,some c=>some ((t.rows.getD r []).getD c [])
  | _,_=>none
def Dt(old x y:Option (List UInt8)):List UInt8×Option (List UInt8×List UInt8×List UInt8):=match x,y with
 | none,y=>(y.getD [],none)
 | some x,none=>(x,none)
 | some x,some y=>if x=y∨old=some y then(x,none) else if old=some x then(y,none) else(x,some (old.getD [],x,y))
def YY(b:Ao)(nm:List UInt8)(row col:Nat):List UInt8:=match Bq b nm with
 | some t=>(t.rows.getD row []).getD col []
 | none=>[]
def Ia(p:A8)(mo ma mb:Ao)(r c:Nat):List UInt8×Option (List UInt8×List UInt8×List UInt8):=match p.whole with
 | 0=>Dt (Nm mo p.o r c) (Nm ma p.a r c) (Nm mb p.b r c)
 | 1=>(YY ma p.name r c,none)
 | _=>(YY mb p.name r c,none)
def YC(p:A8)(mo ma mb:Ao)(r:Nat):List (List UInt8):=(List.range p.cols.toNat).map λc=>(Ia p mo ma mb r c).1
def GI(p:A8)(mo ma mb:Ao):Af:=⟨p.name,p.cols,(List.range p.rows.toNat).map (YC p mo ma mb)⟩
def X9(p:A8)(mo ma mb:Ao)(r c:Nat):List HO:=match (Ia p mo ma mb r c).2 with
 | some (x,y,z)=>[⟨p.name,r,c,x,y,z⟩]
 | none=>[]
def LV(p:A8)(mo ma mb:Ao):List HO:=(if p.clash=true then[⟨p.name,-1,-1,[],[],[]⟩] else[])++(List.range p.rows.toNat).flatMap λr=>(List.range p.cols.toNat).flatMap λc=>X9 p mo ma mb r c
def E8(ps:List A8):List A8:=ps.filter λp=>!p.gone
structure Hu where
 b:Ao
 c:List HO
 e:Int
noncomputable def Ez(b:Ao)(l:List Br):Ao:=Cn (Ml b l) b
noncomputable def L1(o a b:Ao):Hu:=
 let ps:=Bs o a b
 let mo:=Ez o (ps.map A8.o)
 let ma:=Ez a (ps.map A8.a)
 let mb:=Ez b (ps.map A8.b)
 ⟨(E8 ps).map λp=>GI p mo ma mb,(E8 ps).flatMap λp=>LV p mo ma mb,0⟩
def Ix(ps:List A8):Bool:=(ps.any λp=>decide (24<p.rows)||decide (12<p.cols))||decide (5<(E8 ps).length)
noncomputable def EL(o a b:Ao):Hu:=if Ay o=true∧Ay a=true∧Ay b=true then(if Ix (Bs o a b)=true then⟨[],[],4⟩ else L1 o a b) else⟨[],[],1⟩
theorem Nr{x y:List UInt8}:∀{l:List (List UInt8)},y∈Jw x l↔y=x∨y∈l
 | []=>by simp[Jw]
 | z::r=>by
  rw[Jw]
  split
  ·simp only[Ab0,Nr (l:=r)];constructor
   ·rintro(h | h | h)
    ·exact .inr (.inl h)
    ·exact .inl h
    ·exact .inr (.inr h)
   ·rintro(h | h | h)
    ·exact .inr (.inl h)
    ·exact .inl h
    ·exact .inr (.inr h)
  ·split
   ·rename_i e;subst e;simp
   ·simp
theorem FX:∀{a b:List UInt8},Op.bytesLess a b=false→a≠b→Op.bytesLess b a=true
 | [],[],_,h=>absurd rfl h
 | [],_::_,h,_=>by simp[Op.bytesLess] at h
 | _::_,[],_,_=>by simp[Op.bytesLess]
 | x::a,y::b,h,k=>by
  simp only[Op.bytesLess,Adk,Adz,decide_eq_false_iff_not,beq_eq_false_iff_ne,Aci,Abr,decide_eq_true_eq,beq_iff_eq] at h ⊢;obtain⟨h1,h2⟩:=h;by_cases e:x=y
  ·subst e;refine .inr ⟨rfl,FX ?_ λe=>k (by rw[e])⟩;rcases h2 with h2 | h2
   ·exact absurd rfl h2
   ·exact h2
  ·exact .inl (by
    rcases UInt8.lt_or_lt_of_ne e with h | h
    ·exact absurd h h1
    ·exact h)
theorem JF(a b:List UInt8)(h:Op.bytesLess a b=true):¬Op.bytesLess b a=true:=λk=>by
 have:=EJ h k;rw[Iy] at this;cases this
theorem Pe{x:List UInt8}:∀{l:List (List UInt8)},l.Pairwise (λx y=>Op.bytesLess x y=true)→(Jw x l).Pairwise (λx y=>Op.bytesLess x y=true)
 | [],_=>by simp[Jw]
 | y::r,h=>by
  obtain⟨h1,h2⟩:=AcW.1 h;rw[Jw]
  split
  ·rename_i e;refine .cons (λz hz=>?_) (Pe h2);rcases Nr.1 hz with rfl | hz
   ·exact e
   ·exact h1 z hz
  ·split
   ·exact h
   ·rename_i e1 e2;have e:=FX (by simpa using e1) e2;refine .cons (λz hz=>?_) h;rcases Ab0.1 hz with rfl | hz
    ·exact e
    ·exact EJ e (h1 z hz)
theorem Mi(l:List (List UInt8)):(Iz l).Pairwise (λx y=>Op.bytesLess x y=true)∧∀x,x∈Iz l↔x∈l:=by
 have:∀(l r:List (List UInt8)),r.Pairwise (λx y=>Op.bytesLess x y=true)→(l.foldl (λr x=>Jw x r) r).Pairwise (λx y=>Op.bytesLess x y=true)∧∀x,x∈l.foldl (λr x=>Jw x r) r↔x∈l∨x∈r:=λl=>by
  induction l with
  | nil=>intro r h;exact⟨h,by simp⟩
  | cons y l ih=>
   intro r h;obtain⟨h1,h2⟩:=ih (Jw y r) (Pe h);refine⟨h1,λx=>?_⟩;rw[AcM,h2,Nr,Ab0];constructor
   ·rintro(h | h | h)
    ·exact .inl (.inr h)
    ·exact .inl (.inl h)
    ·exact .inr h
   ·rintro((h | h) | h)
    ·exact .inr (.inl h)
    ·exact .inl h
    ·exact .inr (.inr h)
 obtain⟨h1,h2⟩:=this l [] .nil;exact⟨h1,λx=>by rw[Iz,h2];simp⟩
theorem BU{b:Ao}{nm:List UInt8}{s:Af}(h:Bq b nm=some s):s.name=nm∧s∈b:=by
 unfold Bq at h
 cases e:O2 b nm with
 | none=>rw[e] at h;cases h
 | some i=>
  rw[e] at h;obtain⟨t,ht,hn⟩:=MS e;have h:b[i]?=some s:=h;rw[ht] at h;obtain rfl:=Ab9 h;exact⟨hn,Ab4 ht⟩
theorem Aa4{b:Ao}(hb:b.Pairwise (λs u=>Op.bytesLess s.name u.name=true)){s:Af}(h:s∈b):Bq b s.name=some s:=by
 obtain⟨i,hi⟩:=Ac7 h;unfold Bq;rw[Aak hb hi];exact hi
theorem JW{b:Ao}{nm:List UInt8}:(Bq b nm).isSome=(O2 b nm).isSome:=by
 unfold Bq
 cases e:O2 b nm with
 | none=>rfl
 | some i=>
  obtain⟨t,ht,-⟩:=MS e;simp[ht]
theorem Hk{b:Ao}{nm:List UInt8}(h:Bq b nm=none):nm∉b.map Af.name:=λhm=>by
 have h1:O2 b nm=none:=by
  have:=JW (b:=b) (nm:=nm);rw[h] at this
  cases e:O2 b nm with
  | none=>rfl
  | some i=>rw[e] at this;cases this
 obtain⟨s,hs,e⟩:=AbZ.1 hm;rw[O2,Ac9] at h1;have:=h1 s hs;simp[e] at this
theorem Q8{m:AN}{k c:Nat}(h:k≤c)(hc:(c:Int)≤m.new)(hn:(c:Int)=m.new∨(c:Int)∈m.to)(hm:∀i:Nat,k≤i→i<c→(i:Int)∉m.to):LD m k=List.range' k (c - k):=by
 refine KB (r:=(·<·)) (λa b h=>by omega) ?_ Adr λi=>?_
 ·obtain⟨n,e,-⟩:=Gj m k;rw[e];exact Adr
 ·rw[Gi,List.mem_range'_1];constructor
  ·rintro⟨h1,h2,h3⟩;refine⟨h1,?_⟩;by_cases hi:i<c
   ·omega
   ·rcases hn with h4 | h4
    ·omega
    ·exact absurd h4 (h3 c h Aeb)
  ·rintro⟨h1,h2⟩;exact⟨h1,by omega,λj h3 h4=>hm j h3 Aeb⟩
theorem SI{m:AN}{k:Nat}(h:m.new≤k∨(k:Int)∈m.to):LD m k=[]:=by
 cases e:LD m k with
 | nil=>rfl
 | cons x r=>
  have hx:x∈LD m k:=by rw[e];exact AbC ..
  obtain⟨h1,h2,h3⟩:=Gi.1 hx;rcases h with h | h
  ·omega
  ·exact absurd h (h3 k (Ab2 _) h1)
theorem P1{n i:Nat}(h:i<n):(i:Int)∈B6 n:=AbZ.2 ⟨i,Ac1.2 h,rfl⟩
theorem P0(n:Nat):(B6 n).length=n:=by simp[B6]
theorem SK{n i:Nat}(h:i<n):(B6 n).getD i 0=i:=by simp[B6,h]
theorem NN{n j:Nat}(hj:j≤n):CG ⟨B6 n,(n:Int)⟩ j=[]:=by
 cases j with
 | zero=>
  rw[CG];refine SI ?_;by_cases h:n=0
  ·left;simp[h]
  ·exact .inr (P1 Aeb)
 | succ g=>
  rw[CG];simp only[SK (show g<n by omega)];rw[if_neg Aeb];refine SI ?_;rw[Ade];by_cases h:g+1<n
  ·exact .inr (P1 h)
  ·left;show(n:Int)≤((g+1:Nat):Int);omega
def OG(c n:Nat):List Int:=(List.range n).map λi=>if i<c then(i:Int) else -1
theorem Xi(n:Nat):OG 0 n=List.replicate n (-1):=by
 apply Acv;intro i;by_cases h:i<n<;>simp[OG,h]
theorem YS(n:Nat):OG n n=B6 n:=by
 unfold OG B6;exact Acg λi hi=>by simp only[Ac1] at hi;rw[if_pos hi]
theorem Ti{c n:Nat}:(OG c n).set c (c:Int)=OG (c+1) n:=by
 apply Acv;intro i;rw[Adf];simp only[OG,AbR,AbT,AcR];by_cases h:i<n
 ·by_cases e:c=i
  ·subst e;simp[h]
  ·have e2:i<c+1↔i<c:=Aeb
   simp[h,e,e2]
 ·by_cases e:c=i
  ·subst e;simp[h]
  ·simp[h,e]
theorem O0:∀{m c n:Nat},Co (OG c n) c (List.range' c m)=OG (c+m) n
 | 0,c,n=>rfl
 | m+1,c,n=>by
  rw[List.range'_succ,Co,Ti,O0 (m:=m) (c:=c+1)]
  congr 1
  omega
def F1(to:List Int)(j:Nat):List Int:=to.take j++List.replicate (to.length - j) (-1)
theorem Nq{to:List Int}{j i:Nat}(hj:j≤to.length):(F1 to j)[i]?=if i<to.length then(if i<j then to[i]? else some (-1)) else none:=by
 unfold F1;by_cases h:i<j
 ·rw[Ab6 Aee,AdO h,if_pos Aeb,if_pos h]
 ·rw[AbU Aee,Adq];simp only[Acj,AdW hj];by_cases h2:i<to.length
  ·rw[if_pos Aeb,if_pos h2,if_neg h]
  ·rw[if_neg Aeb,if_neg h2]
theorem TQ(to:List Int):F1 to 0=List.replicate to.length (-1):=by simp[F1]
theorem VQ(to:List Int):F1 to to.length=to:=by simp[F1]
theorem Pa{to:List Int}{g:Nat}(hg:g<to.length):(F1 to g).set g (to.getD g 0)=F1 to (g+1):=by
 apply Acv;intro i;have hl:(F1 to g).length=to.length:=by simp[F1];omega
 rw[Adf,Nq Aeb,Nq Aeb,hl];by_cases e:g=i
 ·subst e;simp only[if_true,hg,Nat.lt_succ_self];rw[AaA,Aav hg];rfl
 ·have e2:i<g+1↔i<g:=Aeb
  simp only[e2,if_neg e]
theorem TP{to:List Int}{g:Nat}(hg:g<to.length)(h:to.getD g 0=-1):F1 to g=F1 to (g+1):=by
 rw[←Pa hg,h];apply Acv;intro i;have hl:(F1 to g).length=to.length:=by simp[F1];omega
 rw[Adf,hl];by_cases e:g=i
 ·subst e;rw[Nq Aeb];simp[hg]
 ·rw[if_neg e]
def Dv(m:AN)(j:Nat):Nat:=(CP m.new (m.to.drop j)).toNat
theorem NB{m:AN}(hm:EV m)(hn:0≤m.new):∀{j:Nat},j≤m.to.length→((Dv m j:Nat):Int)≤m.new∧((Dv m j:Int)=m.new∨∃p,j≤p∧p<m.to.length∧m.to.getD p 0=(Dv m j:Int))∧(∀g,j≤g→g<m.to.length→0≤m.to.getD g 0→(Dv m j:Int)≤m.to.getD g 0):=by
 intro j hj;obtain⟨k,hk⟩:∃k,k=m.to.length - j:=⟨_,rfl⟩
 induction k generalizing j with
 | zero=>
  have e:Dv m j=m.new.toNat:=by
   unfold Dv;rw[Acm Aeb];rfl
  rw[e]
  exact⟨by omega,.inl Aeb,λg h1 h2=>by omega⟩
 | succ k ih=>
  have a0:j<m.to.length:=Aeb
  have e0:m.to.getD j 0=m.to[j]:=by rw[AaA,Aav a0];rfl
  have e:Dv m j=if 0≤m.to.getD j 0 then(m.to.getD j 0).toNat else Dv m (j+1):=by
   unfold Dv;rw[Acp a0,CP,e0]
   split<;>rfl
  rw[e];by_cases h0:0≤m.to.getD j 0
  ·rw[if_pos h0,Acs h0];have hr:=hm j a0;refine⟨by omega,.inr ⟨j,Ab2 _,a0,rfl⟩,λg h1 h2 h3=>?_⟩;by_cases e1:g=j
   ·rw[e1];omega
   ·rcases hm g h2 with h4 | ⟨_,_,h4⟩
    ·omega
    ·have:=h4 j Aeb;omega
  ·rw[if_neg h0];obtain⟨h1,h2,h3⟩:=ih (j:=j+1) Aeb Aeb;refine⟨h1,h2.imp id λ⟨p,h7,h8⟩=>⟨p,by omega,h8⟩,λg h4 h5 h6=>?_⟩;by_cases e1:g=j
   ·rw[e1] at h6;omega
   ·exact h3 g Aeb h5 h6
theorem RR{m:AN}{g:Nat}(hg:g<m.to.length):Dv m g=if 0≤m.to.getD g 0 then(m.to.getD g 0).toNat else Dv m (g+1):=by
 have e0:m.to.getD g 0=m.to[g]:=by rw[AaA,Aav hg];rfl
 unfold Dv;rw[Acp hg,CP,e0]
 split<;>rfl
theorem Yw{m:AN}(hm:EV m)(hn:0≤m.new){g:Nat}(hg:g<m.to.length)(h0:0≤m.to.getD g 0):CG m (g+1)=List.range' ((m.to.getD g 0).toNat+1) (Dv m (g+1) - ((m.to.getD g 0).toNat+1))∧(m.to.getD g 0).toNat+1≤Dv m (g+1):=by
 obtain⟨h1,h2,h3⟩:=NB hm hn (j:=g+1) hg;have a0:(m.to.getD g 0).toNat+1≤Dv m (g+1):=by
  have hr:=hm g hg;rcases h2 with h2 | ⟨p,h4,hp,e⟩
  ·omega
  ·rcases hm p hp with h | ⟨_,_,h⟩
   ·omega
   ·have:=h g Aeb;omega
 rw[CG,if_neg Aeb];refine⟨Q8 a0 h1 (h2.imp id λ⟨p,_,hp,e⟩=>by rw[←e];exact Kp hp) λi hi a2 a1=>?_,a0⟩;obtain⟨p,hp,e⟩:=RF a1;rcases Adv p g with hlt | rfl | hlt
 ·rcases hm g hg with h | ⟨_,_,h⟩
  ·omega
  ·have:=h p hlt;omega
 ·omega
 ·have:=h3 p hlt hp Aeb;omega
theorem Rs{m:AN}{n:Nat}(hm:EV m)(hn:0≤m.new)(hl:m.to.length=n):∀j,j≤n→AM m ⟨B6 n,(n:Int)⟩ (j+1)=⟨F1 m.to j,OG (Dv m j) m.new.toNat,F1 m.to j,Dv m j⟩
 | 0,_=>by
  obtain⟨h1,h2,h3⟩:=NB hm hn (j:=0) Aeb;have e0:AM m ⟨B6 n,(n:Int)⟩ 0=LZ m ⟨B6 n,(n:Int)⟩:=rfl;have e1:CG m 0=List.range' 0 (Dv m 0):=by
   have hr:=Q8 (m:=m) (k:=0) (c:=Dv m 0) (Ac8 _) h1 (h2.imp id λ⟨p,_,hp,e⟩=>by rw[←e];exact Kp hp) λi _ hi a0=>by
    obtain⟨p,hp,e⟩:=RF a0;have:=h3 p (Ac8 _) hp Aeb;omega
   exact hr
  rw[Di,e0];simp only[J6,J5,HS,CE,LZ,NN (Ac8 n),Co,Ab3,e1,AdH,AbP,Acu,TQ,Ade,hl]
  rw[←Xi m.new.toNat,O0,AbP]
 | g+1,hj=>by
  have hg:g<m.to.length:=Aeb
  have hy:(B6 n).getD g 0=(g:Int):=SK Aeb;rw[Di,Rs hm hn hl g Aeb];simp only[J6,J5,HS,CE,NN hj,Co,Ab3,Acu,hy];by_cases h0:0≤m.to.getD g 0
  ·obtain⟨e1,a1⟩:=Yw hm hn hg h0;have e2:Dv m g=(m.to.getD g 0).toNat:=by rw[RR hg,if_pos h0]
   rw[if_pos ⟨h0,by omega⟩];simp only[e2,Ade];have e3:(((m.to.getD g 0).toNat:Nat):Int)=m.to.getD g 0:=Acs h0;rw[Ti,e1,O0,AdH,e3,Pa hg]
   congr 1
   ·congr 1;omega
   ·omega
  ·have h1:m.to.getD g 0=-1:=by rcases hm g hg with h | ⟨h,_⟩<;>omega
   rw[if_neg (λh=>h0 h.1)];have e1:CG m (g+1)=[]:=by rw[CG,if_pos Aeb]
   have e2:Dv m g=Dv m (g+1):=by rw[RR hg,if_neg h0]
   simp only[e1,Co,Ab3,Acu,TP hg h1,e2]
theorem Wk{m:AN}:Dv m m.to.length=m.new.toNat:=by
 unfold Dv;rw[Acm (Ab2 _)];rfl
theorem JE{m:AN}{n:Nat}(hm:EV m)(hn:0≤m.new)(hl:m.to.length=n):AB m ⟨B6 n,(n:Int)⟩=⟨m.to,B6 m.new.toNat,m.to,m.new.toNat⟩:=by
 have h:=Rs hm hn hl n (Ab2 _);rw[AB,hl,h];subst hl;rw[VQ,Wk,YS]
def SX(st:DG):DG:=⟨st.o,st.y,st.x,st.now⟩
theorem OZ{m:AN}{n:Nat}:∀j,j≤n+1→AM ⟨B6 n,(n:Int)⟩ m j=if m.to.length=n then SX (AM m ⟨B6 n,(n:Int)⟩ j) else AM ⟨B6 n,(n:Int)⟩ m j
 | 0,_=>by
  split
  ·rename_i h;simp[AM,LZ,SX,h,P0]
  ·rfl
 | j+1,hj=>by
  split
  ·rename_i h;have ih:=OZ (m:=m) (n:=n) j Aeb;rw[if_pos h] at ih;rw[Di,Di,ih];generalize AM m ⟨B6 n,(n:Int)⟩ j=st;have e:∀st:DG,CE ⟨B6 n,(n:Int)⟩ m (SX st) j=SX (CE m ⟨B6 n,(n:Int)⟩ st j):=λst=>by
    cases j with
    | zero=>rfl
    | succ g=>
     rw[CE,CE];by_cases hk:0≤m.to.getD g 0∧0≤(B6 n).getD g 0
     ·rw[if_pos hk,if_pos ⟨hk.2,hk.1⟩];rfl
     ·rw[if_neg hk,if_neg (λk=>hk ⟨k.2,k.1⟩)]
   simp only[J6,e];simp only[HS,J5,NN (show j≤n by omega),Co,Ab3,Acu,SX]
  ·rfl
theorem OY{m:AN}{n:Nat}(hm:EV m)(hn:0≤m.new)(hl:m.to.length=n):AB ⟨B6 n,(n:Int)⟩ m=⟨m.to,m.to,B6 m.new.toNat,m.new.toNat⟩:=by
 have h:=OZ (m:=m) (n:=n) (n+1) (Ab2 _);rw[if_pos hl] at h;have h2:=JE hm hn hl;rw[AB,hl] at h2;rw[AB];simp only[P0];rw[h,h2];rfl
theorem WT{b:Ao}(hb:Ay b=true){ss:List Br}(hs:∀x∈ss,∃s∈b,x=A3 s){l:List Aj}(hp:∀x∈l,Au x=true)(own:List UInt8):Aae ss l own:=λx hx hk s hf=>by
 obtain⟨u,hu,rfl⟩:=hs s (GP hf).1;obtain⟨_,h2,h3,h4,_⟩:=Bn.1 ((Ch.1 hb).2.1 u hu);exact XR (a:=u.rows.length) (b:=u.cols.toNat) Aeb Aeb rfl rfl rfl (hp x hx) hk
theorem LJ{b:Ao}(hb:Ay b=true){l:List Br}(hs:∀x∈Ml b l,∃s∈b,x=A3 s):Ez b l=b:=by
 unfold Ez Cn;have:∀s∈b,RN (Ml b l) s=s:=λs a0=>by
  obtain⟨_,_,_,_,h5⟩:=Bn.1 ((Ch.1 hb).2.1 s a0);have e:s.rows.map (N4 s.name (Ml b l))=s.rows:=by
   refine(Acg (g:=id) λr hr=>?_).trans (Aed _);unfold N4;refine(Acg (g:=id) λt ht=>?_).trans (Aed _);exact RL ((h5 r hr).2 t ht) λk hl=>WT hb hs (Ka (Ed hl).2.1) _
  unfold RN;rw[e]
 exact(Acg (g:=id) this).trans (Aed _)
theorem HD{n i:Nat}(h:i<n):Eu (BL n).to (i:Int)=some i:=by
 unfold Eu BL DW;rw[AbI];refine⟨by simpa using h,by simp,λj hj=>?_⟩;simp;omega
theorem Jc{b:Ao}{s:Af}{x:Br}{nm:List UInt8}(hs:Bq b nm=some s)(hx:x=A3 s){r c:Nat}(hr:r<s.rows.length)(hc:c<s.cols.toNat):Nm b x r c=some ((s.rows.getD r []).getD c []):=by
 subst hx;have hn:=(BU hs).1;unfold Nm;show(match Bq b s.name with | none=>_ | some t=>_)=_;rw[hn,hs];simp only[A3,AbK,if_false,HD hr,HD hc]
theorem Oq{p:A8}{s:Af}{mo ma mb:Ao}(hs:A6 s=true)(hn:p.name=s.name)(hr:p.rows=s.rows.length)(hc:p.cols=s.cols)(hcl:p.clash=false)
  (ht:∀r c,r<s.rows.length→c<s.cols.toNat→Ia p mo ma mb r c=((s.rows.getD r []).getD c [],none)):GI p mo ma mb=s∧LV p mo ma mb=[]:=by
 obtain⟨_,h2,h3,h4,h5⟩:=Bn.1 hs;have a0:p.rows.toNat=s.rows.length:=Aeb
 have a1:p.cols.toNat=s.cols.toNat:=by rw[hc]
 constructor
 ·unfold GI;rw[hn,hc,a0];have e:(List.range s.rows.length).map (YC p mo ma mb)=s.rows:=by
   apply Acv;intro r;by_cases h:r<s.rows.length
   ·rw[AbR,AdA h,Aav h];show some (YC p mo ma mb r)=_
    congr 1
    have hl:(s.rows[r].length:Int)=s.cols:=(h5 _ (AbY h)).1;have e0:s.rows.getD r []=s.rows[r]:=by rw[AaA,Aav h];rfl
    unfold YC;rw[a1];apply Acv;intro c;by_cases hk:c<s.cols.toNat
    ·rw[AbR,AdA hk];show some (Ia p mo ma mb r c).1=_;rw[ht r c h hk,e0];show some (s.rows[r].getD c [])=_;rw[AaA,Aav Aeb];rfl
    ·rw[AbE (by simpa using hk),AbE Aeb]
   ·rw[AbE AeQ,AbE Aeb]
  rw[e]
 ·unfold LV;rw[hcl,a0,a1];simp only[AbK,if_false,AbN];rw[Ads];intro r a2;rw[Ads];intro c a3;rw[Ac1] at a2 a3;rw[X9,ht r c a2 a3]
def Zc(a mo ma mb:Ao)(nm:List UInt8)(p:A8):Prop:=(Bq a nm=none→p.gone=true∧p.rows=0∧p.cols=0)∧
 ∀s,Bq a nm=some s→p.gone=false∧p.rows=s.rows.length∧p.cols=s.cols∧GI p mo ma mb=s∧LV p mo ma mb=[]
theorem L2{a mo ma mb:Ao}(ha:Ay a=true){nms:List (List UInt8)}{f:List UInt8→A8}(hr:nms.Pairwise (λx y=>Op.bytesLess x y=true))(hm:∀s∈a,s.name∈nms)(h:∀nm∈nms,Zc a mo ma mb nm (f nm)) :
  Ix (nms.map f)=false∧(E8 (nms.map f)).map (λp=>GI p mo ma mb)=a∧(E8 (nms.map f)).flatMap (λp=>LV p mo ma mb)=[]:=by
 obtain⟨h1,h2,h3⟩:=Ch.1 ha;have a0:∀nm∈nms,(f nm).gone=false→∃s∈a,Bq a nm=some s∧(f nm).rows=s.rows.length∧(f nm).cols=s.cols∧GI (f nm) mo ma mb=s∧LV (f nm) mo ma mb=[]:=λnm hn hg=>by
  obtain⟨a4,hp⟩:=h nm hn
  cases e:Bq a nm with
  | none=>rw[(a4 e).1] at hg;cases hg
  | some s=>exact⟨s,(BU e).2,rfl,(hp s e).2⟩
 have a2:∀s∈a,s.name∈nms∧(f s.name).gone=false∧GI (f s.name) mo ma mb=s:=λs hs=>by
  have hp:=(h s.name (hm s hs)).2 s (Aa4 h3 hs);exact⟨hm s hs,hp.1,hp.2.2.2.1⟩
 have a1:∀p,p∈E8 (nms.map f)↔∃nm∈nms,f nm=p∧p.gone=false:=λp=>by
  unfold E8;rw[Ac2,AbZ];constructor
  ·rintro⟨⟨nm,hn,rfl⟩,hg⟩;exact⟨nm,hn,rfl,by simpa using hg⟩
  ·rintro⟨nm,hn,rfl,hg⟩;exact⟨⟨nm,hn,rfl⟩,by simpa using hg⟩
 have a3:(E8 (nms.map f)).map (λp=>GI p mo ma mb)=a:=by
  refine KB (r:=λs u:Af=>Op.bytesLess s.name u.name=true) (λs u h=>JF _ _ h) ?_ h3 λs=>?_
  ·unfold E8;rw[AdM,List.filter_map,AdM];refine List.Pairwise.imp_of_mem ?_ (hr.sublist List.filter_sublist);intro x y hx hy a5;simp only[Ac2,Function.comp] at hx hy;obtain⟨sx,_,ex,_,_,e1,_⟩:=a0 x hx.1 (by simpa using hx.2);obtain⟨sy,_,ey,_,_,e2,_⟩:=a0 y hy.1 (by simpa using hy.2);rw[e1,e2,(BU ex).1,(BU ey).1];exact a5
  ·rw[AbZ];constructor
   ·rintro⟨p,hp,rfl⟩;obtain⟨nm,hn,rfl,hg⟩:=(a1 p).1 hp;obtain⟨s,hs,_,_,_,e,_⟩:=a0 nm hn hg;rw[e];exact hs
   ·intro hs;obtain⟨q1,q2,q3⟩:=a2 s hs;exact⟨f s.name,(a1 _).2 ⟨_,q1,rfl,q2⟩,q3⟩
 refine⟨?_,a3,?_⟩
 ·unfold Ix;have hl:(E8 (nms.map f)).length=a.length:=by rw[←a3,AbT]
  rw[hl];simp only[Adk,decide_eq_false_iff_not,List.any_eq_false,Aci,decide_eq_true_eq];refine⟨λp hp=>?_,by omega⟩;obtain⟨nm,hn,rfl⟩:=AbZ.1 hp;obtain⟨a4,hp⟩:=h nm hn
  cases e:Bq a nm with
  | none=>obtain⟨_,e1,e2⟩:=a4 e;rw[e1,e2];omega
  | some s=>
   obtain⟨_,e1,e2,_⟩:=hp s e;obtain⟨_,q2,q3,q4,_⟩:=Bn.1 (h2 s (BU e).2);rw[e1,e2];omega
 ·rw[Ads];intro p hp;obtain⟨nm,hn,rfl,hg⟩:=(a1 p).1 hp;obtain⟨_,_,_,_,_,_,e⟩:=a0 nm hn hg;exact e
theorem ES(s:Af):Ag s s=A3 s:=by
 unfold Ag A3;rw[S8,Rc];rfl
theorem P7{s t:Af}(hs:A6 s=true)(ht:A6 t=true):EV (Ag s t).rows∧0≤(Ag s t).rows.new∧EV (Ag s t).cols∧0≤(Ag s t).cols.new:=by
 obtain⟨h1,h2⟩:=ER hs ht;obtain⟨a1,_,_,a4⟩:=B5 h1;obtain⟨b1,_,_,b4⟩:=B5 h2;exact⟨a4,a1,b4,b1⟩
theorem C5(a b:Af):(Bb a b).length=a.rows.length:=by rw[Bb,G3,AbT]
theorem C4(a b:Af)(m:List Int):(D3 a b m).length=a.cols.toNat:=by rw[D3,G3];simp[B9]
theorem U7{o s:Af}{nm:List UInt8}(ho:A6 o=true)(hs:A6 s=true)(hn:o.name=nm)(hsn:s.name=nm):Bd nm o s o=⟨nm,s.rows.length,s.cols,0,false,false,Ag o s,A3 s,Ag o s⟩:=by
 obtain⟨r1,r2,c1,c2⟩:=P7 ho hs;obtain⟨_,h2,_⟩:=Bn.1 hs;have er:AB (Ag o s).rows (Ag o o).rows=⟨(Ag o s).rows.to,B6 s.rows.length,(Ag o s).rows.to,s.rows.length⟩:=by
  rw[ES];exact JE r1 r2 (C5 o s)
 have ec:AB (Ag o s).cols (Ag o o).cols=⟨(Ag o s).cols.to,B6 s.cols.toNat,(Ag o s).cols.to,s.cols.toNat⟩:=by
  rw[ES];exact JE c1 c2 (C4 o s _)
 unfold Bd;rw[er,ec];have e3:((s.cols.toNat:Nat):Int)=s.cols:=Acs h2;simp only[A3,Ag,BL,hn,hsn,e3];rfl
theorem Tb{o s:Af}{nm:List UInt8}(ho:A6 o=true)(hs:A6 s=true)(hn:o.name=nm)(hsn:s.name=nm):Bd nm o o s=⟨nm,s.rows.length,s.cols,0,false,false,Ag o s,Ag o s,A3 s⟩:=by
 obtain⟨r1,r2,c1,c2⟩:=P7 ho hs;obtain⟨_,h2,_⟩:=Bn.1 hs;have er:AB (Ag o o).rows (Ag o s).rows=⟨(Ag o s).rows.to,(Ag o s).rows.to,B6 s.rows.length,s.rows.length⟩:=by
  rw[ES];exact OY r1 r2 (C5 o s)
 have ec:AB (Ag o o).cols (Ag o s).cols=⟨(Ag o s).cols.to,(Ag o s).cols.to,B6 s.cols.toNat,s.cols.toNat⟩:=by
  rw[ES];exact OY c1 c2 (C4 o s _)
 unfold Bd;rw[er,ec];have e3:((s.cols.toNat:Nat):Int)=s.cols:=Acs h2;simp only[A3,Ag,BL,hn,hsn,e3];rfl
theorem G1(o a b:Ao):(Ge o a b).Pairwise (λx y=>Op.bytesLess x y=true)∧∀x,x∈Ge o a b↔x∈o.map Af.name∨x∈a.map Af.name∨x∈b.map Af.name:=by
 obtain⟨h1,h2⟩:=Mi (o.map Af.name++a.map Af.name++b.map Af.name);refine⟨h1,λx=>?_⟩;have:=h2 x;rw[Ab1,Ab1] at this;rw[Ge,this,or_assoc]
theorem VB(x:Option (List UInt8))(t:List UInt8):Dt x (some t) x=(t,none):=by
 cases x with
 | none=>rfl
 | some x=>simp[Dt]
theorem Ra(x:Option (List UInt8))(t:List UInt8):Dt x x (some t)=(t,none):=by
 cases x with
 | none=>rfl
 | some x=>by_cases e:x=t<;>simp[Dt,e]
theorem V9(x:Option (List UInt8))(t:List UInt8):Dt x (some t) (some t)=(t,none):=by simp[Dt]
theorem L7{b:Ao}{nms:List (List UInt8)}{g:List UInt8→Br}(hn:∀nm∈nms,(g nm).sheet=nm)(h:∀nm∈nms,∀s,Bq b nm=some s→g nm=A3 s):∀x∈Ml b (nms.map g),∃s∈b,x=A3 s:=λx hx=>by
 unfold Ml at hx;obtain⟨h1,h2⟩:=Ac2.1 hx;obtain⟨nm,hm,rfl⟩:=AbZ.1 h1;rw[hn nm hm,←JW] at h2
 cases e:Bq b nm with
 | none=>rw[e] at h2;cases h2
 | some s=>exact⟨s,(BU e).2,h nm hm s e⟩
theorem I5(nm:List UInt8)(o:Option Af)(s t:Af):AJ nm o (some s) (some t)=if s=t then De nm o (A3 s) (A3 t) s 0 false else match o with
  | some u=>Bd nm u s t
  | none=>De nm o (A3 s) (A3 t) s 1 true:=rfl
theorem K7(nm:List UInt8)(o:Option Af)(s:Af):AJ nm o (some s) none=if o=some s then Es nm else De nm o (A3 s) (E6 nm) s 1 o.isSome:=rfl
theorem K6(nm:List UInt8)(o:Option Af)(t:Af):AJ nm o none (some t)=if o=some t then Es nm else De nm o (E6 nm) (A3 t) t 2 o.isSome:=rfl
theorem Yy(nm:List UInt8)(o:Option Af):AJ nm o none none=Es nm:=rfl
theorem G5{nm:List UInt8}{o x y:Option Af}(ho:∀s,o=some s→s.name=nm)(hx:∀s,x=some s→s.name=nm)(hy:∀s,y=some s→s.name=nm):(AJ nm o x y).o.sheet=nm∧(AJ nm o x y).a.sheet=nm∧(AJ nm o x y).b.sheet=nm∧(AJ nm o x y).name=nm:=by
 have a0:∀t,(Ys nm o t).sheet=nm:=λt=>by
  cases o with
  | none=>rfl
  | some u=>exact ho u rfl
 cases x with
 | none=>
  cases y with
  | none=>exact⟨rfl,rfl,rfl,rfl⟩
  | some t=>
   rw[K6]
   split
   ·exact⟨rfl,rfl,rfl,rfl⟩
   ·exact⟨a0 t,rfl,hy t rfl,rfl⟩
 | some s=>
  cases y with
  | none=>
   rw[K7]
   split
   ·exact⟨rfl,rfl,rfl,rfl⟩
   ·exact⟨a0 s,hx s rfl,rfl,rfl⟩
  | some t=>
   rw[I5]
   split
   ·exact⟨a0 s,hx s rfl,hy t rfl,rfl⟩
   cases o with
   | none=>exact⟨rfl,hx s rfl,hy t rfl,rfl⟩
   | some u=>exact⟨rfl,rfl,rfl,rfl⟩
theorem BP{b:Ao}(h:Ay b=true){nm:List UInt8}{s:Af}(hs:Bq b nm=some s):A6 s=true∧s.name=nm:=⟨(Ch.1 h).2.1 s (BU hs).2,(BU hs).1⟩
theorem W2{nm:List UInt8}{o a:Option Af}(ho:∀s,o=some s→A6 s=true∧s.name=nm)(ha:∀s,a=some s→A6 s=true∧s.name=nm)(hsome:o.isSome∨a.isSome) :
  (AJ nm o a o).o=(AJ nm o a o).b∧(a=none→AJ nm o a o=Es nm)∧∀s,a=some s→(AJ nm o a o).gone=false∧(AJ nm o a o).rows=s.rows.length∧(AJ nm o a o).cols=s.cols∧(AJ nm o a o).clash=false∧(AJ nm o a o).a=A3 s∧((AJ nm o a o).whole=0∨(AJ nm o a o).whole=1):=by
 cases a with
 | none=>
  cases o with
  | none=>simp at hsome
  | some t=>rw[K6,if_pos rfl];exact⟨rfl,λ_=>rfl,λs h=>by cases h⟩
 | some s=>
  obtain⟨s1,s2⟩:=ha s rfl
  cases o with
  | none=>rw[K7,if_neg Aej];exact⟨rfl,(λh=>by cases h),λs h=>by cases h;exact⟨rfl,rfl,rfl,rfl,rfl,.inr rfl⟩⟩
  | some t=>
   obtain⟨t1,t2⟩:=ho t rfl;rw[I5];by_cases e:s=t
   ·subst e;rw[if_pos rfl];refine⟨?_,(λh=>by cases h),λs h=>by cases h;exact⟨rfl,rfl,rfl,rfl,rfl,.inl rfl⟩⟩;show Ag s s=A3 s;exact ES s
   ·rw[if_neg e];show(Bd nm t s t).o=(Bd nm t s t).b∧(_→Bd nm t s t=_)∧∀_,_→(Bd nm t s t).gone=_∧(Bd nm t s t).rows=_∧(Bd nm t s t).cols=_∧(Bd nm t s t).clash=_∧(Bd nm t s t).a=_∧((Bd nm t s t).whole=_∨(Bd nm t s t).whole=_);rw[U7 t1 s1 t2 s2];exact⟨rfl,(λh=>by cases h),λs h=>by cases h;exact⟨rfl,rfl,rfl,rfl,rfl,.inl rfl⟩⟩
theorem Ur{nm:List UInt8}{o a:Option Af}(ho:∀s,o=some s→A6 s=true∧s.name=nm)(ha:∀s,a=some s→A6 s=true∧s.name=nm)(hsome:o.isSome∨a.isSome) :
  (AJ nm o o a).o=(AJ nm o o a).a∧(a=none→AJ nm o o a=Es nm)∧∀s,a=some s→(AJ nm o o a).gone=false∧(AJ nm o o a).rows=s.rows.length∧(AJ nm o o a).cols=s.cols∧(AJ nm o o a).clash=false∧(AJ nm o o a).b=A3 s∧((AJ nm o o a).whole=0∨(AJ nm o o a).whole=2):=by
 cases a with
 | none=>
  cases o with
  | none=>simp at hsome
  | some t=>rw[K7,if_pos rfl];exact⟨rfl,λ_=>rfl,λs h=>by cases h⟩
 | some s=>
  obtain⟨s1,s2⟩:=ha s rfl
  cases o with
  | none=>rw[K6,if_neg Aej];exact⟨rfl,(λh=>by cases h),λs h=>by cases h;exact⟨rfl,rfl,rfl,rfl,rfl,.inr rfl⟩⟩
  | some t=>
   obtain⟨t1,t2⟩:=ho t rfl;rw[I5];by_cases e:t=s
   ·subst e;rw[if_pos rfl];refine⟨?_,(λh=>by cases h),λs h=>by cases h;exact⟨rfl,rfl,rfl,rfl,rfl,.inl rfl⟩⟩;show Ag t t=A3 t;exact ES t
   ·rw[if_neg e];show(Bd nm t t s).o=(Bd nm t t s).a∧(_→Bd nm t t s=_)∧∀_,_→(Bd nm t t s).gone=_∧(Bd nm t t s).rows=_∧(Bd nm t t s).cols=_∧(Bd nm t t s).clash=_∧(Bd nm t t s).b=_∧((Bd nm t t s).whole=_∨(Bd nm t t s).whole=_);rw[Tb t1 s1 t2 s2];exact⟨rfl,(λh=>by cases h),λs h=>by cases h;exact⟨rfl,rfl,rfl,rfl,rfl,.inl rfl⟩⟩
theorem W1{nm:List UInt8}{o a:Option Af} :
  (a=none→AJ nm o a a=Es nm)∧∀s,a=some s→(AJ nm o a a).gone=false∧(AJ nm o a a).rows=s.rows.length∧(AJ nm o a a).cols=s.cols∧(AJ nm o a a).clash=false∧(AJ nm o a a).a=A3 s∧(AJ nm o a a).b=A3 s∧(AJ nm o a a).whole=0:=by
 refine⟨λh=>by rw[h,Yy],λs h=>?_⟩;rw[h,I5,if_pos rfl];exact⟨rfl,rfl,rfl,rfl,rfl,rfl,rfl⟩
theorem UF{b:Ao}{nm:List UInt8}{s:Af}(hs:Bq b nm=some s)(r c:Nat):YY b nm r c=(s.rows.getD r []).getD c []:=by rw[YY,hs]
theorem Uf{o a:Ao}(ho:Ay o=true)(ha:Ay a=true):EL o a o=⟨a,[],0⟩:=by
 obtain⟨n1,n2⟩:=G1 o a o;have a0:∀nm s,Bq o nm=some s→A6 s=true∧s.name=nm:=λnm s h=>BP ho h;have a1:∀nm s,Bq a nm=some s→A6 s=true∧s.name=nm:=λnm s h=>BP ha h;have a2:∀nm∈Ge o a o,(Bq o nm).isSome∨(Bq a nm).isSome:=λnm h=>by
  cases e1:Bq o nm with
  | some s=>exact .inl rfl
  | none=>
   cases e2:Bq a nm with
   | some s=>exact .inr rfl
   | none=>
        rcases(n2 nm).1 h with h | h | h
        ·exact absurd h (Hk e1)
        ·exact absurd h (Hk e2)
        ·exact absurd h (Hk e1)
 have a3:=λnm h=>W2 (nm:=nm) (a0 nm) (a1 nm) (a2 nm h);have a4:=λnm=>G5 (nm:=nm) (λs h=>(a0 nm s h).2) (λs h=>(a1 nm s h).2) (λs h=>(a0 nm s h).2);have emo:(Bs o a o).map A8.o=(Bs o a o).map A8.b:=by
  unfold Bs;rw[AcG,AcG];exact Acg λnm h=>(a3 nm h).1
 have ema:Ez a ((Bs o a o).map A8.a)=a:=by
  refine LJ ha ?_;unfold Bs;rw[AcG];refine L7 (λnm h=>(a4 nm).2.1) λnm h s hs=>?_;exact((a3 nm h).2.2 s hs).2.2.2.2.1
 have hk:=L2 (mo:=Ez o ((Bs o a o).map A8.o)) (ma:=a) (mb:=Ez o ((Bs o a o).map A8.b)) ha n1 (f:=λnm=>AJ nm (Bq o nm) (Bq a nm) (Bq o nm)) (λs hs=>(n2 s.name).2 (.inr (.inl (AdB hs)))) λnm h=>by
  obtain⟨p1,p0,p2⟩:=a3 nm h;have a5:=(a4 nm).2.2.2;refine⟨λe=>?_,λs e=>?_⟩
  ·show(AJ _ _ _ _).gone=true∧_;rw[p0 e];exact⟨rfl,rfl,rfl⟩
  ·obtain⟨m1,m2⟩:=a1 nm s e;obtain⟨p2,p3,p4,p5,p6,p7⟩:=p2 s e;refine⟨p2,p3,p4,Oq m1 (a5.trans m2.symm) p3 p4 p5 λr c hr hc=>?_⟩;rcases p7 with p7 | p7
   ·unfold Ia;rw[p7];show Dt _ _ _=_;rw[Jc e p6 hr hc,emo,p1];exact VB _ _
   ·unfold Ia;rw[p7,a5];show(YY a nm r c,none)=_;rw[UF e]
 unfold EL;rw[if_pos ⟨ho,ha,ho⟩];have e1:Ix (Bs o a o)=false:=hk.1;rw[e1];simp only[AbK,if_false];unfold L1;simp only[ema];have e2:=hk.2.1;have e3:=hk.2.2;show(⟨(E8 (Bs o a o)).map _,(E8 (Bs o a o)).flatMap _,0⟩:Hu)=_;unfold Bs at *;rw[e2,e3]
theorem RH{o a:Ao}(ho:Ay o=true)(ha:Ay a=true):EL o o a=⟨a,[],0⟩:=by
 obtain⟨n1,n2⟩:=G1 o o a;have a0:∀nm s,Bq o nm=some s→A6 s=true∧s.name=nm:=λnm s h=>BP ho h;have a1:∀nm s,Bq a nm=some s→A6 s=true∧s.name=nm:=λnm s h=>BP ha h;have a2:∀nm∈Ge o o a,(Bq o nm).isSome∨(Bq a nm).isSome:=λnm h=>by
  cases e1:Bq o nm with
  | some s=>exact .inl rfl
  | none=>
   cases e2:Bq a nm with
   | some s=>exact .inr rfl
   | none=>
        rcases(n2 nm).1 h with h | h | h
        ·exact absurd h (Hk e1)
        ·exact absurd h (Hk e1)
        ·exact absurd h (Hk e2)
 have a3:=λnm h=>Ur (nm:=nm) (a0 nm) (a1 nm) (a2 nm h);have a4:=λnm=>G5 (nm:=nm) (λs h=>(a0 nm s h).2) (λs h=>(a0 nm s h).2) (λs h=>(a1 nm s h).2);have emo:(Bs o o a).map A8.o=(Bs o o a).map A8.a:=by
  unfold Bs;rw[AcG,AcG];exact Acg λnm h=>(a3 nm h).1
 have emb:Ez a ((Bs o o a).map A8.b)=a:=by
  refine LJ ha ?_;unfold Bs;rw[AcG];refine L7 (λnm h=>(a4 nm).2.2.1) λnm h s hs=>?_;exact((a3 nm h).2.2 s hs).2.2.2.2.1
 have hk:=L2 (mo:=Ez o ((Bs o o a).map A8.o)) (ma:=Ez o ((Bs o o a).map A8.a)) (mb:=a) ha n1 (f:=λnm=>AJ nm (Bq o nm) (Bq o nm) (Bq a nm)) (λs hs=>(n2 s.name).2 (.inr (.inr (AdB hs)))) λnm h=>by
  obtain⟨p1,p0,p2⟩:=a3 nm h;have a5:=(a4 nm).2.2.2;refine⟨λe=>?_,λs e=>?_⟩
  ·show(AJ _ _ _ _).gone=true∧_;rw[p0 e];exact⟨rfl,rfl,rfl⟩
  ·obtain⟨m1,m2⟩:=a1 nm s e;obtain⟨p2,p3,p4,p5,p6,p7⟩:=p2 s e;refine⟨p2,p3,p4,Oq m1 (a5.trans m2.symm) p3 p4 p5 λr c hr hc=>?_⟩;rcases p7 with p7 | p7
   ·unfold Ia;rw[p7];show Dt _ _ _=_;rw[Jc e p6 hr hc,emo,p1];exact Ra _ _
   ·unfold Ia;rw[p7,a5];show(YY a nm r c,none)=_;rw[UF e]
 unfold EL;rw[if_pos ⟨ho,ho,ha⟩];have e1:Ix (Bs o o a)=false:=hk.1;rw[e1];simp only[AbK,if_false];unfold L1;simp only[emb];have e2:=hk.2.1;have e3:=hk.2.2;show(⟨(E8 (Bs o o a)).map _,(E8 (Bs o o a)).flatMap _,0⟩:Hu)=_;unfold Bs at *;rw[e2,e3]
theorem Ue{o a:Ao}(ho:Ay o=true)(ha:Ay a=true):EL o a a=⟨a,[],0⟩:=by
 obtain⟨n1,n2⟩:=G1 o a a;have a3:∀nm s,Bq o nm=some s→A6 s=true∧s.name=nm:=λnm s h=>BP ho h;have a0:∀nm s,Bq a nm=some s→A6 s=true∧s.name=nm:=λnm s h=>BP ha h;have a1:=λnm=>W1 (nm:=nm) (o:=Bq o nm) (a:=Bq a nm);have a2:=λnm=>G5 (nm:=nm) (λs h=>(a3 nm s h).2) (λs h=>(a0 nm s h).2) (λs h=>(a0 nm s h).2);have eside:∀g:A8→Br,(∀nm,(g (AJ nm (Bq o nm) (Bq a nm) (Bq a nm))).sheet=nm)→(∀nm s,Bq a nm=some s→g (AJ nm (Bq o nm) (Bq a nm) (Bq a nm))=A3 s)→Ez a ((Bs o a a).map g)=a:=λg h1 h2=>by
  refine LJ ha ?_;unfold Bs;rw[AcG];exact L7 (λnm _=>h1 nm) λnm _ s hs=>h2 nm s hs
 have ema:=eside A8.a (λnm=>(a2 nm).2.1) λnm s hs=>((a1 nm).2 s hs).2.2.2.2.1;have emb:=eside A8.b (λnm=>(a2 nm).2.2.1) λnm s hs=>((a1 nm).2 s hs).2.2.2.2.2.1;have hk:=L2 (mo:=Ez o ((Bs o a a).map A8.o)) (ma:=a) (mb:=a) ha n1 (f:=λnm=>AJ nm (Bq o nm) (Bq a nm) (Bq a nm)) (λs hs=>(n2 s.name).2 (.inr (.inl (AdB hs)))) λnm h=>by
  obtain⟨p0,p2⟩:=a1 nm;have a4:=(a2 nm).2.2.2;refine⟨λe=>?_,λs e=>?_⟩
  ·show(AJ _ _ _ _).gone=true∧_;rw[p0 e];exact⟨rfl,rfl,rfl⟩
  ·obtain⟨m1,m2⟩:=a0 nm s e;obtain⟨p2,p3,p4,p5,p6,p6',p7⟩:=p2 s e;refine⟨p2,p3,p4,Oq m1 (a4.trans m2.symm) p3 p4 p5 λr c hr hc=>?_⟩;unfold Ia;rw[p7];show Dt _ _ _=_;rw[Jc e p6 hr hc,Jc e p6' hr hc];exact V9 _ _
 unfold EL;rw[if_pos ⟨ho,ha,ha⟩];have e1:Ix (Bs o a a)=false:=hk.1;rw[e1];simp only[AbK,if_false];unfold L1;simp only[ema,emb];have e2:=hk.2.1;have e3:=hk.2.2;show(⟨(E8 (Bs o a a)).map _,(E8 (Bs o a a)).flatMap _,0⟩:Hu)=_;unfold Bs at *;rw[e2,e3]
def F4(V:List Nat)(w:World)(P:World→Prop):Prop:=∀w',Chg V w w'→P w'
theorem F4.now{V:List Nat}{w:World}{P:World→Prop}(h:F4 V w P):P w:=h w (Chg.refl _ _)
theorem F4.step{V V':List Nat}{w w':World}{P:World→Prop}(h:F4 V w P)(x:Chg V w w')(hv:∀j,j∈V'→j∈V∨w.heap.size≤j):F4 V' w' P:=λw2 x2=>h w2 ((Chg.trans x x2).mono λj hj hl=>by
 rcases Ab1.1 hj with hj | hj
 ·exact hj
 ·rcases hv j hj with h | h
  ·exact h
  ·omega)
theorem F4.ext{V:List Nat}{w w':World}{P:World→Prop}(h:F4 V w P)(x:Ah w w'):F4 V w' P:=h.step x.chg λ_=>.inl
theorem AaK:Go.WideMaps.ArrKey prog 105 3 2:=⟨underlying105,by kernel_rfl,by kernel_rfl,by kernel_rfl⟩
theorem Zq:Go.Maps.Keyed prog 105:=Go.Maps.Keyed.of_law AaK.law
abbrev Rx(r c:Nat):Value:=.agg ⟨[.int .i64 (r:Int),.int .i64 (c:Int)]⟩
def Yf(r c:Nat):Lit:=.string (keyBytes [.int .i64 (r:Int),.int .i64 (c:Int)])
theorem wfP{r:Nat}(hr:r≤1000000):(Lit.int .i64 (r:Int)).wf=true:=by
 have h1:IntKind.i64.min=-9223372036854775808:=Aef
 have h2:IntKind.i64.max=9223372036854775807:=Aef
 simp only[Lit.wf,h1,h2,Abr,decide_eq_true_eq];omega
theorem Ks{r c:Nat}(hr:r≤1000000)(hc:c≤1000000):keyOf prog 105 (Rx r c)=some (Yf r c):=
 Go.WideMaps.keyOf_pair AaK underlying3 ⟨prog.types.size - 1,by kernel_rfl⟩ (wfP hr) (wfP hc)
theorem Yg{r c i j:Nat}(hr:r≤1000000)(hc:c≤1000000)(hi:i≤1000000)(hj:j≤1000000)(h:Yf r c=Yf i j):r=i∧c=j:=by
 have h1:=Ks hr hc;rw[h] at h1;have:=Zq.inj h1 (Ks hi hj);simp only[Rx,Value.agg.injEq,Array.mk.injEq,AcC,Value.int.injEq,true_and,and_true] at this;omega
noncomputable abbrev XE:Value→Option (DataW Unit×List MemPlace):=plainElem prog 9
theorem VH{t:List UInt8}(h:t.length≤1000000):XE (Aq t)=some (.lit (.string t),[]):=by
 have:=plainElem_string (H:=Unit) (P:=prog) underlying9 (s:=⟨⟨t⟩⟩) (by show t.length≤maxLen;unfold maxLen;omega);exact this
theorem XF{P:Program}{e:TypeId}(he:P.underlying e=some .string){v:Value}{y:DataW Unit×List MemPlace}{t:List UInt8}(h:plainElem P e v=some y)(hy:y.1=.lit (.string t)):v=Aq t:=by
 unfold plainElem at h;rw[he] at h
 cases v with
 | string s=>
  simp only at h
  split at h
  ·cases h;simp only[DataW.lit.injEq,Lit.string.injEq] at hy;obtain⟨⟨l⟩⟩:=s;simp only at hy;rw[←hy]
  ·cases h
 | _=>simp at h
theorem VG{v:Value}{y:DataW Unit×List MemPlace}{t:List UInt8}(h:XE v=some y)(hy:y.1=.lit (.string t)):v=Aq t:=XF underlying9 h hy
def DI(w:World)(b n:Nat)(f:Nat→Nat→Option (List UInt8)):Prop:=
 ∃D:DataW Unit,w.ownsMap prog 105 XE b n D∧∀r c,r≤1000000→c≤1000000→∀zd,D.atKey (Yf r c) zd=match f r c with | none=>zd | some t=>.lit (.string t)
theorem DI.lt{w:World}{b n:Nat}{f:Nat→Nat→Option (List UInt8)}(h:DI w b n f):b<w.heap.size:=by
 obtain⟨D,h,-⟩:=h;exact h.lt
theorem DI.mono{w:World}{b n m:Nat}{f:Nat→Nat→Option (List UInt8)}(h:DI w b n f)(hm:n≤m):DI w b m f:=by
 obtain⟨D,h,k⟩:=h;exact⟨D,h.mono hm,k⟩
theorem DI.chg{S:List Nat}{w w':World}{b n:Nat}{f:Nat→Nat→Option (List UInt8)}(h:DI w b n f)(x:Chg S w w')(hb:b∉S):DI w' b n f:=by
 have hl:=h.lt;obtain⟨D,⟨es,clock,hh,F,hs,hD⟩,k⟩:=h;exact⟨D,⟨es,clock,(x.block b hl hb).trans hh,F,hs,hD⟩,k⟩
theorem DI.ext{w w':World}{b n:Nat}{f:Nat→Nat→Option (List UInt8)}(h:DI w b n f)(x:Ah w w'):DI w' b n f:=h.chg x Aej
theorem DI.congr{w:World}{b n:Nat}{f g:Nat→Nat→Option (List UInt8)}(h:DI w b n f)(hg:∀r c,f r c=g r c):DI w b n g:=by
 obtain⟨D,h1,k⟩:=h;exact⟨D,h1,λr c hr hc zd=>by rw[←hg];exact k r c hr hc zd⟩
theorem DI.look{w:World}{b n:Nat}{f:Nat→Nat→Option (List UInt8)}(h:DI w b n f){r c:Nat}(hr:r≤1000000)(hc:c≤1000000)(ok:Bool) :
  (Instr.lookup 103 (.map (some b)) (Rx r c) ok).run prog w=.ok (if ok then .tuple #[Aq ((f r c).getD []),.bool (f r c).isSome] else Aq ((f r c).getD [])) w:=by
 obtain⟨D,⟨es,clock,hb,F,_,rfl⟩,hf⟩:=h;rcases Go.Maps.fit_look ok Zq underlying103 (zeroValue9 w) hb F (Ks hr hc) with ⟨a0,_,a1⟩ | ⟨e0,y,_,_,a0,a2,a1,_⟩
 ·cases e:f r c with
  | none=>rw[a0];rfl
  | some t=>
   exfalso;have h1:=hf r c hr hc (.lit (.bool true));rw[a1,e] at h1;cases h1
 ·cases e:f r c with
  | none=>
   exfalso;have h1:=hf r c hr hc (.lit (.bool true));have h2:=hf r c hr hc (.lit (.bool false));rw[a1,e] at h1 h2;rw[h1] at h2
   cases h2
  | some t=>
   have h1:=hf r c hr hc (.lit (.bool true));rw[a1,e] at h1;rw[a0,VG a2 h1];rfl
theorem DI.put{w:World}{b n:Nat}{f:Nat→Nat→Option (List UInt8)}(h:DI w b n f)(hn:n<1000000){r c:Nat}(hr:r≤1000000)(hc:c≤1000000){t:List UInt8}(ht:t.length≤1000000) :
  ∃w',(Instr.mapUpdate 103 (.map (some b)) (Rx r c) (Aq t)).run prog w=.ok () w'∧DI w' b (n+1) (λi j=>if i=r∧j=c then some t else f i j)∧Chg [b] w w':=by
 obtain⟨D,hO,hf⟩:=h;obtain⟨w',a0,a1,hg⟩:=hO.update Zq underlying103 (by unfold maxLen;omega) (Ks hr hc) (VH ht);have hM:Go.Maps.IsMap D:=by obtain⟨es,clock,_,_,_,rfl⟩:=hO;exact⟨_,rfl⟩
 have hK:WideAt.IsKeyLit (Yf r c):=Zq.key (Ks hr hc);refine⟨w',a0,⟨_,a1,λi j hi hj zd=>?_⟩,⟨hg.os,hg.tape,hg.output,hg.size,λk hk hs=>hg.block k hk λe=>hs (by cases e;simp)⟩⟩;by_cases e:i=r∧j=c
 ·obtain⟨rfl,rfl⟩:=e;rw[Go.Maps.atKey_put_same hM hK];simp
 ·rw[Go.Maps.atKey_put_other (λk=>e (Yg hi hj hr hc k))];refine(hf i j hi hj zd).trans ?_;show _=match (if i=r∧j=c then some t else f i j) with | none=>zd | some t=>DataW.lit (Lit.string t)
  rw[if_neg e]
section
variable {Q:Exit→Act→World→Prop} {D:List Deferred} {n d:Nat} {E:Cp} {w:World} {l rest:List Oper} {x y z:Operand} {T:TypeId} {pos:String} {af:Array Edge} {b m r c:Nat} {f:Nat→Nat→Option (List UInt8)} {t:List UInt8}
theorem LW.makeMap(hn:Nat.blt d n=true)(h:∀b w',b=w.heap.size→Ah w w'→DI w' b 0 (λ_ _=>none)→LW prog l Q rest D n ((d,.map (some b))::E) w') :
  LW prog l Q (⟨some d,.makeMap 103 none,T,pos,af,none⟩::rest) D n E w:=by
 refine LW.val (w':=w.alloc (.map #[] 0)) rfl rfl hn (λa ha=>?_) (h _ _ rfl (Ah.alloc ..) ⟨_,World.ownsMap_made ..,λ_ _ _ _ _=>rfl⟩);have e1:(execOp a.eval ⟨some d,.makeMap 103 none,T,pos,af,none⟩)=(do Pure.pure (Next.value (←Instr.makeMap 103 none))):=rfl;rw[e1,Aby,RowKit.run_makeMap];rfl
theorem Y.look(hM:DI w b m f)(hx:ev E x=some (.map (some b)))(hy:ev E y=some (Rx r c))(hr:r≤1000000)(hc:c≤1000000){v:Value}(hv:v=Aq ((f r c).getD [])):Y prog D n E w ⟨some d,.lookup 103 x y false,T,pos,af,none⟩ v:=λa ha=>by
 have e1:(execOp a.eval ⟨some d,.lookup 103 x y false,T,pos,af,none⟩)=(do Pure.pure (Next.value (←Instr.lookup 103 (a.eval x) (a.eval y) false))):=rfl;rw[e1,ha.eval hx,ha.eval hy,Aby,hM.look hr hc false,hv];rfl
theorem Y.look2(hM:DI w b m f)(hx:ev E x=some (.map (some b)))(hy:ev E y=some (Rx r c))(hr:r≤1000000)(hc:c≤1000000):Y prog D n E w ⟨some d,.lookup 103 x y true,T,pos,af,none⟩ (.tuple #[Aq ((f r c).getD []),.bool (f r c).isSome]):=λa ha=>by
 have e1:(execOp a.eval ⟨some d,.lookup 103 x y true,T,pos,af,none⟩)=(do Pure.pure (Next.value (←Instr.lookup 103 (a.eval x) (a.eval y) true))):=rfl;rw[e1,ha.eval hx,ha.eval hy,Aby,hM.look hr hc true];rfl
theorem LW.mapPut(hM:DI w b m f)(hm:m<1000000)(hx:ev E x=some (.map (some b)))(hy:ev E y=some (Rx r c))(hz:ev E z=some (Aq t))(hr:r≤1000000)(hc:c≤1000000)(ht:t.length≤1000000)
  (h:∀w',Chg [b] w w'→DI w' b (m+1) (λi j=>if i=r∧j=c then some t else f i j)→LW prog l Q rest D n E w'):LW prog l Q (⟨none,.mapUpdate 103 x y z,T,pos,af,none⟩::rest) D n E w:=by
 obtain⟨w',a0,h1,h2⟩:=hM.put hm hr hc ht;refine LW.unit rfl rfl (λa ha=>?_) (h w' h2 h1);simp only[execOp,ha.eval hx,ha.eval hy,ha.eval hz,Aby,Ab7,Abk,a0]
end
end Go.Proofs.YtcjjcnecopnpcaaGreatDoor
