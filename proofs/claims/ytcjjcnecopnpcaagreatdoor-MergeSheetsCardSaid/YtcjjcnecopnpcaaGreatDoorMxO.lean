/-
  Joined by program out of the texts Fus1 Fus2 Fus3.
-/
import Derived.Test.YtcjjcnecopnpcaaGreatDoorMxM
import Derived.Test.YtcjjcnecopnpcaaGreatDoorMxL
import Derived.Test.YtcjjcnecopnpcaaGreatDoorMxI
import Derived.Test.YtcjjcnecopnpcaaGreatDoorMxH
namespace Go.Proofs.YtcjjcnecopnpcaaGreatDoor
open Tryz
open Go Go.E
theorem Zm{m:AH}(h:Ey m=true){k:Nat}(hk:k<m.to.length):(m.to.getD k 0=-1∨(L5 (m.to.take k)<m.to.getD k 0∧m.to.getD k 0<m.new)):=by
 have h1:Bq m.new (-1) m.to=true:=by
  simp only[Ey,AaY] at h;exact h.2
 have h2:Bq m.new (-1) (m.to.take (k+1))=true:=by
  cases e:Bq m.new (-1) (m.to.take (k+1)) with
  | true=>rfl
  | false=>rw[Yc (k+1) e] at h1;cases h1
 rw[(OH hk).1] at h2;simp only[AaY,AbP,decide_eq_true_eq] at h2;exact h2.2
theorem QE(m:AH)(vs:List Value)(w:World)(h:Qh w vs m)(hm:Ey m=true):AF prog 110 [.agg ⟨vs⟩] w (λv w'=>v=.bool true∧Ai w w'):=by
 obtain⟨m0,m1,m2,_⟩:=Bs hm;obtain⟨tv,rfl,ht⟩:=h;obtain⟨p,c,rfl⟩:=ht.slice;refine Bj func110 ntmps110 ?_;refine Sa ?_;refine CM λA w1 a6 a4 hA=>?_;replace hA:Blk w1 A [.slice p m.to.length c,.int .i64 m.new] 77:=hA;refine Sa ?_;refine LW.know (t:=9) (c:=false) rfl (decide_eq_false AdE) ?_;refine Sa ?_;refine LW.know (t:=14) (c:=false) rfl (decide_eq_false AdE) ?_;refine Sa ?_;refine A8 (λa3=>?_) λa3=>?_
 ·exfalso;simp at a3;omega
 refine Sa ?_;refine CW.loop (ι:=Nat) (λk w'=>k≤m.to.length∧Ai w1 w') (λk=>[(1,.pointer (some ⟨A,0,none⟩)),(3,.int .i64 (L5 (m.to.take k))),(21,.slice p m.to.length c),(22,.int .i64 m.to.length),(23,.int .i64 (k:Int))]) (λk=>m.to.length - k) 0 ⟨by omega,Chg.refl _ _⟩ Et ?_;rintro k w2 ⟨k0,a0⟩;have a7:=hA.ext a0;have a1:=a4.trans a0;have a5:=ht.ext a1;refine Sa ?_;refine A8 (λb1=>?_) λb1=>?_;rotate_left
 ·have b1:k=m.to.length:=by simp at b1;omega
  subst b1;refine Sa ?_;exact QW.body1 rfl rfl ⟨rfl,a1⟩
 have b1:k<m.to.length:=by simp at b1;omega
 have t2:=(OH b1).2;have hr:=Zm hm b1;obtain⟨a,rfl,hc⟩:=a5.at b1;generalize m.to.getD k 0=z at hc t2 hr;have a2:w2.cell? (a.add (((k:Nat):Int).toNat*1))=some (.int .i64 z):=by
  rw[show((k:Nat):Int).toNat*1=k by omega];exact hc
 refine Sa ?_;refine Lo ?_
 first | refine Lp a2 ?_ | (refine Lb ?_;refine Lp a2 ?_)
 refine Sa ?_;refine A8 (λb2=>?_) λb2=>?_
 ·have b2:z=-1:=by simpa using b2
  rw[if_pos b2] at t2;refine Sa ?_;refine QW.again (k+1) ⟨by omega,a0⟩ (by rw[t2];exact(Al.cons rfl (Al.cons rfl (Al.cons rfl (Al.cons rfl (Al.cons rfl (Al.nil))))))) AdE
 have b2:¬z=-1:=by simpa using b2
 rw[if_neg b2] at t2;have hr:=hr.resolve_left b2;refine Sa ?_;refine LW.know (t:=32) (c:=false) rfl (decide_eq_false AdE) ?_;refine Sa ?_;refine A8 (λb3=>?_) λb3=>?_
 ·exfalso;simp at b3;omega
 refine Sa ?_;refine QW.again (k+1) ⟨by omega,a0⟩ (by rw[t2];exact(Al.cons rfl (Al.cons rfl (Al.cons rfl (Al.cons rfl (Al.cons rfl (Al.nil))))))) AdE
theorem K9(n:Nat)(hn:n≤1000000)(w:World):AF prog 111 [.int .i64 (n:Int)] w (λv w'=>∃T,v=.slice (some ⟨T,0,none⟩) n n∧Blk w' T (Af (List.replicate n (-1))) 3∧w.heap.size≤T∧Ai w w'):=by
 refine Bj func111 ntmps111 ?_;refine Sa ?_;refine LW.makeSlice (m:=n) rfl rfl rfl rfl rfl rfl rfl AdE rfl rfl ?_;intro T w2 a5 a3 hT;have a6:=hT.lt;have e0:List.replicate n (Value.int .i64 0)=Af (List.replicate 0 (-1)++List.replicate (n - 0) 0):=by simp[Af]
 rw[e0] at hT;refine Sw ?_;refine CW.loop (ι:=Nat) (λk w'=>k≤n∧Chg [T] w2 w'∧Blk w' T (Af (List.replicate k (-1)++List.replicate (n - k) 0)) 3) (λk=>[(3,.slice (some ⟨T,0,none⟩) n n),(8,.int .i64 n),(9,.int .i64 k)]) (λk=>n - k) 0 ⟨by omega,Chg.refl _ _,hT⟩ CF ?_;rintro k w5 ⟨hk,a0,a1⟩;refine Sw ?_;refine A8 (λh1=>?_) λh1=>?_
 ·have h1:k<n:=by simp at h1;omega
  refine Sw ?_;refine LW.store (i:=0+((k:Nat):Int).toNat*1) AdV rfl rfl a1 (AbD (by show _+1≤_;rw[A9,Aaq,Acp,Acp];omega)) rfl rfl λw6 a4 a2=>?_;rw[QC n k h1] at a2;refine Sw ?_;exact QW.again (k+1) ⟨by omega,a0.same a4,a2⟩ CF AdE
 have h1:k=n:=by simp at h1;omega
 subst h1;refine Sw ?_;exact QW.body1 rfl rfl ⟨T,rfl,by simpa using a1,by omega,a3.step a0 AdG⟩
theorem SW(zs:List Int)(zv:Value)(x:Int)(w:World)(h:AY w zv zs):AF prog 211 [zv,.int .i64 x] w (λv w'=>v=.int .i64 (V0 (zs.findIdx? λz=>decide (z=x)))∧Ai w w'):=by
 obtain⟨p,c,rfl⟩:=h.slice;have hl:=h.1;refine Bj func211 ntmps211 ?_;refine Sa ?_;refine CW.loop (ι:=Nat) (λk w'=>k≤zs.length∧Ai w w'∧∀i u,i<k→zs[i]?=some u→u≠x) (λk=>[(0,.slice p zs.length c),(1,.int .i64 x),(7,.int .i64 zs.length),(8,.int .i64 k)]) (λk=>zs.length - k) 0 ⟨by omega,Chg.refl _ _,λi u h=>by omega⟩ Bx ?_;rintro k w1 ⟨hk,hx,a0⟩;have h1:=h.ext hx;refine Sa ?_;refine A8 (λh2=>?_) λh2=>?_
 ·have h2:k<zs.length:=by simp at h2;omega
  obtain⟨a,rfl,hc⟩:=h1.at h2;have hz:zs[k]?=some (zs.getD k 0):=by rw[AaF,Aap h2];rfl
  generalize zs.getD k 0=z at hc hz;have a1:w1.cell? (a.add (((k:Nat):Int).toNat*1))=some (.int .i64 z):=by
   rw[show((k:Nat):Int).toNat*1=k by omega];exact hc
  refine Sa ?_;refine Lo ?_
  first | refine Lp a1 ?_ | (refine Lb ?_;refine Lp a1 ?_)
  refine Sa ?_;refine A8 (λh3=>?_) λh3=>?_
  ·have h3:x=z:=by simpa using h3
   refine Sa ?_;refine QW.body1 rfl rfl ⟨?_,hx⟩;have e:zs.findIdx? (λz=>decide (z=x))=some k:=by
    rw[Ab2];refine⟨h2,?_,λj hj=>?_⟩
    ·have:=(Abg.1 hz).2;simp[this,h3]
    ·have:=a0 j zs[j] hj (Aap AdE)
     simpa using this
   rw[e];rfl
  ·have h3:¬x=z:=by simpa using h3
   refine Sa ?_;refine QW.again (k+1) ⟨by omega,hx,λi u hi hu=>?_⟩ Bx AdE;rcases AbI i k with h4 | h4
   ·exact a0 i u h4 hu
   ·obtain rfl:i=k:=by omega
    rw[hz] at hu;obtain rfl:=Abm hu;exact λe=>h3 e.symm
 ·have h2:k=zs.length:=by simp at h2;omega
  subst h2;refine Sa ?_;refine QW.body1 rfl rfl ⟨?_,hx⟩;have e:zs.findIdx? (λz=>decide (z=x))=none:=by
   rw[Aco];intro z hz;obtain⟨i,hi⟩:=Acl hz;have:=a0 i z (Abg.1 hi).1 hi
   simpa using this
  rw[e];rfl
theorem SR(zs:List Int)(zv:Value)(x:Int)(w:World)(h:AY w zv zs):AF prog 163 [zv,.int .i64 x] w (λv w'=>v=.bool (decide (x∈zs))∧Ai w w'):=by
 obtain⟨p,c,rfl⟩:=h.slice;refine Bj func163 ntmps163 ?_;refine Sa ?_;refine Ay rfl rfl (SW zs _ x w h) ?_;rintro v w1 ⟨rfl,hx⟩;refine Sa ?_;refine QW.body1 rfl rfl ⟨?_,hx⟩
 cases e:zs.findIdx? (λz=>decide (z=x)) with
 | none=>
  have:x∉zs:=λhm=>by
   have:=Aco.1 e x hm;simp at this
  simp[V0,this]
 | some k=>
  obtain⟨hk,h1,-⟩:=Ab2.1 e;have:x∈zs:=by
   have h1:zs[k]=x:=by simpa using h1
   rw[←h1];exact AbL hk
  simp[V0,this]
abbrev VE(l:List Nat):List Int:=l.map λ(k:Nat)=>(k:Int)
set_option maxHeartbeats 2000000 in
theorem Xi(m:AH)(S j:Nat)(tv sv:Value)(w:World)(hS:Blk w S [tv,.int .i64 m.new,sv] 163)(ht:AY w tv m.to)(hm:Ey m=true)(hj:j≤m.to.length) :
  AF prog 112 [.pointer (some ⟨S,0,none⟩),.int .i64 ((j:Int) - 1)] w (λv w'=>E.Own w' w.heap.size 3 1 v (C3 m j).length (Af (VE (C3 m j)))∧Ai w w'):=by
 obtain⟨m0,m1,m2,hr⟩:=Bs hm;obtain⟨p,c,rfl⟩:=ht.slice;by_cases a0:∃g,j=g+1∧m.to.getD g 0<0
 ·obtain⟨g,rfl,hz⟩:=a0;have hg:g<m.to.length:=hj;obtain⟨a,rfl,hc⟩:=ht.at hg;have e1:C3 m (g+1)=[]:=by rw[C3,if_pos hz]
  rw[e1,show((g+1:Nat):Int) - 1=(g:Int) by omega];have a1:w.cell? (a.add (((g:Nat):Int).toNat*1))=some (.int .i64 (m.to.getD g 0)):=by
   rw[show((g:Nat):Int).toNat*1=g by omega];exact hc
  generalize m.to.getD g 0=z at a1 hz;refine Bj func112 ntmps112 ?_;refine Sw ?_;refine A8 (λh1=>?_) λh1=>?_
  ·refine Sw ?_;exact QW.body1 rfl rfl ⟨E.Own.nil _ _ _ _,Chg.refl _ _⟩
  ·exfalso;simp at h1;omega
 obtain⟨k0,ae,e0,hz⟩:∃k0:Nat,(k0:Int)≤m.new∧C3 m j=KU m k0∧(j=0∧k0=0∨∃g,j=g+1∧m.to.getD g 0+1=(k0:Int)∧0≤m.to.getD g 0):=by
  cases j with
  | zero=>exact⟨0,m0,rfl,.inl ⟨rfl,rfl⟩⟩
  | succ g=>
   have h1:¬m.to.getD g 0<0:=λh=>a0 ⟨g,rfl,h⟩;refine⟨(m.to.getD g 0).toNat+1,?_,by rw[C3,if_neg h1],.inr ⟨g,rfl,by omega,by omega⟩⟩;rcases hr g hj with h | ⟨h2,h3,_⟩
   ·omega
   ·omega
 rw[e0];clear a0 e0;refine Bj func112 ntmps112 ?_;apply CW.seq;apply CW.region;refine Sl ?_;apply LW.nil;apply QW.then_n;refine CW.seq_cut (ι:=Unit) (λ_ w'=>w'=w) (λ_=>[(0,.pointer (some ⟨S,0,none⟩)),(1,.int .i64 ((j:Int) - 1))]) ?_ ?_
 ·rcases hz with ⟨rfl,rfl⟩ | ⟨g,rfl,a5,a6⟩
  ·refine Sw ?_;exact QW.head () rfl LN
  ·have hg:g<m.to.length:=hj;obtain⟨a,rfl,hc⟩:=ht.at hg;rw[show((g+1:Nat):Int) - 1=(g:Int) by omega];have a1:w.cell? (a.add (((g:Nat):Int).toNat*1))=some (.int .i64 (m.to.getD g 0)):=by
    rw[show((g:Nat):Int).toNat*1=g by omega];exact hc
   generalize m.to.getD g 0=z at a1 a5 a6;refine Sw ?_;refine A8 (λh1=>?_) λh1=>?_
   ·exfalso;simp at h1;omega
   refine Sw ?_;exact QW.head () rfl LN
 rintro⟨⟩ w1 rfl;apply CW.seq;apply CW.region;refine Sl ?_;apply LW.nil;apply QW.then_n;refine CW.seq_cut (ι:=Unit) (λ_ w'=>w'=w1) (λ_=>[(0,.pointer (some ⟨S,0,none⟩)),(5,.int .i64 (k0:Int))]) ?_ ?_
 ·rcases hz with ⟨rfl,rfl⟩ | ⟨g,rfl,a5,a6⟩
  ·refine Sw ?_;exact QW.head () rfl LN
  ·have hg:g<m.to.length:=hj;obtain⟨a,rfl,hc⟩:=ht.at hg;rw[show((g+1:Nat):Int) - 1=(g:Int) by omega];have a1:w1.cell? (a.add (((g:Nat):Int).toNat*1))=some (.int .i64 (m.to.getD g 0)):=by
    rw[show((g:Nat):Int).toNat*1=g by omega];exact hc
   rw[←a5];generalize m.to.getD g 0=z at a1 a5 a6;refine Sw ?_;exact QW.head () rfl LN
 rintro⟨⟩ w2 rfl;refine Sw ?_;refine CW.loop (ι:=Nat×Value) (λx w'=>(k0:Int)+x.1≤m.new∧(∀i:Nat,k0≤i→i<k0+x.1→(i:Int)∉m.to)∧Ai w2 w'∧E.Own w' w2.heap.size 3 1 x.2 x.1 (Af (VE (List.range' k0 x.1)))) (λx=>[(0,.pointer (some ⟨S,0,none⟩)),(6,x.2),(7,.int .i64 ((k0+x.1:Nat):Int))]) (λx=>(m.new - k0 - x.1).toNat) (0,.slice none 0 0) ⟨by omega,λi h1 h2=>by omega,Chg.refl _ _,E.Own.nil _ _ _ _⟩ CF ?_;rintro⟨i,ov⟩ w3 ⟨hi,a7,a2,hO⟩;dsimp only at hi a7 hO;show CW _ _ _ _ _ [(0,.pointer (some ⟨S,0,none⟩)),(6,ov),(7,.int .i64 ((k0+i:Nat):Int))] _;have aa:=hS.ext a2;have ab:=ht.ext a2;have a3:∀w4,Ai w3 w4→((k0+i:Nat):Int)=m.new∨((k0+i:Nat):Int)∈m.to→E.Own w4 w2.heap.size 3 1 ov (KU m k0).length (Af (VE (KU m k0)))∧Ai w2 w4:=λw4 hx h=>by
  have e:=PI (m:=m) (k:=k0) (c:=k0+i) AdE AdE h λa h1 h2=>a7 a h1 h2;rw[e,show k0+i - k0=i by omega];exact⟨by simpa using hO.ext hx,a2.trans hx⟩
 refine Sw ?_;by_cases h1:((k0+i:Nat):Int)<m.new
 ·refine LW.know (t:=40) (c:=true) rfl (decide_eq_true h1) ?_;refine Sw ?_;refine Ay rfl rfl (SR m.to _ ((k0+i:Nat):Int) w3 ab) ?_;rintro v w4 ⟨rfl,a4⟩;have af:=aa.ext a4;refine Sw ?_;refine A8 (λh2=>?_) λh2=>?_
  ·have h2:((k0+i:Nat):Int)∉m.to:=by simpa using h2
   have ac:=hO.ext a4;refine Sw ?_;refine Dt λB w5 ag a8 hB=>?_;have ah:=a8.size;have ai:=a4.size;have aj:=a2.size;replace hB:Blk w5 B [.int .i64 ((k0+i:Nat):Int)] 3:=hB;refine LW.append (lo:=w2.heap.size) (k:=i) rfl rfl rfl rfl rfl rfl (ac.ext a8) AdE hB rfl rfl rfl (by show(i+1)*9≤_;omega) rfl ?_;intro v6 w6 ad a9 ak;have e:Af (VE (List.range' k0 i))++[.int .i64 ((k0+i:Nat):Int)]=Af (VE (List.range' k0 (i+1))):=by
    rw[show i+1=i+1 from rfl,←List.range'_append_1 (s:=k0) (m:=i) (n:=1)];simp[Af,VE]
   rw[e] at a9;refine Sw ?_;exact QW.again (i+1,v6) ⟨by show(k0:Int)+((i+1:Nat):Int)≤_;omega,λa h3 h4=>by
    by_cases h5:a=k0+i
    ·rw[h5];exact h2
    ·exact a7 a h3 (by have h4:a<k0+(i+1):=h4;omega),((a2.trans a4).trans a8).step ad λb hb=>(hO.lt (w:=w3) hb).1,a9⟩ CF (by show(m.new - k0 - ((i+1:Nat):Int)).toNat<(m.new - k0 - ((i:Nat):Int)).toNat;omega)
  ·have h2:((k0+i:Nat):Int)∈m.to:=by simpa using h2
   refine Sw ?_;exact QW.body1 rfl rfl (a3 w4 a4 (.inr h2))
 ·refine LW.know (t:=40) (c:=false) rfl (decide_eq_false h1) ?_;refine Sw ?_;exact QW.body1 rfl rfl (a3 w3 (Chg.refl _ _) (.inl AdE))
structure Pc(w:World)(TO:Nat)(TT:Nat→Nat)(o:List Int)(L:Nat→List Int):Prop where
 o:Blk w TO (Af o) 3
 l:∀i,i<2→Blk w (TT i) (Af (L i)) 3
abbrev Hk(b:Nat):Value:=.pointer (some ⟨b,0,none⟩)
def NW(L:Nat→List Int)(i:Nat)(x:List Int):Nat→List Int:=λk=>if k=i then x else L k
theorem Pc.ext{w w':World}{TO:Nat}{TT:Nat→Nat}{o:List Int}{L:Nat→List Int}(h:Pc w TO TT o L)(x:Ai w w'):Pc w' TO TT o L:=⟨h.o.ext x,λi hi=>(h.l i hi).ext x⟩
theorem P5(m:AH)(j:Nat):(C3 m j).length≤m.new.toNat:=by
 have h:∀k,(KU m k).length≤m.new.toNat:=λk=>by
  obtain⟨n,e,hn⟩:=FG m k;rw[e,Adw];exact hn
 cases j with
 | zero=>exact h 0
 | succ g=>
  rw[C3]
  split
  ·simp
  ·exact h _
theorem Aah{m:AH}{j x:Nat}(h:x∈C3 m j):(x:Int)<m.new:=by
 cases j with
 | zero=>exact(FF.1 h).2.1
 | succ g=>
  rw[C3] at h
  split at h
  ·cases h
  ·exact(FF.1 h).2.1
theorem Vs(a b:AH)(st:D0)(j:Nat):(Cz a b st j).now≤st.now+1:=by
 cases j with
 | zero=>exact Ad2 _
 | succ g=>
  rw[Cz]
  split
  ·exact Abi _
  ·exact Ad2 _
theorem Ot(a b:AH):∀j,(AG a b j).now≤j*(1+a.new.toNat+b.new.toNat)
 | 0=>Acn _
 | j+1=>by
  have ih:=Ot a b j;have h1:=Vs a b (AG a b j) j;have h2:=P5 a j;have h3:=P5 b j;rw[CV,Acg];simp only[Jg,H1,Jf];omega
theorem L4{a b:AH}(na:a.new≤200)(nb:b.new≤200){j:Nat}(hj:j≤300):(AG a b j).now≤200000:=by
 have h:=Ot a b j;have h2:j*(1+a.new.toNat+b.new.toNat)≤300*401:=AcJ hj AdE;omega
set_option maxRecDepth 8000 in
set_option maxHeartbeats 8000000 in
theorem PZ(a b:AH)(va vb:List Value)(w:World)(ha:Qh w va a)(hb:Qh w vb b)(hma:Ey a=true)(hmb:Ey b=true)(hl:b.to.length=a.to.length)(la:a.to.length≤200)(na:a.new≤200)(nb:b.new≤200) :
  AF prog 73 [.agg ⟨va⟩,.agg ⟨vb⟩] w (λv w'=>∃O X Y,v=.tuple #[.agg ⟨[.slice (some ⟨O,0,none⟩) a.to.length a.to.length,.int .i64 ((A3 a b).now:Int)]⟩,.agg ⟨[.slice (some ⟨X,0,none⟩) a.new.toNat a.new.toNat,.int .i64 ((A3 a b).now:Int)]⟩,.agg ⟨[.slice (some ⟨Y,0,none⟩) b.new.toNat b.new.toNat,.int .i64 ((A3 a b).now:Int)]⟩,.int .i64 0]∧
   Blk w' O (Af (A3 a b).o) 3∧Blk w' X (Af (A3 a b).x) 3∧Blk w' Y (Af (A3 a b).y) 3∧w.heap.size≤O∧w.heap.size≤X∧w.heap.size≤Y∧Ai w w'):=by
 obtain⟨a0,a1,a2,ra⟩:=Bs hma;obtain⟨b0,b1,b2,rb⟩:=Bs hmb;obtain⟨ta,rfl,bj⟩:=ha;obtain⟨tb,rfl,bk⟩:=hb;obtain⟨pa,ca,rfl⟩:=bj.slice;obtain⟨pb,cb,rfl⟩:=bk.slice;refine Bj func73 ntmps73 ?_;apply CW.seq;apply CW.region;refine Sl ?_;refine CM λA w1 em d4 hA=>?_;replace hA:Blk w1 A [.slice pa a.to.length ca,.int .i64 a.new] 77:=hA;refine Sl ?_;refine CM λB w2 en cz hB=>?_;replace hB:Blk w2 B [.slice pb b.to.length cb,.int .i64 b.new] 77:=hB;replace hA:=hA.ext cz;refine Sl ?_;refine Bo λR1 w3 eo c7 ap=>?_;have ep:=ap.lt;refine Sl ?_;refine Bo λR2 w4 er bv aq=>?_;have es:=aq.lt;refine Sl ?_;refine Bo λR3 w5 et bl b4=>?_;replace hA:=((hA.ext c7).ext bv).ext bl;replace hB:=((hB.ext c7).ext bv).ext bl;replace ap:=(ap.ext bv).ext bl;replace aq:=aq.ext bl;have dp:=d4.size;have dq:=cz.size;have dr:=c7.size;have dt:=bv.size;have du:=bl.size;have ar:Ai w w5:=(((d4.trans cz).trans c7).trans bv).trans bl;have dv:=hA.lt;have dw:=hB.lt;have dx:=ap.lt;have dy:=aq.lt;have dz:=b4.lt;refine Sw ?_;refine Ay rfl rfl (QE a _ _ ⟨_,rfl,bj.ext ar⟩ hma) ?_;rintro v w6 ⟨rfl,b6⟩;replace hA:=hA.ext b6;replace hB:=hB.ext b6;refine Sw ?_;refine Ay rfl rfl (QE b _ _ ⟨_,rfl,bk.ext (ar.trans b6)⟩ hmb) ?_;rintro v w7 ⟨rfl,bc⟩;replace hA:=hA.ext bc;replace hB:=hB.ext bc;replace ap:=(ap.ext b6).ext bc;replace aq:=(aq.ext b6).ext bc;replace b4:=(b4.ext b6).ext bc;have e3:=b6.size;have e4:=bc.size;have au:=(ar.trans b6).trans bc;refine Sw ?_;refine A8 (λc1=>?_) λc1=>?_
 ·exfalso;simp[hl] at c1
 refine Sw ?_;refine Ay rfl rfl (K9 a.to.length AdE _) ?_;rintro v w8 ⟨TO,rfl,bm,lTO,bn⟩;replace hA:=hA.ext bn;replace hB:=hB.ext bn;replace ap:=ap.ext bn;replace aq:=aq.ext bn;replace b4:=b4.ext bn;have eu:=bn.size;have d5:=bm.lt;have b7:=au.trans bn;refine Sl ?_;apply LW.nil;apply QW.then_n;obtain⟨mm,em0,em1⟩:∃f:Nat→AH,f 0=a∧f 1=b:=⟨λi=>if i=0 then a else b,rfl,rfl⟩;obtain⟨tv,et0,et1⟩:∃f:Nat→Value,f 0=.slice pa a.to.length ca∧f 1=.slice pb b.to.length cb:=⟨λi=>if i=0 then .slice pa a.to.length ca else .slice pb b.to.length cb,rfl,rfl⟩;have c8:∀i,i<2→Ey (mm i)=true∧(mm i).to.length=a.to.length∧(mm i).new≤200∧0≤(mm i).new∧AY w (tv i) (mm i).to:=λi hi=>by
  rcases(show i=0∨i=1 by omega) with rfl | rfl
  ·rw[em0,et0];exact⟨hma,rfl,na,a0,bj⟩
  ·rw[em1,et1];exact⟨hmb,hl,nb,b0,bk⟩
 refine CW.seq_cut (ι:=(Nat→Nat)×(Nat→Nat)×Nat) (λx w'=>Ai w8 w'∧(∀i,i<2→Blk w' (x.1 i) [tv i,.int .i64 (mm i).new,.slice (some ⟨x.2.1 i,0,none⟩) (mm i).new.toNat (mm i).new.toNat] 163∧w8.heap.size≤x.1 i∧w8.heap.size≤x.2.1 i∧Blk w' (x.2.1 i) (Af (List.replicate (mm i).new.toNat (-1))) 3)∧x.2.1 0≠x.2.1 1∧Blk w' x.2.2 [Hk (x.1 0),Hk (x.1 1)] 161∧w8.heap.size≤x.2.2) (λx=>[(2,.pointer (some ⟨A,0,none⟩)),(3,.pointer (some ⟨B,0,none⟩)),(4,.pointer (some ⟨R1,0,none⟩)),(5,.pointer (some ⟨R2,0,none⟩)),(6,.pointer (some ⟨R3,0,none⟩)),(7,.int .i64 0),(8,.int .i64 a.to.length),(9,.slice (some ⟨TO,0,none⟩) a.to.length a.to.length),(10,.slice (some ⟨x.2.2,0,none⟩) 2 2)]) ?_ ?_
 ·have g1:∀w,AF prog 111 [.int .i64 a.new] w (λv w'=>∃T,v=.slice (some ⟨T,0,none⟩) a.new.toNat a.new.toNat∧Blk w' T (Af (List.replicate a.new.toNat (-1))) 3∧w.heap.size≤T∧Ai w w'):=λw=>by
   have:=K9 a.new.toNat AdE w
   rwa [AbY a0] at this
  have g2:∀w,AF prog 111 [.int .i64 b.new] w (λv w'=>∃T,v=.slice (some ⟨T,0,none⟩) b.new.toNat b.new.toNat∧Blk w' T (Af (List.replicate b.new.toNat (-1))) 3∧w.heap.size≤T∧Ai w w'):=λw=>by
   have:=K9 b.new.toNat AdE w
   rwa [AbY b0] at this
  clear ap aq b4 bm dx dy dz d5 lTO dp dq dr dt du e3 e4 ar au b7 d4 cz c7 bv bl b6 bc bj bk dv dw c8;have fin:∀(SA SB TX TY SL:Nat) (w':World),Ai w8 w'→Blk w' SA [.slice pa a.to.length ca,.int .i64 a.new,.slice (some ⟨TX,0,none⟩) a.new.toNat a.new.toNat] 163→Blk w' SB [.slice pb b.to.length cb,.int .i64 b.new,.slice (some ⟨TY,0,none⟩) b.new.toNat b.new.toNat] 163→Blk w' TX (Af (List.replicate a.new.toNat (-1))) 3→Blk w' TY (Af (List.replicate b.new.toNat (-1))) 3→w8.heap.size≤SA→w8.heap.size≤SB→w8.heap.size≤TX→w8.heap.size≤TY→TX≠TY→Blk w' SL [Hk SA,Hk SB] 161→w8.heap.size≤SL→
    ∃x:(Nat→Nat)×(Nat→Nat)×Nat,x.1 0=SA∧x.1 1=SB∧x.2.2=SL∧(Ai w8 w'∧(∀i,i<2→Blk w' (x.1 i) [tv i,.int .i64 (mm i).new,.slice (some ⟨x.2.1 i,0,none⟩) (mm i).new.toNat (mm i).new.toNat] 163∧w8.heap.size≤x.1 i∧w8.heap.size≤x.2.1 i∧Blk w' (x.2.1 i) (Af (List.replicate (mm i).new.toNat (-1))) 3)∧x.2.1 0≠x.2.1 1∧Blk w' x.2.2 [Hk (x.1 0),Hk (x.1 1)] 161∧w8.heap.size≤x.2.2):=λSA SB TX TY SL w' h1 h2 h3 h4 h5 h6 h7 h8 h9 e5 e6 e7=>
   ⟨(λi=>if i=0 then SA else SB,λi=>if i=0 then TX else TY,SL),rfl,rfl,rfl,h1,λi hi=>by
    rcases(show i=0∨i=1 by omega) with rfl | rfl
    ·rw[em0,et0];exact⟨h2,h6,h8,h4⟩
    ·rw[em1,et1];exact⟨h3,h7,h9,h5⟩,e5,e6,e7⟩
  refine CW.drawG (Ai w8) 12 (λw' h=>h) AdF λwa bd=>?_;refine AJ ?_;refine BE 3 λhS=>?_;refine Ay rfl rfl (g1 _) ?_;rintro v w9 ⟨TX,rfl,aa,lTX,aw⟩;have e8:=aw.size;have ew:=hS.size;have ex:=aa.lt;have hE:=hS.trans aw;clear hS;apply LW.nil;refine QW.headed hE ?_;refine AJ ?_;refine GW.two 5 9 AdF rfl rfl rfl rfl rfl rfl (λhS=>?_) (λhS=>?_)
  ·refine CM λSA ax c9 ak ac=>?_;replace ac:Blk ax SA [.slice pa a.to.length ca,.int .i64 a.new,.slice (some ⟨TX,0,none⟩) a.new.toNat a.new.toNat] 163:=ac;have bo:=ak.size;replace aa:=aa.ext ak;have dh:=ac.lt;have hE:=hE.trans ak;clear hS;apply LW.nil;refine QW.headed hE ?_;refine AJ ?_;refine BE 9 λhS=>?_;refine Ay rfl rfl (g2 _) ?_;rintro v ad ⟨TY,rfl,ai,lTY,a7⟩;have cc:=a7.size;replace aa:=aa.ext a7;replace ac:=ac.ext a7;have e9:=ai.lt;have hE:=hE.trans a7;clear hS;apply LW.nil;refine QW.headed hE ?_;refine AJ ?_;refine BE 11 λhS=>?_;refine CM λSB b5 cd a4 am=>?_;replace am:Blk b5 SB [.slice pb b.to.length cb,.int .i64 b.new,.slice (some ⟨TY,0,none⟩) b.new.toNat b.new.toNat] 163:=am;have ce:=a4.size;replace aa:=aa.ext a4;replace ac:=ac.ext a4;replace ai:=ai.ext a4;have hE:=hE.trans a4;clear hS;apply LW.nil;refine QW.headed hE ?_;refine AJ ?_;refine GW.tail rfl AdF (λhS=>?_);refine Dt λSL an cf a3 ae=>?_;replace ae:Blk an SL [Hk SA,Hk SB] 161:=ae;obtain⟨x,ex1,ex2,ex3,ay⟩:=fin SA SB TX TY SL an (hS.trans a3) (ac.ext a3) (am.ext a3) (aa.ext a3) (ai.ext a3) AdE AdE AdE AdE AdE ae (by have:=hS.size;omega);rw[←ex3];refine Sw ?_;exact QW.head x ay UP
  ·refine Ay rfl rfl (g2 _) ?_;rintro v ax ⟨TY,rfl,ai,lTY,ak⟩;have bo:=ak.size;replace aa:=aa.ext ak;have e9:=ai.lt;have hE:=hE.trans ak;clear hS;apply LW.nil;refine QW.headed hE ?_;refine AJ ?_;refine GW.two 5 11 AdF rfl rfl rfl rfl rfl rfl (λhS=>?_) (λhS=>?_)
   ·refine CM λSA ad c9 a7 ac=>?_;replace ac:Blk ad SA [.slice pa a.to.length ca,.int .i64 a.new,.slice (some ⟨TX,0,none⟩) a.new.toNat a.new.toNat] 163:=ac;have cc:=a7.size;replace aa:=aa.ext a7;replace ai:=ai.ext a7;have dh:=ac.lt;have hE:=hE.trans a7;clear hS;apply LW.nil;refine QW.headed hE ?_;refine AJ ?_;refine BE 11 λhS=>?_;refine CM λSB b5 cd a4 am=>?_;replace am:Blk b5 SB [.slice pb b.to.length cb,.int .i64 b.new,.slice (some ⟨TY,0,none⟩) b.new.toNat b.new.toNat] 163:=am;have ce:=a4.size;replace aa:=aa.ext a4;replace ac:=ac.ext a4;replace ai:=ai.ext a4;have hE:=hE.trans a4;clear hS;apply LW.nil;refine QW.headed hE ?_;refine AJ ?_;refine GW.tail rfl AdF (λhS=>?_);refine Dt λSL an cf a3 ae=>?_;replace ae:Blk an SL [Hk SA,Hk SB] 161:=ae;obtain⟨x,ex1,ex2,ex3,ay⟩:=fin SA SB TX TY SL an (hS.trans a3) (ac.ext a3) (am.ext a3) (aa.ext a3) (ai.ext a3) AdE AdE AdE AdE AdE ae (by have:=hS.size;omega);rw[←ex3];refine Sw ?_;exact QW.head x ay UP
   ·refine CM λSB ad cd a7 am=>?_;replace am:Blk ad SB [.slice pb b.to.length cb,.int .i64 b.new,.slice (some ⟨TY,0,none⟩) b.new.toNat b.new.toNat] 163:=am;have cc:=a7.size;replace aa:=aa.ext a7;replace ai:=ai.ext a7;have dh:=am.lt;have hE:=hE.trans a7;clear hS;apply LW.nil;refine QW.headed hE ?_;refine AJ ?_;refine BE 5 λhS=>?_;refine CM λSA b5 c9 a4 ac=>?_;replace ac:Blk b5 SA [.slice pa a.to.length ca,.int .i64 a.new,.slice (some ⟨TX,0,none⟩) a.new.toNat a.new.toNat] 163:=ac;have ce:=a4.size;replace aa:=aa.ext a4;replace am:=am.ext a4;replace ai:=ai.ext a4;have hE:=hE.trans a4;clear hS;apply LW.nil;refine QW.headed hE ?_;refine AJ ?_;refine GW.tail rfl AdF (λhS=>?_);refine Dt λSL an cf a3 ae=>?_;replace ae:Blk an SL [Hk SA,Hk SB] 161:=ae;obtain⟨x,ex1,ex2,ex3,ay⟩:=fin SA SB TX TY SL an (hS.trans a3) (ac.ext a3) (am.ext a3) (aa.ext a3) (ai.ext a3) AdE AdE AdE AdE AdE ae (by have:=hS.size;omega);rw[←ex3];refine Sw ?_;exact QW.head x ay UP
 rintro⟨sb,TT,SL⟩ w9 ⟨aw,bp,cg,ae,lSL⟩;dsimp only at bp cg ae lSL;show CW _ _ _ _ _ [(2,.pointer (some ⟨A,0,none⟩)),(3,.pointer (some ⟨B,0,none⟩)),(4,.pointer (some ⟨R1,0,none⟩)),(5,.pointer (some ⟨R2,0,none⟩)),(6,.pointer (some ⟨R3,0,none⟩)),(7,.int .i64 0),(8,.int .i64 a.to.length),(9,.slice (some ⟨TO,0,none⟩) a.to.length a.to.length),(10,.slice (some ⟨SL,0,none⟩) 2 2)] _;have e8:=aw.size;replace hA:=hA.ext aw;replace hB:=hB.ext aw;replace ap:=ap.ext aw;replace aq:=aq.ext aw;replace b4:=b4.ext aw;replace bm:=bm.ext aw;have b8:=b7.trans aw;obtain⟨ci,ls0,lT0,bw⟩:=bp 0 AdE;obtain⟨cj,ls1,lT1,bx⟩:=bp 1 AdE;have ec:=ci.lt;have ed:=cj.lt;have ee:=ae.lt;have eg:=bw.lt;have eh:=bx.lt;have nS:∀i,i<2→sb i≠TT 0∧sb i≠TT 1∧sb i≠TO∧SL≠TT i:=λi hi=>by
  have d6:∀(x:Nat) (cs ds:List Value) (T T':TypeId),Blk w9 x cs T→Blk w9 x ds T'→T=T':=λx cs ds T T' h1 h2=>by
   unfold Blk at h1 h2;rw[h1] at h2;cases h2;rfl
  obtain⟨q1,q2,q3,q4⟩:=bp i hi;refine⟨λe=>?_,λe=>?_,by omega,λe=>?_⟩
  ·have:=d6 _ _ _ _ _ q1 (e ▸ bw);cases this
  ·have:=d6 _ _ _ _ _ q1 (e ▸ bx);cases this
  ·have:=d6 _ _ _ _ _ ae (e ▸ q4);cases this
 obtain⟨n1,n2,n3,n4⟩:=nS 0 AdE;obtain⟨n5,n6,n7,n8⟩:=nS 1 AdE;rw[em0,et0] at ci;rw[em1,et1] at cj;rw[em0] at bw;rw[em1] at bx;have ck:∀x,x∈[TO,TT 0,TT 1]→w7.heap.size≤x:=λx hx=>by simp at hx;omega
 have e0:AG a b 0=L3 a b:=rfl;have LLd:∃LL:D0→Nat→List Int,∀st,LL st 0=st.x∧LL st 1=st.y:=⟨λst i=>if i=0 then st.x else st.y,λst=>⟨rfl,rfl⟩⟩;obtain⟨LL,aj⟩:=LLd;have two:∀{w':World} {st:D0},Blk w' TO (Af st.o) 3→Blk w' (TT 0) (Af st.x) 3→Blk w' (TT 1) (Af st.y) 3→Pc w' TO TT st.o (LL st):=λ{w' st} h1 h2 h3=>⟨h1,λi hi=>by
  rcases(show i=0∨i=1 by omega) with rfl | rfl
  ·rw[(aj st).1];exact h2
  ·rw[(aj st).2];exact h3⟩
 have al:Pc w9 TO TT (AG a b 0).o (LL (AG a b 0)):=two bm bw bx;refine Sw ?_;refine CW.loop (ι:=Nat) (λj w'=>j≤a.to.length+1∧Chg [TO,TT 0,TT 1] w9 w'∧Pc w' TO TT (AG a b j).o (LL (AG a b j))) (λj=>[(2,.pointer (some ⟨A,0,none⟩)),(3,.pointer (some ⟨B,0,none⟩)),(4,.pointer (some ⟨R1,0,none⟩)),(5,.pointer (some ⟨R2,0,none⟩)),(6,.pointer (some ⟨R3,0,none⟩)),(8,.int .i64 a.to.length),(9,.slice (some ⟨TO,0,none⟩) a.to.length a.to.length),(10,.slice (some ⟨SL,0,none⟩) 2 2),(11,.int .i64 ((AG a b j).now:Int)),(12,.int .i64 ((j:Int) - 1))]) (λj=>a.to.length+1 - j) 0 ⟨by omega,Chg.refl _ _,al⟩ Hx ?_;rintro j ax ⟨hj,a5,hI⟩;have b9:=hA.chg a5 AdG;have ba:=hB.chg a5 AdG;have af:=ci.chg a5 (by simp;exact⟨n3,n1,n2⟩);have ag:=cj.chg a5 (by simp;exact⟨n7,n5,n6⟩);have ah:=ae.chg a5 (by simp;exact⟨by omega,n4,n8⟩);have bo:=a5.size;have ab:Ai w ax:=b8.step a5 λx hx=>by have:=ck x hx;have:=au.size;omega
 obtain⟨len1,len2,len3⟩:=Dw a b j;refine Sw ?_;refine A8 (λc2=>?_) λc2=>?_;rotate_left
 ·have c2':j=a.to.length+1:=by simp at c2;omega
  subst c2';have be:=ap.chg a5 AdG;have bz:=aq.chg a5 AdG;have d0:=b4.chg a5 AdG;have fSL:∀w',Chg [R1,R2] ax w'→Blk w' SL [Hk (sb 0),Hk (sb 1)] 161:=λw' hw=>ah.chg hw AdG;have fs0:∀w',Chg [R1,R2] ax w'→Blk w' (sb 0) _ 163:=λw' hw=>af.chg hw AdG;have fs1:∀w',Chg [R1,R2] ax w'→Blk w' (sb 1) _ 163:=λw' hw=>ag.chg hw AdG;have d1:=hI.o;have c0:=hI.l 0 AdE;have c5:=hI.l 1 AdE;rw[(aj _).1] at c0;rw[(aj _).2] at c5;have d7:=au.size;clear b9 ba hA hB ci cj af ag ah ae bp bw bx bm al two bj bk hI b8 b7 ar;refine Sw ?_;refine CW.drawG (Chg [R1,R2] ax) 21 (λw' h=>h.chg) AdF λwa bd=>?_;refine AJ ?_;refine GW.take 5 rfl rfl rfl rfl (λw' hw=>Y.load rfl (fSL w' hw) rfl rfl rfl) rfl rfl AdF AdF AdF (λ_ _ _ h=>h) ?_;refine AJ ?_;refine GW.take 8 rfl rfl rfl rfl (λw' hw=>Y.load rfl (fs0 w' hw) rfl rfl rfl) rfl rfl AdF AdF AdF (λ_ _ _ h=>h) ?_;refine AJ ?_;refine GW.take 13 rfl rfl rfl rfl (λw' hw=>Y.load rfl (fSL w' hw) rfl rfl rfl) rfl rfl AdF AdF AdF (λ_ _ _ h=>h) ?_;refine AJ ?_;refine GW.take 16 rfl rfl rfl rfl (λw' hw=>Y.load rfl (fs1 w' hw) rfl rfl rfl) rfl rfl AdF AdF AdF (λ_ _ _ h=>h) ?_;refine AJ ?_;refine BE 19 λhS=>?_;replace be:=be.ext bd;refine AD λad a6 be=>?_;have hE:=(Chg.trans hS a6).mono (S':=[R1,R2]) λx hx _=>by simp at hx ⊢;omega
  clear hS;apply LW.nil;refine QW.headed hE ?_;refine BE 20 λhS=>?_;replace bz:=(bz.ext bd).chg a6 AdG;refine AD λb5 a9 bz=>?_;have hE:=(Chg.trans hE a9).mono (S':=[R1,R2]) λx hx _=>by simp at hx ⊢;omega
  clear hS;apply LW.nil;refine QW.headed hE ?_;refine GW.tail rfl AdF (λhS=>?_);replace d0:=((d0.ext bd).chg a6 AdG).chg a9 AdG;replace be:=be.chg a9 AdG;refine Sw ?_;refine AD λan a8 d0=>?_;replace be:=be.chg a8 AdG;replace bz:=bz.chg a8 AdG;have az:∀{x:Nat} {zs:List Int},Blk ax x (Af zs) 3→(x=TO∨x=TT 0∨x=TT 1)→Blk an x (Af zs) 3:=λh hx=>(h.chg hE AdG).chg a8 AdG;refine Sw ?_;have bq:Ai w an:=ab.step (Chg.trans hE a8) λx hx=>by simp at hx;omega
  exact QW.body (rs:=[.cell 4 77,.cell 5 77,.cell 6 77,.tmp 7]) (vs:=[.agg ⟨[.slice (some ⟨TO,0,none⟩) a.to.length a.to.length,.int .i64 ((A3 a b).now:Int)]⟩,.agg ⟨[.slice (some ⟨TT 0,0,none⟩) a.new.toNat a.new.toNat,.int .i64 ((A3 a b).now:Int)]⟩,.agg ⟨[.slice (some ⟨TT 1,0,none⟩) b.new.toNat b.new.toNat,.int .i64 ((A3 a b).now:Int)]⟩,.int .i64 0]) results73 ⟨⟨R1,rfl,C4 rfl rfl be rfl (Dz.all _)⟩,⟨R2,rfl,C4 rfl rfl bz rfl (Dz.all _)⟩,⟨R3,rfl,C4 rfl rfl d0 rfl (Dz.all _)⟩,rfl,trivial⟩ rfl ⟨TO,TT 0,TT 1,rfl,az d1 (.inl rfl),az c0 (.inr (.inl rfl)),az c5 (.inr (.inr rfl)),by omega,by omega,by omega,bq⟩
 have c2:j≤a.to.length:=by simp at c2;omega
 apply CW.skip;apply QW.then_n;apply CW.seq;apply CW.block;refine CW.seq_cut (ι:=Unit) (λ_ w'=>Chg [TO,TT 0,TT 1] w9 w'∧Pc w' TO TT (Cz a b (AG a b j) j).o (LL (Cz a b (AG a b j) j))) (λ_=>[(2,.pointer (some ⟨A,0,none⟩)),(3,.pointer (some ⟨B,0,none⟩)),(4,.pointer (some ⟨R1,0,none⟩)),(5,.pointer (some ⟨R2,0,none⟩)),(6,.pointer (some ⟨R3,0,none⟩)),(8,.int .i64 a.to.length),(9,.slice (some ⟨TO,0,none⟩) a.to.length a.to.length),(10,.slice (some ⟨SL,0,none⟩) 2 2),(11,.int .i64 ((Cz a b (AG a b j) j).now:Int)),(12,.int .i64 ((j:Int) - 1))]) ?_ ?_
 ·clear ap aq b4 b8 b7 ar;rcases j with _ | g
  ·refine Sw ?_;exact QW.head () ⟨a5,hI⟩ Hx
  have hg:g<a.to.length:=c2;rw[show((g+1:Nat):Int) - 1=(g:Int) by omega];obtain⟨xa,rfl,cl⟩:=bj.at hg;obtain⟨xb,rfl,cm⟩:=bk.at (show g<b.to.length by omega);obtain⟨za,eza⟩:∃z,a.to.getD g 0=z:=⟨_,rfl⟩;obtain⟨zb,ezb⟩:∃z,b.to.getD g 0=z:=⟨_,rfl⟩;have ea:=ra g hg;have eb:=rb g (show g<b.to.length by omega);rw[eza] at cl ea;rw[ezb] at cm eb;have ef:Cz a b (AG a b (g+1)) (g+1)=if 0≤za∧0≤zb then⟨(AG a b (g+1)).o.set g (AG a b (g+1)).now,(AG a b (g+1)).x.set za.toNat (AG a b (g+1)).now,(AG a b (g+1)).y.set zb.toNat (AG a b (g+1)).now,(AG a b (g+1)).now+1⟩ else AG a b (g+1):=by rw[Cz,eza,ezb]
  rw[ef];clear ef;have b3:=L4 na nb (j:=g+1) AdE;generalize AG a b (g+1)=st at hI len1 len2 len3 b3 ⊢;have br:ax.cell? (xa.add (((g:Nat):Int).toNat*1))=some (.int .i64 za):=by
   rw[show((g:Nat):Int).toNat*1=g by omega];exact A0 ab cl
  have bs:ax.cell? (xb.add (((g:Nat):Int).toNat*1))=some (.int .i64 zb):=by
   rw[show((g:Nat):Int).toNat*1=g by omega];exact A0 ab cm
  have d1:=hI.o;have c0:=hI.l 0 AdE;have c5:=hI.l 1 AdE;rw[(aj st).1] at c0;rw[(aj st).2] at c5;clear bj bk;have d7:=au.size;refine Sw ?_;by_cases qa:0≤za
  ·refine LW.know (t:=71) (c:=true) rfl (decide_eq_true qa) ?_;refine Sw ?_;refine A8 (λqb=>?_) λqb=>?_
   ·have qb:0≤zb:=by simpa using qb
    rw[if_pos ⟨qa,qb⟩];refine Sw ?_;refine LW.store (i:=0+((g:Nat):Int).toNat*1) (by show some (Value.pointer (some (Addr.add ⟨TO,0,none⟩ (((g:Nat):Int).toNat*1))))=_;rw[Au]) rfl rfl d1 (AbD Ae8) rfl rfl λad a6 cn=>?_;rw[show 0+((g:Nat):Int).toNat*1=g by omega,DG] at cn;have co:=b9.chg a6 AdG;have cp:=ba.chg a6 AdG;have bf:=af.chg a6 (by simp;exact n3);have bg:=ag.chg a6 (by simp;exact n7);have bh:=ah.chg a6 AdG;have d8:=c0.chg a6 AdG;have d9:=c5.chg a6 AdG;have ao:Ai w ad:=ab.step a6 λx hx=>by simp at hx;omega
    clear br bs;have br:ad.cell? (xa.add (((g:Nat):Int).toNat*1))=some (.int .i64 za):=by
     rw[show((g:Nat):Int).toNat*1=g by omega];exact A0 ao cl
    have bs:ad.cell? (xb.add (((g:Nat):Int).toNat*1))=some (.int .i64 zb):=by
     rw[show((g:Nat):Int).toNat*1=g by omega];exact A0 ao cm
    have fSL:∀w',Chg [TT 0] ad w'→Blk w' SL [Hk (sb 0),Hk (sb 1)] 161:=λw' hw=>bh.chg hw (by simpa using n4);have fs0:∀w',Chg [TT 0] ad w'→Blk w' (sb 0) _ 163:=λw' hw=>bf.chg hw (by simpa using n1);have fs1:∀w',Chg [TT 0] ad w'→Blk w' (sb 1) _ 163:=λw' hw=>bg.chg hw (by simpa using n5);have fA:∀w',Chg [TT 0] ad w'→Blk w' A _ 77:=λw' hw=>co.chg hw AdG;have fB:∀w',Chg [TT 0] ad w'→Blk w' B _ 77:=λw' hw=>cp.chg hw AdG;have fx:∀w',Chg [TT 0] ad w'→Ai w w':=λw' hw=>ao.step hw λx hx=>by simp at hx;omega
    have fca:∀w',Chg [TT 0] ad w'→w'.cell? (xa.add (((g:Nat):Int).toNat*1))=some (.int .i64 za):=λw' hw=>by
     rw[show((g:Nat):Int).toNat*1=g by omega];exact A0 (fx w' hw) cl
    have fcb:∀w',Chg [TT 0] ad w'→w'.cell? (xb.add (((g:Nat):Int).toNat*1))=some (.int .i64 zb):=λw' hw=>by
     rw[show((g:Nat):Int).toNat*1=g by omega];exact A0 (fx w' hw) cm
    clear af ag ci cj ah ae b9 ba hA hB hI c0 c5 d1 bp bw bx bm al cl cm ab ao br bs bf bg bh co cp;refine Sw ?_;refine CW.drawG (Chg [TT 0] ad) 26 (λw' h=>h.chg) AdF λwa bd=>?_;refine AJ ?_;refine GW.take 2 rfl rfl rfl rfl (λw' hw=>Y.load rfl (fSL w' hw) rfl rfl rfl) rfl rfl AdF AdF AdF (λ_ _ _ h=>h) ?_;refine AJ ?_;refine GW.take 5 rfl rfl rfl rfl (λw' hw=>Y.load rfl (fs0 w' hw) rfl rfl rfl) rfl rfl AdF AdF AdF (λ_ _ _ h=>h) ?_;refine AJ ?_;refine GW.take 7 rfl rfl rfl rfl (λw' hw=>Y.load rfl (fA w' hw) rfl rfl rfl) rfl rfl AdF AdF AdF (λ_ _ _ h=>h) ?_;refine AJ ?_;refine GW.take 10 rfl rfl rfl rfl (λw' hw=>Y.load_cell rfl (fca w' hw) rfl rfl) rfl rfl AdF AdF AdF (λ_ _ _ h=>h) ?_;refine AJ ?_;refine GW.take 13 rfl rfl rfl rfl (λw' hw=>Y.load rfl (fSL w' hw) rfl rfl rfl) rfl rfl AdF AdF AdF (λ_ _ _ h=>h) ?_;refine AJ ?_;refine GW.take 16 rfl rfl rfl rfl (λw' hw=>Y.load rfl (fs1 w' hw) rfl rfl rfl) rfl rfl AdF AdF AdF (λ_ _ _ h=>h) ?_;refine AJ ?_;refine GW.take 18 rfl rfl rfl rfl (λw' hw=>Y.load rfl (fB w' hw) rfl rfl rfl) rfl rfl AdF AdF AdF (λ_ _ _ h=>h) ?_;refine AJ ?_;refine GW.take 21 rfl rfl rfl rfl (λw' hw=>Y.load_cell rfl (fcb w' hw) rfl rfl) rfl rfl AdF AdF AdF (λ_ _ _ h=>h) ?_;refine AJ ?_;refine BE 25 λhS=>?_;have da:=d8.ext bd;refine LW.store (i:=0+za.toNat*1) (by show some (Value.pointer (some (Addr.add ⟨TT 0,0,none⟩ (za.toNat*1))))=_;rw[Au]) rfl rfl da (AbD Ae8) rfl rfl λan a8 cq=>?_;rw[show 0+za.toNat*1=za.toNat by omega,DG] at cq;have hE:=Chg.same hS a8;clear hS;apply LW.nil;refine QW.headed hE ?_;refine GW.tail rfl AdF (λhS=>?_);have db:=(cn.ext bd).chg a8 AdG;have dc:=(d9.ext bd).chg a8 (by simpa using cg.symm);refine Sw ?_;refine LW.store (i:=0+zb.toNat*1) (by show some (Value.pointer (some (Addr.add ⟨TT 1,0,none⟩ (zb.toNat*1))))=_;rw[Au]) rfl rfl dc (AbD Ae8) rfl rfl λei av cr=>?_
    rw[show 0+zb.toNat*1=zb.toNat by omega,DG] at cr;have dd:=db.chg av AdG;have de:=cq.chg av (by simpa using cg);refine Sw ?_;refine QW.head () ⟨?_,two (st:=⟨st.o.set g st.now,st.x.set za.toNat st.now,st.y.set zb.toNat st.now,st.now+1⟩) dd de cr⟩ Hx;refine(Chg.trans (Chg.trans (Chg.trans a5 a6) hE) av).mono λx hx _=>?_;simp only[Abf,AaT,Abu,or_false] at hx ⊢;omega
   ·have qb:¬0≤zb:=by simpa using qb
    rw[if_neg (λh=>qb h.2)];refine Sw ?_;exact QW.head () ⟨a5,hI⟩ Hx
  ·refine LW.know (t:=71) (c:=false) rfl (decide_eq_false qa) ?_;rw[if_neg (λh=>qa h.1)];refine Sw ?_;exact QW.head () ⟨a5,hI⟩ Hx
 clear a5 hI b9 ba af ag ah bo ab;rintro⟨⟩ ad ⟨a6,di⟩;obtain⟨stI,es0,es1,es2⟩:∃f:Nat→D0,f 0=Cz a b (AG a b j) j∧f 1=H1 a (Cz a b (AG a b j) j) j∧f 2=AG a b (j+1):=⟨λi=>if i=0 then Cz a b (AG a b j) j else if i=1 then H1 a (Cz a b (AG a b j) j) j else AG a b (j+1),rfl,rfl,rfl⟩;have b3:=L4 na nb (j:=j+1) AdE;have ct:∀i,i<2→(stI (i+1)).o=(stI i).o∧(∀k,k<2→LL (stI (i+1)) k=NW (LL (stI i)) i (BV (LL (stI i) i) (stI i).now (C3 (mm i) j)) k)∧(stI (i+1)).now=(stI i).now+(C3 (mm i) j).length∧(LL (stI i) i).length=(mm i).new.toNat∧(stI (i+1)).now≤200000:=λi hi=>by
  have l1:(Cz a b (AG a b j) j).x.length=a.new.toNat∧(Cz a b (AG a b j) j).y.length=b.new.toNat:=by
   cases j with
   | zero=>exact⟨len2,len3⟩
   | succ g=>
    rw[Cz]
    split
    ·exact⟨by rw[AbS];exact len2,by rw[AbS];exact len3⟩
    ·exact⟨len2,len3⟩
  have e2:AG a b (j+1)=Jf b (H1 a (Cz a b (AG a b j) j) j) j:=by rw[CV];rfl
  rw[e2] at es2 b3;rcases(show i=0∨i=1 by omega) with rfl | rfl
  ·rw[es0,es1,em0];refine⟨rfl,λk hk=>?_,rfl,by rw[(aj _).1];exact l1.1,Abr (Nat.le_add_right _ _) b3⟩;rcases(show k=0∨k=1 by omega) with rfl | rfl
   ·rw[(aj _).1,NW,if_pos rfl,(aj _).1];rfl
   ·rw[(aj _).2,NW,if_neg AdE,(aj _).2];rfl
  ·rw[es1,es2,em1];refine⟨rfl,λk hk=>?_,rfl,by rw[(aj _).2];exact l1.2,b3⟩;rcases(show k=0∨k=1 by omega) with rfl | rfl
   ·rw[(aj _).1,NW,if_neg AdE,(aj _).1];rfl
   ·rw[(aj _).2,NW,if_pos rfl,(aj _).2];rfl
 rw[←es0] at di;rw[←es0];refine Sw ?_;refine CW.loop (ι:=Nat) (λi w'=>i≤2∧Chg [TO,TT 0,TT 1] w9 w'∧Pc w' TO TT (stI i).o (LL (stI i))) (λi=>[(2,.pointer (some ⟨A,0,none⟩)),(3,.pointer (some ⟨B,0,none⟩)),(4,.pointer (some ⟨R1,0,none⟩)),(5,.pointer (some ⟨R2,0,none⟩)),(6,.pointer (some ⟨R3,0,none⟩)),(8,.int .i64 a.to.length),(9,.slice (some ⟨TO,0,none⟩) a.to.length a.to.length),(10,.slice (some ⟨SL,0,none⟩) 2 2),(11,.int .i64 ((stI i).now:Int)),(12,.int .i64 ((j:Int) - 1)),(111,.slice (some ⟨SL,0,none⟩) 2 2),(112,.int .i64 2),(113,.int .i64 (i:Int))]) (λi=>2 - i) 0 ⟨by omega,a6,di⟩ Z4 ?_;rintro i b5 ⟨hi,a9,df⟩;have cu:=ae.chg a9 (by simp;exact⟨by omega,n4,n8⟩);have cv:Ai w b5:=b8.step a9 λx hx=>by have:=ck x hx;have:=au.size;omega
 refine Sw ?_;refine A8 (λc3=>?_) λc3=>?_;rotate_left
 ·have c3:i=2:=by simp at c3;omega
  subst c3;rw[es2] at df ⊢;refine Sw ?_;rw[show((j:Int) - 1)+1=((j+1:Nat):Int) - 1 by omega];exact QW.again (j+1) ⟨by omega,a9,df⟩ Hx AdE
 have c3:i<2:=by simp at c3;omega
 obtain⟨q1,q2,q3,q4,q5⟩:=ct i c3;obtain⟨u1,u2,u3,u4,u5⟩:=c8 i c3;obtain⟨ej,lsi,lTi,-⟩:=bp i c3;have bi:=ej.chg a9 (by obtain⟨z1,z2,z3,-⟩:=nS i c3;simp;exact⟨z3,z1,z2⟩);have ey:b5.cell? ((⟨SL,0,none⟩:Addr).add (((i:Nat):Int).toNat*1))=some (Hk (sb i)):=by
  rw[Au];refine cu.cell ?_;rcases(show i=0∨i=1 by omega) with rfl | rfl<;>rfl
 refine Sw ?_;refine LW.call (fs:=[Hk (sb i)]) (cs:=[]) rfl rfl rfl (Xi (mm i) (sb i) j (tv i) _ b5 bi (u5.ext cv) u1 AdE) ?_;rintro v an ⟨d2,a3⟩;obtain⟨kp,kc,rfl⟩:=d2.slice;have dj:=a3.size;have dk:=a9.size;have dl:∀x∈C3 (mm i) j,(x:Int)<(mm i).new:=λx hx=>Aah hx;have ek:=P5 (mm i) j;generalize C3 (mm i) j=ks at q2 q3 d2 dl ek ⊢;have dg:=df.ext a3;have a8:=Chg.trans a9 a3;rw[Aby] at a8;have cw:=bi.ext a3;refine Sw ?_;refine CW.loop (ι:=Nat) (λq w'=>q≤ks.length∧Chg [TO,TT 0,TT 1] w9 w'∧Chg [TT i] an w'∧Pc w' TO TT (stI i).o (NW (LL (stI i)) i (BV (LL (stI i) i) (stI i).now (ks.take q)))) (λq=>[(2,.pointer (some ⟨A,0,none⟩)),(3,.pointer (some ⟨B,0,none⟩)),(4,.pointer (some ⟨R1,0,none⟩)),(5,.pointer (some ⟨R2,0,none⟩)),(6,.pointer (some ⟨R3,0,none⟩)),(8,.int .i64 a.to.length),(9,.slice (some ⟨TO,0,none⟩) a.to.length a.to.length),(10,.slice (some ⟨SL,0,none⟩) 2 2),(11,.int .i64 (((stI i).now+q:Nat):Int)),(12,.int .i64 ((j:Int) - 1)),(14,Hk (sb i)),(111,.slice (some ⟨SL,0,none⟩) 2 2),(112,.int .i64 2),(113,.int .i64 (i:Int)),(121,.slice kp ks.length kc),(122,.int .i64 ks.length),(123,.int .i64 (q:Int))]) (λq=>ks.length - q) 0 ⟨by omega,a8,Chg.refl _ _,?_⟩ (Al.cons rfl (Al.cons rfl (Al.cons rfl (Al.cons rfl (Al.cons rfl (Al.cons rfl (Al.cons rfl (Al.cons rfl (Al.cons rfl (Al.cons rfl (Al.cons rfl (Al.cons rfl (Al.cons rfl (Al.cons rfl (Al.cons rfl (Al.cons rfl (Al.cons rfl (Al.nil)))))))))))))))))) ?_
 ·refine⟨dg.o,λk hk=>?_⟩;rw[NW]
  split
  ·rename_i e;rw[e];exact dg.l i c3
  ·exact dg.l k hk
 rintro q ei ⟨hq,av,bt,c6⟩;have dm:=cw.chg bt (by obtain⟨z1,z2,z3,-⟩:=nS i c3;rcases(show i=0∨i=1 by omega) with e | e<;>subst e<;>simpa);have cx:=d2.chg bt λx hx=>by have:=(d2.lt hx).1;rcases(show i=0∨i=1 by omega) with e | e<;>subst e<;>simp<;>omega
 refine Sw ?_;refine A8 (λc4=>?_) λc4=>?_;rotate_left
 ·have c4:q=ks.length:=by simp at c4;omega
  subst c4;rw[Acy (Abi _)] at c6;refine Sw ?_;rw[←q3];refine QW.again (i+1) ⟨by omega,av,⟨?_,λk hk=>?_⟩⟩ Z4 AdE
  ·rw[q1];exact c6.o
  ·rw[q2 k hk];exact c6.l k hk
 have c4:q<ks.length:=by simp at c4;omega
 obtain⟨k,hk⟩:∃k,ks[q]?=some k:=⟨_,Aap c4⟩;have ez:=dl k (Abn hk);obtain⟨xg,rfl,f0⟩:=Jz cx (i:=q) (z:=(k:Int)) (by simp[hk]);have etk:ks.take (q+1)=ks.take q++[k]:=by rw[Ab7,hk];rfl
 have dn:=c6.l i c3;rw[NW,if_pos rfl] at dn;have cy:(BV (LL (stI i) i) (stI i).now (ks.take q)).length=(mm i).new.toNat:=by rw[J5];exact q4
 refine Sw ?_;refine LW.store (i:=0+k*1) (by show some (Value.pointer (some (Addr.add ⟨TT i,0,none⟩ (((k:Nat):Int).toNat*1))))=_;rw[Au];rfl) rfl rfl dn (AbD (by show _+1≤_;rw[A9,cy];omega)) rfl rfl λf1 bb bu=>?_;rw[show 0+k*1=k by omega,DG] at bu;have eset:BV (LL (stI i) i) (stI i).now (ks.take (q+1))=(BV (LL (stI i) i) (stI i).now (ks.take q)).set k (((stI i).now+q:Nat):Int):=by
  rw[etk,N5,Acb,AdA AdE]
 rw[←eset] at bu;refine Sw ?_;refine QW.again (q+1) ⟨by omega,(Chg.trans av bb).mono λx hx _=>?_,bt.same bb,⟨c6.o.chg bb ?_,λk' el=>?_⟩⟩ (Al.cons rfl (Al.cons rfl (Al.cons rfl (Al.cons rfl (Al.cons rfl (Al.cons rfl (Al.cons rfl (Al.cons rfl (Al.cons rfl (Al.cons rfl (Al.cons rfl (Al.cons rfl (Al.cons rfl (Al.cons rfl (Al.cons rfl (Al.cons rfl (Al.cons rfl (Al.nil)))))))))))))))))) AdE
 ·simp only[Abf,AaT,Abu,or_false] at hx ⊢;rcases(show i=0∨i=1 by omega) with e | e<;>subst e<;>omega
 ·rcases(show i=0∨i=1 by omega) with e | e<;>subst e<;>simp<;>omega
 ·by_cases e:k'=i
  ·rw[NW,if_pos e,e];exact bu
  ·have:=c6.l k' el;rw[NW,if_neg e] at this ⊢;refine this.chg bb ?_;rcases(show i=0∨i=1 by omega) with e1 | e1<;>rcases(show k'=0∨k'=1 by omega) with e2 | e2<;>subst e1<;>subst e2
   ·exact absurd rfl e
   ·simpa using cg.symm
   ·simpa using cg
   ·exact absurd rfl e
end Go.Proofs.YtcjjcnecopnpcaaGreatDoor
