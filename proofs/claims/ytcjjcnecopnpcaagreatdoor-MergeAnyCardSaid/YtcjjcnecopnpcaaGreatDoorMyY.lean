/-
  Joined by program out of the texts OneD Law20 Ex20 Law20A Hea Law20Y.
-/
import Derived.Test.YtcjjcnecopnpcaaGreatDoorMyM
import Derived.Test.YtcjjcnecopnpcaaGreatDoorMyS
import Derived.Test.YtcjjcnecopnpcaaGreatDoorMyB
import Derived.Test.YtcjjcnecopnpcaaGreatDoorMyK
import Derived.Test.YtcjjcnecopnpcaaGreatDoorMyJ
import Derived.Test.YtcjjcnecopnpcaaGreatDoorMyH
import Derived.Test.YtcjjcnecopnpcaaGreatDoorMyA
namespace Go.Proofs.YtcjjcnecopnpcaaGreatDoor
open Tryz
open Go Go.E
def Fc(l:List (List UInt8)):Ao:=[⟨[65],1,l.map λt=>[t]⟩]
theorem Qs{l:List (List UInt8)}(hl:l.length≤24)(h:∀t∈l,Ci t=true):Ay (Fc l)=true:=by
 refine Ch.2 ⟨by simp[Fc],λs hs=>?_,by simp[Fc]⟩;rw[Aah.1 hs];refine Bn.2 ⟨by show D5 [65]=true;decide,by show(0:Int)≤1;decide,by show(1:Int)≤12;decide,by simpa using hl,λr hr=>?_⟩;obtain⟨t,ht,rfl⟩:=AbZ.1 hr;exact⟨rfl,λu hu=>by rw[Aah.1 hu];exact h t ht⟩
theorem Uh{ss:List Br}{l:List (List UInt8)}(h:∀t∈l,Ab t 0≠61):Cn ss (Fc l)=Fc l:=by
 show[RN ss _]=_;unfold Fc RN
 congr 2
 rw[AcG];refine Acg λt ht=>?_;show N4 _ ss [t]=[t];unfold N4;rw[Ach,AcF,Gc (.inr (.inl (h t ht)))]
set_option maxRecDepth 8000 in
set_option maxHeartbeats 2000000 in
theorem H5(l:List (List UInt8))(v:Value)(w:World)(h:Cw w v l)(hl:l.length≤1000):A9 prog 25 [v] w (λr w'=>∃sv,r=.agg ⟨[sv]⟩∧Bu w' sv (Fc l)∧Ah w w'):=by
 obtain⟨p,c,rfl⟩:=h.slice;have b2:=h.2;refine AG func25 ntmps25 ?_;refine Sa ?_;refine B1 λR w1 b3 ai hR=>?_;have b4:=ai.size;have b5:=hR.lt;refine Sa ?_;refine B1 λH w2 b6 aj hH=>?_;have b7:=aj.size;have b8:=hH.lt;refine Sa ?_;refine AF λw3 ak hH=>?_;replace hH:Blk w3 H [Aq [65],.int .i64 1,.slice none 0 0] 46:=hH;have a1:Ah w1 w3:=aj.step ak Aee;have b9:=ak.size;have au:=hR.ext a1;have aa:=ai.trans a1;refine Sw ?_;refine CW.loop (ι:=Nat×Value) (λx w'=>x.1≤l.length∧Chg [H] w3 w'∧Blk w' H [Aq [65],.int .i64 1,x.2] 46∧Vw (R::H::Ae x.2) w3.heap.size w' x.2 ((l.take x.1).map λt=>[t])∧(l.take x.1).length=x.1) (λx=>[(0,.slice p l.length c),(2,.pointer (some ⟨R,0,none⟩)),(3,.pointer (some ⟨H,0,none⟩)),(4,.int .i64 (x.1:Int))]) (λx=>l.length - x.1) (0,.slice none 0 0) ⟨by omega,Chg.refl _ _,hH,A0.nil,rfl⟩ Bl ?_;rintro⟨i,rv⟩ w4 ⟨hi,a5,al,a2,etk⟩;dsimp only at hi al a2 etk;show CW _ _ _ _ _ [(0,.slice p l.length c),(2,.pointer (some ⟨R,0,none⟩)),(3,.pointer (some ⟨H,0,none⟩)),(4,.int .i64 (i:Int))] _;obtain⟨rp,rc,rfl⟩:=A0.slice a2;have ba:=a5.size;have a3:Ah w w4:=aa.step a5 Aee;have a6:=au.chg a5 Aee;refine Sw ?_;refine Av (λc1=>?_) λc1=>?_
 ·have c1:i<l.length:=by simp at c1;omega
  obtain⟨t,ht⟩:∃t,l[i]?=some t:=⟨_,Aav c1⟩;obtain⟨a,rfl,-,av,am⟩:=AD.at h ht;have bb:=Ac3 w _ am;have aw:=A2 a3 am;have nH:H∉Ae (Value.slice rp ((l.take i).map λt=>[t]).length rc):=λhm=>by have:=(A0.lt a2 hm).1;omega
  obtain⟨css,g1,g2,g3,g4⟩:=a2;have an:l.take (i+1)=l.take i++[t]:=by rw[AbO,ht];rfl
  have nA:(a.add (((i:Nat):Int).toNat*1)).block∉Ae (Value.slice rp ((l.take i).map λt=>[t]).length rc):=λhm=>by have:=(g3.lt hm).1;omega
  refine Sw ?_;refine CW.drawG (Chg (Ae (Value.slice rp ((l.take i).map λt=>[t]).length rc)) w4) 9 (λw' h=>h.chg) Aec λwa ab=>?_;refine Sg ?_;refine Bw ?_;refine Dm 6 λhS=>?_;refine CR λD1 w5 bc a0 a7=>?_;replace a7:Blk w5 D1 [Aq t] 9:=a7;have bd:=ab.size;have ax:=a0.size;have ay:=a7.lt;have hE:=hS.ext a0;clear hS;apply LW.nil;refine QW.headed hE ?_;refine Dm 7 λhS=>?_;refine CR λD2 w6 be a4 ac=>?_;replace ac:Blk w6 D2 [.slice (some ⟨D1,0,none⟩) 1 1] 47:=ac;have bf:=a4.size;have hE:=hE.ext a4;clear hS;apply LW.nil;refine QW.headed hE ?_;refine Dm 8 λhS=>?_;refine LW.append (lo:=w3.heap.size) (k:=((l.take i).map λt=>[t]).length) rfl rfl rfl rfl rfl rfl (((g3.ext ab).ext a0).ext a4) Aeb ac rfl rfl rfl (by rw[AbT,etk];show(i+1)*25≤140737488355328;omega) rfl ?_;intro v7 w7 a8 ao ad;have bg:=a8.size;have hE:=hE.same a8;clear hS;apply LW.nil;refine QW.headed hE ?_;refine GW.tail rfl Aec (λhS=>?_);have ae:=(ab.trans a0).trans a4;have ap:Chg (Ae (Value.slice rp ((l.take i).map λt=>[t]).length rc)) w4 w7:=hS;have aq:=al.chg ap nH;obtain⟨vp,vc,rfl⟩:=ao.slice;refine Sw ?_;refine Cu λw8 a9 aq=>?_;have af:=((a7.ext a4).chg a8 λhm=>by have:=(g3.lt hm).2;omega).chg a9 Aee;have az:Chg (H::Ae (Value.slice rp ((l.take i).map λt=>[t]).length rc)) w4 w8:=(Chg.trans ap a9).mono λb hb _=>by
   rcases Ab1.1 hb with hb | hb
   ·exact Ab5 _ hb
   ·simp only[Aah] at hb;subst hb;exact AbC ..
  refine Sw ?_;refine QW.again (i+1,.slice vp (((l.take i).map λt=>[t]).length+1) vc) ⟨by show i+1≤_;omega,?_,aq,?_,by show(l.take (i+1)).length=i+1;rw[an,Aa9,etk];rfl⟩ Bl (by show _ - (i+1)<_ - i;omega)
  ·refine(Chg.trans a5 az).mono λb hb bh=>?_;simp only[Ab1,Ab0,AbH,or_false] at hb ⊢;rcases hb with hb | hb | hb
   ·exact hb
   ·exact hb
   ·have:=(g3.lt hb).1;omega
  ·have hu:∀j,j∈R::H::Ae (Value.slice vp (((l.take i).map λt=>[t]).length+1) vc)→j∈R::H::Ae (Value.slice rp ((l.take i).map λt=>[t]).length rc)∨w6.heap.size≤j:=λj hj=>by
    simp only[Ab0] at hj ⊢;rcases hj with hj | hj | hj
    ·exact .inl (.inl hj)
    ·exact .inl (.inr (.inl hj))
    ·rcases ad j hj with h | h
     ·exact .inl (.inr (.inr h))
     ·exact .inr h
   show Vw _ _ _ _ ((l.take (i+1)).map λt=>[t]);rw[an,AbX];refine A0.snoc g1 g2 (ao.chg a9 λb hb hm=>?_) rfl (λk y ds hi hd=>((g4 k y ds hi hd).ext ae).step ?_ hu) λw' hw=>⟨_,rfl,?_⟩
   ·simp only[Aah] at hm;subst hm;rcases ad _ hb with h | h
    ·exact nH h
    ·omega
   ·exact(Chg.trans a8 a9).mono λb hb _=>by
     simp only[Ab1,Ab0,AbH,or_false] at hb ⊢;rcases hb with hb | hb
     ·exact .inr (.inr hb)
     ·exact .inr (.inl hb)
   ·exact FQ (l:=[t]) (af.chg hw (by
     simp only[Ab0,not_or];refine⟨by omega,by omega,λhm=>?_⟩;rcases ad _ hm with h | h
     ·have:=(g3.lt h).2;omega
     ·omega)) Aej (by simpa using av)
 ·have c1:i=l.length:=by simp at c1;omega
  subst c1;refine Sw ?_;refine CR λD w5 bi a0 hD=>?_;replace hD:Blk w5 D (Az ⟨[65],1,(l.take l.length).map λt=>[t]⟩ (.slice rp ((l.take l.length).map λt=>[t]).length rc)) 46:=hD;have ax:=a0.size;have ay:=hD.lt;replace a6:=a6.ext a0;refine Sw ?_;refine AF λw6 ag a6=>?_;have ar:=A0.ext' (R':=λ_ w cs s=>F4 (R::H::Ae (Value.slice rp ((l.take l.length).map λt=>[t]).length rc)) w λw'=>Aaa w' cs s) a2 a0 λ_ _ _ _ h=>h.ext a0;have b0:=SafO.step (U':=[]) ar ag (λj hj=>by simp only[Aah] at hj;subst hj;exact AbC ..) (λb hb hm=>by simp only[Aah] at hm;subst hm;have:=(A0.lt ar hb).1;omega) (λj hj=>by simp at hj);have ah:CS w6 (.slice rp ((l.take l.length).map λt=>[t]).length rc) ((l.take l.length).map λt=>[t]):=Ai.map (A0.list (ok:=Io) b0 Aee λ_ _ _=>trivial) (λ_ h=>h) λ_ _ _ _ h=>h.now;have b1:=hD.chg ag Aee;refine Sw ?_;refine QW.body_c rfl rfl a6 rfl rfl rfl ⟨_,rfl,?_,(a3.trans a0).step ag Aee⟩;have e:Fc l=[⟨[65],1,(l.take l.length).map λt=>[t]⟩]:=by rw[Fc,AbQ]
  rw[e];exact Bu.one (s:=⟨[65],1,(l.take l.length).map λt=>[t]⟩) b1 Aej ah
theorem Nd:Bs (Fc [[49],[50]]) (Fc [[49],[55]]) (Fc [[53],[49],[50]])=[Bd [65] ⟨[65],1,[[[49]],[[50]]]⟩ ⟨[65],1,[[[49]],[[55]]]⟩ ⟨[65],1,[[[53]],[[49]],[[50]]]⟩]:=by kernel_rfl
theorem IX{n:Nat}{t:List UInt8}(hn:n≤1000)(h:Lib.itoa (n:Int)=t):Ci t=true:=by
 rw[←h];exact Yk _ Aeb Aeb
theorem Abm:EL (Fc [[49],[50]]) (Fc [[49],[55]]) (Fc [[53],[49],[50]])=⟨Fc [[53],[49],[55]],[],0⟩:=by
 have c1:Ci [49]=true:=IX (n:=1) Aeb AeI;have c2:Ci [50]=true:=IX (n:=2) Aeb AeI;have c5:Ci [53]=true:=IX (n:=5) Aeb AeI;have c7:Ci [55]=true:=IX (n:=7) Aeb AeI;have m1:=Qs (l:=[[49],[50]]) Aej (by simp[c1,c2]);have m2:=Qs (l:=[[49],[55]]) Aej (by simp[c1,c7]);have m3:=Qs (l:=[[53],[49],[50]]) Aej (by simp[c1,c2,c5]);have s1:∀l,Ez (Fc [[49],[50]]) l=Fc [[49],[50]]:=λl=>Uh Aef;have s2:∀l,Ez (Fc [[49],[55]]) l=Fc [[49],[55]]:=λl=>Uh Aef;have s3:∀l,Ez (Fc [[53],[49],[50]]) l=Fc [[53],[49],[50]]:=λl=>Uh Aef;rw[EL,if_pos ⟨m1,m2,m3⟩,Nd,if_neg AeI,L1,Nd];rw[s1,s2,s3]
 change Hu.mk _ _ _=_
 kernel_rfl
theorem IW{w:World}{v:Value}(h:Xn w v []):∃p c,v=.slice p 0 c:=Ai.slice h
set_option maxRecDepth 8000 in
set_option maxHeartbeats 2000000 in
theorem EW(w:World)(g:Dq w):A9 prog 14 [] w (λv w'=>v=.bool true∧Ah w w'):=by
 refine AG func14 ntmps14 ?_;refine Sa ?_;refine CR λA w1 am a8 hA=>?_;replace hA:Blk w1 A (([[49],[50]]:List (List UInt8)).map Aq) 9:=hA;refine Sa ?_;refine Ap rfl rfl (H5 [[49],[50]] _ w1 (FQ hA Aef Aef) Aef) ?_;rintro v w2 ⟨v1,rfl,h1,a9⟩;have a4:=a8.trans a9;refine Sa ?_;refine CR λB w3 an aa hB=>?_;replace hB:Blk w3 B (([[49],[55]]:List (List UInt8)).map Aq) 9:=hB;refine Sa ?_;refine Ap rfl rfl (H5 [[49],[55]] _ w3 (FQ hB Aef Aef) Aef) ?_;rintro v w4 ⟨v2,rfl,h2,ab⟩;have a1:=aa.trans ab;have a5:=a4.trans a1;refine Sa ?_;refine CR λC w5 ao ac hC=>?_;replace hC:Blk w5 C (([[53],[49],[50]]:List (List UInt8)).map Aq) 9:=hC;refine Sa ?_;refine Ap rfl rfl (H5 [[53],[49],[50]] _ w5 (FQ hC Aef Aef) Aef) ?_;rintro v w6 ⟨v3,rfl,h3,ad⟩;have a0:=ac.trans ad;have a2:=a5.trans a0;have t:=IR (Fc [[49],[50]]) (Fc [[49],[55]]) (Fc [[53],[49],[50]]) v1 v2 v3 w6 (g.ext a2) (Ac.ext h1 (a1.trans a0)) (Ac.ext h2 a0) h3;rw[Abm] at t;refine Sa ?_;refine Ap rfl rfl t ?_;rintro v w7 ⟨ov,cv,rfl,hO,ae,af⟩;obtain⟨cp,cc,rfl⟩:=IW ae;obtain⟨op,oc,rfl⟩:=Ai.slice hO;refine Sa ?_;refine B1 λM w8 ap a6 hM=>?_;have aq:=a6.size;refine Sa ?_;refine AF λw9 ag hM=>?_;replace hM:Blk w9 M [.slice op (Fc [[53],[49],[55]]).length oc] 24:=hM;have a3:Ah w7 w9:=a6.step ag Aee;have ah:=Ac.ext hO a3;have a7:=(a2.trans af).trans a3;clear hA hB hC h1 h2 h3 t hO ae a8 a9 aa ab ac ad af a6 ag a4 a1 a5 a0 a2 a3;refine Sw ?_;refine CW.drawG (Ah w9) 14 (λw' h=>h) Aec λwa ar=>?_;refine Bw ?_;refine Dm 1 λhS=>?_;refine Ap rfl rfl (Mx 0 _) ?_;rintro v wb ⟨rfl,ai⟩;have hE:=hS.trans ai;clear hS;apply LW.nil;refine QW.headed hE ?_;refine Bw ?_;refine Dm 10 λhS=>?_;refine Sl ?_;refine CR λD wc au aj hD=>?_;replace hD:Blk wc D (([[53],[49],[55]]:List (List UInt8)).map Aq) 9:=hD;have hE:=hS.trans aj;clear hS;apply LW.nil;refine QW.headed hE ?_;refine Bw ?_;refine Dm 11 λhS=>?_;refine Sl ?_;refine Ap rfl rfl (H5 [[53],[49],[55]] _ wc (FQ hD Aef Aef) Aef) ?_;rintro v wd ⟨v4,rfl,h4,ak⟩
 have hE:=hS.trans ak;clear hS;apply LW.nil;refine QW.headed hE ?_;refine Bw ?_;refine Dm 12 λhS=>?_;refine Sl ?_;refine Ap rfl rfl (F5 _ _ _ _ wd (Ac.ext ah hS) h4) ?_;rintro v we ⟨rfl,al⟩;have hE:=hS.trans al;clear hS;apply LW.nil;refine QW.headed hE ?_;refine Bw ?_;refine GW.tail rfl Aec (λhS=>?_);refine Sw ?_;exact QW.body1 rfl rfl ⟨by simp,a7.trans hS⟩
def PK(b:Ao):Prop:=b.length≤10∧∀s∈b,s.rows.length≤60∧s.name.length≤100∧∀r∈s.rows,r.length≤60
theorem PK.book{b:Ao}(h:PK b):Xp b:=⟨by have:=h.1;omega,λs hs=>by
 obtain⟨h1,h2,h3⟩:=h.2 s hs;exact⟨by omega,by omega,λr hr=>by have:=h3 r hr;omega⟩⟩
set_option maxRecDepth 8000 in
set_option maxHeartbeats 8000000 in
theorem T5(b:Ao)(sv:Value)(w:World)(h:Cd w sv b):A9 prog 27 [.agg ⟨[sv]⟩] w (λv w'=>(∃g,v=.bool g∧(g=false→PK b))∧Ah w w'):=by
 obtain⟨p,c,rfl⟩:=Dg.slice h;have hl:=h.1;refine AG func27 ntmps27 ?_;refine Su ?_;refine C0 λA w1 am ac hA=>?_;replace hA:Blk w1 A [.slice p b.length c] 24:=hA;refine Su ?_;refine CW.cutB (ι:=Int) (λ_ w'=>Ah w1 w'∧(b.length≤10→∀s∈b,s.rows.length≤60∧s.name.length≤100∧∀r∈s.rows,r.length≤60)) (λz=>[(1,.pointer (some ⟨A,0,none⟩)),(3,.int .i64 z)]) ?_ ?_
 ·refine CW.loop (ι:=Nat×Int) (λx w'=>x.1≤20∧x.1≤b.length∧Ah w1 w'∧∀(j:Nat) s,j<x.1→b[j]?=some s→s.rows.length≤60∧s.name.length≤100∧∀r∈s.rows,r.length≤60) (λx=>[(1,.pointer (some ⟨A,0,none⟩)),(3,.int .i64 x.2),(4,.int .i64 (x.1:Int))]) (λx=>20 - x.1) (0,0) ⟨by omega,by omega,Chg.refl _ _,λj s h=>by omega⟩ Bp ?_;rintro⟨i,z⟩ w2 ⟨hi,ae,a1,a8⟩;dsimp only at hi ae a8;show CW _ _ _ _ _ [(1,.pointer (some ⟨A,0,none⟩)),(3,.int .i64 z),(4,.int .i64 (i:Int))] _;have ad:=hA.ext a1;refine Su ?_;refine B8 (λh1=>?_) λh1=>?_;rotate_left
  ·refine Su ?_;have h1:i=b.length:=by simp at h1;omega
   refine QW.head z ⟨a1,λ_ s hs=>?_⟩ DT;obtain⟨j,hj⟩:=Ac7 hs;exact a8 j s (by have:=(Abo.1 hj).1;omega) hj
  have h1:i<b.length:=by simp at h1;omega
  refine Su ?_;refine Av (λh2=>?_) λh2=>?_;rotate_left
  ·have h2:¬((i:Int)<20):=by simpa using h2
   refine Su ?_;exact QW.head z ⟨a1,λh=>by omega⟩ DT
  have h2:i<20:=by simp at h2;omega
  have a0:=ac.trans a1;obtain⟨s,hs⟩:∃s,b[i]?=some s:=⟨_,Aav h1⟩;obtain⟨a,q,k,rfl,an,hr,a4⟩:=Cd.at (Cd.ext h a0) hs;have af:=a4 2 _ rfl;have ao:=a4 0 _ rfl;have ap:=hr.1;refine Sw ?_;refine B8 (λh3=>?_) λh3=>?_
  ·refine Sw ?_;exact QW.body1 rfl rfl ⟨⟨_,rfl,λh=>by cases h⟩,a0⟩
  have h3:s.rows.length≤60:=by simp at h3;omega
  refine Sw ?_;refine Av (λh4=>?_) λh4=>?_
  ·refine Sw ?_;exact QW.body1 rfl rfl ⟨⟨_,rfl,λh=>by cases h⟩,a0⟩
  have h4:s.name.length≤100:=by simp at h4;omega
  refine Sw ?_;refine CW.loop (ι:=Nat×Int) (λx w'=>x.1≤s.rows.length∧Ah w2 w'∧∀(j:Nat) r,j<x.1→s.rows[j]?=some r→r.length≤60) (λx=>[(1,.pointer (some ⟨A,0,none⟩)),(3,.int .i64 x.2),(4,.int .i64 (i:Int)),(5,.int .i64 (x.1:Int))]) (λx=>s.rows.length - x.1) (0,z) ⟨by omega,Chg.refl _ _,λj r h=>by omega⟩ Bl ?_;rintro⟨r,y⟩ w3 ⟨ag,a5,a9⟩;dsimp only at ag a9;show CW _ _ _ _ _ [(1,.pointer (some ⟨A,0,none⟩)),(3,.int .i64 y),(4,.int .i64 (i:Int)),(5,.int .i64 (r:Int))] _;have ah:=ad.ext a5;have aa:=A2 a5 af;refine Sw ?_;refine Av (λh5=>?_) λh5=>?_;rotate_left
  ·have h5:r=s.rows.length:=by simp at h5;omega
   refine Sw ?_;refine QW.again (i+1,y) ⟨by show i+1≤20;omega,by show i+1≤b.length;omega,a1.trans a5,λj t hj ht=>?_⟩ Bp Afi;have hj:j<i+1:=hj;by_cases e:j=i
   ·subst e;rw[hs] at ht;obtain rfl:=Ab9 ht;refine⟨h3,h4,λr hr=>?_⟩;obtain⟨n,hn⟩:=Ac7 hr;exact a9 n r (by have:=(Abo.1 hn).1;omega) hn
   ·exact a8 j t Aeb ht
  have h5:r<s.rows.length:=by simp at h5;omega
  obtain⟨row,a7⟩:∃x,s.rows[r]?=some x:=⟨_,Aav h5⟩;obtain⟨a2,q2,k2,rfl,ht,ai⟩:=HP.at (HP.ext hr a5) a7;have aq:=ht.1;refine Sw ?_;refine Av (λh6=>?_) λh6=>?_
  ·refine Sw ?_;exact QW.body1 rfl rfl ⟨⟨_,rfl,λh=>by cases h⟩,a0.trans a5⟩
  have h6:row.length≤60:=by simp at h6;omega
  refine Sw ?_;refine CW.loop (ι:=Nat×Int) (λx w'=>x.1≤row.length∧Ah w3 w') (λx=>[(1,.pointer (some ⟨A,0,none⟩)),(3,.int .i64 x.2),(4,.int .i64 (i:Int)),(5,.int .i64 (r:Int)),(6,.int .i64 (x.1:Int))]) (λx=>row.length - x.1) (0,y) ⟨by omega,Chg.refl _ _⟩ CT ?_;rintro⟨m,x⟩ w4 ⟨hm,a6⟩;dsimp only at hm;show CW _ _ _ _ _ [(1,.pointer (some ⟨A,0,none⟩)),(3,.int .i64 x),(4,.int .i64 (i:Int)),(5,.int .i64 (r:Int)),(6,.int .i64 (m:Int))] _;have ar:=ah.ext a6;have aj:=A2 a6 aa;have ak:=A2 a6 ai;refine Sw ?_;refine Av (λh7=>?_) λh7=>?_;rotate_left
  ·have h7:m=row.length:=by simp at h7;omega
   refine Sw ?_;refine QW.again (r+1,x) ⟨by show r+1≤_;omega,a5.trans a6,λj t hj ht=>?_⟩ Bl (by show s.rows.length - (r+1)<s.rows.length - r;omega);have hj:j<r+1:=hj;by_cases e:j=r
   ·subst e;rw[a7] at ht;obtain rfl:=Ab9 ht;exact h6
   ·exact a9 j t Aeb ht
  have h7:m<row.length:=by simp at h7;omega
  obtain⟨tx,al⟩:∃x,row[m]?=some x:=⟨_,Aav h7⟩;obtain⟨a3,rfl,au,av⟩:=Hv.at (ht.ext a6) al;refine Sw ?_;refine LW.arith (op:=.add) rfl rfl rfl rfl rfl ?_;refine Sw ?_;refine LW.arith (op:=.add) rfl rfl rfl rfl rfl ?_;refine Sw ?_;exact QW.again (m+1,_) ⟨by show m+1≤_;omega,a6⟩ CT (by show row.length - (m+1)<row.length - m;omega)
 rintro z w2 ⟨a1,ab⟩;have ad:=hA.ext a1;have a0:=ac.trans a1;refine Su ?_;refine B8 (λh1=>?_) λh1=>?_
 ·refine Su ?_;exact QW.body1 rfl rfl ⟨⟨_,rfl,λh=>by cases h⟩,a0⟩
 have h1:b.length≤10:=by simp at h1;omega
 refine Su ?_;exact QW.body1 rfl rfl ⟨⟨_,rfl,λ_=>⟨h1,ab h1⟩⟩,a0⟩
set_option maxRecDepth 8000 in
set_option maxHeartbeats 8000000 in
theorem OI(b:Ao)(sv:Value)(w:World)(h:Cd w sv b):A9 prog 13 [.agg ⟨[sv]⟩] w (λv w'=>(∃g,v=.bool g∧(g=false→PK b))∧Ah w w'):=by
 obtain⟨p,c,rfl⟩:=Dg.slice h;have hl:=h.1;refine AG func13 ntmps13 ?_;refine Su ?_;refine C0 λA w1 ab a6 hA=>?_;replace hA:Blk w1 A [.slice p b.length c] 24:=hA;refine Su ?_;refine CW.cutB (ι:=Int) (λ_ w'=>Ah w1 w') (λz=>[(1,.pointer (some ⟨A,0,none⟩)),(3,.int .i64 z)]) ?_ ?_
 ·refine CW.loop (ι:=Nat×Int) (λx w'=>x.1≤20∧Ah w1 w') (λx=>[(1,.pointer (some ⟨A,0,none⟩)),(3,.int .i64 x.2),(4,.int .i64 (x.1:Int))]) (λx=>20 - x.1) (0,0) ⟨by omega,Chg.refl _ _⟩ Bp ?_;rintro⟨i,z⟩ w2 ⟨hi,a1⟩;dsimp only at hi;show CW _ _ _ _ _ [(1,.pointer (some ⟨A,0,none⟩)),(3,.int .i64 z),(4,.int .i64 (i:Int))] _;have a7:=hA.ext a1;refine Su ?_;refine B8 (λh1=>?_) λh1=>?_;rotate_left
  ·refine Su ?_;exact QW.head z a1 DT
  have h1:i<b.length:=by simp at h1;omega
  refine Su ?_;refine Av (λh2=>?_) λh2=>?_;rotate_left
  ·refine Su ?_;exact QW.head z a1 DT
  have h2:i<20:=by simp at h2;omega
  have a0:=a6.trans a1;obtain⟨s,hs⟩:∃s,b[i]?=some s:=⟨_,Aav h1⟩;obtain⟨a,q,k,rfl,ac,hr,a4⟩:=Cd.at (Cd.ext h a0) hs;have a8:=a4 2 _ rfl;have ad:=hr.1;refine Su ?_;refine CW.loop (ι:=Nat×Int) (λx w'=>x.1≤60∧Ah w2 w') (λx=>[(1,.pointer (some ⟨A,0,none⟩)),(3,.int .i64 x.2),(4,.int .i64 (i:Int)),(5,.int .i64 (x.1:Int))]) (λx=>60 - x.1) (0,z) ⟨by omega,Chg.refl _ _⟩ Bl ?_;rintro⟨r,y⟩ w3 ⟨a9,a3⟩;dsimp only at a9;show CW _ _ _ _ _ [(1,.pointer (some ⟨A,0,none⟩)),(3,.int .i64 y),(4,.int .i64 (i:Int)),(5,.int .i64 (r:Int))] _;have ae:=a7.ext a3;have aa:=A2 a3 a8;refine Sw ?_;refine B8 (λh3=>?_) λh3=>?_;rotate_left
  ·refine Sw ?_;exact QW.again (i+1,y) ⟨by show i+1≤20;omega,a1.trans a3⟩ Bp Afi
  have h3:r<s.rows.length:=by simp at h3;omega
  refine Sw ?_;refine Av (λh4=>?_) λh4=>?_;rotate_left
  ·refine Sw ?_;exact QW.again (i+1,y) ⟨by show i+1≤20;omega,a1.trans a3⟩ Bp Afi
  have h4:r<60:=by simp at h4;omega
  obtain⟨row,a5⟩:∃x,s.rows[r]?=some x:=⟨_,Aav h3⟩;obtain⟨a2,q2,k2,rfl,ht,af⟩:=HP.at (HP.ext hr a3) a5;have ag:=ht.1;refine Sw ?_;refine LW.arith (op:=.add) rfl rfl rfl rfl rfl ?_;refine Sw ?_;exact QW.again (r+1,_) ⟨by show r+1≤60;omega,a3⟩ Bl (by show 60 - (r+1)<60 - r;omega)
 rintro z w2 a1;have a7:=hA.ext a1;have a0:=a6.trans a1;refine Su ?_;refine Ap rfl rfl (T5 b _ _ (Cd.ext h a0)) ?_;rintro v w3 ⟨⟨g,rfl,hg⟩,a3⟩
 cases g with
 | true=>
  refine Su ?_
  exact QW.body1 rfl rfl ⟨⟨_,rfl,λh=>by cases h⟩,a0.trans a3⟩
 | false=>
  refine Su ?_;exact QW.body1 rfl rfl ⟨⟨_,rfl,λ_=>hg rfl⟩,a0.trans a3⟩
set_option maxRecDepth 8000 in
set_option maxHeartbeats 4000000 in
theorem PM(a b:Ao)(va vb:Value)(w:World)(g:Dq w)(ha:Cd w va a)(hb:Cd w vb b):A9 prog 6 [.agg ⟨[va]⟩,.agg ⟨[vb]⟩] w (λv w'=>v=.bool true∧Ah w w'):=by
 obtain⟨pa,ca,rfl⟩:=Dg.slice ha;obtain⟨pb,cb,rfl⟩:=Dg.slice hb;refine AG func6 ntmps6 ?_;refine Sa ?_;refine C0 λA w1 bm au hA=>?_;replace hA:Blk w1 A [.slice pa a.length ca] 24:=hA;refine Sa ?_;refine C0 λB w2 bn aq hB=>?_;replace hB:Blk w2 B [.slice pb b.length cb] 24:=hB;replace hA:=hA.ext aq;have ag:=au.trans aq;refine Sa ?_;refine Ap rfl rfl (OI a _ w2 (Cd.ext ha ag)) ?_;rintro v w3 ⟨⟨g0,rfl,b7⟩,ah⟩;replace hA:=hA.ext ah;replace hB:=hB.ext ah;have ac:=ag.trans ah
 cases g0 with
 | true=>
  refine Sa ?_;refine Ap rfl rfl (EW _ (g.ext (ac))) ?_;rintro v wz ⟨rfl,ae⟩;refine Sa ?_
  exact QW.body1 rfl rfl ⟨rfl,(ac).trans ae⟩
 | false=>
 have b8:=b7 rfl;refine Sa ?_;refine Ap rfl rfl (OI b _ w3 (Cd.ext hb ac)) ?_;rintro v w4 ⟨⟨g1,rfl,b9⟩,b0⟩;replace hA:=hA.ext b0;replace hB:=hB.ext b0;have a6:=ac.trans b0
 cases g1 with
 | true=>
  refine Sa ?_;refine Ap rfl rfl (EW _ (g.ext (a6))) ?_;rintro v wz ⟨rfl,ae⟩;refine Sa ?_
  exact QW.body1 rfl rfl ⟨rfl,(a6).trans ae⟩
 | false=>
 have ba:=b9 rfl;have la:=ha.loose b8.book;have lb:=hb.loose ba.book;refine Sa ?_;have m1:=J7 a _ w4 (C6.ext la a6)
 cases e1:Ay a with
 | false=>
  rw[e1] at m1;refine Ap rfl rfl m1 ?_;rintro v w5 ⟨rfl,ai⟩;refine Sa ?_;refine Ap rfl rfl (EW _ (g.ext (a6.trans ai))) ?_;rintro v wz ⟨rfl,ae⟩;refine Sa ?_
  exact QW.body1 rfl rfl ⟨rfl,(a6.trans ai).trans ae⟩
 | true=>
 rw[e1] at m1;refine Ap rfl rfl m1 ?_;rintro v w5 ⟨rfl,ai⟩;replace hA:=hA.ext ai;replace hB:=hB.ext ai;have ad:=a6.trans ai;refine Sa ?_;have m2:=J7 b _ w5 (C6.ext lb ad)
 cases e2:Ay b with
 | false=>
  rw[e2] at m2;refine Ap rfl rfl m2 ?_;rintro v w6 ⟨rfl,aj⟩;refine Sa ?_;refine Ap rfl rfl (EW _ (g.ext (ad.trans aj))) ?_;rintro v wz ⟨rfl,ae⟩;refine Sa ?_
  exact QW.body1 rfl rfl ⟨rfl,(ad.trans aj).trans ae⟩
 | true=>
 rw[e2] at m2;refine Ap rfl rfl m2 ?_;rintro v w6 ⟨rfl,aj⟩;replace hA:=hA.ext aj;replace hB:=hB.ext aj;have a8:=ad.trans aj;have ra:=la.strict e1;have rb:=lb.strict e2;clear m1 m2 la lb ha hb b8 ba b7 b9 au aq ag ah ac b0 a6 ai ad aj;have t1:=IR a b a _ _ _ w6 (g.ext a8) (Ac.ext ra a8) (Ac.ext rb a8) (Ac.ext ra a8);rw[Uf e1 e2] at t1;refine Sa ?_;refine Ap rfl rfl t1 ?_;rintro v w7 ⟨ov1,cv1,rfl,a3,bb,au⟩;obtain⟨cp1,cc1,rfl⟩:=IW bb;obtain⟨op1,oc1,rfl⟩:=Ai.slice a3;refine Sa ?_;refine B1 λM1 w8 be ak a0=>?_;have bf:=ak.size;refine Sa ?_;refine AF λw9 av a0=>?_;replace a0:Blk w9 M1 [.slice op1 b.length oc1] 24:=a0;have al:Ah w7 w9:=ak.step av Aee;have af:Ah w6 w9:=au.trans al;have a9:Ah w w9:=a8.trans af;replace hA:=hA.ext af;replace hB:=hB.ext af;have t2:=IR a a b _ _ _ w9 (g.ext a9) (Ac.ext ra a9) (Ac.ext ra a9) (Ac.ext rb a9);rw[RH e1 e2] at t2;refine Sa ?_;refine Ap rfl rfl t2 ?_;rintro v bg ⟨ov2,cv2,rfl,a4,bc,aq⟩;obtain⟨cp2,cc2,rfl⟩:=IW bc;obtain⟨op2,oc2,rfl⟩:=Ai.slice a4;refine Sa ?_;refine B1 λM2 bo bh am a1=>?_;have bi:=am.size;refine Sa ?_;refine AF λar aw a1=>?_;replace a1:Blk ar M2 [.slice op2 b.length oc2] 24:=a1;have an:Ah bg ar:=am.step aw Aee;have aa:Ah w9 ar:=aq.trans an;have ab:Ah w ar:=a9.trans aa;replace hA:=hA.ext aa;replace hB:=hB.ext aa;replace a0:=a0.ext aa;have t3:=IR a b b _ _ _ ar (g.ext ab) (Ac.ext ra ab) (Ac.ext rb ab) (Ac.ext rb ab);rw[Ue e1 e2] at t3;refine Sa ?_;refine Ap rfl rfl t3 ?_;rintro v bj ⟨ov3,cv3,rfl,a5,bd,ah⟩;obtain⟨cp3,cc3,rfl⟩:=IW bd;obtain⟨op3,oc3,rfl⟩:=Ai.slice a5;refine Sa ?_;refine B1 λM3 bp bk ao a7=>?_;have bl:=ao.size;refine Sa ?_;refine AF λb1 ax a7=>?_;replace a7:Blk b1 M3 [.slice op3 b.length oc3] 24:=a7;have ap:Ah bj b1:=ao.step ax Aee;have a2:Ah ar b1:=ah.trans ap;have ay:Ah w b1:=ab.trans a2;replace hA:=hA.ext a2;replace hB:=hB.ext a2;replace a0:=a0.ext a2;replace a1:=a1.ext a2;have rb9:=Ac.ext rb ay
 replace a3:=Ac.ext (Ac.ext (Ac.ext a3 al) aa) a2;replace a4:=Ac.ext (Ac.ext a4 an) a2;replace a5:=Ac.ext a5 ap;clear t1 t2 t3 a8 a9 ab af aa a2 al an ap au aq ah bb bc bd ra rb ak am ao av aw ax;refine Sa ?_;refine Ap rfl rfl (Mx 0 _) ?_;rintro v bq ⟨rfl,hy⟩;have b2:=ay.trans hy;replace hA:=hA.ext hy;replace hB:=hB.ext hy;replace a0:=a0.ext hy;replace a1:=a1.ext hy;replace a7:=a7.ext hy;replace a3:=Ac.ext a3 hy;replace a4:=Ac.ext a4 hy;replace a5:=Ac.ext a5 hy;replace rb9:=Ac.ext rb9 hy;refine Sa ?_;refine Ap rfl rfl (F5 _ _ _ _ _ a3 rb9) ?_;rintro v br ⟨rfl,hy⟩;rw[decide_eq_true (rfl:b=b)];have b3:=b2.trans hy;replace hA:=hA.ext hy;replace hB:=hB.ext hy;replace a0:=a0.ext hy;replace a1:=a1.ext hy;replace a7:=a7.ext hy;replace a3:=Ac.ext a3 hy;replace a4:=Ac.ext a4 hy;replace a5:=Ac.ext a5 hy;replace rb9:=Ac.ext rb9 hy;refine Sa ?_;refine Ap rfl rfl (Mx 0 _) ?_;rintro v bs ⟨rfl,hy⟩;have b4:=b3.trans hy;replace hA:=hA.ext hy;replace hB:=hB.ext hy;replace a0:=a0.ext hy;replace a1:=a1.ext hy;replace a7:=a7.ext hy;replace a3:=Ac.ext a3 hy;replace a4:=Ac.ext a4 hy;replace a5:=Ac.ext a5 hy;replace rb9:=Ac.ext rb9 hy;refine Sa ?_;refine Ap rfl rfl (F5 _ _ _ _ _ a4 rb9) ?_;rintro v bt ⟨rfl,hy⟩;rw[decide_eq_true (rfl:b=b)];have b5:=b4.trans hy;replace hA:=hA.ext hy;replace hB:=hB.ext hy;replace a0:=a0.ext hy;replace a1:=a1.ext hy;replace a7:=a7.ext hy;replace a3:=Ac.ext a3 hy;replace a4:=Ac.ext a4 hy;replace a5:=Ac.ext a5 hy;replace rb9:=Ac.ext rb9 hy;refine Sa ?_;refine Ap rfl rfl (Mx 0 _) ?_;rintro v bu ⟨rfl,hy⟩;have b6:=b5.trans hy;replace hA:=hA.ext hy;replace hB:=hB.ext hy;replace a0:=a0.ext hy;replace a1:=a1.ext hy;replace a7:=a7.ext hy;replace a3:=Ac.ext a3 hy;replace a4:=Ac.ext a4 hy;replace a5:=Ac.ext a5 hy;replace rb9:=Ac.ext rb9 hy;refine Sa ?_;refine Ap rfl rfl (F5 _ _ _ _ _ a5 rb9) ?_;rintro v bv ⟨rfl,hy⟩;rw[decide_eq_true (rfl:b=b)];have az:=b6.trans hy;replace hA:=hA.ext hy;replace hB:=hB.ext hy;replace a0:=a0.ext hy
 replace a1:=a1.ext hy;replace a7:=a7.ext hy;replace a3:=Ac.ext a3 hy;replace a4:=Ac.ext a4 hy;replace a5:=Ac.ext a5 hy;replace rb9:=Ac.ext rb9 hy;refine Sa ?_;refine Ap rfl rfl (EW _ (g.ext (az))) ?_;rintro v wz ⟨rfl,ae⟩;refine Sa ?_;exact QW.body1 rfl rfl ⟨rfl,(az).trans ae⟩
end Go.Proofs.YtcjjcnecopnpcaaGreatDoor
