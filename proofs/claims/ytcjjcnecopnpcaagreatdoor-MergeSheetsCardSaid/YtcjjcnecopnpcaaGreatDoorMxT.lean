/-
  Joined by program out of the texts OneD Law20 Ex20 Law20A.
-/
import Derived.Test.YtcjjcnecopnpcaaGreatDoorMxM
import Derived.Test.YtcjjcnecopnpcaaGreatDoorMxS
import Derived.Test.YtcjjcnecopnpcaaGreatDoorMxB
import Derived.Test.YtcjjcnecopnpcaaGreatDoorMxK
namespace Go.Proofs.YtcjjcnecopnpcaaGreatDoor
open Tryz
open Go Go.E
def E2(l:List (List UInt8)):An:=[⟨[65],1,l.map λt=>[t]⟩]
theorem P3{l:List (List UInt8)}(hl:l.length≤24)(h:∀t∈l,BN t=true):Av (E2 l)=true:=by
 refine Bm.2 ⟨by simp[E2],λs hs=>?_,by simp[E2]⟩;rw[Aad.1 hs];refine AZ.2 ⟨by show Do [65]=true;decide,by show(0:Int)≤1;decide,by show(1:Int)≤12;decide,by simpa using hl,λr hr=>?_⟩;obtain⟨t,ht,rfl⟩:=AbE.1 hr;exact⟨rfl,λu hu=>by rw[Aad.1 hu];exact h t ht⟩
theorem Tk{ss:List Bg}{l:List (List UInt8)}(h:∀t∈l,Aj t 0≠61):BU ss (E2 l)=E2 l:=by
 show[KL ss _]=_;unfold E2 KL
 congr 2
 rw[AbV];refine Ab0 λt ht=>?_;show Jh _ ss [t]=[t];unfold Jh;rw[AbK,Acm,DH (.inr (.inl (h t ht)))]
set_option maxRecDepth 8000 in
set_option maxHeartbeats 2000000 in
theorem F8(l:List (List UInt8))(v:Value)(w:World)(h:Ce w v l)(hl:l.length≤1000):AF prog 25 [v] w (λr w'=>∃sv,r=.agg ⟨[sv]⟩∧AA w' sv (E2 l)∧Ai w w'):=by
 obtain⟨p,c,rfl⟩:=h.slice;have b2:=h.2;refine Bj func25 ntmps25 ?_;refine Sa ?_;refine Bo λR w1 b3 ai hR=>?_;have b4:=ai.size;have b5:=hR.lt;refine Sa ?_;refine Bo λH w2 b6 aj hH=>?_;have b7:=aj.size;have b8:=hH.lt;refine Sa ?_;refine AD λw3 ak hH=>?_;replace hH:Blk w3 H [Ao [65],.int .i64 1,.slice none 0 0] 46:=hH;have a1:Ai w1 w3:=aj.step ak AdG;have b9:=ak.size;have au:=hR.ext a1;have aa:=ai.trans a1;refine Sw ?_;refine CW.loop (ι:=Nat×Value) (λx w'=>x.1≤l.length∧Chg [H] w3 w'∧Blk w' H [Ao [65],.int .i64 1,x.2] 46∧Qp (R::H::Ac x.2) w3.heap.size w' x.2 ((l.take x.1).map λt=>[t])∧(l.take x.1).length=x.1) (λx=>[(0,.slice p l.length c),(2,.pointer (some ⟨R,0,none⟩)),(3,.pointer (some ⟨H,0,none⟩)),(4,.int .i64 (x.1:Int))]) (λx=>l.length - x.1) (0,.slice none 0 0) ⟨by omega,Chg.refl _ _,hH,Aq.nil,rfl⟩ Bx ?_;rintro⟨i,rv⟩ w4 ⟨hi,a5,al,a2,etk⟩;dsimp only at hi al a2 etk;show CW _ _ _ _ _ [(0,.slice p l.length c),(2,.pointer (some ⟨R,0,none⟩)),(3,.pointer (some ⟨H,0,none⟩)),(4,.int .i64 (i:Int))] _;obtain⟨rp,rc,rfl⟩:=Aq.slice a2;have ba:=a5.size;have a3:Ai w w4:=aa.step a5 AdG;have a6:=au.chg a5 AdG;refine Sw ?_;refine A8 (λc1=>?_) λc1=>?_
 ·have c1:i<l.length:=by simp at c1;omega
  obtain⟨t,ht⟩:∃t,l[i]?=some t:=⟨_,Aap c1⟩;obtain⟨a,rfl,-,av,am⟩:=A2.at h ht;have bb:=AbO w _ am;have aw:=A0 a3 am;have nH:H∉Ac (Value.slice rp ((l.take i).map λt=>[t]).length rc):=λhm=>by have:=(Aq.lt a2 hm).1;omega
  obtain⟨css,g1,g2,g3,g4⟩:=a2;have an:l.take (i+1)=l.take i++[t]:=by rw[Ab7,ht];rfl
  have nA:(a.add (((i:Nat):Int).toNat*1)).block∉Ac (Value.slice rp ((l.take i).map λt=>[t]).length rc):=λhm=>by have:=(g3.lt hm).1;omega
  refine Sw ?_;refine CW.drawG (Chg (Ac (Value.slice rp ((l.take i).map λt=>[t]).length rc)) w4) 9 (λw' h=>h.chg) AdF λwa ab=>?_;refine Sg ?_;refine AJ ?_;refine BE 6 λhS=>?_;refine Dt λD1 w5 bc a0 a7=>?_;replace a7:Blk w5 D1 [Ao t] 9:=a7;have bd:=ab.size;have ax:=a0.size;have ay:=a7.lt;have hE:=hS.ext a0;clear hS;apply LW.nil;refine QW.headed hE ?_;refine BE 7 λhS=>?_;refine Dt λD2 w6 be a4 ac=>?_;replace ac:Blk w6 D2 [.slice (some ⟨D1,0,none⟩) 1 1] 47:=ac;have bf:=a4.size;have hE:=hE.ext a4;clear hS;apply LW.nil;refine QW.headed hE ?_;refine BE 8 λhS=>?_;refine LW.append (lo:=w3.heap.size) (k:=((l.take i).map λt=>[t]).length) rfl rfl rfl rfl rfl rfl (((g3.ext ab).ext a0).ext a4) AdE ac rfl rfl rfl (by rw[AbA,etk];show(i+1)*25≤140737488355328;omega) rfl ?_;intro v7 w7 a8 ao ad;have bg:=a8.size;have hE:=hE.same a8;clear hS;apply LW.nil;refine QW.headed hE ?_;refine GW.tail rfl AdF (λhS=>?_);have ae:=(ab.trans a0).trans a4;have ap:Chg (Ac (Value.slice rp ((l.take i).map λt=>[t]).length rc)) w4 w7:=hS;have aq:=al.chg ap nH;obtain⟨vp,vc,rfl⟩:=ao.slice;refine Sw ?_;refine CR λw8 a9 aq=>?_;have af:=((a7.ext a4).chg a8 λhm=>by have:=(g3.lt hm).2;omega).chg a9 AdG;have az:Chg (H::Ac (Value.slice rp ((l.take i).map λt=>[t]).length rc)) w4 w8:=(Chg.trans ap a9).mono λb hb _=>by
   rcases Abf.1 hb with hb | hb
   ·exact Abj _ hb
   ·simp only[Aad] at hb;subst hb;exact Abo ..
  refine Sw ?_;refine QW.again (i+1,.slice vp (((l.take i).map λt=>[t]).length+1) vc) ⟨by show i+1≤_;omega,?_,aq,?_,by show(l.take (i+1)).length=i+1;rw[an,Aaq,etk];rfl⟩ Bx (by show _ - (i+1)<_ - i;omega)
  ·refine(Chg.trans a5 az).mono λb hb bh=>?_;simp only[Abf,AaT,Abu,or_false] at hb ⊢;rcases hb with hb | hb | hb
   ·exact hb
   ·exact hb
   ·have:=(g3.lt hb).1;omega
  ·have hu:∀j,j∈R::H::Ac (Value.slice vp (((l.take i).map λt=>[t]).length+1) vc)→j∈R::H::Ac (Value.slice rp ((l.take i).map λt=>[t]).length rc)∨w6.heap.size≤j:=λj hj=>by
    simp only[AaT] at hj ⊢;rcases hj with hj | hj | hj
    ·exact .inl (.inl hj)
    ·exact .inl (.inr (.inl hj))
    ·rcases ad j hj with h | h
     ·exact .inl (.inr (.inr h))
     ·exact .inr h
   show Qp _ _ _ _ ((l.take (i+1)).map λt=>[t]);rw[an,AbG];refine Aq.snoc g1 g2 (ao.chg a9 λb hb hm=>?_) rfl (λk y ds hi hd=>((g4 k y ds hi hd).ext ae).step ?_ hu) λw' hw=>⟨_,rfl,?_⟩
   ·simp only[Aad] at hm;subst hm;rcases ad _ hb with h | h
    ·exact nH h
    ·omega
   ·exact(Chg.trans a8 a9).mono λb hb _=>by
     simp only[Abf,AaT,Abu,or_false] at hb ⊢;rcases hb with hb | hb
     ·exact .inr (.inr hb)
     ·exact .inr (.inl hb)
   ·exact DQ (l:=[t]) (af.chg hw (by
     simp only[AaT,not_or];refine⟨by omega,by omega,λhm=>?_⟩;rcases ad _ hm with h | h
     ·have:=(g3.lt h).2;omega
     ·omega)) AdM (by simpa using av)
 ·have c1:i=l.length:=by simp at c1;omega
  subst c1;refine Sw ?_;refine Dt λD w5 bi a0 hD=>?_;replace hD:Blk w5 D (Am ⟨[65],1,(l.take l.length).map λt=>[t]⟩ (.slice rp ((l.take l.length).map λt=>[t]).length rc)) 46:=hD;have ax:=a0.size;have ay:=hD.lt;replace a6:=a6.ext a0;refine Sw ?_;refine AD λw6 ag a6=>?_;have ar:=Aq.ext' (R':=λ_ w cs s=>ET (R::H::Ac (Value.slice rp ((l.take l.length).map λt=>[t]).length rc)) w λw'=>Ye w' cs s) a2 a0 λ_ _ _ _ h=>h.ext a0;have b0:=SafO.step (U':=[]) ar ag (λj hj=>by simp only[Aad] at hj;subst hj;exact Abo ..) (λb hb hm=>by simp only[Aad] at hm;subst hm;have:=(Aq.lt ar hb).1;omega) (λj hj=>by simp at hj);have ah:BA w6 (.slice rp ((l.take l.length).map λt=>[t]).length rc) ((l.take l.length).map λt=>[t]):=Ab.map (Aq.list (ok:=HC) b0 AdG λ_ _ _=>trivial) (λ_ h=>h) λ_ _ _ _ h=>h.now;have b1:=hD.chg ag AdG;refine Sw ?_;refine QW.body_c rfl rfl a6 rfl rfl rfl ⟨_,rfl,?_,(a3.trans a0).step ag AdG⟩;have e:E2 l=[⟨[65],1,(l.take l.length).map λt=>[t]⟩]:=by rw[E2,AbH]
  rw[e];exact AA.one (s:=⟨[65],1,(l.take l.length).map λt=>[t]⟩) b1 AdM ah
theorem M0:AN (E2 [[49],[50]]) (E2 [[49],[55]]) (E2 [[53],[49],[50]])=[AQ [65] ⟨[65],1,[[[49]],[[50]]]⟩ ⟨[65],1,[[[49]],[[55]]]⟩ ⟨[65],1,[[[53]],[[49]],[[50]]]⟩]:=by kernel_rfl
theorem Ix{n:Nat}{t:List UInt8}(hn:n≤1000)(h:Lib.itoa (n:Int)=t):BN t=true:=by
 rw[←h];exact MN _ AdE AdE
theorem AaS:Cs (E2 [[49],[50]]) (E2 [[49],[55]]) (E2 [[53],[49],[50]])=⟨E2 [[53],[49],[55]],[],0⟩:=by
 have c1:BN [49]=true:=Ix (n:=1) AdE Aee;have c2:BN [50]=true:=Ix (n:=2) AdE Aee;have c5:BN [53]=true:=Ix (n:=5) AdE Aee;have c7:BN [55]=true:=Ix (n:=7) AdE Aee;have m1:=P3 (l:=[[49],[50]]) AdM (by simp[c1,c2]);have m2:=P3 (l:=[[49],[55]]) AdM (by simp[c1,c7]);have m3:=P3 (l:=[[53],[49],[50]]) AdM (by simp[c1,c2,c5]);have s1:∀l,C5 (E2 [[49],[50]]) l=E2 [[49],[50]]:=λl=>Tk AdH;have s2:∀l,C5 (E2 [[49],[55]]) l=E2 [[49],[55]]:=λl=>Tk AdH;have s3:∀l,C5 (E2 [[53],[49],[50]]) l=E2 [[53],[49],[50]]:=λl=>Tk AdH;rw[Cs,if_pos ⟨m1,m2,m3⟩,M0,if_neg Aee,Gi,M0];rw[s1,s2,s3]
 change GJ.mk _ _ _=_
 kernel_rfl
theorem K5{w:World}{v:Value}(h:IX w v []):∃p c,v=.slice p 0 c:=Ab.slice h
set_option maxRecDepth 8000 in
set_option maxHeartbeats 2000000 in
theorem Ls(w:World)(g:CQ w):AF prog 14 [] w (λv w'=>v=.bool true∧Ai w w'):=by
 refine Bj func14 ntmps14 ?_;refine Sa ?_;refine Dt λA w1 am a8 hA=>?_;replace hA:Blk w1 A (([[49],[50]]:List (List UInt8)).map Ao) 9:=hA;refine Sa ?_;refine Ay rfl rfl (F8 [[49],[50]] _ w1 (DQ hA AdH AdH) AdH) ?_;rintro v w2 ⟨v1,rfl,h1,a9⟩;have a4:=a8.trans a9;refine Sa ?_;refine Dt λB w3 an aa hB=>?_;replace hB:Blk w3 B (([[49],[55]]:List (List UInt8)).map Ao) 9:=hB;refine Sa ?_;refine Ay rfl rfl (F8 [[49],[55]] _ w3 (DQ hB AdH AdH) AdH) ?_;rintro v w4 ⟨v2,rfl,h2,ab⟩;have a1:=aa.trans ab;have a5:=a4.trans a1;refine Sa ?_;refine Dt λC w5 ao ac hC=>?_;replace hC:Blk w5 C (([[53],[49],[50]]:List (List UInt8)).map Ao) 9:=hC;refine Sa ?_;refine Ay rfl rfl (F8 [[53],[49],[50]] _ w5 (DQ hC AdH AdH) AdH) ?_;rintro v w6 ⟨v3,rfl,h3,ad⟩;have a0:=ac.trans ad;have a2:=a5.trans a0;have t:=K1 (E2 [[49],[50]]) (E2 [[49],[55]]) (E2 [[53],[49],[50]]) v1 v2 v3 w6 (g.ext a2) (Aa.ext h1 (a1.trans a0)) (Aa.ext h2 a0) h3;rw[AaS] at t;refine Sa ?_;refine Ay rfl rfl t ?_;rintro v w7 ⟨ov,cv,rfl,hO,ae,af⟩;obtain⟨cp,cc,rfl⟩:=K5 ae;obtain⟨op,oc,rfl⟩:=Ab.slice hO;refine Sa ?_;refine Bo λM w8 ap a6 hM=>?_;have aq:=a6.size;refine Sa ?_;refine AD λw9 ag hM=>?_;replace hM:Blk w9 M [.slice op (E2 [[53],[49],[55]]).length oc] 24:=hM;have a3:Ai w7 w9:=a6.step ag AdG;have ah:=Aa.ext hO a3;have a7:=(a2.trans af).trans a3;clear hA hB hC h1 h2 h3 t hO ae a8 a9 aa ab ac ad af a6 ag a4 a1 a5 a0 a2 a3;refine Sw ?_;refine CW.drawG (Ai w9) 14 (λw' h=>h) AdF λwa ar=>?_;refine AJ ?_;refine BE 1 λhS=>?_;refine Ay rfl rfl (Pf 0 _) ?_;rintro v wb ⟨rfl,ai⟩;have hE:=hS.trans ai;clear hS;apply LW.nil;refine QW.headed hE ?_;refine AJ ?_;refine BE 10 λhS=>?_;refine Sl ?_;refine Dt λD wc au aj hD=>?_;replace hD:Blk wc D (([[53],[49],[55]]:List (List UInt8)).map Ao) 9:=hD;have hE:=hS.trans aj;clear hS;apply LW.nil;refine QW.headed hE ?_;refine AJ ?_;refine BE 11 λhS=>?_;refine Sl ?_;refine Ay rfl rfl (F8 [[53],[49],[55]] _ wc (DQ hD AdH AdH) AdH) ?_;rintro v wd ⟨v4,rfl,h4,ak⟩
 have hE:=hS.trans ak;clear hS;apply LW.nil;refine QW.headed hE ?_;refine AJ ?_;refine BE 12 λhS=>?_;refine Sl ?_;refine Ay rfl rfl (JD _ _ _ _ wd (Aa.ext ah hS) h4) ?_;rintro v we ⟨rfl,al⟩;have hE:=hS.trans al;clear hS;apply LW.nil;refine QW.headed hE ?_;refine AJ ?_;refine GW.tail rfl AdF (λhS=>?_);refine Sw ?_;exact QW.body1 rfl rfl ⟨by simp,a7.trans hS⟩
end Go.Proofs.YtcjjcnecopnpcaaGreatDoor
