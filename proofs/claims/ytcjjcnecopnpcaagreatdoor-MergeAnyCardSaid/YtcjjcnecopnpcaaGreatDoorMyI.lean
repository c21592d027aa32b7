/-
  Joined by program out of the texts MapI MapS MovP MovT MovM Mov1 Mov2 Mov4 Mov5 Made Mov3 Mov6 MadeF Mov7 MovK MovS MovZ.
-/
import Derived.Test.YtcjjcnecopnpcaaGreatDoorMyD
import Derived.Test.YtcjjcnecopnpcaaGreatDoorMyE
import Derived.Test.YtcjjcnecopnpcaaGreatDoorMyC
import Derived.Test.YtcjjcnecopnpcaaGreatDoorMyG
import Derived.Test.YtcjjcnecopnpcaaGreatDoorMyH
import Derived.Test.YtcjjcnecopnpcaaGreatDoorMyF
import Derived.Test.YtcjjcnecopnpcaaGreatDoorMyB
namespace Go.Proofs.YtcjjcnecopnpcaaGreatDoor
open Tryz
open Go Go.E
structure AN where
 to:List Int
 new:Int
def QK(w:World)(vs:List Value)(m:AN):Prop:=∃tv,vs=[tv,.int .i64 m.new]∧AP w tv m.to
theorem QK.ext{w w':World}{vs:List Value}{m:AN}(h:QK w vs m)(x:Ah w w'):QK w' vs m:=by
 obtain⟨tv,e,h⟩:=h;exact⟨tv,e,h.ext x⟩
def Bi(m:AN)(i:Int):Int:=if i<0 then -1 else if i<m.to.length then m.to.getD i.toNat 0 else i - m.to.length+m.new
def AN.Fine(m:AN):Prop:=m.to.length≤1000000000∧-1000000000≤m.new∧m.new≤1000000000
theorem FF(m:AN)(hm:m.Fine)(vs:List Value)(i:Int)(hi:i≤1000000000000)(w:World)(h:QK w vs m):A9 prog 80 [.agg ⟨vs⟩,.int .i64 i] w (λv w'=>v=.int .i64 (Bi m i)∧Ah w w'):=by
 obtain⟨tv,rfl,ht⟩:=h;obtain⟨p,c,rfl⟩:=ht.slice;obtain⟨m1,m2,m3⟩:=hm;refine AG func80 ntmps80 ?_;refine Sa ?_;refine C0 λA w1 a0 hx hA=>?_;replace hA:Blk w1 A [.slice p m.to.length c,.int .i64 m.new] 77:=hA;replace ht:=ht.ext hx;refine Sa ?_;refine Av (λh1=>?_) λh1=>?_
 ·have h1:i<0:=by simpa using h1
  refine Sa ?_;exact QW.body1 rfl rfl ⟨by rw[Bi,if_pos h1],hx⟩
 have h1:¬i<0:=by simpa using h1
 refine Sa ?_;refine Av (λh2=>?_) λh2=>?_
 ·have h2:i<m.to.length:=by simpa using h2
  obtain⟨a,rfl,hc⟩:=ht.at (i:=i.toNat) Aeb;rw[show i.toNat=i.toNat*1 by omega] at hc;refine Sa ?_;refine Lo ?_;refine Lp hc ?_;refine Sa ?_;exact QW.body1 rfl rfl ⟨by rw[Bi,if_neg h1,if_pos h2,AcH],hx⟩
 have h2:¬i<m.to.length:=by simpa using h2
 refine Sa ?_;exact QW.body1 rfl rfl ⟨by rw[Bi,if_neg h1,if_neg h2],hx⟩
def DP(a b:Int):Int:=if a<b then b else a
def Gs(a:Int):List Int→Int
 | []=>a
 | z::r=>Gs (if 0≤z∧a<0 then z else a) r
def L0(b:Int):List Int→Int
 | []=>b
 | z::r=>L0 (DP b z) r
theorem FI(a:Int)(l:List Int)(z:Int):Gs a (l++[z])=if 0≤z∧Gs a l<0 then z else Gs a l:=by
 induction l generalizing a with
 | nil=>rfl
 | cons y r ih=>exact ih _
theorem Je(b:Int)(l:List Int)(z:Int):L0 b (l++[z])=DP (L0 b l) z:=by
 induction l generalizing b with
 | nil=>rfl
 | cons y r ih=>exact ih _
def DK(m:AN)(lo k:Nat):List Int:=(m.to.take k).drop lo
def B7(m:AN)(lo hi:Int):Int×Int×Bool:=
 if lo<0∨hi<lo then(0,0,false) else
  let k:=(min (hi+1) (DP lo m.to.length)).toNat
  let a0:=Gs (-1) (DK m lo.toNat k)
  let b:=if m.to.length≤hi then Bi m hi else L0 (-1) (DK m lo.toNat k)
  let a:=if m.to.length≤hi∧a0<0 then Bi m (DP lo m.to.length) else a0
  if a<0 then(0,0,false) else(a,b,true)
theorem Gk{m:AN}{lo k:Nat}(h0:lo≤k)(h:k<m.to.length):DK m lo (k+1)=DK m lo k++[m.to.getD k 0]:=by
 unfold DK;rw[AbO,Aav h,Ad6 Aee];simp[Aav h]
theorem MF(m:AN)(lo:Nat):DK m lo lo=[]:=by
 unfold DK;simp
set_option maxHeartbeats 1000000 in
theorem Kd(m:AN)(hm:m.Fine)(vs:List Value)(lo hi:Int)(hlo:lo≤1000000000)(hhi:hi≤1000000000)(w:World)(h:QK w vs m):A9 prog 217 [.agg ⟨vs⟩,.int .i64 lo,.int .i64 hi] w (λv w'=>v=.tuple #[.int .i64 (B7 m lo hi).1,.int .i64 (B7 m lo hi).2.1,.bool (B7 m lo hi).2.2]∧Ah w w'):=by
 have hR:=h;obtain⟨tv,rfl,ht⟩:=h;obtain⟨p,c,rfl⟩:=ht.slice;have a9:=hm;obtain⟨m1,m2,m3⟩:=hm;refine AG func217 ntmps217 ?_;refine Sa ?_;refine C0 λA w1 ad ab hA=>?_;replace hA:Blk w1 A [.slice p m.to.length c,.int .i64 m.new] 77:=hA;refine Sa ?_;by_cases a1:lo<0
 ·refine LW.know (t:=12) (c:=true) rfl (decide_eq_true a1) ?_;refine Sa ?_;exact QW.body3 rfl rfl rfl rfl ⟨by rw[B7,if_pos (.inl a1)],ab⟩
 refine LW.know (t:=12) (c:=false) rfl (decide_eq_false a1) ?_;refine Sa ?_;refine Av (λa2=>?_) λa2=>?_
 ·have a2:hi<lo:=by simpa using a2
  refine Sa ?_;exact QW.body3 rfl rfl rfl rfl ⟨by rw[B7,if_pos (.inr a2)],ab⟩
 have a2:¬hi<lo:=by simpa using a2
 obtain⟨L,rfl⟩:=Acw (show 0≤lo by omega);refine Sa ?_;refine CW.loop (ι:=Nat) (λk w'=>L≤k∧(k:Int)≤hi+1∧(k≤m.to.length∨k=L)∧Ah w w'∧Ah w1 w') (λk=>[(1,.int .i64 (L:Int)),(2,.int .i64 hi),(3,.pointer (some ⟨A,0,none⟩)),(6,.int .i64 (Gs (-1) (DK m L k))),(7,.int .i64 (L0 (-1) (DK m L k))),(9,.int .i64 (k:Int))]) (λk=>(hi+1 - k).toNat) L ⟨by omega,by omega,.inr rfl,ab,Chg.refl _ _⟩ (by rw[MF];exact(An.cons rfl (An.cons rfl (An.cons rfl (An.cons rfl (An.cons rfl (An.cons rfl (An.nil)))))))) ?_;rintro k w2 ⟨k0,k1,k2,a3,a6⟩;replace hA:=hA.ext a6;replace ht:=ht.ext a3;replace hR:=hR.ext a3;have hK:B7 m (L:Int) hi=(if (if (m.to.length:Int)≤hi∧Gs (-1) (DK m L (min (hi+1) (DP L m.to.length)).toNat)<0 then Bi m (DP L m.to.length) else Gs (-1) (DK m L (min (hi+1) (DP L m.to.length)).toNat))<0 then(0,0,false) else((if (m.to.length:Int)≤hi∧Gs (-1) (DK m L (min (hi+1) (DP L m.to.length)).toNat)<0 then Bi m (DP L m.to.length) else Gs (-1) (DK m L (min (hi+1) (DP L m.to.length)).toNat)),(if (m.to.length:Int)≤hi then Bi m hi else L0 (-1) (DK m L (min (hi+1) (DP L m.to.length)).toNat)),true)):=by
  rw[B7,if_neg Aeb];rfl
 have aa:DP (L:Int) m.to.length=if (L:Int)<m.to.length then(m.to.length:Int) else L:=rfl;refine Sa ?_;by_cases b1:(k:Int)≤hi;rotate_left
 ·refine LW.know (t:=21) (c:=false) rfl (decide_eq_false b1) ?_;have hk:(min (hi+1) (DP (L:Int) m.to.length)).toNat=k:=by rw[aa];split<;>omega
  rw[hk] at hK;rw[hK];clear hK hk;generalize Gs (-1) (DK m L k)=a0;generalize L0 (-1) (DK m L k)=b0;refine Sa ?_;refine Av (λd1=>?_) λd1=>?_
  ·have d1:(m.to.length:Int)≤hi:=by simpa using d1
   simp only[d1,true_and,if_true];refine Sa ?_;refine Ap rfl rfl (FF m a9 _ hi Aeb w2 hR) ?_;rintro v w3 ⟨rfl,a7⟩;replace hA:=hA.ext a7;replace hR:=hR.ext a7;have a4:=a3.trans a7;refine Sa ?_;refine Av (λd2=>?_) λd2=>?_
   ·have d2:a0<0:=by simpa using d2
    simp only[d2,if_true];have hz:(if (L:Int)<m.to.length then(m.to.length:Int) else L)=DP L m.to.length:=rfl;refine Sa ?_;refine LW.max2 rfl rfl rfl ?_;rw[hz];refine Ap rfl rfl (FF m a9 _ (DP L m.to.length) (by rw[aa];split<;>omega) w3 hR) ?_;rintro v w4 ⟨rfl,ac⟩;have a5:=a4.trans ac;refine Sa ?_;refine Av (λd3=>?_) λd3=>?_
    ·have d3:Bi m (DP L m.to.length)<0:=by simpa using d3
     refine Sa ?_;exact QW.body3 rfl rfl rfl rfl ⟨by rw[if_pos d3],a5⟩
    ·have d3:¬Bi m (DP L m.to.length)<0:=by simpa using d3
     refine Sa ?_;exact QW.body3 rfl rfl rfl rfl ⟨by rw[if_neg d3],a5⟩
   ·have d2:¬a0<0:=by simpa using d2
    simp only[d2,if_false];refine Sa ?_;refine CW.no rfl (decide_eq_false d2) ?_;refine Sa ?_;exact QW.body3 rfl rfl rfl rfl ⟨rfl,a4⟩
  ·have d1:¬(m.to.length:Int)≤hi:=by simpa using d1
   simp only[d1,false_and,if_false];refine Sa ?_;refine Av (λd2=>?_) λd2=>?_
   ·have d2:a0<0:=by simpa using d2
    refine Sa ?_;exact QW.body3 rfl rfl rfl rfl ⟨by rw[if_pos d2],a3⟩
   ·have d2:¬a0<0:=by simpa using d2
    refine Sa ?_;exact QW.body3 rfl rfl rfl rfl ⟨by rw[if_neg d2],a3⟩
 refine LW.know (t:=21) (c:=true) rfl (decide_eq_true b1) ?_;refine Sa ?_;refine Av (λb2=>?_) λb2=>?_;rotate_left
 ·have b2:¬(k:Int)<m.to.length:=by simpa using b2
  have hk:(min (hi+1) (DP (L:Int) m.to.length)).toNat=k:=by rw[aa];split<;>omega
  rw[hk] at hK;rw[hK];clear hK hk;generalize Gs (-1) (DK m L k)=a0;generalize L0 (-1) (DK m L k)=b0;refine Sa ?_;refine Av (λd1=>?_) λd1=>?_
  ·have d1:(m.to.length:Int)≤hi:=by simpa using d1
   simp only[d1,true_and,if_true];refine Sa ?_;refine Ap rfl rfl (FF m a9 _ hi Aeb w2 hR) ?_;rintro v w3 ⟨rfl,a7⟩;replace hA:=hA.ext a7;replace hR:=hR.ext a7;have a4:=a3.trans a7;refine Sa ?_;refine Av (λd2=>?_) λd2=>?_
   ·have d2:a0<0:=by simpa using d2
    simp only[d2,if_true];have hz:(if (L:Int)<m.to.length then(m.to.length:Int) else L)=DP L m.to.length:=rfl;refine Sa ?_;refine LW.max2 rfl rfl rfl ?_;rw[hz];refine Ap rfl rfl (FF m a9 _ (DP L m.to.length) (by rw[aa];split<;>omega) w3 hR) ?_;rintro v w4 ⟨rfl,ac⟩;have a5:=a4.trans ac;refine Sa ?_;refine Av (λd3=>?_) λd3=>?_
    ·have d3:Bi m (DP L m.to.length)<0:=by simpa using d3
     refine Sa ?_;exact QW.body3 rfl rfl rfl rfl ⟨by rw[if_pos d3],a5⟩
    ·have d3:¬Bi m (DP L m.to.length)<0:=by simpa using d3
     refine Sa ?_;exact QW.body3 rfl rfl rfl rfl ⟨by rw[if_neg d3],a5⟩
   ·have d2:¬a0<0:=by simpa using d2
    simp only[d2,if_false];refine Sa ?_;refine CW.no rfl (decide_eq_false d2) ?_;refine Sa ?_;exact QW.body3 rfl rfl rfl rfl ⟨rfl,a4⟩
  ·have d1:¬(m.to.length:Int)≤hi:=by simpa using d1
   simp only[d1,false_and,if_false];refine Sa ?_;refine Av (λd2=>?_) λd2=>?_
   ·have d2:a0<0:=by simpa using d2
    refine Sa ?_;exact QW.body3 rfl rfl rfl rfl ⟨by rw[if_pos d2],a3⟩
   ·have d2:¬a0<0:=by simpa using d2
    refine Sa ?_;exact QW.body3 rfl rfl rfl rfl ⟨by rw[if_neg d2],a3⟩
 have b2:k<m.to.length:=by simp at b2;omega
 obtain⟨a,rfl,hc⟩:=ht.at b2;rw[show m.to.getD k 0=m.to.getD k 0 from rfl] at hc;have hs:=Gk k0 b2;generalize m.to.getD k 0=z at hc hs;have a8:w2.cell? (a.add (((k:Nat):Int).toNat*1))=some (.int .i64 z):=by
  rw[show((k:Nat):Int).toNat*1=k by omega];exact hc
 refine Sa ?_;refine Lo ?_;refine Lp a8 ?_;refine Sa ?_;have e2:L0 (-1) (DK m L (k+1))=if L0 (-1) (DK m L k)<z then z else L0 (-1) (DK m L k):=by rw[hs,Je];rfl
 by_cases b3:0≤z
 ·refine LW.know (t:=36) (c:=true) rfl (decide_eq_true b3) ?_;refine Sa ?_;refine Av (λb4=>?_) λb4=>?_
  ·have b4:Gs (-1) (DK m L k)<0:=by simpa using b4
   have e1:Gs (-1) (DK m L (k+1))=z:=by rw[hs,FI,if_pos ⟨b3,b4⟩]
   refine Sa ?_;refine Lo ?_;refine Lp a8 ?_;refine Sa ?_;refine Lo ?_;refine Lp a8 ?_;refine LW.max2 rfl rfl rfl ?_;rw[←e2];refine Sa ?_;refine QW.again (k+1) ⟨by omega,by omega,.inl b2,a3,a6⟩ Aes Aeb
  ·have b4:¬Gs (-1) (DK m L k)<0:=by simpa using b4
   have e1:Gs (-1) (DK m L (k+1))=Gs (-1) (DK m L k):=by rw[hs,FI,if_neg (λh=>b4 h.2)]
   refine Sa ?_;refine Lo ?_;refine Lp a8 ?_;refine LW.max2 rfl rfl rfl ?_;rw[←e2];refine Sa ?_;refine QW.again (k+1) ⟨by omega,by omega,.inl b2,a3,a6⟩ Aes Aeb
 ·refine LW.know (t:=36) (c:=false) rfl (decide_eq_false b3) ?_;have e1:Gs (-1) (DK m L (k+1))=Gs (-1) (DK m L k):=by rw[hs,FI,if_neg (λh=>b3 h.1)]
  refine Sa ?_;refine Lo ?_;refine Lp a8 ?_;refine LW.max2 rfl rfl rfl ?_;rw[←e2];refine Sa ?_;refine QW.again (k+1) ⟨by omega,by omega,.inl b2,a3,a6⟩ Aes Aeb
def B0(new:Int):Int→List Int→Bool
 | _,[]=>true
 | last,z::r=>if z=-1 then B0 new last r else if z≤last∨new≤z then false else B0 new z r
def EK(m:AN):Bool:=decide (0≤m.new)&&decide (m.new≤1048576)&&decide (m.to.length≤1048576)&&B0 m.new (-1) m.to
def EV(m:AN):Prop:=∀j,j<m.to.length→m.to.getD j 0=-1∨(0≤m.to.getD j 0∧m.to.getD j 0<m.new∧∀i,i<j→m.to.getD i 0<m.to.getD j 0)
theorem JT(new:Int):∀(l:List Int) (last:Int),-1≤last→B0 new last l=true→∀j,j<l.length→l.getD j 0=-1∨(last<l.getD j 0∧l.getD j 0<new∧∀i,i<j→l.getD i 0<l.getD j 0)
 | [],_,_,_,j,hj=>by simp at hj
 | z::r,last,hl,h,j,hj=>by
  rw[B0] at h;by_cases hz:z=-1
  ·rw[if_pos hz] at h
   match j,hj with
   | 0,_=>exact .inl hz
   | j+1,hj=>
    have ih:=JT new r last hl h j AeN;simp only[AcE];rcases ih with ih | ⟨h1,h2,h3⟩
    ·exact .inl ih
    ·refine .inr ⟨h1,h2,λi hi=>?_⟩
     match i,hi with
     | 0,_=>simp only[AcT];omega
     | i+1,hi=>simp only[AcE];exact h3 i Aeb
  ·rw[if_neg hz] at h;by_cases hy:z≤last∨new≤z
   ·rw[if_pos hy] at h;cases h
   ·rw[if_neg hy] at h
    match j,hj with
    | 0,_=>exact .inr ⟨by simp only[AcT];omega,by simp only[AcT];omega,λi hi=>by omega⟩
    | j+1,hj=>
     have ih:=JT new r z Aeb h j AeN;simp only[AcE];rcases ih with ih | ⟨h1,h2,h3⟩
     ·exact .inl ih
     ·refine .inr ⟨by omega,h2,λi hi=>?_⟩
      match i,hi with
      | 0,_=>simp only[AcT];omega
      | i+1,hi=>simp only[AcE];exact h3 i Aeb
theorem B5{m:AN}(h:EK m=true):0≤m.new∧m.new≤1048576∧m.to.length≤1048576∧EV m:=by
 simp only[EK,Abr,decide_eq_true_eq] at h;obtain⟨⟨⟨h1,h2⟩,h3⟩,h4⟩:=h;refine⟨h1,h2,h3,λj hj=>?_⟩;rcases JT _ _ _ Aeb h4 j hj with h | ⟨a,b,c⟩
 ·exact .inl h
 ·exact .inr ⟨by omega,b,c⟩
theorem Pj{m:AN}(h:EK m=true):m.Fine:=by
 obtain⟨h1,h2,h3,_⟩:=B5 h;exact⟨by omega,by omega,by omega⟩
theorem M6{m:AN}{lo:Nat}:∀n,lo+n≤m.to.length→(∀j,lo≤j→j<lo+n→m.to.getD j 0<0)→Gs (-1) (DK m lo (lo+n))=-1
 | 0,_,_=>by rw[Acu,MF];rfl
 | n+1,h,hj=>by
  rw[←Nat.add_assoc,Gk Aeb Aeb,FI,M6 n Aeb (λj h1 h2=>hj j h1 Aeb)];have:=hj (lo+n) Aeb Aeb;rw[if_neg Aeb]
theorem TI{m:AN}{lo a:Nat}(ha:lo≤a)(hd:∀j,lo≤j→j<a→m.to.getD j 0<0)(hz:0≤m.to.getD a 0):∀n,a+1+n≤m.to.length→Gs (-1) (DK m lo (a+1+n))=m.to.getD a 0
 | 0,h=>by
  have e:=M6 (m:=m) (lo:=lo) (a - lo) Aeb (λj h1 h2=>hd j h1 Aeb);rw[show lo+(a - lo)=a by omega] at e
  rw[Acu,Gk ha Aeb,FI,e,if_pos ⟨hz,by omega⟩]
 | n+1,h=>by
  rw[←Nat.add_assoc,Gk Aeb Aeb,FI,TI ha hd hz n Aeb,if_neg Aeb]
theorem Yj{m:AN}{lo:Nat}{x:Int}(hx:-1<x):∀n,lo+n≤m.to.length→(∀j,lo≤j→j<lo+n→m.to.getD j 0<x)→L0 (-1) (DK m lo (lo+n))<x
 | 0,_,_=>by rw[Acu,MF];exact hx
 | n+1,h,hj=>by
  have ih:=Yj hx n Aeb (λj h1 h2=>hj j h1 Aeb);have:=hj (lo+n) Aeb Aeb;rw[←Nat.add_assoc,Gk Aeb Aeb,Je,DP]
  split<;>omega
theorem Yi{m:AN}(hr:EV m){lo b:Nat}(hb:lo≤b)(hz:0≤m.to.getD b 0):∀n,b+1+n≤m.to.length→(∀j,b<j→j<b+1+n→m.to.getD j 0<0)→L0 (-1) (DK m lo (b+1+n))=m.to.getD b 0
 | 0,h,_=>by
  have e:=Yj (m:=m) (lo:=lo) (x:=m.to.getD b 0) Aeb (b - lo) Aeb (λj h1 h2=>by
   rcases hr b Aeb with h3 | ⟨_,_,h3⟩
   ·omega
   ·exact h3 j Aeb)
  rw[show lo+(b - lo)=b by omega] at e
  rw[Acu,Gk hb Aeb,Je,DP,if_pos e]
 | n+1,h,hj=>by
  have:=hj (b+1+n) Aeb Aeb;rw[←Nat.add_assoc,Gk Aeb Aeb,Je,Yi hr hb hz n Aeb (λj h1 h2=>hj j h1 Aeb),DP,if_neg Aeb]
theorem H2{m:AN}{a:Nat}(h:a<m.to.length):Bi m (a:Int)=m.to.getD a 0:=by
 rw[Bi,if_neg Aeb,if_pos Aeb];rfl
theorem Kr{m:AN}{a:Nat}(h:m.to.length≤a):Bi m (a:Int)=a - m.to.length+m.new:=by
 rw[Bi,if_neg Aeb,if_neg Aeb]
theorem JY{m:AN}(hr:EV m)(hn:0≤m.new){lo hi a b:Nat}(hlo:lo≤a)(hab:a≤b)(hb:b≤hi)(ha0:∀j,lo≤j→j<a→j<m.to.length∧m.to.getD j 0<0)(ha1:a<m.to.length→0≤m.to.getD a 0)
  (hb0:∀j,b<j→j≤hi→j<m.to.length∧m.to.getD j 0<0) (hb1:b<m.to.length→0≤m.to.getD b 0):B7 m lo hi=(Bi m a,Bi m b,true):=by
 rw[B7,if_neg Aeb];have a0:DP (lo:Int) m.to.length=if (lo:Int)<m.to.length then(m.to.length:Int) else lo:=rfl;by_cases h1:(m.to.length:Int)≤hi
 ·have a1:b=hi:=by
   rcases AbW b hi with h | h
   ·have:=(hb0 hi h (Ab2 _)).1;omega
   ·omega
  subst a1;simp only[h1,true_and,if_true];by_cases h2:a<m.to.length
  ·have hk:(min ((b:Int)+1) (DP lo m.to.length)).toNat=a+1+(m.to.length - a - 1):=by rw[a0];split<;>omega
   have e:=TI hlo (λj h3 h4=>(ha0 j h3 h4).2) (ha1 h2) (m.to.length - a - 1) Aeb;have:=ha1 h2;rw[hk,show((lo:Nat):Int).toNat=lo by omega,e,if_neg Aeb,if_neg Aeb,H2 h2]
  ·have e:Gs (-1) (DK m lo (min ((b:Int)+1) (DP lo m.to.length)).toNat)=-1:=by
    rw[a0]
    split
    ·rename_i h3;have e:=M6 (m:=m) (lo:=lo) (m.to.length - lo) Aeb (λj h4 h5=>(ha0 j h4 Aeb).2);rw[show(min ((b:Int)+1) (m.to.length:Int)).toNat=lo+(m.to.length - lo) by omega];exact e
    ·rw[show(min ((b:Int)+1) (lo:Int)).toNat=lo by omega,MF];rfl
   have ea:DP (lo:Int) m.to.length=a:=by
    rw[a0]
    split
    ·rename_i h3;have:¬m.to.length<a:=λh4=>by have:=(ha0 (m.to.length) Aeb h4).1;omega
     omega
    ·have:¬lo<a:=λh4=>by have:=(ha0 lo Aeb h4).1;omega
     omega
   rw[show((lo:Nat):Int).toNat=lo by omega,e,if_pos (show(-1:Int)<0 by omega),ea,Kr Aeb,if_neg Aeb]
 ·simp only[h1,false_and,if_false];have hk:(min ((hi:Int)+1) (DP lo m.to.length)).toNat=a+1+(hi - a):=by rw[a0];split<;>omega
  have a2:a+1+(hi - a)=b+1+(hi - b):=Aeb
  have e:=TI hlo (λj h3 h4=>(ha0 j h3 h4).2) (ha1 Aeb) (hi - a) Aeb;have e2:=Yi hr (show lo≤b by omega) (hb1 Aeb) (hi - b) Aeb (λj h3 h4=>(hb0 j h3 Aeb).2);have:=ha1 Aeb;rw[hk,show((lo:Nat):Int).toNat=lo by omega,e,a2,e2,if_neg Aeb,H2 Aeb,H2 Aeb]
theorem P5{m:AN}{lo hi:Nat}(h:∀j,lo≤j→j≤hi→j<m.to.length∧m.to.getD j 0<0)(hl:lo≤hi):B7 m lo hi=(0,0,false):=by
 have hh:=(h hi hl (Ab2 _)).1;have a0:DP (lo:Int) m.to.length=if (lo:Int)<m.to.length then(m.to.length:Int) else lo:=rfl;rw[B7,if_neg Aeb];have h1:¬(m.to.length:Int)≤hi:=Aeb
 simp only[h1,false_and,if_false];have hk:(min ((hi:Int)+1) (DP lo m.to.length)).toNat=lo+(hi+1 - lo):=by rw[a0];split<;>omega
 have e:=M6 (m:=m) (lo:=lo) (hi+1 - lo) Aeb (λj h4 h5=>(h j h4 Aeb).2);rw[hk,show((lo:Nat):Int).toNat=lo by omega,e,if_pos Aeb]
theorem Rn(P:Nat→Prop)[DecidablePred P](lo:Nat):∀n,(∀j,lo≤j→j<lo+n→¬P j)∨∃a,lo≤a∧a<lo+n∧P a∧∀j,lo≤j→j<a→¬P j
 | 0=>.inl λj h1 h2=>by omega
 | n+1=>by
  rcases Rn P lo n with h | ⟨a,h1,h2,h3,h4⟩
  ·by_cases hp:P (lo+n)
   ·exact .inr ⟨lo+n,by omega,by omega,hp,λj h1 h2=>h j h1 Aeb⟩
   ·refine .inl λj h1 h2=>?_;rcases AbW j (lo+n) with h3 | h3
    ·exact h j h1 h3
    ·obtain rfl:j=lo+n:=by omega
     exact hp
  ·exact .inr ⟨a,h1,by omega,h3,h4⟩
theorem UR(P:Nat→Prop)[DecidablePred P](lo:Nat):∀n,(∀j,lo≤j→j<lo+n→¬P j)∨∃b,lo≤b∧b<lo+n∧P b∧∀j,b<j→j<lo+n→¬P j
 | 0=>.inl λj h1 h2=>by omega
 | n+1=>by
  by_cases hp:P (lo+n)
  ·exact .inr ⟨lo+n,by omega,by omega,hp,λj h1 h2=>by omega⟩
  ·rcases UR P lo n with h | ⟨b,h1,h2,h3,h4⟩
   ·refine .inl λj h1 h2=>?_;rcases AbW j (lo+n) with h3 | h3
    ·exact h j h1 h3
    ·obtain rfl:j=lo+n:=by omega
     exact hp
   ·refine .inr ⟨b,h1,by omega,h3,λj h5 h6=>?_⟩;rcases AbW j (lo+n) with h7 | h7
    ·exact h4 j h5 h7
    ·obtain rfl:j=lo+n:=by omega
     exact hp
theorem XT{m:AN}(hr:EV m){a b:Nat}(h:a<b)(hb:b<m.to.length→0≤m.to.getD b 0)(ha:a<m.to.length→0≤m.to.getD a 0):Bi m (a:Int)<Bi m (b:Int):=by
 by_cases h1:b<m.to.length
 ·rw[H2 h1,H2 Aeb];rcases hr b h1 with h2 | ⟨_,_,h2⟩
  ·have:=hb h1;omega
  ·exact h2 a h
 ·rw[Kr (show m.to.length≤b by omega)];by_cases h2:a<m.to.length
  ·rw[H2 h2];rcases hr a h2 with h3 | ⟨_,h3,_⟩
   ·have:=ha h2;omega
   ·omega
  ·rw[Kr (show m.to.length≤a by omega)];omega
theorem Aao{m:AN}(hr:EV m){a b:Nat}(h:a≤b)(hb:b<m.to.length→0≤m.to.getD b 0)(ha:a<m.to.length→0≤m.to.getD a 0):Bi m (a:Int)≤Bi m (b:Int):=by
 rcases AbW a b with h1 | h1
 ·have:=XT hr h1 hb ha;omega
 ·obtain rfl:a=b:=by omega
  omega
theorem XS{m:AN}(hn:0≤m.new){a:Nat}(ha:a<m.to.length→0≤m.to.getD a 0):0≤Bi m (a:Int):=by
 by_cases h1:a<m.to.length
 ·rw[H2 h1];exact ha h1
 ·rw[Kr Aeb];omega
theorem U5{m:AN}(hr:EV m)(hn:0≤m.new){lo hi:Nat}(h:lo≤hi):B7 m lo hi=(0,0,false)∨∃a b:Nat,lo≤a∧a≤b∧b≤hi∧B7 m lo hi=(Bi m a,Bi m b,true)∧0≤Bi m a∧Bi m a≤Bi m b:=by
 have hP:∀j,¬(m.to.length≤j∨0≤m.to.getD j 0)↔(j<m.to.length∧m.to.getD j 0<0):=λj=>by omega
 rcases Rn (λj=>m.to.length≤j∨0≤m.to.getD j 0) lo (hi+1 - lo) with h1 | ⟨a,h1,h2,h3,h4⟩
 ·exact .inl (P5 (λj h2 h3=>(hP j).1 (h1 j h2 Aeb)) h)
 ·rcases UR (λj=>m.to.length≤j∨0≤m.to.getD j 0) lo (hi+1 - lo) with k1 | ⟨b,k1,k2,k3,k4⟩
  ·exact absurd h3 (k1 a h1 h2)
  ·have a0:a≤b:=by
    rcases AbW b a with h5 | h5
    ·exact absurd k3 (h4 b k1 h5)
    ·exact h5
   have a1:a<m.to.length→0≤m.to.getD a 0:=λh5=>by omega
   have a2:b<m.to.length→0≤m.to.getD b 0:=λh5=>by omega
   exact .inr ⟨a,b,h1,a0,by omega,JY hr hn h1 a0 Aeb (λj h5 h6=>(hP j).1 (h4 j h5 h6)) a1 (λj h5 h6=>(hP j).1 (k4 j h5 Aeb)) a2,XS hn a1,Aao hr a0 a2 a1⟩
theorem YN{m:AN}(hr:EV m)(hn:0≤m.new)(i:Nat):B7 m i i=if Bi m i<0 then(0,0,false) else(Bi m i,Bi m i,true):=by
 by_cases h:i<m.to.length∧m.to.getD i 0<0
 ·rw[P5 (λj h1 h2=>(show j=i by omega) ▸ h) (Ab2 _),H2 h.1,if_pos h.2]
 ·have h1:i<m.to.length→0≤m.to.getD i 0:=λh2=>by omega
  have:=XS hn h1;rw[JY hr hn (Ab2 _) (Ab2 _) (Ab2 _) (λj h2 h3=>by omega) h1 (λj h2 h3=>by omega) h1,if_neg Aeb]
theorem WS{m:AN}(hr:EV m)(hn:0≤m.new)(ha:∀j,j<m.to.length→0≤m.to.getD j 0){lo hi:Nat}(h:lo≤hi):B7 m lo hi=(Bi m lo,Bi m hi,true):=
 JY hr hn (Ab2 _) h (Ab2 _) (λj h2 h3=>by omega) (ha lo) (λj h2 h3=>by omega) (ha hi)
structure Br where
 sheet:List UInt8
 rows:AN
 cols:AN
 gone:Bool
def Br.May(s:Br):Prop:=EK s.rows=true∧EK s.cols=true
def Br.Fine(s:Br):Prop:=s.rows.Fine∧s.cols.Fine
def Cr:Aj:={kind:=4}
def Up(own:List UInt8)(n:Aj):List UInt8:=if n.ref.sheet=[] then own else n.ref.sheet
def Er(ss:List Br)(x:List UInt8):Option Br:=ss.find? (λs=>decide (s.sheet=x))
def BK(n:Aj):C3:=if n.kind=5 then n.ref else n.to
def Du(s:Br)(n:Aj):Prop:=(B7 s.rows n.ref.row (BK n).row).2.2=false∨(B7 s.cols n.ref.col (BK n).col).2.2=false∨998<(B7 s.rows n.ref.row (BK n).row).2.1∨701<(B7 s.cols n.ref.col (BK n).col).2.1
instance (s : Br)(n : Aj) : Decidable (Du s n) := by unfold Du; infer_instance
def KK(s:Br)(n:Aj):Aj:=
 {n with ref:={n.ref with row:=(B7 s.rows n.ref.row (BK n).row).1,col:=(B7 s.cols n.ref.col (BK n).col).1},to:=if n.kind=6 then {n.to with row:=(B7 s.rows n.ref.row (BK n).row).2.1,col:=(B7 s.cols n.ref.col (BK n).col).2.1} else n.to}
def Eh(s:Br)(n:Aj):Aj:=if s.gone=true then Cr else if Du s n then Cr else KK s n
def goD(s:Br)(n:Aj):Aj:=
 if s.gone=true then Cr
 else if n.kind=5 then(if AZ {n.ref with row:=Bi s.rows n.ref.row,col:=Bi s.cols n.ref.col}=true then {n with ref:={n.ref with row:=Bi s.rows n.ref.row,col:=Bi s.cols n.ref.col}} else Cr)
 else if (B7 s.rows n.ref.row n.to.row).2.2=true∧(B7 s.cols n.ref.col n.to.col).2.2=true∧AZ {n.ref with row:=(B7 s.rows n.ref.row n.to.row).1,col:=(B7 s.cols n.ref.col n.to.col).1}=true∧AZ {n.to with row:=(B7 s.rows n.ref.row n.to.row).2.1,col:=(B7 s.cols n.ref.col n.to.col).2.1}=true then
  {n with ref:={n.ref with row:=(B7 s.rows n.ref.row n.to.row).1,col:=(B7 s.cols n.ref.col n.to.col).1},to:={n.to with row:=(B7 s.rows n.ref.row n.to.row).2.1,col:=(B7 s.cols n.ref.col n.to.col).2.1}}
 else Cr
def BD(go:Br→Aj→Aj)(own:List UInt8)(ss:List Br)(n:Aj):Aj:=
 if n.kind≠5∧n.kind≠6 then n else match Er ss (Up own n) with
  | none=>n
  | some s=>go s n
def CF(go:Br→Aj→Aj)(own:List UInt8)(ss:List Br)(l:List Aj):List Aj:=if BV l=true then l.map (BD go own ss) else[]
theorem Cm{x:C3}(h:AZ x=true):0≤x.col∧x.col≤701∧0≤x.row∧x.row≤998∧∀r c,0≤r→r≤998→0≤c→c≤701→AZ {x with row:=r,col:=c}=true:=by
 simp only[AZ,Abr,decide_eq_true_eq] at h ⊢;obtain⟨⟨⟨⟨h0,h1⟩,h2⟩,h3⟩,h4⟩:=h;exact⟨h1,h2,h3,h4,λr c h5 h6 h7 h8=>⟨⟨⟨⟨h0,h7⟩,h8⟩,h5⟩,h6⟩⟩
theorem Ny{x:C3}(h:AZ x=true)(r c:Int):AZ {x with row:=r,col:=c}=true↔0≤r∧r≤998∧0≤c∧c≤701:=by
 obtain⟨_,_,_,_,h5⟩:=Cm h;refine⟨λhh=>?_,λ⟨h1,h2,h3,h4⟩=>h5 r c h1 h2 h3 h4⟩;obtain⟨a,b,c,d,_⟩:=Cm hh;exact⟨c,d,a,b⟩
theorem Hb{n:Aj}(h:Au n=true)(hk:n.kind=5):AZ n.ref=true∧n.num=0∧n.text=[]∧n.to=A4:=by
 simp only[Au,F9,A7,hk] at h;simp at h;exact⟨h.1,h.2.1,h.2.2.1,h.2.2.2⟩
theorem Fh{n:Aj}(h:Au n=true)(hk:n.kind=6):AZ n.ref=true∧AZ n.to=true∧Bo n.ref n.to=true∧n.num=0∧n.text=[]:=by
 simp only[Au,F9,A7,hk] at h;simp at h;exact⟨h.1.1,h.1.2.1,h.1.2.2,h.2.1,h.2.2⟩
theorem FA{a b:C3}(h:Bo a b=true):b.sheet=[]∧a.col≤b.col∧a.row≤b.row:=by
 simp only[Bo,Abr,decide_eq_true_eq] at h;exact⟨h.1.1,h.1.2,h.2⟩
theorem KH{m:AN}(hr:EV m)(hn:0≤m.new){lo hi:Int}(h0:0≤lo)(h:lo≤hi):B7 m lo hi=(0,0,false)∨∃a b:Nat,lo≤a∧a≤b∧b≤hi∧B7 m lo hi=(Bi m a,Bi m b,true)∧0≤Bi m a∧Bi m a≤Bi m b:=by
 obtain⟨a,rfl⟩:=Acw h0;obtain⟨b,rfl⟩:=Acw (show 0≤hi by omega);rcases U5 hr hn (lo:=a) (hi:=b) Aeb with h1 | ⟨x,y,h1,h2,h3,h4⟩
 ·exact .inl h1
 ·exact .inr ⟨x,y,by omega,h2,by omega,h4⟩
theorem KI{m:AN}(hr:EV m)(hn:0≤m.new){i:Int}(h:0≤i):B7 m i i=if Bi m i<0 then(0,0,false) else(Bi m i,Bi m i,true):=by
 obtain⟨a,rfl⟩:=Acw h;exact YN hr hn a
theorem Zo{s:Br}(hm:s.May){n:Aj}(hp:Au n=true)(hk:n.kind=5∨n.kind=6):Eh s n=goD s n:=by
 obtain⟨r1,_,_,r4⟩:=B5 hm.1;obtain⟨c1,_,_,c4⟩:=B5 hm.2;unfold Eh goD;by_cases hg:s.gone=true
 ·rw[if_pos hg,if_pos hg]
 rw[if_neg hg,if_neg hg];rcases hk with hk | hk
 ·obtain⟨h1,h2,h3,h4⟩:=Hb hp hk;obtain⟨b1,b2,b3,b4,_⟩:=Cm h1;have a0:=Ny h1 (Bi s.rows n.ref.row) (Bi s.cols n.ref.col);have hl:BK n=n.ref:=by rw[BK,if_pos hk]
  have er:=KI r4 r1 b3;have ec:=KI c4 c1 b1;rw[if_pos hk];by_cases x1:Bi s.rows n.ref.row<0
  ·have hg:Du s n:=by unfold Du;rw[hl,er,if_pos x1];exact .inl rfl
   rw[if_pos hg,if_neg Aff]
  by_cases x2:Bi s.cols n.ref.col<0
  ·have hg:Du s n:=by unfold Du;rw[hl,ec,if_pos x2];exact .inr (.inl rfl)
   rw[if_pos hg,if_neg Aff]
  have hw:KK s n={n with ref:={n.ref with row:=Bi s.rows n.ref.row,col:=Bi s.cols n.ref.col}}:=by
   unfold KK;rw[hl,er,ec,if_neg x1,if_neg x2,if_neg (show ¬n.kind=6 by omega)]
  by_cases x3:998<Bi s.rows n.ref.row∨701<Bi s.cols n.ref.col
  ·have hg:Du s n:=by unfold Du;rw[hl,er,ec,if_neg x1,if_neg x2];exact .inr (.inr x3)
   rw[if_pos hg,if_neg Aff]
  ·have hg:¬Du s n:=by unfold Du;rw[hl,er,ec,if_neg x1,if_neg x2];simpa using x3
   rw[if_neg hg,hw,if_pos Aff]
 ·obtain⟨h1,h2,h3,h4,h5⟩:=Fh hp hk;obtain⟨b1,b2,b3,b4,_⟩:=Cm h1;obtain⟨q1,q2,q3⟩:=FA h3;have hl:BK n=n.to:=by rw[BK,if_neg Aeb]
  rw[if_neg (show ¬n.kind=5 by omega)];rcases KH r4 r1 b3 q3 with er | ⟨x,y,_,_,_,er,er1,er2⟩
  ·have hg:Du s n:=by unfold Du;rw[hl,er];exact .inl rfl
   rw[if_pos hg,er,if_neg (λh=>by cases h.1)]
  rcases KH c4 c1 b1 q2 with ec | ⟨u,v,_,_,_,ec,ec1,ec2⟩
  ·have hg:Du s n:=by unfold Du;rw[hl,ec];exact .inr (.inl rfl)
   rw[if_pos hg,ec,if_neg (λh=>by cases h.2.1)]
  have i1:=Ny h1 (Bi s.rows x) (Bi s.cols u);have i2:=Ny h2 (Bi s.rows y) (Bi s.cols v);have hw:KK s n={n with ref:={n.ref with row:=Bi s.rows x,col:=Bi s.cols u},to:={n.to with row:=Bi s.rows y,col:=Bi s.cols v}}:=by
   unfold KK;rw[hl,er,ec,if_pos hk]
  by_cases x3:998<Bi s.rows y∨701<Bi s.cols v
  ·have hg:Du s n:=by unfold Du;rw[hl,er,ec];exact .inr (.inr x3)
   rw[if_pos hg,er,ec,if_neg (λh=>by have:=i2.1 h.2.2.2;omega)]
  ·have hg:¬Du s n:=by unfold Du;rw[hl,er,ec];simpa using x3
   rw[if_neg hg,hw,er,ec,if_pos ⟨rfl,rfl,i1.2 Aeb,i2.2 Aeb⟩]
theorem GP{ss:List Br}{x:List UInt8}{s:Br}(h:Er ss x=some s):s∈ss∧s.sheet=x:=by
 unfold Er at h;have h1:=AdU h;exact⟨Adl h,by simpa using h1⟩
theorem XQ{s:Br}(hm:s.May){n:Aj}(hp:Au n=true)(hk:n.kind=5∨n.kind=6):Au (Eh s n)=true∧1≤(Eh s n).kind∧(Eh s n).kind≤6∧(Eh s n).num=0∧(Eh s n).text=[]∧(Eh s n).ref.sheet.length≤n.ref.sheet.length∧(Eh s n).to.sheet.length≤n.to.sheet.length∧((Eh s n).kids=n.kids∨Eh s n=Cr):=by
 have hd:Au Cr=true∧1≤Cr.kind∧Cr.kind≤6∧Cr.num=0∧Cr.text=[]∧Cr.ref.sheet.length≤n.ref.sheet.length∧Cr.to.sheet.length≤n.to.sheet.length∧(Cr.kids=n.kids∨Cr=Cr):=⟨rfl,by decide,by decide,rfl,rfl,by simp[Cr,A4],by simp[Cr,A4],.inr rfl⟩;obtain⟨r1,_,_,r4⟩:=B5 hm.1;obtain⟨c1,_,_,c4⟩:=B5 hm.2;rw[Zo hm hp hk];unfold goD
 split
 ·exact hd
 split
 ·rename_i a0;obtain⟨h1,h2,h3,h4⟩:=Hb hp a0
  split
  ·rename_i hb;refine⟨?_,by show 1≤n.kind;omega,by show n.kind≤6;omega,h2,h3,Ab2 _,Ab2 _,.inl rfl⟩;simp only[Au,F9,A7,a0,hb,h2,h3,h4];simp
  ·exact hd
 ·rename_i a0;have a1:n.kind=6:=Aeb
  obtain⟨h1,h2,h3,h4,h5⟩:=Fh hp a1;obtain⟨q1,q2,q3⟩:=FA h3;obtain⟨b1,b2,b3,b4,_⟩:=Cm h1
  split
  ·rename_i hb;obtain⟨e1,e2,e3,e4⟩:=hb;refine⟨?_,by show 1≤n.kind;omega,by show n.kind≤6;omega,h4,h5,Ab2 _,Ab2 _,.inl rfl⟩;rcases KH r4 r1 b3 q3 with er | ⟨x,y,_,_,_,er,er1,er2⟩
   ·rw[er] at e1;cases e1
   rcases KH c4 c1 b1 q2 with ec | ⟨u,v,_,_,_,ec,ec1,ec2⟩
   ·rw[ec] at e2;cases e2
   rw[er,ec] at e3 e4 ⊢;have a2:Bo {n.ref with row:=Bi s.rows x,col:=Bi s.cols u} {n.to with row:=Bi s.rows y,col:=Bi s.cols v}=true:=by
    simp only[Bo,Abr,decide_eq_true_eq];exact⟨⟨q1,ec2⟩,er2⟩
   simp only[Au,F9,A7,a1,e3,e4,a2,h4,h5];simp
  ·exact hd
def Tr.mv(f:Aj→Aj):{b:Bool}→Tr b→Tr b
 | _,.leaf n=>.leaf (f n)
 | _,.neg a=>.neg (a.mv f)
 | _,.two k a b=>.two k (a.mv f) (b.mv f)
 | _,.call x ks=>.call x (ks.mv f)
 | _,.nil=>.nil
 | _,.snoc ks a=>.snoc (ks.mv f) (a.mv f)
structure UA(f:Aj→Aj):Prop where
 inner:∀n:Aj,7≤n.kind→f n=n
 leaf:∀n:Aj,1≤n.kind→n.kind≤6→n.kids=[]→Au n=true→1≤(f n).kind∧(f n).kind≤6∧(f n).kids=[]∧Au (f n)=true∧(f n=n∨(f n).num=0)
theorem Yc{n:Aj}{k:As}(h:k∈C1 n):k.num=n.num∨k.num=0:=by
 unfold C1 at h
 repeat' split at h
 all_goals simp only[Ab0,AbH,or_false] at h
 all_goals first | (subst h;first | exact .inl rfl | exact .inr rfl) | (rcases h with rfl | rfl | rfl<;>exact .inr rfl)
theorem GE(f:Aj→Aj):∀{b:Bool} (t:Tr b),(t.mv f).cnt=t.cnt
 | _,.leaf _=>rfl
 | _,.neg a=>by simp only[Tr.mv,Tr.cnt,GE f a]
 | _,.two _ a b=>by simp only[Tr.mv,Tr.cnt,GE f a,GE f b]
 | _,.call _ ks=>by simp only[Tr.mv,Tr.cnt,GE f ks]
 | _,.nil=>rfl
 | _,.snoc ks a=>by simp only[Tr.mv,Tr.cnt,GE f ks,GE f a]
theorem UT(f:Aj→Aj)(o:Nat):∀{b:Bool} (t:Tr b),(t.mv f).kids o=t.kids o
 | _,.leaf _=>rfl
 | _,.neg _=>rfl
 | _,.two _ _ _=>rfl
 | _,.call _ _=>rfl
 | _,.nil=>rfl
 | _,.snoc ks a=>by simp only[Tr.mv,Tr.kids,UT f o ks,GE]
theorem H7{f:Aj→Aj}(h:UA f):∀{b:Bool} (t:Tr b) (o:Nat),t.Fit→(t.mv f).flat o=(t.flat o).map f
 | _,.leaf _,_,_=>rfl
 | _,.neg a,o,hf=>by simp only[Tr.mv,Tr.flat,H7 h a o hf,GE,AbX,Ach,AcF];rw[h.inner _ (by show(7:Int)≤8;omega)]
 | _,.two k a b,o,hf=>by
  simp only[Tr.mv,Tr.flat,H7 h a o hf.2.2.1,H7 h b (o+a.cnt) hf.2.2.2,GE,AbX,Ach,AcF]
  rw[h.inner _ (by have:=hf.1;show 7≤k;omega)]
 | _,.call x ks,o,hf=>by simp only[Tr.mv,Tr.flat,H7 h ks o hf.2,UT,AbX,Ach,AcF];rw[h.inner _ (by show(7:Int)≤7;omega)]
 | _,.nil,_,_=>rfl
 | _,.snoc ks a,o,hf=>by simp only[Tr.mv,Tr.flat,H7 h ks o hf.1,H7 h a (o+ks.cnt) hf.2,GE,AbX]
theorem JL{f:Aj→Aj}(h:UA f):∀{b:Bool} (t:Tr b),t.Fit→(t.mv f).Fit
 | _,.leaf n,hf=>by
  obtain⟨a,b,c,d,_⟩:=h.leaf n hf.1 hf.2.1 hf.2.2.1 hf.2.2.2
  exact⟨a,b,c,d⟩
 | _,.neg a,hf=>JL h a hf
 | _,.two k a b,hf=>⟨hf.1,hf.2.1,JL h a hf.2.2.1,JL h b hf.2.2.2⟩
 | _,.call x ks,hf=>⟨hf.1,JL h ks hf.2⟩
 | _,.nil,_=>trivial
 | _,.snoc ks a,hf=>⟨JL h ks hf.1,JL h a hf.2⟩
theorem UU(f:Aj→Aj):∀{b:Bool} (t:Tr b),(t.mv f).rank=t.rank
 | _,.leaf _=>rfl
 | _,.neg _=>rfl
 | _,.two _ _ _=>rfl
 | _,.call _ _=>rfl
 | _,.nil=>rfl
 | _,.snoc _ _=>rfl
theorem H8(f:Aj→Aj):∀{b:Bool} (t:Tr b),(t.mv f).need=t.need
 | _,.leaf _=>rfl
 | _,.neg a=>by simp only[Tr.mv,Tr.need,UU,H8 f a]
 | _,.two _ a b=>by simp only[Tr.mv,Tr.need,UU,H8 f a,H8 f b]
 | _,.call _ ks=>by simp only[Tr.mv,Tr.need,H8 f ks]
 | _,.nil=>rfl
 | _,.snoc ks a=>by simp only[Tr.mv,Tr.need,H8 f ks,H8 f a]
theorem H9{f:Aj→Aj}(h:UA f):∀{b:Bool} (t:Tr b),t.Fit→t.Num→(t.mv f).Num
 | _,.leaf n,hf,hn=>λk hk=>by
  obtain⟨_,_,_,_,e⟩:=h.leaf n hf.1 hf.2.1 hf.2.2.1 hf.2.2.2;have hk':k∈C1 (f n):=hk;rcases e with e | e
  ·rw[e] at hk';exact hn k hk'
  ·rcases Yc hk' with h1 | h1<;>omega
 | _,.neg a,hf,hn=>UX (H9 h a hf (λu hu=>hn u Aev))
 | _,.two o a b,hf,hn=>UY (H9 h a hf.2.2.1 (λu hu=>hn u Aer)) (H9 h b hf.2.2.2 (λu hu=>hn u Aeq))
 | _,.call x .nil,hf,hn=>hn
 | _,.call x (.snoc rs a),hf,hn=>RU (H9 h rs hf.2.1 (λu hu=>hn u Aek)) (H9 h a hf.2.2 (λu hu=>hn u Aek))
 | _,.nil,_,hn=>hn
 | _,.snoc rs a,hf,hn=>Sc (H9 h rs hf.1 (λu hu=>hn u Aek)) (H9 h a hf.2 (λu hu=>hn u Aek))
theorem Jg{own:List UInt8}{ss:List Br}(hss:∀s∈ss,s.May):UA (BD Eh own ss) where
 inner n hk:=by rw[BD,if_pos ⟨by omega,by omega⟩]
 leaf n h1 h2 h3 h4:=by
  unfold BD
  split
  ·exact⟨h1,h2,h3,h4,.inl rfl⟩
  ·rename_i hk
   split
   ·exact⟨h1,h2,h3,h4,.inl rfl⟩
   ·rename_i s e;obtain⟨a,b,c,d,_,_,_,x⟩:=XQ (hss s (GP e).1) h4 Aeb;refine⟨b,c,?_,a,.inr d⟩;rcases x with x | x
    ·rw[x,h3]
    ·rw[x];rfl
theorem Kz{own:List UInt8}{ss:List Br}(hss:∀s∈ss,s.May){n:Aj}(hp:Au n=true):(BD Eh own ss n).text.length≤n.text.length∧(BD Eh own ss n).ref.sheet.length≤n.ref.sheet.length∧(BD Eh own ss n).to.sheet.length≤n.to.sheet.length∧(BD Eh own ss n).kids.length≤n.kids.length:=by
 unfold BD
 split
 ·exact⟨Ab2 _,Ab2 _,Ab2 _,Ab2 _⟩
 ·split
  ·exact⟨Ab2 _,Ab2 _,Ab2 _,Ab2 _⟩
  ·rename_i s e;obtain⟨a,b,c,d,d2,h1,h2,x⟩:=XQ (hss s (GP e).1) hp Aeb;refine⟨by rw[d2];simp,h1,h2,?_⟩;rcases x with x | x
   ·rw[x];exact Ab2 _
   ·rw[x];simp[Cr]
theorem EG:∀{b:Bool} (t:Tr b) (o:Nat),t.Fit→∀n∈t.flat o,Au n=true
 | _,.leaf m,o,hf,n,hn=>by
  simp only[Tr.flat,Aah] at hn;subst hn
  exact hf.2.2.2
 | _,.neg a,o,hf,n,hn=>by
  simp only[Tr.flat,Ab1,Aah] at hn;rcases hn with hn | rfl
  ·exact EG a o hf n hn
  ·exact rfl
 | _,.two k a b,o,hf,n,hn=>by
  simp only[Tr.flat,Ab1,Aah] at hn;rcases hn with (hn | hn) | rfl
  ·exact EG a o hf.2.2.1 n hn
  ·exact EG b _ hf.2.2.2 n hn
  ·exact(Oy hf.1 hf.2.1 _ _).2
 | _,.call x ks,o,hf,n,hn=>by
  simp only[Tr.flat,Ab1,Aah] at hn;rcases hn with hn | rfl
  ·exact EG ks o hf.2 n hn
  ·exact(IU hf.1 _).2
 | _,.nil,_,_,n,hn=>by simp[Tr.flat] at hn
 | _,.snoc ks a,o,hf,n,hn=>by
  simp only[Tr.flat,Ab1] at hn;rcases hn with hn | hn
  ·exact EG ks o hf.1 n hn
  ·exact EG a _ hf.2 n hn
theorem Ka{l:List Aj}(h:BV l=true):∀n∈l,Au n=true:=by
 obtain⟨t,rfl,hf⟩:=Ju h;exact EG t 0 hf
theorem JK{own:List UInt8}{ss:List Br}(hss:∀s∈ss,s.May){t:Tr false}(hf:t.Fit):CF Eh own ss (t.flat 0)=(t.mv (BD Eh own ss)).flat 0∧(t.mv (BD Eh own ss)).Fit:=
 ⟨by rw[CF,if_pos (t.tree hf),H7 (Jg hss) t 0 hf],JL (Jg hss) t hf⟩
theorem Wp:J1 []:=Ym Aej
theorem RM{own:List UInt8}{ss:List Br}(hss:∀s∈ss,s.May){l:List Aj}(hsh:DN l)(hno:J1 l)(N:Nat)(hk:∀n∈l,n.kids.length≤N) :
  DN (CF Eh own ss l)∧J1 (CF Eh own ss l)∧(∀n∈CF Eh own ss l,n.kids.length≤N)∧(CF Eh own ss l).length≤l.length:=by
 by_cases ht:BV l=true
 ·obtain⟨t,rfl,hf⟩:=Ju ht;have hp:=Ka ht;obtain⟨e,a0⟩:=JK (own:=own) hss hf;have hm:∀n∈CF Eh own ss (t.flat 0),∃m∈t.flat 0,n=BD Eh own ss m:=λn hn=>by
   rw[CF,if_pos ht] at hn;obtain⟨m,h1,h2⟩:=AbZ.1 hn;exact⟨m,h1,h2.symm⟩
  refine⟨λn hn=>?_,λu hu eu=>?_,λn hn=>?_,?_⟩
  ·obtain⟨m,h1,rfl⟩:=hm n hn;obtain⟨a,b,c,_⟩:=Kz (own:=own) hss (hp m h1);obtain⟨d1,d2,d3⟩:=hsh m h1;exact⟨by omega,by omega,by omega⟩
  ·have:=Tr.inj u _ hu a0 [] [] (by simpa using eu.trans e) (.inl rfl);rw[this.1];exact H9 (Jg hss) t hf (hno t hf rfl)
  ·obtain⟨m,h1,rfl⟩:=hm n hn;obtain⟨_,_,_,d⟩:=Kz (own:=own) hss (hp m h1);have:=hk m h1;omega
  ·rw[CF,if_pos ht,AbT];exact Ab2 _
 ·rw[CF,if_neg ht];exact⟨λn hn=>(AbH hn).elim,Wp,λn hn=>(AbH hn).elim,by simp⟩
def Aa1:List UInt8:=[61,35,82,69,70,33]
noncomputable def DJ(own:List UInt8)(ss:List Br)(s:List UInt8):List UInt8:=
 if s≠[]∧Ab s 0=61∧Ci s=true then(match AE (s.drop 1) with
  | .ok l=>if 300<(61::BN (CF Eh own ss l)).length then Aa1 else 61::BN (CF Eh own ss l)
  | .error _=>s) else s
def JX(s:Br)(rv cv:Value):List Value:=[Aq s.sheet,rv,.int .i64 s.rows.new,cv,.int .i64 s.cols.new,.bool s.gone]
def C7(w:World)(v:Value)(l:List Br):Prop:=
 l.length≤1000000∧(v=.slice none 0 0∧l=[]∨∃a cap,v=.slice (some a) l.length cap∧∀i s,l[i]?=some s→∃rv cv,AP w rv s.rows.to∧AP w cv s.cols.to∧∀j u,(JX s rv cv)[j]?=some u→w.cell? ((a.add (i*6)).add j)=some u)
theorem C7.ext{w w':World}{v:Value}{l:List Br}(h:C7 w v l)(x:Ah w w'):C7 w' v l:=by
 obtain⟨h0,h | ⟨a,cap,e,h⟩⟩:=h
 ·exact⟨h0,.inl h⟩
 ·exact⟨h0,.inr ⟨a,cap,e,λi s hi=>let ⟨rv,cv,h1,h2,hc⟩:=h i s hi;⟨rv,cv,h1.ext x,h2.ext x,λj u hj=>A2 x (hc j u hj)⟩⟩⟩
theorem C7.slice{w:World}{v:Value}{l:List Br}(h:C7 w v l):∃p c,v=.slice p l.length c:=by
 obtain⟨h0,⟨rfl,rfl⟩ | ⟨a,cap,e,h⟩⟩:=h
 ·exact⟨_,_,rfl⟩
 ·exact⟨_,_,e⟩
theorem C7.at{w:World}{p:Option Addr}{c:Nat}{l:List Br}(h:C7 w (.slice p l.length c) l){i:Nat}{s:Br}(hi:l[i]?=some s) :
  ∃a rp rc cp cc,p=some a∧AP w (.slice rp s.rows.to.length rc) s.rows.to∧AP w (.slice cp s.cols.to.length cc) s.cols.to∧∀j u,(JX s (.slice rp s.rows.to.length rc) (.slice cp s.cols.to.length cc))[j]?=some u→w.cell? ((a.add (i*6)).add j)=some u:=by
 obtain⟨h0,⟨e,e2⟩ | ⟨a,cap,e,h⟩⟩:=h
 ·rw[e2] at hi;simp at hi
 ·simp only[Acn] at e;obtain⟨rv,cv,h1,h2,hc⟩:=h i s hi;obtain⟨rp,rc,rfl⟩:=h1.slice;obtain⟨cp,cc,rfl⟩:=h2.slice;exact⟨a,rp,rc,cp,cc,e.1,h1,h2,hc⟩
def Lr(ss:List Br)(x:List UInt8):Option Nat:=ss.findIdx? (λs=>decide (s.sheet=x))
theorem Ls{ss:List Br}{x:List UInt8}:Er ss x=(Lr ss x).bind (ss[·]?):=by
 unfold Er Lr
 induction ss with
 | nil=>rfl
 | cons s r ih=>
  rw[List.find?_cons,Ado];by_cases h:s.sheet=x
  ·simp[h]
  ·simp only[h,decide_false,AbK,if_false];rw[ih];cases List.findIdx? (λs=>decide (s.sheet=x)) r<;>simp
theorem Pc{ss:List Br}{x:List UInt8}(h:∀i s,i<ss.length→ss[i]?=some s→s.sheet≠x):Lr ss x=none:=by
 unfold Lr;rw[Ac9];intro s hs;obtain⟨i,hi,rfl⟩:=AcS hs;have:=h i _ hi (Aav hi)
 simpa using this
theorem Pd{ss:List Br}{x:List UInt8}{k:Nat}{s:Br}(hk:ss[k]?=some s)(hs:s.sheet=x)(h:∀i u,i<k→ss[i]?=some u→u.sheet≠x):Lr ss x=some k:=by
 unfold Lr;rw[AbI];obtain⟨a0,e⟩:=Abo.1 hk;refine⟨a0,by rw[e];simpa using hs,λj hj=>?_⟩;have:=h j _ hj (Aav Aeb)
 simpa using this
theorem U3(s:Br)(rp cp:Option Addr)(rl rc cl cc A:Nat)(x:List UInt8)(w:World)(hA:Blk w A [Aq x] 9):A9 prog 261 [.agg ⟨JX s (.slice rp rl rc) (.slice cp cl cc)⟩,.pointer (some ⟨A,0,none⟩)] w (λv w'=>v=.bool (decide (s.sheet=x))∧Ah w w'):=by
 refine AG func261 ntmps261 ?_;refine Sa ?_;refine C0 λX w1 a1 a0 hX=>?_;replace hX:Blk w1 X (JX s (.slice rp rl rc) (.slice cp cl cc)) 79:=hX;replace hA:=hA.ext a0;refine Sa ?_;exact QW.body1 rfl rfl ⟨by simp,a0⟩
theorem Kq(ss:List Br)(sv:Value)(A:Nat)(x:List UInt8)(w:World)(h:C7 w sv ss)(hA:Blk w A [Aq x] 9):A9 prog 78 [sv,.func (.func 261) ⟨[]⟩ ⟨[.pointer (some ⟨A,0,none⟩)]⟩] w (λv w'=>v=.int .i64 (match Lr ss x with | some i=>(i:Int) | none=>-1)∧Ah w w'):=by
 obtain⟨p,c,rfl⟩:=h.slice;have hl:=h.1;refine AG func78 ntmps78 ?_;refine Sa ?_;refine CW.loop (ι:=Nat) (λk w'=>k≤ss.length∧Ah w w'∧∀i u,i<k→ss[i]?=some u→u.sheet≠x) (λk=>[(0,.slice p ss.length c),(1,.func (.func 261) ⟨[]⟩ ⟨[.pointer (some ⟨A,0,none⟩)]⟩),(7,.int .i64 ss.length),(8,.int .i64 k)]) (λk=>ss.length - k) 0 ⟨by omega,Chg.refl _ _,λi u h=>by omega⟩ Bl ?_;rintro k w1 ⟨hk,hx,a2⟩;replace h:=h.ext hx;replace hA:=hA.ext hx;refine Sa ?_;refine Av (λh2=>?_) λh2=>?_
 ·have h2:k<ss.length:=by simp at h2;omega
  obtain⟨s,hs⟩:∃s,ss[k]?=some s:=⟨_,Aav h2⟩;obtain⟨a,rp,rc,cp,cc,rfl,hr,hc,a1⟩:=h.at hs;have a0:∀j u,(JX s (.slice rp s.rows.to.length rc) (.slice cp s.cols.to.length cc))[j]?=some u→w1.cell? ((a.add (((k:Nat):Int).toNat*6)).add j)=some u:=λj u hj=>by rw[show((k:Nat):Int).toNat=k by omega];exact a1 j u hj
  refine Sa ?_;refine Lo ?_;refine LW.load_cells rfl a0 rfl rfl rfl rfl ?_;refine Sa ?_;refine LW.call (fs:=[]) (cs:=[.pointer (some ⟨A,0,none⟩)]) rfl rfl rfl (U3 s _ _ _ _ _ _ A x w1 hA) ?_;rintro v w2 ⟨rfl,a3⟩;refine Sa ?_;refine Av (λh3=>?_) λh3=>?_
  ·have h3:s.sheet=x:=by simpa using h3
   refine Sa ?_;exact QW.body1 rfl rfl ⟨by rw[Pd hs h3 a2],hx.trans a3⟩
  ·have h3:s.sheet≠x:=by simpa using h3
   refine Sa ?_;refine QW.again (k+1) ⟨by omega,hx.trans a3,λi u hi hu=>?_⟩ Bl Aeb;rcases AbW i k with h4 | h4
   ·exact a2 i u h4 hu
   ·obtain rfl:i=k:=by omega
    rw[hs] at hu;obtain rfl:=Ab9 hu;exact h3
 ·have h2:k=ss.length:=by simp at h2;omega
  subst h2;refine Sa ?_;refine QW.body1 rfl rfl ⟨?_,hx⟩;rw[Pc (λi s hi hs=>a2 i s hi hs)]
def ShV(w:World)(o:Option Br)(v:Value):Prop:=match o with
 | none=>∃cs,v=.tuple #[.agg ⟨cs⟩,.bool false]∧cs=JX ⟨[],⟨[],0⟩,⟨[],0⟩,false⟩ (.slice none 0 0) (.slice none 0 0)
 | some s=>∃rp rc cp cc,v=.tuple #[.agg ⟨JX s (.slice rp s.rows.to.length rc) (.slice cp s.cols.to.length cc)⟩,.bool true]∧AP w (.slice rp s.rows.to.length rc) s.rows.to∧AP w (.slice cp s.cols.to.length cc) s.cols.to
theorem WL(own:List UInt8)(ss:List Br)(sv:Value)(x:List UInt8)(w:World)(h:C7 w sv ss):A9 prog 216 [.agg ⟨[Aq own,sv]⟩,Aq x] w (λv w'=>ShV w' (Er ss (if x=[] then own else x)) v∧Ah w w'):=by
 obtain⟨p,c,rfl⟩:=h.slice;have hl:=h.1;refine AG func216 ntmps216 ?_;refine Sa ?_;refine C0 λM w1 ah ad hM=>?_;replace hM:Blk w1 M [Aq own,.slice p ss.length c] 235:=hM;have ai:=ad.size;have ae:=hM.lt;refine Sa ?_;refine C0 λA w2 aj a9 hA=>?_;replace hA:Blk w2 A [Aq x] 9:=hA;have af:=hA.lt;replace hM:=hM.ext a9;have ak:=a9.size;refine Sa ?_;refine B1 λR w3 al a8 hR=>?_;replace hM:=hM.ext a8;replace hA:=hA.ext a8;have am:=a8.size;have a6:=(ad.trans a9).trans a8;have ag:=hR.lt;refine Sa ?_;refine Av (λb1=>?_) λb1=>?_
 ·have b1:x=[]:=by simpa using b1
  refine Sa ?_;refine Cu λw4 aa hA=>?_;replace hA:Blk w4 A [Aq own] 9:=hA;replace hM:=hM.chg aa Aee;replace hR:=hR.chg aa Aee;have a7:Ah w w4:=a6.step aa Aee;rw[if_pos b1];have ab:=h.ext a7;refine Sa ?_;refine Ap rfl rfl (Kq ss _ A _ _ ab hA) ?_;rintro v w5 ⟨rfl,a3⟩;replace hM:=hM.ext a3;replace hR:=hR.ext a3;have a0:=a7.trans a3;rw[Ls];refine Sa ?_
  cases hi:Lr ss _ with
  | none=>
   refine Sa ?_;refine AF λw6 a4 hR=>?_;refine Sa ?_
   exact QW.body_ct rfl rfl hR rfl rfl rfl rfl ⟨⟨_,rfl,rfl⟩,a0.step a4 Aee⟩
  | some i=>
   have ac:i<ss.length:=by
    unfold Lr at hi;exact(AbI.1 hi).1
   obtain⟨s,hs⟩:∃s,ss[i]?=some s:=⟨_,Aav ac⟩;obtain⟨a,rp,rc,cp,cc,rfl,hr,hc,a2⟩:=h.at hs;have a1:∀j u,(JX s (.slice rp s.rows.to.length rc) (.slice cp s.cols.to.length cc))[j]?=some u→w5.cell? ((a.add (((i:Nat):Int).toNat*6)).add j)=some u:=λj u hj=>by rw[show((i:Nat):Int).toNat=i by omega];exact A2 a0 (a2 j u hj)
   simp only[Ac4,hs];refine Sa ?_;refine LW.know (t:=16) (c:=false) rfl (decide_eq_false Aeb) ?_;refine Sa ?_;refine Lo ?_;refine LW.load_cells rfl a1 rfl rfl rfl rfl ?_;refine Sa ?_;refine AF λw6 a4 hR=>?_;have a5:=a0.step a4 Aee;refine Sa ?_;exact QW.body_ct rfl rfl hR rfl rfl rfl rfl ⟨⟨rp,rc,cp,cc,rfl,hr.ext a5,hc.ext a5⟩,a5⟩
 ·have b1:¬x=[]:=by simpa using b1
  have a7:=a6;rw[if_neg b1];have ab:=h.ext a7;refine Sa ?_;refine Ap rfl rfl (Kq ss _ A _ _ ab hA) ?_;rintro v w5 ⟨rfl,a3⟩;replace hM:=hM.ext a3;replace hR:=hR.ext a3;have a0:=a7.trans a3;rw[Ls];refine Sa ?_
  cases hi:Lr ss _ with
  | none=>
   refine Sa ?_;refine AF λw6 a4 hR=>?_;refine Sa ?_
   exact QW.body_ct rfl rfl hR rfl rfl rfl rfl ⟨⟨_,rfl,rfl⟩,a0.step a4 Aee⟩
  | some i=>
   have ac:i<ss.length:=by
    unfold Lr at hi;exact(AbI.1 hi).1
   obtain⟨s,hs⟩:∃s,ss[i]?=some s:=⟨_,Aav ac⟩;obtain⟨a,rp,rc,cp,cc,rfl,hr,hc,a2⟩:=h.at hs;have a1:∀j u,(JX s (.slice rp s.rows.to.length rc) (.slice cp s.cols.to.length cc))[j]?=some u→w5.cell? ((a.add (((i:Nat):Int).toNat*6)).add j)=some u:=λj u hj=>by rw[show((i:Nat):Int).toNat=i by omega];exact A2 a0 (a2 j u hj)
   simp only[Ac4,hs];refine Sa ?_;refine LW.know (t:=16) (c:=false) rfl (decide_eq_false Aeb) ?_;refine Sa ?_;refine Lo ?_;refine LW.load_cells rfl a1 rfl rfl rfl rfl ?_;refine Sa ?_;refine AF λw6 a4 hR=>?_;have a5:=a0.step a4 Aee;refine Sa ?_;exact QW.body_ct rfl rfl hR rfl rfl rfl rfl ⟨⟨rp,rc,cp,cc,rfl,hr.ext a5,hc.ext a5⟩,a5⟩
def MvV(n m:Aj)(kv v:Value):Prop:=∃kv',v=.agg ⟨BO ⟨m,kv'⟩⟩∧(kv'=kv∧m.kids=n.kids∨kv'=.slice none 0 0∧m.kids=[])
theorem ZW{go:Br→Aj→Aj}{own:List UInt8}{ss:List Br}{n:Aj}(h5:n.kind≠5)(h6:n.kind≠6):BD go own ss n=n:=by rw[BD,if_pos ⟨h5,h6⟩]
theorem AaN{go:Br→Aj→Aj}{own:List UInt8}{ss:List Br}{n:Aj}(h:n.kind=5∨n.kind=6):BD go own ss n=match Er ss (Up own n) with | none=>n | some s=>go s n:=by
 unfold BD
 (rw[if_neg Aeb])<;>cases Er ss (Up own n)<;>rfl
theorem Oi{n:Aj}(hp:Au n=true)(h:n.kind=5∨n.kind=6):n.ref.row≤998∧n.ref.col≤701∧(BK n).row≤998∧(BK n).col≤701:=by
 rcases h with h | h
 ·obtain⟨h1,_⟩:=Hb hp h;obtain⟨b1,b2,b3,b4,_⟩:=Cm h1;rw[BK,if_pos h];exact⟨b4,b2,b4,b2⟩
 ·obtain⟨h1,h2,_⟩:=Fh hp h;obtain⟨b1,b2,b3,b4,_⟩:=Cm h1;obtain⟨c1,c2,c3,c4,_⟩:=Cm h2;rw[BK,if_neg Aeb];exact⟨b4,b2,c4,c2⟩
set_option maxHeartbeats 2000000 in
theorem Yl(own:List UInt8)(ss:List Br)(sv:Value)(n:Aj)(kp:Option Addr)(kl kc:Nat)(w:World)(h:C7 w sv ss)(hss:∀s∈ss,s.Fine)(hp:Au n=true):A9 prog 171 [.agg ⟨[Aq own,sv]⟩,.agg ⟨BO ⟨n,.slice kp kl kc⟩⟩] w (λv w'=>MvV n (BD Eh own ss n) (.slice kp kl kc) v∧Ah w w'):=by
 obtain⟨p,c,rfl⟩:=h.slice;have hl:=h.1;refine AG func171 ntmps171 ?_;refine Sa ?_;refine C0 λM w1 bh b2 hM=>?_;replace hM:Blk w1 M [Aq own,.slice p ss.length c] 235:=hM;have bi:=b2.size;refine Sa ?_;refine C0 λN w2 bj ay hN=>?_;replace hN:Blk w2 N (BO ⟨n,.slice kp kl kc⟩) 189:=hN;have b3:=hN.lt;replace hM:=hM.ext ay;have bk:=ay.size;refine Sa ?_;refine B1 λR w3 bl aq hR=>?_;replace hM:=hM.ext aq;replace hN:=hN.ext aq;have bm:=aq.size;have af:=(b2.trans ay).trans aq;have b4:=hR.lt;apply LW.nil;apply QW.then_n;refine CW.seq_cut (ι:=Unit) (λ_ w'=>w'=w3∧(n.kind=5∨n.kind=6)) (λ_=>[(2,.pointer (some ⟨M,0,none⟩)),(3,.pointer (some ⟨N,0,none⟩)),(4,.pointer (some ⟨R,0,none⟩))]) ?_ ?_
 ·refine Sa ?_;by_cases h5:n.kind=5;rotate_left
  ·refine LW.know (t:=17) (c:=true) rfl (by simp[h5]) ?_;refine Sa ?_;refine Av (λh6=>?_) λh6=>?_
   ·have h6:n.kind≠6:=by simpa using h6
    rw[ZW h5 h6];refine Sa ?_;refine AF λw4 b5 hR=>?_;replace hR:Blk w4 R (BO ⟨n,.slice kp kl kc⟩) 189:=hR;refine Sa ?_;exact QW.body_c rfl rfl hR rfl rfl rfl ⟨⟨_,rfl,.inl ⟨rfl,rfl⟩⟩,af.step b5 Aee⟩
   have h6:n.kind=6:=by simpa using h6
   refine Sa ?_;exact QW.head () ⟨rfl,.inr h6⟩ Bp
  refine LW.know (t:=17) (c:=false) rfl (by simp[h5]) ?_;refine Sa ?_;exact QW.head () ⟨rfl,.inl h5⟩ Bp
 rintro⟨⟩ w3 ⟨rfl,hk⟩;show CW _ _ _ _ _ [(2,.pointer (some ⟨M,0,none⟩)),(3,.pointer (some ⟨N,0,none⟩)),(4,.pointer (some ⟨R,0,none⟩))] _;rw[AaN hk];obtain⟨s1,s2,s3,s4⟩:=Oi hp hk;refine Sa ?_;refine Ap rfl rfl (WL own ss _ n.ref.sheet w3 (h.ext af)) ?_;rintro v w4 ⟨hv,au⟩;replace hN:=hN.ext au;replace hR:=hR.ext au;have bn:=au.size;have ag:=af.trans au;have b6:(if n.ref.sheet=[] then own else n.ref.sheet)=Up own n:=rfl;rw[b6] at hv
 cases hf:Er ss (Up own n) with
 | none=>
  rw[hf] at hv;obtain⟨cs,rfl,rfl⟩:=hv;refine Sa ?_;refine B1 λS w5 b7 ad hS=>?_;replace hN:=hN.ext ad;replace hR:=hR.ext ad;have b8:=ad.size;have al:=ag.trans ad;refine Sa ?_;refine AF λw6 ah hS=>?_;replace hN:=hN.chg ah Aee;replace hR:=hR.chg ah Aee;have a2:=al.step ah Aee;refine Sa ?_;refine AF λw7 b9 hR=>?_;replace hR:Blk w7 R (BO ⟨n,.slice kp kl kc⟩) 189:=hR;refine Sa ?_
  exact QW.body_c rfl rfl hR rfl rfl rfl ⟨⟨_,rfl,.inl ⟨rfl,rfl⟩⟩,a2.step b9 Aee⟩
 | some s=>
  rw[hf] at hv;obtain⟨rp,rc,cp,cc,rfl,hr,hc⟩:=hv;have av:=hss s (GP hf).1;refine Sa ?_;refine B1 λS w5 b7 ad hS=>?_;replace hN:=hN.ext ad;replace hR:=hR.ext ad;have b8:=ad.size;have al:=ag.trans ad;refine Sa ?_;refine AF λw6 ah hS=>?_;replace hS:Blk w6 S (JX s (.slice rp s.rows.to.length rc) (.slice cp s.cols.to.length cc)) 79:=hS;replace hN:=hN.chg ah Aee;replace hR:=hR.chg ah Aee;have ai:Ah w4 w6:=ad.step ah Aee;replace hr:=hr.ext ai;replace hc:=hc.ext ai;have a2:=ag.trans ai;have bo:=a2.size;have ba:=hS.lt;refine Sa ?_
  cases hg:s.gone with
  | true=>
   have eg:Eh s n=Cr:=by rw[Eh,if_pos hg]
   simp only[eg];have a5:=a2;refine Sa ?_;refine AF λw9 a1 hR=>?_;replace hR:Blk w9 R (BO ⟨Cr,.slice none 0 0⟩) 189:=hR;refine Sa ?_
   exact QW.body_c rfl rfl hR rfl rfl rfl ⟨⟨_,rfl,.inr ⟨rfl,rfl⟩⟩,a5.step a1 Aee⟩
  | false=>
   have eg:Eh s n=if Du s n then Cr else KK s n:=by rw[Eh,if_neg (by rw[hg];simp)]
   simp only[eg];refine Sa ?_;refine LW.load_agg (cs:=AU n.to) rfl hN rfl rfl rfl ⟨rfl,rfl,rfl,rfl,rfl,trivial⟩ rfl ?_;refine Sa ?_;refine B1 λL w7 bp am hL=>?_;replace hN:=hN.ext am;replace hR:=hR.ext am;replace hS:=hS.ext am;have az:=a2.trans am;have bq:=az.size;refine Sa ?_;refine AF λw8 aw hL=>?_;replace hL:Blk w8 L [Aq n.to.sheet,.int .i64 n.to.col,.int .i64 n.to.row,.bool n.to.ac,.bool n.to.ar] 187:=hL;have aj:Ah w6 w8:=am.step aw Aee;have an:=a2.trans aj;replace hN:=hN.chg aw Aee;replace hR:=hR.chg aw Aee;replace hS:=hS.chg aw Aee;have br:=an.size;have bb:=hL.lt;rcases hP:B7 s.rows n.ref.row (BK n).row with ⟨x1,x2,x3⟩;rcases hQ:B7 s.cols n.ref.col (BK n).col with ⟨y1,y2,y3⟩;have ae:Du s n↔(x3=false∨y3=false∨998<x2∨701<y2):=by unfold Du;rw[hP,hQ]
   have ax:KK s n={n with ref:={n.ref with row:=x1,col:=y1},to:=if n.kind=6 then {n.to with row:=x2,col:=y2} else n.to}:=by unfold KK;rw[hP,hQ]
   refine Sa ?_;by_cases k5:n.kind=5
   ·have el:BK n=n.ref:=by rw[BK,if_pos k5]
    refine CW.yes rfl (decide_eq_true k5) ?_;refine Sa ?_;refine LW.load_agg (cs:=AU n.ref) rfl hN rfl rfl rfl ⟨rfl,rfl,rfl,rfl,rfl,trivial⟩ rfl ?_;refine Sa ?_;refine AF λw9 a1 hL=>?_;replace hL:Blk w9 L [Aq n.ref.sheet,.int .i64 n.ref.col,.int .i64 n.ref.row,.bool n.ref.ac,.bool n.ref.ar] 187:=hL;rw[←el] at hL;have a7:Ah w6 w9:=aj.step a1 Aee;have b0:=a2.trans a7;replace hN:=hN.chg a1 Aee;replace hR:=hR.chg a1 Aee;replace hS:=hS.chg a1 Aee;have k6:¬n.kind=6:=Aeb
    rw[if_neg k6] at ax;refine Sa ?_;refine LW.load_agg (cs:=[.slice rp s.rows.to.length rc,.int .i64 s.rows.new]) rfl hS rfl rfl rfl ⟨rfl,rfl,trivial⟩ rfl ?_;refine Sa ?_;have a8:=Kd s.rows av.1 _ n.ref.row (BK n).row Aeb Aeb _ ⟨_,rfl,hr.ext a7⟩;rw[hP] at a8;refine Ap rfl rfl a8 ?_;rintro v bc ⟨rfl,a0⟩;replace hN:=hN.ext a0;replace hR:=hR.ext a0;replace hS:=hS.ext a0;replace hL:=hL.ext a0;have a3:=a7.trans a0;refine Sa ?_;refine LW.load_agg (cs:=[.slice cp s.cols.to.length cc,.int .i64 s.cols.new]) rfl hS rfl rfl rfl ⟨rfl,rfl,trivial⟩ rfl ?_;refine Sa ?_;have a9:=Kd s.cols av.2 _ n.ref.col (BK n).col Aeb Aeb _ ⟨_,rfl,hc.ext a3⟩;rw[hQ] at a9;refine Ap rfl rfl a9 ?_;rintro v bd ⟨rfl,a6⟩;replace hN:=hN.ext a6;replace hR:=hR.ext a6;have a5:=a2.trans (a3.trans a6);have b1:=a5.size
    cases x3 with
    | false=>
     rw[if_pos (ae.2 (.inl rfl))];refine Sa ?_;refine AF λw9 a1 hR=>?_;replace hR:Blk w9 R (BO ⟨Cr,.slice none 0 0⟩) 189:=hR;refine Sa ?_
     exact QW.body_c rfl rfl hR rfl rfl rfl ⟨⟨_,rfl,.inr ⟨rfl,rfl⟩⟩,a5.step a1 Aee⟩
    | true=>
    cases y3 with
    | false=>
     rw[if_pos (ae.2 (.inr (.inl rfl)))];refine Sa ?_;refine AF λw9 a1 hR=>?_;replace hR:Blk w9 R (BO ⟨Cr,.slice none 0 0⟩) 189:=hR;refine Sa ?_
     exact QW.body_c rfl rfl hR rfl rfl rfl ⟨⟨_,rfl,.inr ⟨rfl,rfl⟩⟩,a5.step a1 Aee⟩
    | true=>
    refine Sa ?_;by_cases m1:998<x2
    ·rw[if_pos (ae.2 (.inr (.inr (.inl m1))))];refine LW.know (t:=80) (c:=true) rfl (decide_eq_true m1) ?_;refine Sa ?_;refine AF λw9 a1 hR=>?_;replace hR:Blk w9 R (BO ⟨Cr,.slice none 0 0⟩) 189:=hR;refine Sa ?_;exact QW.body_c rfl rfl hR rfl rfl rfl ⟨⟨_,rfl,.inr ⟨rfl,rfl⟩⟩,a5.step a1 Aee⟩
    refine LW.know (t:=80) (c:=false) rfl (decide_eq_false m1) ?_;refine Sa ?_;refine Av (λm2=>?_) λm2=>?_
    ·have m2:701<y2:=by simpa using m2
     rw[if_pos (ae.2 (.inr (.inr (.inr m2))))];refine Sa ?_;refine AF λw9 a1 hR=>?_;replace hR:Blk w9 R (BO ⟨Cr,.slice none 0 0⟩) 189:=hR;refine Sa ?_;exact QW.body_c rfl rfl hR rfl rfl rfl ⟨⟨_,rfl,.inr ⟨rfl,rfl⟩⟩,a5.step a1 Aee⟩
    have m2:¬701<y2:=by simpa using m2
    rw[if_neg (by rw[ae];simp;omega),ax];refine Sa ?_;refine Cu λbe aa hN=>?_;refine Sa ?_;refine Cu λbf ab hN=>?_;have a4:=(a5.step aa Aee).step ab Aee;replace hR:=(hR.chg aa Aee).chg ab Aee;refine Sa ?_;refine CW.no rfl (decide_eq_false k6) ?_;refine Sa ?_;refine AF λbg ak hR=>?_;refine Sa ?_;exact QW.body_c rfl rfl hR rfl rfl rfl ⟨⟨_,rfl,.inl ⟨rfl,rfl⟩⟩,a4.step ak Aee⟩
   ·have k6:n.kind=6:=Aeb
    have el:BK n=n.to:=by rw[BK,if_neg k5]
    refine CW.no rfl (decide_eq_false k5) ?_;rw[←el] at hL;have a7:=aj;have b0:=an;rw[if_pos k6] at ax;refine Sa ?_;refine LW.load_agg (cs:=[.slice rp s.rows.to.length rc,.int .i64 s.rows.new]) rfl hS rfl rfl rfl ⟨rfl,rfl,trivial⟩ rfl ?_;refine Sa ?_;have a8:=Kd s.rows av.1 _ n.ref.row (BK n).row Aeb Aeb _ ⟨_,rfl,hr.ext a7⟩;rw[hP] at a8;refine Ap rfl rfl a8 ?_;rintro v bc ⟨rfl,a0⟩;replace hN:=hN.ext a0;replace hR:=hR.ext a0;replace hS:=hS.ext a0;replace hL:=hL.ext a0;have a3:=a7.trans a0;refine Sa ?_;refine LW.load_agg (cs:=[.slice cp s.cols.to.length cc,.int .i64 s.cols.new]) rfl hS rfl rfl rfl ⟨rfl,rfl,trivial⟩ rfl ?_;refine Sa ?_;have a9:=Kd s.cols av.2 _ n.ref.col (BK n).col Aeb Aeb _ ⟨_,rfl,hc.ext a3⟩;rw[hQ] at a9;refine Ap rfl rfl a9 ?_;rintro v bd ⟨rfl,a6⟩;replace hN:=hN.ext a6;replace hR:=hR.ext a6;have a5:=a2.trans (a3.trans a6);have b1:=a5.size
    cases x3 with
    | false=>
     rw[if_pos (ae.2 (.inl rfl))];refine Sa ?_;refine AF λw9 a1 hR=>?_;replace hR:Blk w9 R (BO ⟨Cr,.slice none 0 0⟩) 189:=hR;refine Sa ?_
     exact QW.body_c rfl rfl hR rfl rfl rfl ⟨⟨_,rfl,.inr ⟨rfl,rfl⟩⟩,a5.step a1 Aee⟩
    | true=>
    cases y3 with
    | false=>
     rw[if_pos (ae.2 (.inr (.inl rfl)))];refine Sa ?_;refine AF λw9 a1 hR=>?_;replace hR:Blk w9 R (BO ⟨Cr,.slice none 0 0⟩) 189:=hR;refine Sa ?_
     exact QW.body_c rfl rfl hR rfl rfl rfl ⟨⟨_,rfl,.inr ⟨rfl,rfl⟩⟩,a5.step a1 Aee⟩
    | true=>
    refine Sa ?_;by_cases m1:998<x2
    ·rw[if_pos (ae.2 (.inr (.inr (.inl m1))))];refine LW.know (t:=80) (c:=true) rfl (decide_eq_true m1) ?_;refine Sa ?_;refine AF λw9 a1 hR=>?_;replace hR:Blk w9 R (BO ⟨Cr,.slice none 0 0⟩) 189:=hR;refine Sa ?_;exact QW.body_c rfl rfl hR rfl rfl rfl ⟨⟨_,rfl,.inr ⟨rfl,rfl⟩⟩,a5.step a1 Aee⟩
    refine LW.know (t:=80) (c:=false) rfl (decide_eq_false m1) ?_;refine Sa ?_;refine Av (λm2=>?_) λm2=>?_
    ·have m2:701<y2:=by simpa using m2
     rw[if_pos (ae.2 (.inr (.inr (.inr m2))))];refine Sa ?_;refine AF λw9 a1 hR=>?_;replace hR:Blk w9 R (BO ⟨Cr,.slice none 0 0⟩) 189:=hR;refine Sa ?_;exact QW.body_c rfl rfl hR rfl rfl rfl ⟨⟨_,rfl,.inr ⟨rfl,rfl⟩⟩,a5.step a1 Aee⟩
    have m2:¬701<y2:=by simpa using m2
    rw[if_neg (by rw[ae];simp;omega),ax];refine Sa ?_;refine Cu λbe aa hN=>?_;refine Sa ?_;refine Cu λbf ab hN=>?_;have a4:=(a5.step aa Aee).step ab Aee;replace hR:=(hR.chg aa Aee).chg ab Aee;refine Sa ?_;refine CW.yes rfl (decide_eq_true k6) ?_;refine Sa ?_;refine Cu λbs ao hN=>?_;refine Sa ?_;refine Cu λbt ap hN=>?_;have a4:=(a4.step ao Aee).step ap Aee;replace hR:=(hR.chg ao Aee).chg ap Aee;refine Sa ?_;refine AF λbg ak hR=>?_;refine Sa ?_;exact QW.body_c rfl rfl hR rfl rfl rfl ⟨⟨_,rfl,.inl ⟨rfl,rfl⟩⟩,a4.step ak Aee⟩
theorem LB(new:Int):∀(l:List Int) (last z:Int),B0 new last (l++[z])=(B0 new last l&&(decide (z=-1)||decide (l.foldl (λa y=>if y=-1 then a else y) last<z∧z<new)))
 | [],last,z=>by
  show(if z=-1 then true else if z≤last∨new≤z then false else true)=(true&&(decide (z=-1)||decide (last<z∧z<new)));by_cases h:z=-1
  ·simp[h]
  ·by_cases h2:z≤last∨new≤z
   ·have h3:¬(last<z∧z<new):=Aeb
    rw[if_neg h,if_pos h2];simp[h,h3]
   ·have h3:last<z∧z<new:=Aeb
    rw[if_neg h,if_neg h2]
    simp[h3]
 | y::r,last,z=>by
  show(if y=-1 then B0 new last (r++[z]) else if y≤last∨new≤y then false else B0 new y (r++[z]))=((if y=-1 then B0 new last r else if y≤last∨new≤y then false else B0 new y r)&&(decide (z=-1)||decide (r.foldl (λa y=>if y=-1 then a else y) (if y=-1 then last else y)<z∧z<new)));by_cases h:y=-1
  ·simp only[if_pos h];exact LB new r last z
  ·simp only[if_neg h];by_cases h2:y≤last∨new≤y
   ·simp only[if_pos h2];rfl
   ·simp only[if_neg h2];exact LB new r y z
def Mc(l:List Int):Int:=l.foldl (λa y=>if y=-1 then a else y) (-1)
theorem TU(l:List Int)(z:Int):Mc (l++[z])=if z=-1 then Mc l else z:=by simp[Mc]
theorem Px{m:AN}{k:Nat}(h:k<m.to.length):B0 m.new (-1) (m.to.take (k+1))=(B0 m.new (-1) (m.to.take k)&&(decide (m.to.getD k 0=-1)||decide (Mc (m.to.take k)<m.to.getD k 0∧m.to.getD k 0<m.new)))∧Mc (m.to.take (k+1))=if m.to.getD k 0=-1 then Mc (m.to.take k) else m.to.getD k 0:=by
 have e:m.to.take (k+1)=m.to.take k++[m.to.getD k 0]:=by
  rw[AbO,Aav h];simp[Aav h]
 rw[e,LB,TU];exact⟨rfl,rfl⟩
theorem Y9{new last:Int}:∀{l:List Int} (k:Nat),B0 new last (l.take k)=false→B0 new last l=false:=by
 intro l
 induction l generalizing last with
 | nil=>intro k h;simpa using h
 | cons y r ih=>
  intro k h
  match k with
  | 0=>simp[B0] at h
  | k+1=>
   simp only[List.take_succ_cons,B0] at h ⊢
   split
   ·rename_i hy;rw[if_pos hy] at h;exact ih k h
   ·rename_i hy;rw[if_neg hy] at h
    split
    ·rfl
    ·rename_i h2;rw[if_neg h2] at h;exact ih k h
def noP(s:List UInt8):Bool:=s.all (λc=>decide (c≠40)&&decide (c≠41))
def AaD(nd:Aj):Prop:=nd.text.length≤10∧nd.ref.sheet.length≤10∧nd.to.sheet.length≤10∧nd.num≤255∧nd.kids.length≤100∧noP nd.text=true∧(nd.ref.sheet=[]∨nd.ref.sheet=[84])
def NP(w0 w:World)(l:List Aj)(outv stv:Value):Prop:=∃nvs:List NV,E.Own w w0.heap.size 189 14 outv nvs.length (nvs.flatMap BO)∧nvs.map NV.node=l∧∀x∈nvs,BW w x.kv x.node.kids∧∀b∈Ae x.kv,b∉Ae stv
theorem BW.chg{S:List Nat}{w w':World}{kv stv:Value}{ks:List Int}(h:BW w kv ks)(hn:∀b∈Ae kv,b∉Ae stv)(hc:Chg S w w')(h2:∀b∈S,b∈Ae stv∨∃l T,Blk w b l T∧T≠3):BW w' kv ks:=by
 rcases h with h | ⟨b,cap,sp,e,hb⟩
 ·exact .inl h
 ·refine .inr ⟨b,cap,sp,e,hb.chg hc (λhm=>?_)⟩;rcases h2 b hm with h2 | ⟨l,T,h3,h4⟩
  ·exact hn b (by rw[e];simp[Ae]) h2
  ·exact h4 (h3.inj hb)
theorem NP.chg{S:List Nat}{w0 w w':World}{l:List Aj}{outv stv:Value}(h:NP w0 w l outv stv)(hc:Chg S w w')(h1:∀b∈Ae outv,b∉S)(h2:∀b∈S,b∈Ae stv∨∃l T,Blk w b l T∧T≠3):NP w0 w' l outv stv:=by
 obtain⟨nvs,ho,hm,hk⟩:=h;exact⟨nvs,ho.chg hc h1,hm,λx hx=>⟨(hk x hx).1.chg (hk x hx).2 hc h2,(hk x hx).2⟩⟩
theorem NP.ext{w0 w w':World}{l:List Aj}{outv stv:Value}(h:NP w0 w l outv stv)(hx:Ah w w'):NP w0 w' l outv stv:=h.chg hx Aej Aej
def SV(w0 w:World)(v:Value)(s:List Int):Prop:=E.Own w w0.heap.size 3 1 v s.length (Ad s)∨∃p,v=.slice p s.length s.length∧(p=none∧s.length=0∨∃a,p=some a∧∀j u,(Ad s)[j]?=some u→w.cell? (a.add j)=some u)
structure CI(w0 w:World)(l:List Aj)(outv:Value)(X:Nat)(nd:Aj)(kv:Value)(s2:List Int)(stv:Value):Prop where
 ext:Ah w0 w
 np:NP w0 w l outv stv
 blk:Blk w X (BO ⟨nd,kv⟩) 189
 kids:BW w kv nd.kids
 apart:∀b∈Ae kv,b∉Ae stv
 sv:SV w0 w stv s2
 go:Bk 0 [] (l++[nd])=some (s2++[(l.length:Int)])
 fine:AaD nd
 le:s2.length≤l.length
theorem VE(zs:List Int)(v:Value)(w:World)(h:AP w v zs)(hl:zs.length≤100000):A9 prog 172 [v] w (λv' w'=>(∃p c,v'=.slice p zs.length c)∧BW w' v' zs∧(∀b∈Ae v',w.heap.size≤b)∧Ah w w'):=by
 refine AG func172 ntmps172 ?_;obtain⟨_,⟨rfl,rfl⟩ | ⟨a,cap,rfl,hc⟩⟩:=h
 ·refine Sa ?_;refine LW.eql_sn rfl rfl rfl rfl ?_;refine Sa ?_;exact QW.body1 rfl rfl ⟨⟨_,_,rfl⟩,.inl ⟨rfl,rfl⟩,by simp[Ae],Chg.refl _ _⟩
 ·refine Sa ?_;refine LW.eql_sn rfl rfl rfl rfl ?_;refine Sa ?_
  (apply LW.buildSlice0;exact rfl;exact rfl;exact rfl;exact rfl;intro B w5 a5 a1 hB)
  refine Sa ?_;refine LW.append_any (lo:=w.heap.size) (xs:=[]) (news:=Ad zs) rfl rfl rfl rfl rfl rfl (⟨rfl,.inr ⟨B,0,[],rfl,hB,by simp,by simp,by omega⟩⟩) (by have:=a1.size;omega) (by rw[AC];show _=_*1;omega) (.inr ⟨a,rfl,λj u hj=>by
   simp only[Ad,AbR] at hj
   cases hg:zs[j]? with
   | none=>rw[hg] at hj;cases hj
   | some y=>
    rw[hg] at hj;obtain rfl:=Ab9 hj;exact A2 a1 (hc j y hg)⟩) (λu hu=>by
   simp only[Ad,AbZ] at hu;obtain⟨_,_,rfl⟩:=hu;rfl) (by show(0+_)*9≤_;omega) rfl ?_
  intro v' w6 a3 a0 a2;obtain⟨p',c',rfl⟩:=a0.slice;have a4:Ah w w6:=a1.step a3 (by simp[Ae];omega);have hm:0+zs.length=zs.length:=Aeb
  rw[hm] at a0 a2 ⊢;simp only[AbN] at a0;refine Sa ?_;refine QW.body1 rfl rfl ⟨⟨_,_,rfl⟩,NM a0,λb hb=>?_,a4⟩;rcases a2 b hb with h2 | h2
  ·simp[Ae] at h2;omega
  ·have:=a1.size;omega
set_option maxHeartbeats 1000000 in
theorem Vs(l:List Aj)(v:Value)(own:List UInt8)(ss:List Br)(sv:Value)(w:World)(g:Dq w)(hN:Cv w v l)(hs:MN l)(h:C7 w sv ss)(hss:∀s∈ss,s.Fine):A9 prog 126 [v,Aq own,sv] w (λv' w'=>(Cv w' v' (CF Eh own ss l)∧∀b∈Ae v',w.heap.size≤b)∧Ah w w'):=by
 obtain⟨p,c,rfl⟩:=hN.slice;have az:=hN.1;refine AG func126 ntmps126 ?_;refine Sa ?_;refine Ap rfl rfl (QQ l _ w g hN hs) ?_;rintro v w1 ⟨rfl,ap⟩;refine Sa ?_
 cases ht:BV l with
 | false=>
  refine Sa ?_
  exact QW.body1 rfl rfl ⟨⟨by rw[CF,if_neg (by rw[ht];simp)];exact NF _,by simp[Ae]⟩,ap⟩
 | true=>
 have b0:=Ka ht;have aq:=Ox ht;obtain⟨q,qc,rfl⟩:=h.slice;refine Sa ?_;refine CW.loop (ι:=Nat×Option Addr×Nat) (λx w'=>x.1≤l.length∧Ah w w'∧NP w w' ((l.take x.1).map (BD Eh own ss)) (.slice x.2.1 x.1 x.2.2) (.slice none 0 0)) (λx=>[(7,.func (.func 171) ⟨[.agg ⟨[Aq own,.slice q ss.length qc]⟩]⟩ ⟨[]⟩),(8,.slice x.2.1 x.1 x.2.2),(18,.slice p l.length c),(19,.int .i64 l.length),(20,.int .i64 (x.1:Int))]) (λx=>l.length - x.1) (0,none,0) ⟨by simp,ap,⟨[],Own.nil _ _ _ _,rfl,by simp⟩⟩ CT ?_;rintro⟨k,op,oc⟩ w2 ⟨hk,ae,hP⟩;dsimp only at hk hP;show CW _ _ _ _ _ [(7,.func (.func 171) ⟨[.agg ⟨[Aq own,.slice q ss.length qc]⟩]⟩ ⟨[]⟩),(8,.slice op k oc),(18,.slice p l.length c),(19,.int .i64 l.length),(20,.int .i64 (k:Int))] _;have b8:=ae.size;refine Sa ?_;refine Av (λh2=>?_) λh2=>?_;rotate_left
 ·have h2:k=l.length:=by simp at h2;omega
  subst h2;obtain⟨nvs,a0,hm,hk⟩:=hP;rw[AbQ] at hm;have ar:nvs.length=l.length:=by rw[←List.length_map (f:=NV.node),hm,AbT]
  have b1:MK w2 w.heap.size (.slice op l.length oc) (l.map (BD Eh own ss)):=⟨nvs,a0,hm,λx hx=>(hk x hx).1⟩;have b2:∀n∈l.map (BD Eh own ss),n.kids.length≤100000:=λn hn=>by
   obtain⟨m,h1,rfl⟩:=AbZ.1 hn;have h3:=aq m h1;unfold BD
   split
   ·omega
   ·split
    ·omega
    ·unfold Eh
     split
     ·simp[Cr]
     ·split
      ·simp[Cr]
      ·show m.kids.length≤_;omega
  refine Sa ?_;exact QW.body1 rfl rfl ⟨⟨by rw[CF,if_pos ht];exact b1.row (by rw[AbT];exact az) b2,λb hb=>(a0.lt hb).1⟩,ae⟩
 have h2:k<l.length:=by simp at h2;omega
 obtain⟨nd,ag⟩:∃nd,l[k]?=some nd:=⟨_,Aav h2⟩;have a7:=Ab4 ag;obtain⟨a,kp,kc,rfl,ah,a8⟩:=hN.at ag;have a1:∀j u,(BO ⟨nd,.slice kp nd.kids.length kc⟩)[j]?=some u→w2.cell? ((a.add (((k:Nat):Int).toNat*14)).add j)=some u:=λj u hj=>by rw[show((k:Nat):Int).toNat=k by omega];exact A2 ae (a8 j u hj)
 refine Sa ?_;refine Lo ?_;refine LW.load_cells rfl a1 rfl rfl rfl rfl ?_;refine Sa ?_;refine B1 λX w3 b9 au hX=>?_;have a9:∀b∈Ae (Value.slice op k oc),b<w2.heap.size:=λb hb=>by
  obtain⟨nvs,ho,_⟩:=hP;exact(ho.lt hb).2
 replace hP:=hP.ext au;have ai:=ae.trans au;have av:=hX;refine Sa ?_;refine AF λw4 aj hX=>?_;replace hX:Blk w4 X (BO ⟨nd,.slice kp nd.kids.length kc⟩) 189:=hX;replace hP:=hP.chg aj (λb hb=>by have:=a9 b hb;simp;omega) (λb hb=>by
  simp only[Aah] at hb;subst hb;exact .inr ⟨_,_,av,by decide⟩)
 have a2:Ah w w4:=ai.step aj Aee;refine Sa ?_;refine Ap rfl rfl (VE nd.kids _ w4 (ah.ext a2) (by have:=aq nd a7;omega)) ?_;rintro v w5 ⟨⟨kp',kc',rfl⟩,hK,ba,ak⟩;replace hP:=hP.ext ak;replace hX:=hX.ext ak;have al:=a2.trans ak;have bb:=a2.size;have am:=hX;refine Sa ?_;refine Cu λw6 af hX=>?_;replace hX:Blk w6 X (BO ⟨nd,.slice kp' nd.kids.length kc'⟩) 189:=hX;replace hP:=hP.chg af (λb hb=>by have:=a9 b hb;simp;omega) (λb hb=>by
  simp only[Aah] at hb;subst hb;exact .inr ⟨_,_,am,by decide⟩)
 replace hK:BW w6 (.slice kp' nd.kids.length kc') nd.kids:=hK.chg (stv:=.slice none 0 0) AeT af (λb hb=>by
  simp only[Aah] at hb;subst hb;exact .inr ⟨_,_,am,by decide⟩)
 have aa:Ah w w6:=al.step af Aee;refine Sa ?_;refine LW.call (fs:=[.agg ⟨[Aq own,.slice q ss.length qc]⟩]) (cs:=[]) rfl rfl rfl (Yl own ss _ nd kp' nd.kids.length kc' w6 (h.ext aa) hss (b0 nd a7)) ?_;rintro v w7 ⟨⟨kv,rfl,aw⟩,an⟩;replace hP:=hP.ext an;replace hK:BW w7 (.slice kp' nd.kids.length kc') nd.kids:=hK.chg (stv:=.slice none 0 0) AeT an Aej;have ab:=aa.trans an;have ax:BW w7 kv (BD Eh own ss nd).kids:=by
  rcases aw with ⟨rfl,e⟩ | ⟨rfl,e⟩
  ·rw[e];exact hK
  ·exact .inl ⟨rfl,e⟩
 clear hK aw hX am av af aj;refine Sa ?_;refine CR λC b3 bc a3 hC=>?_;replace hC:Blk b3 C (BO ⟨BD Eh own ss nd,kv⟩) 189:=hC;have ac:=ab.trans a3;have b4:=ac.size;have b5:(BO ⟨BD Eh own ss nd,kv⟩).all (·.oneCell')=true:=by
  simp only[BO,AdN,List.all_nil,ax.one];rfl
 obtain⟨nvs,a0,hm,a4⟩:=hP;have ar:nvs.length=k:=by rw[←List.length_map (f:=NV.node),hm,AbT,Acj];omega
 subst ar;refine Sa ?_;refine LW.append rfl rfl rfl rfl rfl rfl (a0.ext a3) Aeb hC rfl b5 rfl AeB rfl ?_;intro v2 ay ao a5 b6;have e1:(nvs.flatMap BO++BO ⟨BD Eh own ss nd,kv⟩)=(nvs++[(⟨BD Eh own ss nd,kv⟩:NV)]).flatMap BO:=Aej
 have e2:nvs.length+1=(nvs++[(⟨BD Eh own ss nd,kv⟩:NV)]).length:=Aej
 rw[e1] at a5;obtain⟨p4,c4,rfl⟩:=a5.slice;have a6:Chg (Ae (.slice op nvs.length oc)) w7 ay:=by
  have:=Chg.trans a3 ao
  simpa using this
 have bd:∀b∈Ae (Value.slice op nvs.length oc),∀L T,Blk w7 b L T→T=189:=λb hb L T hL=>Own.type a0 hb hL;have hS:∀b∈Ae (Value.slice op nvs.length oc),b∈Ae (Value.slice none 0 0)∨∃l T,Blk w7 b l T∧T≠3:=λb hb=>by
  obtain⟨_,⟨e,_⟩ | ⟨g,cap,sp,e,hg,_⟩⟩:=a0
  ·rw[e] at hb;simp[Ae] at hb
  ·rw[e] at hb;simp[Ae] at hb;subst hb;exact .inr ⟨_,_,hg,by decide⟩
 have ad:Ah w ay:=ab.step a6 (λb hb=>(a0.lt hb).1);have b7:l.take (nvs.length+1)=l.take nvs.length++[nd]:=by rw[AbO,ag];rfl
 refine Sa ?_;refine QW.again (nvs.length+1,p4,c4) ⟨by show nvs.length+1≤_;omega,ad,?_⟩ ?_ (by show l.length - (nvs.length+1)<l.length - nvs.length;omega)
 ·dsimp only;rw[b7];refine⟨nvs++[⟨BD Eh own ss nd,kv⟩],by rw[←e2];exact a5,by simp[hm],λx hx=>?_⟩;rcases Ab1.1 hx with hx | hx
  ·exact⟨(a4 x hx).1.chg (a4 x hx).2 a6 hS,(a4 x hx).2⟩
  ·simp at hx;subst hx;exact⟨ax.chg (stv:=.slice none 0 0) AeT a6 hS,by simp[Ae]⟩
 ·exact CT
theorem Vt(l:List Aj)(v:Value)(own:List UInt8)(ss:List Br)(sv:Value)(w:World)(g:Dq w)(hN:Cv w v l)(hs:MN l)(h:C7 w sv ss)(hss:∀s∈ss,s.Fine):A9 prog 126 [v,Aq own,sv] w (λv' w'=>Cv w' v' (CF Eh own ss l)∧Ah w w'):=
 (Vs l v own ss sv w g hN hs h hss).mono λ_ _ ⟨⟨h1,_⟩,h2⟩=>⟨h1,h2⟩
theorem Vp{t:Tr false}(hf:t.Fit)(hn:t.Num):t.text≠[]:=(t.head hf hn).1
theorem Qy(l:List Aj):AE []≠.ok l:=λh=>by
 obtain⟨_,h1,_,t,hf,hn,_,h2⟩:=G6 h;rw[h2] at h1;exact Vp hf hn (AbA Ae8)
theorem Uc{l:List Aj}(hsh:DN l)(hno:J1 l)(hl:l.length≤100000)(ht:l=[]∨BV l=true) :
  (BN l=[]↔l=[])∧(BN l).length≤400000000∧(∀e,AE (BN l)=.error e→l=[]∨300<(BN l).length∨e=6)∧∀m,AE (BN l)=.ok m→l=m:=by
 rcases ht with rfl | ht
 ·have hp:BN []=[]:=L9 rfl;rw[hp];exact⟨by simp,by simp,λ_ _=>.inl rfl,λm h=>absurd h (Qy m)⟩
 ·obtain⟨t,rfl,hf⟩:=Ju ht;have hn:=hno t hf rfl;have a0:=t.flat_len 0;have a1:=t.len_le 0 hf hn (λn hm=>(hsh n hm).1);simp only[cond_false] at a1;have a2:t.flat 0≠[]:=λh=>by
   have:=t.cnt_pos;rw[h] at a0;simp at a0;omega
  rw[FO hf,G4 t hf hn];refine⟨⟨λh=>absurd h (Vp hf hn),λh=>absurd h a2⟩,by omega,λe h=>?_,λm h=>?_⟩
  ·split at h
   ·rename_i h3;exact .inr (.inl h3)
   ·split at h
    ·cases h
    ·simp only[Except.error.injEq] at h;exact .inr (.inr h.symm)
  ·split at h
   ·cases h
   ·split at h
    ·simpa using h
    ·cases h
theorem May.fine{s:Br}(h:s.May):s.Fine:=⟨Pj h.1,Pj h.2⟩
theorem Wg{own:List UInt8}{ss:List Br}(hss:∀s∈ss,s.May){l:List Aj}(hsh:DN l)(hno:J1 l)(hl:l.length≤100000)(hk:∀n∈l,n.kids.length≤100000) :
  DN (CF Eh own ss l)∧J1 (CF Eh own ss l)∧(∀n∈CF Eh own ss l,n.kids.length≤100000)∧(BN (CF Eh own ss l)).length≤400000000:=by
 obtain⟨h1,h2,h3,h4⟩:=RM (own:=own) hss hsh hno 100000 hk;have ht:CF Eh own ss l=[]∨BV (CF Eh own ss l)=true:=by
  by_cases h:BV l=true
  ·obtain⟨t,rfl,hf⟩:=Ju h;obtain⟨e,a0⟩:=JK (own:=own) hss hf;rw[e];exact .inr (Tr.tree _ a0)
  ·exact .inl (by rw[CF,if_neg h])
 exact⟨h1,h2,h3,(Uc h1 h2 Aeb ht).2.1⟩
theorem Me{own:List UInt8}{ss:List Br}{s:List UInt8}{l:List Aj}(h1:Ab s 0=61)(h2:s≠[])(h3:Ci s=true)(h4:AE (s.drop 1)=.ok l):DJ own ss s=if 300<(BN (CF Eh own ss l)).length+1 then Aa1 else 61::BN (CF Eh own ss l):=by
 rw[DJ,if_pos ⟨h2,h1,h3⟩,h4];rfl
theorem Gc{own:List UInt8}{ss:List Br}{s:List UInt8}(h:s=[]∨Ab s 0≠61∨Ci s=false):DJ own ss s=s:=by
 rw[DJ,if_neg];rintro⟨h1,h2,h3⟩;rcases h with h | h | h
 ·exact h1 h
 ·exact h h2
 ·rw[h] at h3;cases h3
theorem Ug(s own:List UInt8)(ss:List Br)(sv:Value)(hs:s.length≤9223372036854775807)(w:World)(g:Dq w)(h:C7 w sv ss)(hss:∀s∈ss,s.May):A9 prog 81 [Aq s,Aq own,sv] w (λv w'=>v=Aq (DJ own ss s)∧Ah w w'):=by
 refine AG func81 ntmps81 ?_;refine Sa ?_;refine Ap rfl rfl (QH s hs w g) ?_;rintro v w1 ⟨hv,hx⟩;rcases hv with ⟨l,nv,rfl,h1,h2,h3,h4,hN⟩ | ⟨rfl,a2⟩
 ·obtain⟨_,f1,f2,f3,f4⟩:=Ed h4;have a3:PIs (s.drop 1) l 0:=.inl ⟨h4,rfl⟩;obtain⟨m1,m2,m3,m4⟩:=Wg (own:=own) hss f2 a3.num Aeb (λn hn=>by have:=f4 n hn;omega);refine Sa ?_;refine Ap rfl rfl (Vt l nv own ss sv w1 (g.ext hx) hN f2.t (h.ext hx) (λs hs=>May.fine (hss s hs))) ?_;rintro v w2 ⟨a4,a5⟩;have a0:=hx.trans a5;refine Sa ?_;refine Ap rfl rfl (OK _ v w2 (g.ext a0) a4 m1 m2) ?_;rintro v w3 ⟨rfl,a6⟩;have a1:=a0.trans a6;rw[Me h1 h2 h3 h4];refine Sa ?_;refine Av (λq1=>?_) λq1=>?_
  ·have q1:300<(BN (CF Eh own ss l)).length+1:=by simp at q1;omega
   rw[if_pos q1];refine Sa ?_;exact QW.body1 rfl rfl ⟨rfl,a1⟩
  ·have q1:¬300<(BN (CF Eh own ss l)).length+1:=by simp at q1;omega
   rw[if_neg q1];refine Sa ?_;exact QW.body1 rfl rfl ⟨rfl,a1⟩
 ·rw[Gc a2];refine Sa ?_;exact QW.body1 rfl rfl ⟨rfl,hx⟩
def DW(k:Nat)(f:Nat→Int):List Int:=(List.range k).map f
theorem BE(k:Nat)(f:Nat→Int):(DW k f).length=k:=by simp[DW]
theorem HF{k:Nat}{f:Nat→Int}{j:Nat}(h:j<k):(DW k f).getD j 0=f j:=by
 simp[DW,h]
theorem Sv(k:Nat)(f:Nat→Int):DW (k+1) f=DW k f++[f k]:=by simp[DW,Acl]
def BL(k:Nat):AN:=⟨DW k λi=>i,k⟩
theorem Od(new:Int):∀(l:List Int) (last:Int),(∀j,j<l.length→l.getD j 0=-1∨(last<l.getD j 0∧l.getD j 0<new∧∀i,i<j→l.getD i 0<l.getD j 0))→B0 new last l=true
 | [],_,_=>rfl
 | z::r,last,h=>by
  rw[B0];have h0:=h 0 Aej;simp only[AcT] at h0;by_cases hz:z=-1
  ·rw[if_pos hz];refine Od new r last λj hj=>?_;have:=h (j+1) AeN;simp only[AcE] at this;rcases this with h1 | ⟨h1,h2,h3⟩
   ·exact .inl h1
   ·exact .inr ⟨h1,h2,λi hi=>by have:=h3 (i+1) Aeb;simpa using this⟩
  ·rw[if_neg hz,if_neg (by rcases h0 with h0 | ⟨h1,h2,_⟩<;>omega)];refine Od new r z λj hj=>?_;have:=h (j+1) AeN;simp only[AcE] at this;rcases this with h1 | ⟨h1,h2,h3⟩
   ·exact .inl h1
   ·refine .inr ⟨?_,h2,λi hi=>by have:=h3 (i+1) Aeb;simpa using this⟩;have:=h3 0 Aeb
    simpa using this
theorem M8{m:AN}(h0:0≤m.new)(h1:m.new≤1048576)(h2:m.to.length≤1048576)(h:∀j,j<m.to.length→m.to.getD j 0=-1∨(0≤m.to.getD j 0∧m.to.getD j 0<m.new∧∀i,i<j→m.to.getD i 0<m.to.getD j 0)):EK m=true:=by
 rw[EK,decide_eq_true h0,decide_eq_true h1,decide_eq_true h2,Od]
 ·rfl
 ·intro j hj;rcases h j hj with h | ⟨a,b,c⟩
  ·exact .inl h
  ·exact .inr ⟨by omega,b,c⟩
theorem Om{k:Nat}(h:k≤1000000):EK (BL k)=true:=by
 refine M8 (by simp[BL]) (by simp only[BL];omega) (by simp only[BL,BE];omega) λj hj=>?_;simp only[BL,BE] at hj ⊢;rw[HF hj];exact .inr ⟨by omega,by omega,λi hi=>by rw[HF Aeb];omega⟩
theorem Own.ints{w:World}{lo:Nat}{v:Value}{zs:List Int}{n:Nat}(h:E.Own w lo 3 1 v n (Ad zs))(hn:zs.length=n)(hb:zs.length≤100000000):AP w v zs:=by
 refine⟨by omega,?_⟩;by_cases h0:n=0
 ·have hz:zs=[]:=AbA Aeb;subst hz;obtain⟨_,⟨e,e2⟩ | ⟨g,cap,sp,e,hg,_⟩⟩:=h
  ·exact .inl ⟨e,rfl⟩
  ·exact .inr ⟨_,cap,by rw[e,h0];rfl,λi z hz=>by simp at hz⟩
 ·obtain⟨g,cap,sp,rfl,hB,_⟩:=h.get Aeb;refine .inr ⟨_,cap,by rw[hn],λi z hz=>hB.getElem _ _ ?_⟩;have hi:i<zs.length:=(Abo.1 hz).1;rw[Ab6 (by rw[AC];exact hi)];exact H1 hz
def Aaf(w0 w:World)(v:Value)(m:AN):Prop:=∃tv,v=.agg ⟨[tv,.int .i64 m.new]⟩∧E.Own w w0.heap.size 3 1 tv m.to.length (Ad m.to)
theorem SM{k:Nat}{i:Nat}:Bi (BL k) (i:Int)=i:=by
 by_cases h:i<k
 ·rw[H2 (by simp only[BL,BE];exact h)];simp only[BL];rw[HF h]
 ·rw[Kr (by simp only[BL,BE];omega)];simp only[BL,BE];omega
theorem YG{k:Nat}:∀j,j<(BL k).to.length→0≤(BL k).to.getD j 0:=λj hj=>by
 simp only[BL,BE] at hj ⊢;rw[HF hj];omega
theorem Jp{k:Nat}(hk:k≤1000000){lo hi:Int}(h0:0≤lo)(h:lo≤hi):B7 (BL k) lo hi=(lo,hi,true):=by
 obtain⟨a,rfl⟩:=Acw h0;obtain⟨b,rfl⟩:=Acw (show 0≤hi by omega);obtain⟨h1,_,_,h4⟩:=B5 (Om hk);rw[WS h4 h1 YG Aeb,SM,SM]
theorem XR{s:Br}{a b:Nat}(ha:a≤1000000)(hb:b≤1000000)(hr:s.rows=BL a)(hc:s.cols=BL b)(hg:s.gone=false){n:Aj}(hp:Au n=true)(hk:n.kind=5∨n.kind=6):Eh s n=n:=by
 have a0:B7 s.rows n.ref.row (BK n).row=(n.ref.row,(BK n).row,true):=by
  rw[hr];rcases hk with hk | hk
  ·obtain⟨h1,_⟩:=Hb hp hk;obtain⟨b1,b2,b3,b4,_⟩:=Cm h1;rw[BK,if_pos hk];exact Jp ha b3 (AcV _)
  ·obtain⟨h1,_,h3,_⟩:=Fh hp hk;obtain⟨b1,b2,b3,b4,_⟩:=Cm h1;obtain⟨q1,q2,q3⟩:=FA h3;rw[BK,if_neg Aeb];exact Jp ha b3 q3
 have a1:B7 s.cols n.ref.col (BK n).col=(n.ref.col,(BK n).col,true):=by
  rw[hc];rcases hk with hk | hk
  ·obtain⟨h1,_⟩:=Hb hp hk;obtain⟨b1,b2,b3,b4,_⟩:=Cm h1;rw[BK,if_pos hk];exact Jp hb b1 (AcV _)
  ·obtain⟨h1,_,h3,_⟩:=Fh hp hk;obtain⟨b1,b2,b3,b4,_⟩:=Cm h1;obtain⟨q1,q2,q3⟩:=FA h3;rw[BK,if_neg Aeb];exact Jp hb b1 q2
 obtain⟨_,_,s3,s4⟩:n.ref.row≤998∧n.ref.col≤701∧(BK n).row≤998∧(BK n).col≤701:=Oi hp hk;have a2:¬Du s n:=by
  unfold Du;rw[a0,a1];simp;omega
 rw[Eh,if_neg (by rw[hg];simp),if_neg a2];unfold KK;rw[a0,a1];simp only;by_cases h6:n.kind=6
 ·rw[if_pos h6];have hl:BK n=n.to:=by rw[BK,if_neg Aeb]
  rw[hl]
 ·rw[if_neg h6]
def Aae(ss:List Br)(l:List Aj)(own:List UInt8):Prop:=∀n∈l,n.kind=5∨n.kind=6→∀s,Er ss (Up own n)=some s→Eh s n=n
theorem VT{ss:List Br}{l:List Aj}{own:List UInt8}(h:Aae ss l own)(ht:BV l=true):CF Eh own ss l=l:=by
 rw[CF,if_pos ht]
 conv=>rhs;rw[←List.map_id l]
 refine Acg λn hn=>?_;show BD Eh own ss n=n;by_cases hk:n.kind=5∨n.kind=6
 ·rw[AaN hk]
  cases hf:Er ss (Up own n) with
  | none=>rfl
  | some s=>exact h n hn hk s hf
 ·exact ZW Aeb Aeb
theorem TH{t:List UInt8}{l:List Aj}(hb:Ab t 0=61)(h0:t≠[])(hm:Ci t=true)(hp:AE (t.drop 1)=.ok l):61::BN l=t∧t.length≤300:=by
 unfold Ci at hm
 split at hm
 ·cases hm
 rename_i hl;rw[if_neg (by rintro(h | h);exact h0 h;omega)] at hm;rw[hp] at hm;simp only[decide_eq_true_eq] at hm;refine⟨?_,by omega⟩;rw[hm]
 cases t with
 | nil=>exact absurd rfl h0
 | cons c r=>
  have:Ab (c::r) 0=(c.toNat:Int):=rfl;rw[this] at hb;have hc:c=61:=by
   apply Adn.1;simp;omega
  rw[hc];rfl
theorem RL{own:List UInt8}{ss:List Br}{t:List UInt8}(hm:Ci t=true)(h:∀l,AE (t.drop 1)=.ok l→Aae ss l own):DJ own ss t=t:=by
 by_cases hb:t≠[]∧Ab t 0=61
 ·cases hp:AE (t.drop 1) with
  | error e=>
   rw[DJ,if_pos ⟨hb.1,hb.2,hm⟩,hp]
  | ok l=>
   obtain⟨_,ht,_⟩:=Ed hp;obtain⟨h1,h2⟩:=TH hb.2 hb.1 hm hp;rw[Me hb.2 hb.1 hm hp,VT (h l hp) ht];have:t.length=(BN l).length+1:=by rw[←h1];rfl
   rw[if_neg Aeb,h1]
 ·exact Gc (by
   by_cases h0:t=[]
   ·exact .inl h0
   ·exact .inr (.inl (λh1=>hb ⟨h0,h1⟩)))
theorem XB:Ci Aa1=true:=Zz (t:=.leaf Cr) AeI
theorem N0{own:List UInt8}{ss:List Br}{s:List UInt8}(hss:∀x∈ss,x.May)(h:Ci s=true):Ci (DJ own ss s)=true:=by
 unfold DJ
 split
 ·cases hp:AE (s.drop 1) with
  | error e=>exact h
  | ok l=>
   simp only
   split
   ·exact XB
   ·rename_i a0;obtain⟨a1,a5,a6,t,hf,hn,rfl,a4⟩:=G6 hp;have a2:t.need≤12:=by
     rw[a4,G4 t hf hn] at a1
     split at a1
     ·cases a1
     ·split at a1
      ·assumption
      ·cases a1
    obtain⟨e,a3⟩:=JK (own:=own) hss hf;rw[e,FO a3] at a0 ⊢;exact Td a3 (H9 (Jg hss) t hf hn) (by simp at a0;omega) (by rw[H8];exact a2)
 ·exact h
end Go.Proofs.YtcjjcnecopnpcaaGreatDoor
