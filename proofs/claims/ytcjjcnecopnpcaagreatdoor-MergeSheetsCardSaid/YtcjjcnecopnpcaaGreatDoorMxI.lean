/-
  Joined by program out of the texts MapI MapS MovP MovT MovM Mov1 Mov2 Mov4 Mov5 Made Mov3 Mov6 MadeF Mov7 MovK MovS MovZ.
-/
import Derived.Test.YtcjjcnecopnpcaaGreatDoorMxD
import Derived.Test.YtcjjcnecopnpcaaGreatDoorMxE
import Derived.Test.YtcjjcnecopnpcaaGreatDoorMxC
import Derived.Test.YtcjjcnecopnpcaaGreatDoorMxG
import Derived.Test.YtcjjcnecopnpcaaGreatDoorMxH
import Derived.Test.YtcjjcnecopnpcaaGreatDoorMxF
import Derived.Test.YtcjjcnecopnpcaaGreatDoorMxB
namespace Go.Proofs.YtcjjcnecopnpcaaGreatDoor
open Tryz
open Go Go.E
structure AH where
 to:List Int
 new:Int
def Qh(w:World)(vs:List Value)(m:AH):Prop:=∃tv,vs=[tv,.int .i64 m.new]∧AY w tv m.to
theorem Qh.ext{w w':World}{vs:List Value}{m:AH}(h:Qh w vs m)(x:Ai w w'):Qh w' vs m:=by
 obtain⟨tv,e,h⟩:=h;exact⟨tv,e,h.ext x⟩
def Bd(m:AH)(i:Int):Int:=if i<0 then -1 else if i<m.to.length then m.to.getD i.toNat 0 else i - m.to.length+m.new
def AH.Fine(m:AH):Prop:=m.to.length≤1000000000∧-1000000000≤m.new∧m.new≤1000000000
theorem Fq(m:AH)(hm:m.Fine)(vs:List Value)(i:Int)(hi:i≤1000000000000)(w:World)(h:Qh w vs m):AF prog 80 [.agg ⟨vs⟩,.int .i64 i] w (λv w'=>v=.int .i64 (Bd m i)∧Ai w w'):=by
 obtain⟨tv,rfl,ht⟩:=h;obtain⟨p,c,rfl⟩:=ht.slice;obtain⟨m1,m2,m3⟩:=hm;refine Bj func80 ntmps80 ?_;refine Sa ?_;refine CM λA w1 a0 hx hA=>?_;replace hA:Blk w1 A [.slice p m.to.length c,.int .i64 m.new] 77:=hA;replace ht:=ht.ext hx;refine Sa ?_;refine A8 (λh1=>?_) λh1=>?_
 ·have h1:i<0:=by simpa using h1
  refine Sa ?_;exact QW.body1 rfl rfl ⟨by rw[Bd,if_pos h1],hx⟩
 have h1:¬i<0:=by simpa using h1
 refine Sa ?_;refine A8 (λh2=>?_) λh2=>?_
 ·have h2:i<m.to.length:=by simpa using h2
  obtain⟨a,rfl,hc⟩:=ht.at (i:=i.toNat) AdE;rw[show i.toNat=i.toNat*1 by omega] at hc;refine Sa ?_;refine Lo ?_;refine Lp hc ?_;refine Sa ?_;exact QW.body1 rfl rfl ⟨by rw[Bd,if_neg h1,if_pos h2,Acr],hx⟩
 have h2:¬i<m.to.length:=by simpa using h2
 refine Sa ?_;exact QW.body1 rfl rfl ⟨by rw[Bd,if_neg h1,if_neg h2],hx⟩
def DC(a b:Int):Int:=if a<b then b else a
def FP(a:Int):List Int→Int
 | []=>a
 | z::r=>FP (if 0≤z∧a<0 then z else a) r
def KI(b:Int):List Int→Int
 | []=>b
 | z::r=>KI (DC b z) r
theorem Fu(a:Int)(l:List Int)(z:Int):FP a (l++[z])=if 0≤z∧FP a l<0 then z else FP a l:=by
 induction l generalizing a with
 | nil=>rfl
 | cons y r ih=>exact ih _
theorem I7(b:Int)(l:List Int)(z:Int):KI b (l++[z])=DC (KI b l) z:=by
 induction l generalizing b with
 | nil=>rfl
 | cons y r ih=>exact ih _
def D8(m:AH)(lo k:Nat):List Int:=(m.to.take k).drop lo
def Bt(m:AH)(lo hi:Int):Int×Int×Bool:=
 if lo<0∨hi<lo then(0,0,false) else
  let k:=(min (hi+1) (DC lo m.to.length)).toNat
  let a0:=FP (-1) (D8 m lo.toNat k)
  let b:=if m.to.length≤hi then Bd m hi else KI (-1) (D8 m lo.toNat k)
  let a:=if m.to.length≤hi∧a0<0 then Bd m (DC lo m.to.length) else a0
  if a<0 then(0,0,false) else(a,b,true)
theorem FH{m:AH}{lo k:Nat}(h0:lo≤k)(h:k<m.to.length):D8 m lo (k+1)=D8 m lo k++[m.to.getD k 0]:=by
 unfold D8;rw[Ab7,Aap h,List.drop_append_of_le_length AdG];simp[Aap h]
theorem Mg(m:AH)(lo:Nat):D8 m lo lo=[]:=by
 unfold D8;simp
set_option maxHeartbeats 1000000 in
theorem JE(m:AH)(hm:m.Fine)(vs:List Value)(lo hi:Int)(hlo:lo≤1000000000)(hhi:hi≤1000000000)(w:World)(h:Qh w vs m):AF prog 217 [.agg ⟨vs⟩,.int .i64 lo,.int .i64 hi] w (λv w'=>v=.tuple #[.int .i64 (Bt m lo hi).1,.int .i64 (Bt m lo hi).2.1,.bool (Bt m lo hi).2.2]∧Ai w w'):=by
 have hR:=h;obtain⟨tv,rfl,ht⟩:=h;obtain⟨p,c,rfl⟩:=ht.slice;have a9:=hm;obtain⟨m1,m2,m3⟩:=hm;refine Bj func217 ntmps217 ?_;refine Sa ?_;refine CM λA w1 ad ab hA=>?_;replace hA:Blk w1 A [.slice p m.to.length c,.int .i64 m.new] 77:=hA;refine Sa ?_;by_cases a1:lo<0
 ·refine LW.know (t:=12) (c:=true) rfl (decide_eq_true a1) ?_;refine Sa ?_;exact QW.body3 rfl rfl rfl rfl ⟨by rw[Bt,if_pos (.inl a1)],ab⟩
 refine LW.know (t:=12) (c:=false) rfl (decide_eq_false a1) ?_;refine Sa ?_;refine A8 (λa2=>?_) λa2=>?_
 ·have a2:hi<lo:=by simpa using a2
  refine Sa ?_;exact QW.body3 rfl rfl rfl rfl ⟨by rw[Bt,if_pos (.inr a2)],ab⟩
 have a2:¬hi<lo:=by simpa using a2
 obtain⟨L,rfl⟩:=Aca (show 0≤lo by omega);refine Sa ?_;refine CW.loop (ι:=Nat) (λk w'=>L≤k∧(k:Int)≤hi+1∧(k≤m.to.length∨k=L)∧Ai w w'∧Ai w1 w') (λk=>[(1,.int .i64 (L:Int)),(2,.int .i64 hi),(3,.pointer (some ⟨A,0,none⟩)),(6,.int .i64 (FP (-1) (D8 m L k))),(7,.int .i64 (KI (-1) (D8 m L k))),(9,.int .i64 (k:Int))]) (λk=>(hi+1 - k).toNat) L ⟨by omega,by omega,.inr rfl,ab,Chg.refl _ _⟩ (by rw[Mg];exact(Al.cons rfl (Al.cons rfl (Al.cons rfl (Al.cons rfl (Al.cons rfl (Al.cons rfl (Al.nil)))))))) ?_;rintro k w2 ⟨k0,k1,k2,a3,a6⟩;replace hA:=hA.ext a6;replace ht:=ht.ext a3;replace hR:=hR.ext a3;have hK:Bt m (L:Int) hi=(if (if (m.to.length:Int)≤hi∧FP (-1) (D8 m L (min (hi+1) (DC L m.to.length)).toNat)<0 then Bd m (DC L m.to.length) else FP (-1) (D8 m L (min (hi+1) (DC L m.to.length)).toNat))<0 then(0,0,false) else((if (m.to.length:Int)≤hi∧FP (-1) (D8 m L (min (hi+1) (DC L m.to.length)).toNat)<0 then Bd m (DC L m.to.length) else FP (-1) (D8 m L (min (hi+1) (DC L m.to.length)).toNat)),(if (m.to.length:Int)≤hi then Bd m hi else KI (-1) (D8 m L (min (hi+1) (DC L m.to.length)).toNat)),true)):=by
  rw[Bt,if_neg AdE];rfl
 have aa:DC (L:Int) m.to.length=if (L:Int)<m.to.length then(m.to.length:Int) else L:=rfl;refine Sa ?_;by_cases b1:(k:Int)≤hi;rotate_left
 ·refine LW.know (t:=21) (c:=false) rfl (decide_eq_false b1) ?_;have hk:(min (hi+1) (DC (L:Int) m.to.length)).toNat=k:=by rw[aa];split<;>omega
  rw[hk] at hK;rw[hK];clear hK hk;generalize FP (-1) (D8 m L k)=a0;generalize KI (-1) (D8 m L k)=b0;refine Sa ?_;refine A8 (λd1=>?_) λd1=>?_
  ·have d1:(m.to.length:Int)≤hi:=by simpa using d1
   simp only[d1,true_and,if_true];refine Sa ?_;refine Ay rfl rfl (Fq m a9 _ hi AdE w2 hR) ?_;rintro v w3 ⟨rfl,a7⟩;replace hA:=hA.ext a7;replace hR:=hR.ext a7;have a4:=a3.trans a7;refine Sa ?_;refine A8 (λd2=>?_) λd2=>?_
   ·have d2:a0<0:=by simpa using d2
    simp only[d2,if_true];have hz:(if (L:Int)<m.to.length then(m.to.length:Int) else L)=DC L m.to.length:=rfl;refine Sa ?_;refine LW.max2 rfl rfl rfl ?_;rw[hz];refine Ay rfl rfl (Fq m a9 _ (DC L m.to.length) (by rw[aa];split<;>omega) w3 hR) ?_;rintro v w4 ⟨rfl,ac⟩;have a5:=a4.trans ac;refine Sa ?_;refine A8 (λd3=>?_) λd3=>?_
    ·have d3:Bd m (DC L m.to.length)<0:=by simpa using d3
     refine Sa ?_;exact QW.body3 rfl rfl rfl rfl ⟨by rw[if_pos d3],a5⟩
    ·have d3:¬Bd m (DC L m.to.length)<0:=by simpa using d3
     refine Sa ?_;exact QW.body3 rfl rfl rfl rfl ⟨by rw[if_neg d3],a5⟩
   ·have d2:¬a0<0:=by simpa using d2
    simp only[d2,if_false];refine Sa ?_;refine CW.no rfl (decide_eq_false d2) ?_;refine Sa ?_;exact QW.body3 rfl rfl rfl rfl ⟨rfl,a4⟩
  ·have d1:¬(m.to.length:Int)≤hi:=by simpa using d1
   simp only[d1,false_and,if_false];refine Sa ?_;refine A8 (λd2=>?_) λd2=>?_
   ·have d2:a0<0:=by simpa using d2
    refine Sa ?_;exact QW.body3 rfl rfl rfl rfl ⟨by rw[if_pos d2],a3⟩
   ·have d2:¬a0<0:=by simpa using d2
    refine Sa ?_;exact QW.body3 rfl rfl rfl rfl ⟨by rw[if_neg d2],a3⟩
 refine LW.know (t:=21) (c:=true) rfl (decide_eq_true b1) ?_;refine Sa ?_;refine A8 (λb2=>?_) λb2=>?_;rotate_left
 ·have b2:¬(k:Int)<m.to.length:=by simpa using b2
  have hk:(min (hi+1) (DC (L:Int) m.to.length)).toNat=k:=by rw[aa];split<;>omega
  rw[hk] at hK;rw[hK];clear hK hk;generalize FP (-1) (D8 m L k)=a0;generalize KI (-1) (D8 m L k)=b0;refine Sa ?_;refine A8 (λd1=>?_) λd1=>?_
  ·have d1:(m.to.length:Int)≤hi:=by simpa using d1
   simp only[d1,true_and,if_true];refine Sa ?_;refine Ay rfl rfl (Fq m a9 _ hi AdE w2 hR) ?_;rintro v w3 ⟨rfl,a7⟩;replace hA:=hA.ext a7;replace hR:=hR.ext a7;have a4:=a3.trans a7;refine Sa ?_;refine A8 (λd2=>?_) λd2=>?_
   ·have d2:a0<0:=by simpa using d2
    simp only[d2,if_true];have hz:(if (L:Int)<m.to.length then(m.to.length:Int) else L)=DC L m.to.length:=rfl;refine Sa ?_;refine LW.max2 rfl rfl rfl ?_;rw[hz];refine Ay rfl rfl (Fq m a9 _ (DC L m.to.length) (by rw[aa];split<;>omega) w3 hR) ?_;rintro v w4 ⟨rfl,ac⟩;have a5:=a4.trans ac;refine Sa ?_;refine A8 (λd3=>?_) λd3=>?_
    ·have d3:Bd m (DC L m.to.length)<0:=by simpa using d3
     refine Sa ?_;exact QW.body3 rfl rfl rfl rfl ⟨by rw[if_pos d3],a5⟩
    ·have d3:¬Bd m (DC L m.to.length)<0:=by simpa using d3
     refine Sa ?_;exact QW.body3 rfl rfl rfl rfl ⟨by rw[if_neg d3],a5⟩
   ·have d2:¬a0<0:=by simpa using d2
    simp only[d2,if_false];refine Sa ?_;refine CW.no rfl (decide_eq_false d2) ?_;refine Sa ?_;exact QW.body3 rfl rfl rfl rfl ⟨rfl,a4⟩
  ·have d1:¬(m.to.length:Int)≤hi:=by simpa using d1
   simp only[d1,false_and,if_false];refine Sa ?_;refine A8 (λd2=>?_) λd2=>?_
   ·have d2:a0<0:=by simpa using d2
    refine Sa ?_;exact QW.body3 rfl rfl rfl rfl ⟨by rw[if_pos d2],a3⟩
   ·have d2:¬a0<0:=by simpa using d2
    refine Sa ?_;exact QW.body3 rfl rfl rfl rfl ⟨by rw[if_neg d2],a3⟩
 have b2:k<m.to.length:=by simp at b2;omega
 obtain⟨a,rfl,hc⟩:=ht.at b2;rw[show m.to.getD k 0=m.to.getD k 0 from rfl] at hc;have hs:=FH k0 b2;generalize m.to.getD k 0=z at hc hs;have a8:w2.cell? (a.add (((k:Nat):Int).toNat*1))=some (.int .i64 z):=by
  rw[show((k:Nat):Int).toNat*1=k by omega];exact hc
 refine Sa ?_;refine Lo ?_;refine Lp a8 ?_;refine Sa ?_;have e2:KI (-1) (D8 m L (k+1))=if KI (-1) (D8 m L k)<z then z else KI (-1) (D8 m L k):=by rw[hs,I7];rfl
 by_cases b3:0≤z
 ·refine LW.know (t:=36) (c:=true) rfl (decide_eq_true b3) ?_;refine Sa ?_;refine A8 (λb4=>?_) λb4=>?_
  ·have b4:FP (-1) (D8 m L k)<0:=by simpa using b4
   have e1:FP (-1) (D8 m L (k+1))=z:=by rw[hs,Fu,if_pos ⟨b3,b4⟩]
   refine Sa ?_;refine Lo ?_;refine Lp a8 ?_;refine Sa ?_;refine Lo ?_;refine Lp a8 ?_;refine LW.max2 rfl rfl rfl ?_;rw[←e2];refine Sa ?_;refine QW.again (k+1) ⟨by omega,by omega,.inl b2,a3,a6⟩ AdQ AdE
  ·have b4:¬FP (-1) (D8 m L k)<0:=by simpa using b4
   have e1:FP (-1) (D8 m L (k+1))=FP (-1) (D8 m L k):=by rw[hs,Fu,if_neg (λh=>b4 h.2)]
   refine Sa ?_;refine Lo ?_;refine Lp a8 ?_;refine LW.max2 rfl rfl rfl ?_;rw[←e2];refine Sa ?_;refine QW.again (k+1) ⟨by omega,by omega,.inl b2,a3,a6⟩ AdQ AdE
 ·refine LW.know (t:=36) (c:=false) rfl (decide_eq_false b3) ?_;have e1:FP (-1) (D8 m L (k+1))=FP (-1) (D8 m L k):=by rw[hs,Fu,if_neg (λh=>b3 h.1)]
  refine Sa ?_;refine Lo ?_;refine Lp a8 ?_;refine LW.max2 rfl rfl rfl ?_;rw[←e2];refine Sa ?_;refine QW.again (k+1) ⟨by omega,by omega,.inl b2,a3,a6⟩ AdQ AdE
def Bq(new:Int):Int→List Int→Bool
 | _,[]=>true
 | last,z::r=>if z=-1 then Bq new last r else if z≤last∨new≤z then false else Bq new z r
def Ey(m:AH):Bool:=decide (0≤m.new)&&decide (m.new≤1048576)&&decide (m.to.length≤1048576)&&Bq m.new (-1) m.to
def EE(m:AH):Prop:=∀j,j<m.to.length→m.to.getD j 0=-1∨(0≤m.to.getD j 0∧m.to.getD j 0<m.new∧∀i,i<j→m.to.getD i 0<m.to.getD j 0)
theorem J3(new:Int):∀(l:List Int) (last:Int),-1≤last→Bq new last l=true→∀j,j<l.length→l.getD j 0=-1∨(last<l.getD j 0∧l.getD j 0<new∧∀i,i<j→l.getD i 0<l.getD j 0)
 | [],_,_,_,j,hj=>by simp at hj
 | z::r,last,hl,h,j,hj=>by
  rw[Bq] at h;by_cases hz:z=-1
  ·rw[if_pos hz] at h
   match j,hj with
   | 0,_=>exact .inl hz
   | j+1,hj=>
    have ih:=J3 new r last hl h j Ael;simp only[Acx];rcases ih with ih | ⟨h1,h2,h3⟩
    ·exact .inl ih
    ·refine .inr ⟨h1,h2,λi hi=>?_⟩
     match i,hi with
     | 0,_=>simp only[Ac9];omega
     | i+1,hi=>simp only[Acx];exact h3 i AdE
  ·rw[if_neg hz] at h;by_cases hy:z≤last∨new≤z
   ·rw[if_pos hy] at h;cases h
   ·rw[if_neg hy] at h
    match j,hj with
    | 0,_=>exact .inr ⟨by simp only[Ac9];omega,by simp only[Ac9];omega,λi hi=>by omega⟩
    | j+1,hj=>
     have ih:=J3 new r z AdE h j Ael;simp only[Acx];rcases ih with ih | ⟨h1,h2,h3⟩
     ·exact .inl ih
     ·refine .inr ⟨by omega,h2,λi hi=>?_⟩
      match i,hi with
      | 0,_=>simp only[Ac9];omega
      | i+1,hi=>simp only[Acx];exact h3 i AdE
theorem Bs{m:AH}(h:Ey m=true):0≤m.new∧m.new≤1048576∧m.to.length≤1048576∧EE m:=by
 simp only[Ey,AaY,decide_eq_true_eq] at h;obtain⟨⟨⟨h1,h2⟩,h3⟩,h4⟩:=h;refine⟨h1,h2,h3,λj hj=>?_⟩;rcases J3 _ _ _ AdE h4 j hj with h | ⟨a,b,c⟩
 ·exact .inl h
 ·exact .inr ⟨by omega,b,c⟩
theorem O5{m:AH}(h:Ey m=true):m.Fine:=by
 obtain⟨h1,h2,h3,_⟩:=Bs h;exact⟨by omega,by omega,by omega⟩
theorem LZ{m:AH}{lo:Nat}:∀n,lo+n≤m.to.length→(∀j,lo≤j→j<lo+n→m.to.getD j 0<0)→FP (-1) (D8 m lo (lo+n))=-1
 | 0,_,_=>by rw[AbZ,Mg];rfl
 | n+1,h,hj=>by
  rw[←Nat.add_assoc,FH AdE AdE,Fu,LZ n AdE (λj h1 h2=>hj j h1 AdE)];have:=hj (lo+n) AdE AdE;rw[if_neg AdE]
theorem SM{m:AH}{lo a:Nat}(ha:lo≤a)(hd:∀j,lo≤j→j<a→m.to.getD j 0<0)(hz:0≤m.to.getD a 0):∀n,a+1+n≤m.to.length→FP (-1) (D8 m lo (a+1+n))=m.to.getD a 0
 | 0,h=>by
  have e:=LZ (m:=m) (lo:=lo) (a - lo) AdE (λj h1 h2=>hd j h1 AdE);rw[show lo+(a - lo)=a by omega] at e
  rw[AbZ,FH ha AdE,Fu,e,if_pos ⟨hz,by omega⟩]
 | n+1,h=>by
  rw[←Nat.add_assoc,FH AdE AdE,Fu,SM ha hd hz n AdE,if_neg AdE]
theorem X6{m:AH}{lo:Nat}{x:Int}(hx:-1<x):∀n,lo+n≤m.to.length→(∀j,lo≤j→j<lo+n→m.to.getD j 0<x)→KI (-1) (D8 m lo (lo+n))<x
 | 0,_,_=>by rw[AbZ,Mg];exact hx
 | n+1,h,hj=>by
  have ih:=X6 hx n AdE (λj h1 h2=>hj j h1 AdE);have:=hj (lo+n) AdE AdE;rw[←Nat.add_assoc,FH AdE AdE,I7,DC]
  split<;>omega
theorem X5{m:AH}(hr:EE m){lo b:Nat}(hb:lo≤b)(hz:0≤m.to.getD b 0):∀n,b+1+n≤m.to.length→(∀j,b<j→j<b+1+n→m.to.getD j 0<0)→KI (-1) (D8 m lo (b+1+n))=m.to.getD b 0
 | 0,h,_=>by
  have e:=X6 (m:=m) (lo:=lo) (x:=m.to.getD b 0) AdE (b - lo) AdE (λj h1 h2=>by
   rcases hr b AdE with h3 | ⟨_,_,h3⟩
   ·omega
   ·exact h3 j AdE)
  rw[show lo+(b - lo)=b by omega] at e
  rw[AbZ,FH hb AdE,I7,DC,if_pos e]
 | n+1,h,hj=>by
  have:=hj (b+1+n) AdE AdE;rw[←Nat.add_assoc,FH AdE AdE,I7,X5 hr hb hz n AdE (λj h1 h2=>hj j h1 AdE),DC,if_neg AdE]
theorem GQ{m:AH}{a:Nat}(h:a<m.to.length):Bd m (a:Int)=m.to.getD a 0:=by
 rw[Bd,if_neg AdE,if_pos AdE];rfl
theorem JR{m:AH}{a:Nat}(h:m.to.length≤a):Bd m (a:Int)=a - m.to.length+m.new:=by
 rw[Bd,if_neg AdE,if_neg AdE]
theorem J8{m:AH}(hr:EE m)(hn:0≤m.new){lo hi a b:Nat}(hlo:lo≤a)(hab:a≤b)(hb:b≤hi)(ha0:∀j,lo≤j→j<a→j<m.to.length∧m.to.getD j 0<0)(ha1:a<m.to.length→0≤m.to.getD a 0)
  (hb0:∀j,b<j→j≤hi→j<m.to.length∧m.to.getD j 0<0) (hb1:b<m.to.length→0≤m.to.getD b 0):Bt m lo hi=(Bd m a,Bd m b,true):=by
 rw[Bt,if_neg AdE];have a0:DC (lo:Int) m.to.length=if (lo:Int)<m.to.length then(m.to.length:Int) else lo:=rfl;by_cases h1:(m.to.length:Int)≤hi
 ·have a1:b=hi:=by
   rcases AbI b hi with h | h
   ·have:=(hb0 hi h (Abi _)).1;omega
   ·omega
  subst a1;simp only[h1,true_and,if_true];by_cases h2:a<m.to.length
  ·have hk:(min ((b:Int)+1) (DC lo m.to.length)).toNat=a+1+(m.to.length - a - 1):=by rw[a0];split<;>omega
   have e:=SM hlo (λj h3 h4=>(ha0 j h3 h4).2) (ha1 h2) (m.to.length - a - 1) AdE;have:=ha1 h2;rw[hk,show((lo:Nat):Int).toNat=lo by omega,e,if_neg AdE,if_neg AdE,GQ h2]
  ·have e:FP (-1) (D8 m lo (min ((b:Int)+1) (DC lo m.to.length)).toNat)=-1:=by
    rw[a0]
    split
    ·rename_i h3;have e:=LZ (m:=m) (lo:=lo) (m.to.length - lo) AdE (λj h4 h5=>(ha0 j h4 AdE).2);rw[show(min ((b:Int)+1) (m.to.length:Int)).toNat=lo+(m.to.length - lo) by omega];exact e
    ·rw[show(min ((b:Int)+1) (lo:Int)).toNat=lo by omega,Mg];rfl
   have ea:DC (lo:Int) m.to.length=a:=by
    rw[a0]
    split
    ·rename_i h3;have:¬m.to.length<a:=λh4=>by have:=(ha0 (m.to.length) AdE h4).1;omega
     omega
    ·have:¬lo<a:=λh4=>by have:=(ha0 lo AdE h4).1;omega
     omega
   rw[show((lo:Nat):Int).toNat=lo by omega,e,if_pos (show(-1:Int)<0 by omega),ea,JR AdE,if_neg AdE]
 ·simp only[h1,false_and,if_false];have hk:(min ((hi:Int)+1) (DC lo m.to.length)).toNat=a+1+(hi - a):=by rw[a0];split<;>omega
  have a2:a+1+(hi - a)=b+1+(hi - b):=AdE
  have e:=SM hlo (λj h3 h4=>(ha0 j h3 h4).2) (ha1 AdE) (hi - a) AdE;have e2:=X5 hr (show lo≤b by omega) (hb1 AdE) (hi - b) AdE (λj h3 h4=>(hb0 j h3 AdE).2);have:=ha1 AdE;rw[hk,show((lo:Nat):Int).toNat=lo by omega,e,a2,e2,if_neg AdE,GQ AdE,GQ AdE]
theorem OQ{m:AH}{lo hi:Nat}(h:∀j,lo≤j→j≤hi→j<m.to.length∧m.to.getD j 0<0)(hl:lo≤hi):Bt m lo hi=(0,0,false):=by
 have hh:=(h hi hl (Abi _)).1;have a0:DC (lo:Int) m.to.length=if (lo:Int)<m.to.length then(m.to.length:Int) else lo:=rfl;rw[Bt,if_neg AdE];have h1:¬(m.to.length:Int)≤hi:=AdE
 simp only[h1,false_and,if_false];have hk:(min ((hi:Int)+1) (DC lo m.to.length)).toNat=lo+(hi+1 - lo):=by rw[a0];split<;>omega
 have e:=LZ (m:=m) (lo:=lo) (hi+1 - lo) AdE (λj h4 h5=>(h j h4 AdE).2);rw[hk,show((lo:Nat):Int).toNat=lo by omega,e,if_pos AdE]
theorem QD(P:Nat→Prop)[DecidablePred P](lo:Nat):∀n,(∀j,lo≤j→j<lo+n→¬P j)∨∃a,lo≤a∧a<lo+n∧P a∧∀j,lo≤j→j<a→¬P j
 | 0=>.inl λj h1 h2=>by omega
 | n+1=>by
  rcases QD P lo n with h | ⟨a,h1,h2,h3,h4⟩
  ·by_cases hp:P (lo+n)
   ·exact .inr ⟨lo+n,by omega,by omega,hp,λj h1 h2=>h j h1 AdE⟩
   ·refine .inl λj h1 h2=>?_;rcases AbI j (lo+n) with h3 | h3
    ·exact h j h1 h3
    ·obtain rfl:j=lo+n:=by omega
     exact hp
  ·exact .inr ⟨a,h1,by omega,h3,h4⟩
theorem Uq(P:Nat→Prop)[DecidablePred P](lo:Nat):∀n,(∀j,lo≤j→j<lo+n→¬P j)∨∃b,lo≤b∧b<lo+n∧P b∧∀j,b<j→j<lo+n→¬P j
 | 0=>.inl λj h1 h2=>by omega
 | n+1=>by
  by_cases hp:P (lo+n)
  ·exact .inr ⟨lo+n,by omega,by omega,hp,λj h1 h2=>by omega⟩
  ·rcases Uq P lo n with h | ⟨b,h1,h2,h3,h4⟩
   ·refine .inl λj h1 h2=>?_;rcases AbI j (lo+n) with h3 | h3
    ·exact h j h1 h3
    ·obtain rfl:j=lo+n:=by omega
     exact hp
   ·refine .inr ⟨b,h1,by omega,h3,λj h5 h6=>?_⟩;rcases AbI j (lo+n) with h7 | h7
    ·exact h4 j h5 h7
    ·obtain rfl:j=lo+n:=by omega
     exact hp
theorem Xo{m:AH}(hr:EE m){a b:Nat}(h:a<b)(hb:b<m.to.length→0≤m.to.getD b 0)(ha:a<m.to.length→0≤m.to.getD a 0):Bd m (a:Int)<Bd m (b:Int):=by
 by_cases h1:b<m.to.length
 ·rw[GQ h1,GQ AdE];rcases hr b h1 with h2 | ⟨_,_,h2⟩
  ·have:=hb h1;omega
  ·exact h2 a h
 ·rw[JR (show m.to.length≤b by omega)];by_cases h2:a<m.to.length
  ·rw[GQ h2];rcases hr a h2 with h3 | ⟨_,h3,_⟩
   ·have:=ha h2;omega
   ·omega
  ·rw[JR (show m.to.length≤a by omega)];omega
theorem ZX{m:AH}(hr:EE m){a b:Nat}(h:a≤b)(hb:b<m.to.length→0≤m.to.getD b 0)(ha:a<m.to.length→0≤m.to.getD a 0):Bd m (a:Int)≤Bd m (b:Int):=by
 rcases AbI a b with h1 | h1
 ·have:=Xo hr h1 hb ha;omega
 ·obtain rfl:a=b:=by omega
  omega
theorem Xn{m:AH}(hn:0≤m.new){a:Nat}(ha:a<m.to.length→0≤m.to.getD a 0):0≤Bd m (a:Int):=by
 by_cases h1:a<m.to.length
 ·rw[GQ h1];exact ha h1
 ·rw[JR AdE];omega
theorem TJ{m:AH}(hr:EE m)(hn:0≤m.new){lo hi:Nat}(h:lo≤hi):Bt m lo hi=(0,0,false)∨∃a b:Nat,lo≤a∧a≤b∧b≤hi∧Bt m lo hi=(Bd m a,Bd m b,true)∧0≤Bd m a∧Bd m a≤Bd m b:=by
 have hP:∀j,¬(m.to.length≤j∨0≤m.to.getD j 0)↔(j<m.to.length∧m.to.getD j 0<0):=λj=>by omega
 rcases QD (λj=>m.to.length≤j∨0≤m.to.getD j 0) lo (hi+1 - lo) with h1 | ⟨a,h1,h2,h3,h4⟩
 ·exact .inl (OQ (λj h2 h3=>(hP j).1 (h1 j h2 AdE)) h)
 ·rcases Uq (λj=>m.to.length≤j∨0≤m.to.getD j 0) lo (hi+1 - lo) with k1 | ⟨b,k1,k2,k3,k4⟩
  ·exact absurd h3 (k1 a h1 h2)
  ·have a0:a≤b:=by
    rcases AbI b a with h5 | h5
    ·exact absurd k3 (h4 b k1 h5)
    ·exact h5
   have a1:a<m.to.length→0≤m.to.getD a 0:=λh5=>by omega
   have a2:b<m.to.length→0≤m.to.getD b 0:=λh5=>by omega
   exact .inr ⟨a,b,h1,a0,by omega,J8 hr hn h1 a0 AdE (λj h5 h6=>(hP j).1 (h4 j h5 h6)) a1 (λj h5 h6=>(hP j).1 (k4 j h5 AdE)) a2,Xn hn a1,ZX hr a0 a2 a1⟩
theorem Ys{m:AH}(hr:EE m)(hn:0≤m.new)(i:Nat):Bt m i i=if Bd m i<0 then(0,0,false) else(Bd m i,Bd m i,true):=by
 by_cases h:i<m.to.length∧m.to.getD i 0<0
 ·rw[OQ (λj h1 h2=>(show j=i by omega) ▸ h) (Abi _),GQ h.1,if_pos h.2]
 ·have h1:i<m.to.length→0≤m.to.getD i 0:=λh2=>by omega
  have:=Xn hn h1;rw[J8 hr hn (Abi _) (Abi _) (Abi _) (λj h2 h3=>by omega) h1 (λj h2 h3=>by omega) h1,if_neg AdE]
theorem Wr{m:AH}(hr:EE m)(hn:0≤m.new)(ha:∀j,j<m.to.length→0≤m.to.getD j 0){lo hi:Nat}(h:lo≤hi):Bt m lo hi=(Bd m lo,Bd m hi,true):=
 J8 hr hn (Abi _) h (Abi _) (λj h2 h3=>by omega) (ha lo) (λj h2 h3=>by omega) (ha hi)
structure Bg where
 sheet:List UInt8
 rows:AH
 cols:AH
 gone:Bool
def Bg.May(s:Bg):Prop:=Ey s.rows=true∧Ey s.cols=true
def Bg.Fine(s:Bg):Prop:=s.rows.Fine∧s.cols.Fine
def BZ:Ah:={kind:=4}
def Tz(own:List UInt8)(n:Ah):List UInt8:=if n.ref.sheet=[] then own else n.ref.sheet
def Ec(ss:List Bg)(x:List UInt8):Option Bg:=ss.find? (λs=>decide (s.sheet=x))
def B6(n:Ah):Da:=if n.kind=5 then n.ref else n.to
def Dh(s:Bg)(n:Ah):Prop:=(Bt s.rows n.ref.row (B6 n).row).2.2=false∨(Bt s.cols n.ref.col (B6 n).col).2.2=false∨998<(Bt s.rows n.ref.row (B6 n).row).2.1∨701<(Bt s.cols n.ref.col (B6 n).col).2.1
instance (s : Bg)(n : Ah) : Decidable (Dh s n) := by unfold Dh; infer_instance
def Kw(s:Bg)(n:Ah):Ah:=
 {n with ref:={n.ref with row:=(Bt s.rows n.ref.row (B6 n).row).1,col:=(Bt s.cols n.ref.col (B6 n).col).1},to:=if n.kind=6 then {n.to with row:=(Bt s.rows n.ref.row (B6 n).row).2.1,col:=(Bt s.cols n.ref.col (B6 n).col).2.1} else n.to}
def DS(s:Bg)(n:Ah):Ah:=if s.gone=true then BZ else if Dh s n then BZ else Kw s n
def goD(s:Bg)(n:Ah):Ah:=
 if s.gone=true then BZ
 else if n.kind=5 then(if Bz {n.ref with row:=Bd s.rows n.ref.row,col:=Bd s.cols n.ref.col}=true then {n with ref:={n.ref with row:=Bd s.rows n.ref.row,col:=Bd s.cols n.ref.col}} else BZ)
 else if (Bt s.rows n.ref.row n.to.row).2.2=true∧(Bt s.cols n.ref.col n.to.col).2.2=true∧Bz {n.ref with row:=(Bt s.rows n.ref.row n.to.row).1,col:=(Bt s.cols n.ref.col n.to.col).1}=true∧Bz {n.to with row:=(Bt s.rows n.ref.row n.to.row).2.1,col:=(Bt s.cols n.ref.col n.to.col).2.1}=true then
  {n with ref:={n.ref with row:=(Bt s.rows n.ref.row n.to.row).1,col:=(Bt s.cols n.ref.col n.to.col).1},to:={n.to with row:=(Bt s.rows n.ref.row n.to.row).2.1,col:=(Bt s.cols n.ref.col n.to.col).2.1}}
 else BZ
def B0(go:Bg→Ah→Ah)(own:List UInt8)(ss:List Bg)(n:Ah):Ah:=
 if n.kind≠5∧n.kind≠6 then n else match Ec ss (Tz own n) with
  | none=>n
  | some s=>go s n
def C2(go:Bg→Ah→Ah)(own:List UInt8)(ss:List Bg)(l:List Ah):List Ah:=if Cr l=true then l.map (B0 go own ss) else[]
theorem BT{x:Da}(h:Bz x=true):0≤x.col∧x.col≤701∧0≤x.row∧x.row≤998∧∀r c,0≤r→r≤998→0≤c→c≤701→Bz {x with row:=r,col:=c}=true:=by
 simp only[Bz,AaY,decide_eq_true_eq] at h ⊢;obtain⟨⟨⟨⟨h0,h1⟩,h2⟩,h3⟩,h4⟩:=h;exact⟨h1,h2,h3,h4,λr c h5 h6 h7 h8=>⟨⟨⟨⟨h0,h7⟩,h8⟩,h5⟩,h6⟩⟩
theorem ML{x:Da}(h:Bz x=true)(r c:Int):Bz {x with row:=r,col:=c}=true↔0≤r∧r≤998∧0≤c∧c≤701:=by
 obtain⟨_,_,_,_,h5⟩:=BT h;refine⟨λhh=>?_,λ⟨h1,h2,h3,h4⟩=>h5 r c h1 h2 h3 h4⟩;obtain⟨a,b,c,d,_⟩:=BT hh;exact⟨c,d,a,b⟩
theorem GA{n:Ah}(h:AB n=true)(hk:n.kind=5):Bz n.ref=true∧n.num=0∧n.text=[]∧n.to=Ba:=by
 simp only[AB,IE,Bl,hk] at h;simp at h;exact⟨h.1,h.2.1,h.2.2.1,h.2.2.2⟩
theorem EN{n:Ah}(h:AB n=true)(hk:n.kind=6):Bz n.ref=true∧Bz n.to=true∧BL n.ref n.to=true∧n.num=0∧n.text=[]:=by
 simp only[AB,IE,Bl,hk] at h;simp at h;exact⟨h.1.1,h.1.2.1,h.1.2.2,h.2.1,h.2.2⟩
theorem Fj{a b:Da}(h:BL a b=true):b.sheet=[]∧a.col≤b.col∧a.row≤b.row:=by
 simp only[BL,AaY,decide_eq_true_eq] at h;exact⟨h.1.1,h.1.2,h.2⟩
theorem Ko{m:AH}(hr:EE m)(hn:0≤m.new){lo hi:Int}(h0:0≤lo)(h:lo≤hi):Bt m lo hi=(0,0,false)∨∃a b:Nat,lo≤a∧a≤b∧b≤hi∧Bt m lo hi=(Bd m a,Bd m b,true)∧0≤Bd m a∧Bd m a≤Bd m b:=by
 obtain⟨a,rfl⟩:=Aca h0;obtain⟨b,rfl⟩:=Aca (show 0≤hi by omega);rcases TJ hr hn (lo:=a) (hi:=b) AdE with h1 | ⟨x,y,h1,h2,h3,h4⟩
 ·exact .inl h1
 ·exact .inr ⟨x,y,by omega,h2,by omega,h4⟩
theorem Kp{m:AH}(hr:EE m)(hn:0≤m.new){i:Int}(h:0≤i):Bt m i i=if Bd m i<0 then(0,0,false) else(Bd m i,Bd m i,true):=by
 obtain⟨a,rfl⟩:=Aca h;exact Ys hr hn a
theorem YL{s:Bg}(hm:s.May){n:Ah}(hp:AB n=true)(hk:n.kind=5∨n.kind=6):DS s n=goD s n:=by
 obtain⟨r1,_,_,r4⟩:=Bs hm.1;obtain⟨c1,_,_,c4⟩:=Bs hm.2;unfold DS goD;by_cases hg:s.gone=true
 ·rw[if_pos hg,if_pos hg]
 rw[if_neg hg,if_neg hg];rcases hk with hk | hk
 ·obtain⟨h1,h2,h3,h4⟩:=GA hp hk;obtain⟨b1,b2,b3,b4,_⟩:=BT h1;have a0:=ML h1 (Bd s.rows n.ref.row) (Bd s.cols n.ref.col);have hl:B6 n=n.ref:=by rw[B6,if_pos hk]
  have er:=Kp r4 r1 b3;have ec:=Kp c4 c1 b1;rw[if_pos hk];by_cases x1:Bd s.rows n.ref.row<0
  ·have hg:Dh s n:=by unfold Dh;rw[hl,er,if_pos x1];exact .inl rfl
   rw[if_pos hg,if_neg Aez]
  by_cases x2:Bd s.cols n.ref.col<0
  ·have hg:Dh s n:=by unfold Dh;rw[hl,ec,if_pos x2];exact .inr (.inl rfl)
   rw[if_pos hg,if_neg Aez]
  have hw:Kw s n={n with ref:={n.ref with row:=Bd s.rows n.ref.row,col:=Bd s.cols n.ref.col}}:=by
   unfold Kw;rw[hl,er,ec,if_neg x1,if_neg x2,if_neg (show ¬n.kind=6 by omega)]
  by_cases x3:998<Bd s.rows n.ref.row∨701<Bd s.cols n.ref.col
  ·have hg:Dh s n:=by unfold Dh;rw[hl,er,ec,if_neg x1,if_neg x2];exact .inr (.inr x3)
   rw[if_pos hg,if_neg Aez]
  ·have hg:¬Dh s n:=by unfold Dh;rw[hl,er,ec,if_neg x1,if_neg x2];simpa using x3
   rw[if_neg hg,hw,if_pos Aez]
 ·obtain⟨h1,h2,h3,h4,h5⟩:=EN hp hk;obtain⟨b1,b2,b3,b4,_⟩:=BT h1;obtain⟨q1,q2,q3⟩:=Fj h3;have hl:B6 n=n.to:=by rw[B6,if_neg AdE]
  rw[if_neg (show ¬n.kind=5 by omega)];rcases Ko r4 r1 b3 q3 with er | ⟨x,y,_,_,_,er,er1,er2⟩
  ·have hg:Dh s n:=by unfold Dh;rw[hl,er];exact .inl rfl
   rw[if_pos hg,er,if_neg (λh=>by cases h.1)]
  rcases Ko c4 c1 b1 q2 with ec | ⟨u,v,_,_,_,ec,ec1,ec2⟩
  ·have hg:Dh s n:=by unfold Dh;rw[hl,ec];exact .inr (.inl rfl)
   rw[if_pos hg,ec,if_neg (λh=>by cases h.2.1)]
  have i1:=ML h1 (Bd s.rows x) (Bd s.cols u);have i2:=ML h2 (Bd s.rows y) (Bd s.cols v);have hw:Kw s n={n with ref:={n.ref with row:=Bd s.rows x,col:=Bd s.cols u},to:={n.to with row:=Bd s.rows y,col:=Bd s.cols v}}:=by
   unfold Kw;rw[hl,er,ec,if_pos hk]
  by_cases x3:998<Bd s.rows y∨701<Bd s.cols v
  ·have hg:Dh s n:=by unfold Dh;rw[hl,er,ec];exact .inr (.inr x3)
   rw[if_pos hg,er,ec,if_neg (λh=>by have:=i2.1 h.2.2.2;omega)]
  ·have hg:¬Dh s n:=by unfold Dh;rw[hl,er,ec];simpa using x3
   rw[if_neg hg,hw,er,ec,if_pos ⟨rfl,rfl,i1.2 AdE,i2.2 AdE⟩]
theorem Gy{ss:List Bg}{x:List UInt8}{s:Bg}(h:Ec ss x=some s):s∈ss∧s.sheet=x:=by
 unfold Ec at h;have h1:=Ad8 h;exact⟨AcR h,by simpa using h1⟩
theorem Xl{s:Bg}(hm:s.May){n:Ah}(hp:AB n=true)(hk:n.kind=5∨n.kind=6):AB (DS s n)=true∧1≤(DS s n).kind∧(DS s n).kind≤6∧(DS s n).num=0∧(DS s n).text=[]∧(DS s n).ref.sheet.length≤n.ref.sheet.length∧(DS s n).to.sheet.length≤n.to.sheet.length∧((DS s n).kids=n.kids∨DS s n=BZ):=by
 have hd:AB BZ=true∧1≤BZ.kind∧BZ.kind≤6∧BZ.num=0∧BZ.text=[]∧BZ.ref.sheet.length≤n.ref.sheet.length∧BZ.to.sheet.length≤n.to.sheet.length∧(BZ.kids=n.kids∨BZ=BZ):=⟨rfl,by decide,by decide,rfl,rfl,by simp[BZ,Ba],by simp[BZ,Ba],.inr rfl⟩;obtain⟨r1,_,_,r4⟩:=Bs hm.1;obtain⟨c1,_,_,c4⟩:=Bs hm.2;rw[YL hm hp hk];unfold goD
 split
 ·exact hd
 split
 ·rename_i a0;obtain⟨h1,h2,h3,h4⟩:=GA hp a0
  split
  ·rename_i hb;refine⟨?_,by show 1≤n.kind;omega,by show n.kind≤6;omega,h2,h3,Abi _,Abi _,.inl rfl⟩;simp only[AB,IE,Bl,a0,hb,h2,h3,h4];simp
  ·exact hd
 ·rename_i a0;have a1:n.kind=6:=AdE
  obtain⟨h1,h2,h3,h4,h5⟩:=EN hp a1;obtain⟨q1,q2,q3⟩:=Fj h3;obtain⟨b1,b2,b3,b4,_⟩:=BT h1
  split
  ·rename_i hb;obtain⟨e1,e2,e3,e4⟩:=hb;refine⟨?_,by show 1≤n.kind;omega,by show n.kind≤6;omega,h4,h5,Abi _,Abi _,.inl rfl⟩;rcases Ko r4 r1 b3 q3 with er | ⟨x,y,_,_,_,er,er1,er2⟩
   ·rw[er] at e1;cases e1
   rcases Ko c4 c1 b1 q2 with ec | ⟨u,v,_,_,_,ec,ec1,ec2⟩
   ·rw[ec] at e2;cases e2
   rw[er,ec] at e3 e4 ⊢;have a2:BL {n.ref with row:=Bd s.rows x,col:=Bd s.cols u} {n.to with row:=Bd s.rows y,col:=Bd s.cols v}=true:=by
    simp only[BL,AaY,decide_eq_true_eq];exact⟨⟨q1,ec2⟩,er2⟩
   simp only[AB,IE,Bl,a1,e3,e4,a2,h4,h5];simp
  ·exact hd
def Tr.mv(f:Ah→Ah):{b:Bool}→Tr b→Tr b
 | _,.leaf n=>.leaf (f n)
 | _,.neg a=>.neg (a.mv f)
 | _,.two k a b=>.two k (a.mv f) (b.mv f)
 | _,.call x ks=>.call x (ks.mv f)
 | _,.nil=>.nil
 | _,.snoc ks a=>.snoc (ks.mv f) (a.mv f)
structure TR(f:Ah→Ah):Prop where
 inner:∀n:Ah,7≤n.kind→f n=n
 leaf:∀n:Ah,1≤n.kind→n.kind≤6→n.kids=[]→AB n=true→1≤(f n).kind∧(f n).kind≤6∧(f n).kids=[]∧AB (f n)=true∧(f n=n∨(f n).num=0)
theorem Xy{n:Ah}{k:Ap}(h:k∈C1 n):k.num=n.num∨k.num=0:=by
 unfold C1 at h
 repeat' split at h
 all_goals simp only[AaT,Abu,or_false] at h
 all_goals first | (subst h;first | exact .inl rfl | exact .inr rfl) | (rcases h with rfl | rfl | rfl<;>exact .inr rfl)
theorem Gj(f:Ah→Ah):∀{b:Bool} (t:Tr b),(t.mv f).cnt=t.cnt
 | _,.leaf _=>rfl
 | _,.neg a=>by simp only[Tr.mv,Tr.cnt,Gj f a]
 | _,.two _ a b=>by simp only[Tr.mv,Tr.cnt,Gj f a,Gj f b]
 | _,.call _ ks=>by simp only[Tr.mv,Tr.cnt,Gj f ks]
 | _,.nil=>rfl
 | _,.snoc ks a=>by simp only[Tr.mv,Tr.cnt,Gj f ks,Gj f a]
theorem Ut(f:Ah→Ah)(o:Nat):∀{b:Bool} (t:Tr b),(t.mv f).kids o=t.kids o
 | _,.leaf _=>rfl
 | _,.neg _=>rfl
 | _,.two _ _ _=>rfl
 | _,.call _ _=>rfl
 | _,.nil=>rfl
 | _,.snoc ks a=>by simp only[Tr.mv,Tr.kids,Ut f o ks,Gj]
theorem GU{f:Ah→Ah}(h:TR f):∀{b:Bool} (t:Tr b) (o:Nat),t.Fit→(t.mv f).flat o=(t.flat o).map f
 | _,.leaf _,_,_=>rfl
 | _,.neg a,o,hf=>by simp only[Tr.mv,Tr.flat,GU h a o hf,Gj,AbG,AbK,Acm];rw[h.inner _ (by show(7:Int)≤8;omega)]
 | _,.two k a b,o,hf=>by
  simp only[Tr.mv,Tr.flat,GU h a o hf.2.2.1,GU h b (o+a.cnt) hf.2.2.2,Gj,AbG,AbK,Acm]
  rw[h.inner _ (by have:=hf.1;show 7≤k;omega)]
 | _,.call x ks,o,hf=>by simp only[Tr.mv,Tr.flat,GU h ks o hf.2,Ut,AbG,AbK,Acm];rw[h.inner _ (by show(7:Int)≤7;omega)]
 | _,.nil,_,_=>rfl
 | _,.snoc ks a,o,hf=>by simp only[Tr.mv,Tr.flat,GU h ks o hf.1,GU h a (o+ks.cnt) hf.2,Gj,AbG]
theorem Jy{f:Ah→Ah}(h:TR f):∀{b:Bool} (t:Tr b),t.Fit→(t.mv f).Fit
 | _,.leaf n,hf=>by
  obtain⟨a,b,c,d,_⟩:=h.leaf n hf.1 hf.2.1 hf.2.2.1 hf.2.2.2
  exact⟨a,b,c,d⟩
 | _,.neg a,hf=>Jy h a hf
 | _,.two k a b,hf=>⟨hf.1,hf.2.1,Jy h a hf.2.2.1,Jy h b hf.2.2.2⟩
 | _,.call x ks,hf=>⟨hf.1,Jy h ks hf.2⟩
 | _,.nil,_=>trivial
 | _,.snoc ks a,hf=>⟨Jy h ks hf.1,Jy h a hf.2⟩
theorem Uu(f:Ah→Ah):∀{b:Bool} (t:Tr b),(t.mv f).rank=t.rank
 | _,.leaf _=>rfl
 | _,.neg _=>rfl
 | _,.two _ _ _=>rfl
 | _,.call _ _=>rfl
 | _,.nil=>rfl
 | _,.snoc _ _=>rfl
theorem GV(f:Ah→Ah):∀{b:Bool} (t:Tr b),(t.mv f).need=t.need
 | _,.leaf _=>rfl
 | _,.neg a=>by simp only[Tr.mv,Tr.need,Uu,GV f a]
 | _,.two _ a b=>by simp only[Tr.mv,Tr.need,Uu,GV f a,GV f b]
 | _,.call _ ks=>by simp only[Tr.mv,Tr.need,GV f ks]
 | _,.nil=>rfl
 | _,.snoc ks a=>by simp only[Tr.mv,Tr.need,GV f ks,GV f a]
theorem GX{f:Ah→Ah}(h:TR f):∀{b:Bool} (t:Tr b),t.Fit→t.Num→(t.mv f).Num
 | _,.leaf n,hf,hn=>λk hk=>by
  obtain⟨_,_,_,_,e⟩:=h.leaf n hf.1 hf.2.1 hf.2.2.1 hf.2.2.2;have hk':k∈C1 (f n):=hk;rcases e with e | e
  ·rw[e] at hk';exact hn k hk'
  ·rcases Xy hk' with h1 | h1<;>omega
 | _,.neg a,hf,hn=>Uy (GX h a hf (λu hu=>hn u AdW))
 | _,.two o a b,hf,hn=>Uz (GX h a hf.2.2.1 (λu hu=>hn u AdT)) (GX h b hf.2.2.2 (λu hu=>hn u AdS))
 | _,.call x .nil,hf,hn=>hn
 | _,.call x (.snoc rs a),hf,hn=>Rl (GX h rs hf.2.1 (λu hu=>hn u AdN)) (GX h a hf.2.2 (λu hu=>hn u AdN))
 | _,.nil,_,hn=>hn
 | _,.snoc rs a,hf,hn=>Rm (GX h rs hf.1 (λu hu=>hn u AdN)) (GX h a hf.2 (λu hu=>hn u AdN))
theorem I9{own:List UInt8}{ss:List Bg}(hss:∀s∈ss,s.May):TR (B0 DS own ss) where
 inner n hk:=by rw[B0,if_pos ⟨by omega,by omega⟩]
 leaf n h1 h2 h3 h4:=by
  unfold B0
  split
  ·exact⟨h1,h2,h3,h4,.inl rfl⟩
  ·rename_i hk
   split
   ·exact⟨h1,h2,h3,h4,.inl rfl⟩
   ·rename_i s e;obtain⟨a,b,c,d,_,_,_,x⟩:=Xl (hss s (Gy e).1) h4 AdE;refine⟨b,c,?_,a,.inr d⟩;rcases x with x | x
    ·rw[x,h3]
    ·rw[x];rfl
theorem JX{own:List UInt8}{ss:List Bg}(hss:∀s∈ss,s.May){n:Ah}(hp:AB n=true):(B0 DS own ss n).text.length≤n.text.length∧(B0 DS own ss n).ref.sheet.length≤n.ref.sheet.length∧(B0 DS own ss n).to.sheet.length≤n.to.sheet.length∧(B0 DS own ss n).kids.length≤n.kids.length:=by
 unfold B0
 split
 ·exact⟨Abi _,Abi _,Abi _,Abi _⟩
 ·split
  ·exact⟨Abi _,Abi _,Abi _,Abi _⟩
  ·rename_i s e;obtain⟨a,b,c,d,d2,h1,h2,x⟩:=Xl (hss s (Gy e).1) hp AdE;refine⟨by rw[d2];simp,h1,h2,?_⟩;rcases x with x | x
   ·rw[x];exact Abi _
   ·rw[x];simp[BZ]
theorem Ew:∀{b:Bool} (t:Tr b) (o:Nat),t.Fit→∀n∈t.flat o,AB n=true
 | _,.leaf m,o,hf,n,hn=>by
  simp only[Tr.flat,Aad] at hn;subst hn
  exact hf.2.2.2
 | _,.neg a,o,hf,n,hn=>by
  simp only[Tr.flat,Abf,Aad] at hn;rcases hn with hn | rfl
  ·exact Ew a o hf n hn
  ·exact rfl
 | _,.two k a b,o,hf,n,hn=>by
  simp only[Tr.flat,Abf,Aad] at hn;rcases hn with (hn | hn) | rfl
  ·exact Ew a o hf.2.2.1 n hn
  ·exact Ew b _ hf.2.2.2 n hn
  ·exact(NC hf.1 hf.2.1 _ _).2
 | _,.call x ks,o,hf,n,hn=>by
  simp only[Tr.flat,Abf,Aad] at hn;rcases hn with hn | rfl
  ·exact Ew ks o hf.2 n hn
  ·exact(It hf.1 _).2
 | _,.nil,_,_,n,hn=>by simp[Tr.flat] at hn
 | _,.snoc ks a,o,hf,n,hn=>by
  simp only[Tr.flat,Abf] at hn;rcases hn with hn | hn
  ·exact Ew ks o hf.1 n hn
  ·exact Ew a _ hf.2 n hn
theorem J9{l:List Ah}(h:Cr l=true):∀n∈l,AB n=true:=by
 obtain⟨t,rfl,hf⟩:=Kt h;exact Ew t 0 hf
theorem Jw{own:List UInt8}{ss:List Bg}(hss:∀s∈ss,s.May){t:Tr false}(hf:t.Fit):C2 DS own ss (t.flat 0)=(t.mv (B0 DS own ss)).flat 0∧(t.mv (B0 DS own ss)).Fit:=
 ⟨by rw[C2,if_pos (t.tree hf),GU (I9 hss) t 0 hf],Jy (I9 hss) t hf⟩
theorem VI:JC []:=X9 AdM
theorem Re{own:List UInt8}{ss:List Bg}(hss:∀s∈ss,s.May){l:List Ah}(hsh:Em l)(hno:JC l)(N:Nat)(hk:∀n∈l,n.kids.length≤N) :
  Em (C2 DS own ss l)∧JC (C2 DS own ss l)∧(∀n∈C2 DS own ss l,n.kids.length≤N)∧(C2 DS own ss l).length≤l.length:=by
 by_cases ht:Cr l=true
 ·obtain⟨t,rfl,hf⟩:=Kt ht;have hp:=J9 ht;obtain⟨e,a0⟩:=Jw (own:=own) hss hf;have hm:∀n∈C2 DS own ss (t.flat 0),∃m∈t.flat 0,n=B0 DS own ss m:=λn hn=>by
   rw[C2,if_pos ht] at hn;obtain⟨m,h1,h2⟩:=AbE.1 hn;exact⟨m,h1,h2.symm⟩
  refine⟨λn hn=>?_,λu hu eu=>?_,λn hn=>?_,?_⟩
  ·obtain⟨m,h1,rfl⟩:=hm n hn;obtain⟨a,b,c,_⟩:=JX (own:=own) hss (hp m h1);obtain⟨d1,d2,d3⟩:=hsh m h1;exact⟨by omega,by omega,by omega⟩
  ·have:=Tr.inj u _ hu a0 [] [] (by simpa using eu.trans e) (.inl rfl);rw[this.1];exact GX (I9 hss) t hf (hno t hf rfl)
  ·obtain⟨m,h1,rfl⟩:=hm n hn;obtain⟨_,_,_,d⟩:=JX (own:=own) hss (hp m h1);have:=hk m h1;omega
  ·rw[C2,if_pos ht,AbA];exact Abi _
 ·rw[C2,if_neg ht];exact⟨λn hn=>(Abu hn).elim,VI,λn hn=>(Abu hn).elim,by simp⟩
def Aaj:List UInt8:=[61,35,82,69,70,33]
noncomputable def D7(own:List UInt8)(ss:List Bg)(s:List UInt8):List UInt8:=
 if s≠[]∧Aj s 0=61∧BN s=true then(match AU (s.drop 1) with
  | .ok l=>if 300<(61::BO (C2 DS own ss l)).length then Aaj else 61::BO (C2 DS own ss l)
  | .error _=>s) else s
def J7(s:Bg)(rv cv:Value):List Value:=[Ao s.sheet,rv,.int .i64 s.rows.new,cv,.int .i64 s.cols.new,.bool s.gone]
def Cw(w:World)(v:Value)(l:List Bg):Prop:=
 l.length≤1000000∧(v=.slice none 0 0∧l=[]∨∃a cap,v=.slice (some a) l.length cap∧∀i s,l[i]?=some s→∃rv cv,AY w rv s.rows.to∧AY w cv s.cols.to∧∀j u,(J7 s rv cv)[j]?=some u→w.cell? ((a.add (i*6)).add j)=some u)
theorem Cw.ext{w w':World}{v:Value}{l:List Bg}(h:Cw w v l)(x:Ai w w'):Cw w' v l:=by
 obtain⟨h0,h | ⟨a,cap,e,h⟩⟩:=h
 ·exact⟨h0,.inl h⟩
 ·exact⟨h0,.inr ⟨a,cap,e,λi s hi=>let ⟨rv,cv,h1,h2,hc⟩:=h i s hi;⟨rv,cv,h1.ext x,h2.ext x,λj u hj=>A0 x (hc j u hj)⟩⟩⟩
theorem Cw.slice{w:World}{v:Value}{l:List Bg}(h:Cw w v l):∃p c,v=.slice p l.length c:=by
 obtain⟨h0,⟨rfl,rfl⟩ | ⟨a,cap,e,h⟩⟩:=h
 ·exact⟨_,_,rfl⟩
 ·exact⟨_,_,e⟩
theorem Cw.at{w:World}{p:Option Addr}{c:Nat}{l:List Bg}(h:Cw w (.slice p l.length c) l){i:Nat}{s:Bg}(hi:l[i]?=some s) :
  ∃a rp rc cp cc,p=some a∧AY w (.slice rp s.rows.to.length rc) s.rows.to∧AY w (.slice cp s.cols.to.length cc) s.cols.to∧∀j u,(J7 s (.slice rp s.rows.to.length rc) (.slice cp s.cols.to.length cc))[j]?=some u→w.cell? ((a.add (i*6)).add j)=some u:=by
 obtain⟨h0,⟨e,e2⟩ | ⟨a,cap,e,h⟩⟩:=h
 ·rw[e2] at hi;simp at hi
 ·simp only[AbM] at e;obtain⟨rv,cv,h1,h2,hc⟩:=h i s hi;obtain⟨rp,rc,rfl⟩:=h1.slice;obtain⟨cp,cc,rfl⟩:=h2.slice;exact⟨a,rp,rc,cp,cc,e.1,h1,h2,hc⟩
def KD(ss:List Bg)(x:List UInt8):Option Nat:=ss.findIdx? (λs=>decide (s.sheet=x))
theorem KE{ss:List Bg}{x:List UInt8}:Ec ss x=(KD ss x).bind (ss[·]?):=by
 unfold Ec KD
 induction ss with
 | nil=>rfl
 | cons s r ih=>
  rw[List.find?_cons,AcV];by_cases h:s.sheet=x
  ·simp[h]
  ·simp only[h,decide_false,Ab9,if_false];rw[ih];cases List.findIdx? (λs=>decide (s.sheet=x)) r<;>simp
theorem Oy{ss:List Bg}{x:List UInt8}(h:∀i s,i<ss.length→ss[i]?=some s→s.sheet≠x):KD ss x=none:=by
 unfold KD;rw[Aco];intro s hs;obtain⟨i,hi,rfl⟩:=Ado hs;have:=h i _ hi (Aap hi)
 simpa using this
theorem Oz{ss:List Bg}{x:List UInt8}{k:Nat}{s:Bg}(hk:ss[k]?=some s)(hs:s.sheet=x)(h:∀i u,i<k→ss[i]?=some u→u.sheet≠x):KD ss x=some k:=by
 unfold KD;rw[Ab2];obtain⟨a0,e⟩:=Abg.1 hk;refine⟨a0,by rw[e];simpa using hs,λj hj=>?_⟩;have:=h j _ hj (Aap AdE)
 simpa using this
theorem TH(s:Bg)(rp cp:Option Addr)(rl rc cl cc A:Nat)(x:List UInt8)(w:World)(hA:Blk w A [Ao x] 9):AF prog 261 [.agg ⟨J7 s (.slice rp rl rc) (.slice cp cl cc)⟩,.pointer (some ⟨A,0,none⟩)] w (λv w'=>v=.bool (decide (s.sheet=x))∧Ai w w'):=by
 refine Bj func261 ntmps261 ?_;refine Sa ?_;refine CM λX w1 a1 a0 hX=>?_;replace hX:Blk w1 X (J7 s (.slice rp rl rc) (.slice cp cl cc)) 79:=hX;replace hA:=hA.ext a0;refine Sa ?_;exact QW.body1 rfl rfl ⟨by simp,a0⟩
theorem JQ(ss:List Bg)(sv:Value)(A:Nat)(x:List UInt8)(w:World)(h:Cw w sv ss)(hA:Blk w A [Ao x] 9):AF prog 78 [sv,.func (.func 261) ⟨[]⟩ ⟨[.pointer (some ⟨A,0,none⟩)]⟩] w (λv w'=>v=.int .i64 (match KD ss x with | some i=>(i:Int) | none=>-1)∧Ai w w'):=by
 obtain⟨p,c,rfl⟩:=h.slice;have hl:=h.1;refine Bj func78 ntmps78 ?_;refine Sa ?_;refine CW.loop (ι:=Nat) (λk w'=>k≤ss.length∧Ai w w'∧∀i u,i<k→ss[i]?=some u→u.sheet≠x) (λk=>[(0,.slice p ss.length c),(1,.func (.func 261) ⟨[]⟩ ⟨[.pointer (some ⟨A,0,none⟩)]⟩),(7,.int .i64 ss.length),(8,.int .i64 k)]) (λk=>ss.length - k) 0 ⟨by omega,Chg.refl _ _,λi u h=>by omega⟩ Bx ?_;rintro k w1 ⟨hk,hx,a2⟩;replace h:=h.ext hx;replace hA:=hA.ext hx;refine Sa ?_;refine A8 (λh2=>?_) λh2=>?_
 ·have h2:k<ss.length:=by simp at h2;omega
  obtain⟨s,hs⟩:∃s,ss[k]?=some s:=⟨_,Aap h2⟩;obtain⟨a,rp,rc,cp,cc,rfl,hr,hc,a1⟩:=h.at hs;have a0:∀j u,(J7 s (.slice rp s.rows.to.length rc) (.slice cp s.cols.to.length cc))[j]?=some u→w1.cell? ((a.add (((k:Nat):Int).toNat*6)).add j)=some u:=λj u hj=>by rw[show((k:Nat):Int).toNat=k by omega];exact a1 j u hj
  refine Sa ?_;refine Lo ?_;refine LW.load_cells rfl a0 rfl rfl rfl rfl ?_;refine Sa ?_;refine LW.call (fs:=[]) (cs:=[.pointer (some ⟨A,0,none⟩)]) rfl rfl rfl (TH s _ _ _ _ _ _ A x w1 hA) ?_;rintro v w2 ⟨rfl,a3⟩;refine Sa ?_;refine A8 (λh3=>?_) λh3=>?_
  ·have h3:s.sheet=x:=by simpa using h3
   refine Sa ?_;exact QW.body1 rfl rfl ⟨by rw[Oz hs h3 a2],hx.trans a3⟩
  ·have h3:s.sheet≠x:=by simpa using h3
   refine Sa ?_;refine QW.again (k+1) ⟨by omega,hx.trans a3,λi u hi hu=>?_⟩ Bx AdE;rcases AbI i k with h4 | h4
   ·exact a2 i u h4 hu
   ·obtain rfl:i=k:=by omega
    rw[hs] at hu;obtain rfl:=Abm hu;exact h3
 ·have h2:k=ss.length:=by simp at h2;omega
  subst h2;refine Sa ?_;refine QW.body1 rfl rfl ⟨?_,hx⟩;rw[Oy (λi s hi hs=>a2 i s hi hs)]
def ShV(w:World)(o:Option Bg)(v:Value):Prop:=match o with
 | none=>∃cs,v=.tuple #[.agg ⟨cs⟩,.bool false]∧cs=J7 ⟨[],⟨[],0⟩,⟨[],0⟩,false⟩ (.slice none 0 0) (.slice none 0 0)
 | some s=>∃rp rc cp cc,v=.tuple #[.agg ⟨J7 s (.slice rp s.rows.to.length rc) (.slice cp s.cols.to.length cc)⟩,.bool true]∧AY w (.slice rp s.rows.to.length rc) s.rows.to∧AY w (.slice cp s.cols.to.length cc) s.cols.to
theorem Wj(own:List UInt8)(ss:List Bg)(sv:Value)(x:List UInt8)(w:World)(h:Cw w sv ss):AF prog 216 [.agg ⟨[Ao own,sv]⟩,Ao x] w (λv w'=>ShV w' (Ec ss (if x=[] then own else x)) v∧Ai w w'):=by
 obtain⟨p,c,rfl⟩:=h.slice;have hl:=h.1;refine Bj func216 ntmps216 ?_;refine Sa ?_;refine CM λM w1 ah ad hM=>?_;replace hM:Blk w1 M [Ao own,.slice p ss.length c] 235:=hM;have ai:=ad.size;have ae:=hM.lt;refine Sa ?_;refine CM λA w2 aj a9 hA=>?_;replace hA:Blk w2 A [Ao x] 9:=hA;have af:=hA.lt;replace hM:=hM.ext a9;have ak:=a9.size;refine Sa ?_;refine Bo λR w3 al a8 hR=>?_;replace hM:=hM.ext a8;replace hA:=hA.ext a8;have am:=a8.size;have a6:=(ad.trans a9).trans a8;have ag:=hR.lt;refine Sa ?_;refine A8 (λb1=>?_) λb1=>?_
 ·have b1:x=[]:=by simpa using b1
  refine Sa ?_;refine CR λw4 aa hA=>?_;replace hA:Blk w4 A [Ao own] 9:=hA;replace hM:=hM.chg aa AdG;replace hR:=hR.chg aa AdG;have a7:Ai w w4:=a6.step aa AdG;rw[if_pos b1];have ab:=h.ext a7;refine Sa ?_;refine Ay rfl rfl (JQ ss _ A _ _ ab hA) ?_;rintro v w5 ⟨rfl,a3⟩;replace hM:=hM.ext a3;replace hR:=hR.ext a3;have a0:=a7.trans a3;rw[KE];refine Sa ?_
  cases hi:KD ss _ with
  | none=>
   refine Sa ?_;refine AD λw6 a4 hR=>?_;refine Sa ?_
   exact QW.body_ct rfl rfl hR rfl rfl rfl rfl ⟨⟨_,rfl,rfl⟩,a0.step a4 AdG⟩
  | some i=>
   have ac:i<ss.length:=by
    unfold KD at hi;exact(Ab2.1 hi).1
   obtain⟨s,hs⟩:∃s,ss[i]?=some s:=⟨_,Aap ac⟩;obtain⟨a,rp,rc,cp,cc,rfl,hr,hc,a2⟩:=h.at hs;have a1:∀j u,(J7 s (.slice rp s.rows.to.length rc) (.slice cp s.cols.to.length cc))[j]?=some u→w5.cell? ((a.add (((i:Nat):Int).toNat*6)).add j)=some u:=λj u hj=>by rw[show((i:Nat):Int).toNat=i by omega];exact A0 a0 (a2 j u hj)
   simp only[Ack,hs];refine Sa ?_;refine LW.know (t:=16) (c:=false) rfl (decide_eq_false AdE) ?_;refine Sa ?_;refine Lo ?_;refine LW.load_cells rfl a1 rfl rfl rfl rfl ?_;refine Sa ?_;refine AD λw6 a4 hR=>?_;have a5:=a0.step a4 AdG;refine Sa ?_;exact QW.body_ct rfl rfl hR rfl rfl rfl rfl ⟨⟨rp,rc,cp,cc,rfl,hr.ext a5,hc.ext a5⟩,a5⟩
 ·have b1:¬x=[]:=by simpa using b1
  have a7:=a6;rw[if_neg b1];have ab:=h.ext a7;refine Sa ?_;refine Ay rfl rfl (JQ ss _ A _ _ ab hA) ?_;rintro v w5 ⟨rfl,a3⟩;replace hM:=hM.ext a3;replace hR:=hR.ext a3;have a0:=a7.trans a3;rw[KE];refine Sa ?_
  cases hi:KD ss _ with
  | none=>
   refine Sa ?_;refine AD λw6 a4 hR=>?_;refine Sa ?_
   exact QW.body_ct rfl rfl hR rfl rfl rfl rfl ⟨⟨_,rfl,rfl⟩,a0.step a4 AdG⟩
  | some i=>
   have ac:i<ss.length:=by
    unfold KD at hi;exact(Ab2.1 hi).1
   obtain⟨s,hs⟩:∃s,ss[i]?=some s:=⟨_,Aap ac⟩;obtain⟨a,rp,rc,cp,cc,rfl,hr,hc,a2⟩:=h.at hs;have a1:∀j u,(J7 s (.slice rp s.rows.to.length rc) (.slice cp s.cols.to.length cc))[j]?=some u→w5.cell? ((a.add (((i:Nat):Int).toNat*6)).add j)=some u:=λj u hj=>by rw[show((i:Nat):Int).toNat=i by omega];exact A0 a0 (a2 j u hj)
   simp only[Ack,hs];refine Sa ?_;refine LW.know (t:=16) (c:=false) rfl (decide_eq_false AdE) ?_;refine Sa ?_;refine Lo ?_;refine LW.load_cells rfl a1 rfl rfl rfl rfl ?_;refine Sa ?_;refine AD λw6 a4 hR=>?_;have a5:=a0.step a4 AdG;refine Sa ?_;exact QW.body_ct rfl rfl hR rfl rfl rfl rfl ⟨⟨rp,rc,cp,cc,rfl,hr.ext a5,hc.ext a5⟩,a5⟩
def MvV(n m:Ah)(kv v:Value):Prop:=∃kv',v=.agg ⟨Df ⟨m,kv'⟩⟩∧(kv'=kv∧m.kids=n.kids∨kv'=.slice none 0 0∧m.kids=[])
theorem ZD{go:Bg→Ah→Ah}{own:List UInt8}{ss:List Bg}{n:Ah}(h5:n.kind≠5)(h6:n.kind≠6):B0 go own ss n=n:=by rw[B0,if_pos ⟨h5,h6⟩]
theorem Aa5{go:Bg→Ah→Ah}{own:List UInt8}{ss:List Bg}{n:Ah}(h:n.kind=5∨n.kind=6):B0 go own ss n=match Ec ss (Tz own n) with | none=>n | some s=>go s n:=by
 unfold B0
 (rw[if_neg AdE])<;>cases Ec ss (Tz own n)<;>rfl
theorem Ny{n:Ah}(hp:AB n=true)(h:n.kind=5∨n.kind=6):n.ref.row≤998∧n.ref.col≤701∧(B6 n).row≤998∧(B6 n).col≤701:=by
 rcases h with h | h
 ·obtain⟨h1,_⟩:=GA hp h;obtain⟨b1,b2,b3,b4,_⟩:=BT h1;rw[B6,if_pos h];exact⟨b4,b2,b4,b2⟩
 ·obtain⟨h1,h2,_⟩:=EN hp h;obtain⟨b1,b2,b3,b4,_⟩:=BT h1;obtain⟨c1,c2,c3,c4,_⟩:=BT h2;rw[B6,if_neg AdE];exact⟨b4,b2,c4,c2⟩
set_option maxHeartbeats 2000000 in
theorem X8(own:List UInt8)(ss:List Bg)(sv:Value)(n:Ah)(kp:Option Addr)(kl kc:Nat)(w:World)(h:Cw w sv ss)(hss:∀s∈ss,s.Fine)(hp:AB n=true):AF prog 171 [.agg ⟨[Ao own,sv]⟩,.agg ⟨Df ⟨n,.slice kp kl kc⟩⟩] w (λv w'=>MvV n (B0 DS own ss n) (.slice kp kl kc) v∧Ai w w'):=by
 obtain⟨p,c,rfl⟩:=h.slice;have hl:=h.1;refine Bj func171 ntmps171 ?_;refine Sa ?_;refine CM λM w1 bh b2 hM=>?_;replace hM:Blk w1 M [Ao own,.slice p ss.length c] 235:=hM;have bi:=b2.size;refine Sa ?_;refine CM λN w2 bj ay hN=>?_;replace hN:Blk w2 N (Df ⟨n,.slice kp kl kc⟩) 189:=hN;have b3:=hN.lt;replace hM:=hM.ext ay;have bk:=ay.size;refine Sa ?_;refine Bo λR w3 bl aq hR=>?_;replace hM:=hM.ext aq;replace hN:=hN.ext aq;have bm:=aq.size;have af:=(b2.trans ay).trans aq;have b4:=hR.lt;apply LW.nil;apply QW.then_n;refine CW.seq_cut (ι:=Unit) (λ_ w'=>w'=w3∧(n.kind=5∨n.kind=6)) (λ_=>[(2,.pointer (some ⟨M,0,none⟩)),(3,.pointer (some ⟨N,0,none⟩)),(4,.pointer (some ⟨R,0,none⟩))]) ?_ ?_
 ·refine Sa ?_;by_cases h5:n.kind=5;rotate_left
  ·refine LW.know (t:=17) (c:=true) rfl (by simp[h5]) ?_;refine Sa ?_;refine A8 (λh6=>?_) λh6=>?_
   ·have h6:n.kind≠6:=by simpa using h6
    rw[ZD h5 h6];refine Sa ?_;refine AD λw4 b5 hR=>?_;replace hR:Blk w4 R (Df ⟨n,.slice kp kl kc⟩) 189:=hR;refine Sa ?_;exact QW.body_c rfl rfl hR rfl rfl rfl ⟨⟨_,rfl,.inl ⟨rfl,rfl⟩⟩,af.step b5 AdG⟩
   have h6:n.kind=6:=by simpa using h6
   refine Sa ?_;exact QW.head () ⟨rfl,.inr h6⟩ CF
  refine LW.know (t:=17) (c:=false) rfl (by simp[h5]) ?_;refine Sa ?_;exact QW.head () ⟨rfl,.inl h5⟩ CF
 rintro⟨⟩ w3 ⟨rfl,hk⟩;show CW _ _ _ _ _ [(2,.pointer (some ⟨M,0,none⟩)),(3,.pointer (some ⟨N,0,none⟩)),(4,.pointer (some ⟨R,0,none⟩))] _;rw[Aa5 hk];obtain⟨s1,s2,s3,s4⟩:=Ny hp hk;refine Sa ?_;refine Ay rfl rfl (Wj own ss _ n.ref.sheet w3 (h.ext af)) ?_;rintro v w4 ⟨hv,au⟩;replace hN:=hN.ext au;replace hR:=hR.ext au;have bn:=au.size;have ag:=af.trans au;have b6:(if n.ref.sheet=[] then own else n.ref.sheet)=Tz own n:=rfl;rw[b6] at hv
 cases hf:Ec ss (Tz own n) with
 | none=>
  rw[hf] at hv;obtain⟨cs,rfl,rfl⟩:=hv;refine Sa ?_;refine Bo λS w5 b7 ad hS=>?_;replace hN:=hN.ext ad;replace hR:=hR.ext ad;have b8:=ad.size;have al:=ag.trans ad;refine Sa ?_;refine AD λw6 ah hS=>?_;replace hN:=hN.chg ah AdG;replace hR:=hR.chg ah AdG;have a2:=al.step ah AdG;refine Sa ?_;refine AD λw7 b9 hR=>?_;replace hR:Blk w7 R (Df ⟨n,.slice kp kl kc⟩) 189:=hR;refine Sa ?_
  exact QW.body_c rfl rfl hR rfl rfl rfl ⟨⟨_,rfl,.inl ⟨rfl,rfl⟩⟩,a2.step b9 AdG⟩
 | some s=>
  rw[hf] at hv;obtain⟨rp,rc,cp,cc,rfl,hr,hc⟩:=hv;have av:=hss s (Gy hf).1;refine Sa ?_;refine Bo λS w5 b7 ad hS=>?_;replace hN:=hN.ext ad;replace hR:=hR.ext ad;have b8:=ad.size;have al:=ag.trans ad;refine Sa ?_;refine AD λw6 ah hS=>?_;replace hS:Blk w6 S (J7 s (.slice rp s.rows.to.length rc) (.slice cp s.cols.to.length cc)) 79:=hS;replace hN:=hN.chg ah AdG;replace hR:=hR.chg ah AdG;have ai:Ai w4 w6:=ad.step ah AdG;replace hr:=hr.ext ai;replace hc:=hc.ext ai;have a2:=ag.trans ai;have bo:=a2.size;have ba:=hS.lt;refine Sa ?_
  cases hg:s.gone with
  | true=>
   have eg:DS s n=BZ:=by rw[DS,if_pos hg]
   simp only[eg];have a5:=a2;refine Sa ?_;refine AD λw9 a1 hR=>?_;replace hR:Blk w9 R (Df ⟨BZ,.slice none 0 0⟩) 189:=hR;refine Sa ?_
   exact QW.body_c rfl rfl hR rfl rfl rfl ⟨⟨_,rfl,.inr ⟨rfl,rfl⟩⟩,a5.step a1 AdG⟩
  | false=>
   have eg:DS s n=if Dh s n then BZ else Kw s n:=by rw[DS,if_neg (by rw[hg];simp)]
   simp only[eg];refine Sa ?_;refine LW.load_agg (cs:=Dc n.to) rfl hN rfl rfl rfl ⟨rfl,rfl,rfl,rfl,rfl,trivial⟩ rfl ?_;refine Sa ?_;refine Bo λL w7 bp am hL=>?_;replace hN:=hN.ext am;replace hR:=hR.ext am;replace hS:=hS.ext am;have az:=a2.trans am;have bq:=az.size;refine Sa ?_;refine AD λw8 aw hL=>?_;replace hL:Blk w8 L [Ao n.to.sheet,.int .i64 n.to.col,.int .i64 n.to.row,.bool n.to.ac,.bool n.to.ar] 187:=hL;have aj:Ai w6 w8:=am.step aw AdG;have an:=a2.trans aj;replace hN:=hN.chg aw AdG;replace hR:=hR.chg aw AdG;replace hS:=hS.chg aw AdG;have br:=an.size;have bb:=hL.lt;rcases hP:Bt s.rows n.ref.row (B6 n).row with ⟨x1,x2,x3⟩;rcases hQ:Bt s.cols n.ref.col (B6 n).col with ⟨y1,y2,y3⟩;have ae:Dh s n↔(x3=false∨y3=false∨998<x2∨701<y2):=by unfold Dh;rw[hP,hQ]
   have ax:Kw s n={n with ref:={n.ref with row:=x1,col:=y1},to:=if n.kind=6 then {n.to with row:=x2,col:=y2} else n.to}:=by unfold Kw;rw[hP,hQ]
   refine Sa ?_;by_cases k5:n.kind=5
   ·have el:B6 n=n.ref:=by rw[B6,if_pos k5]
    refine CW.yes rfl (decide_eq_true k5) ?_;refine Sa ?_;refine LW.load_agg (cs:=Dc n.ref) rfl hN rfl rfl rfl ⟨rfl,rfl,rfl,rfl,rfl,trivial⟩ rfl ?_;refine Sa ?_;refine AD λw9 a1 hL=>?_;replace hL:Blk w9 L [Ao n.ref.sheet,.int .i64 n.ref.col,.int .i64 n.ref.row,.bool n.ref.ac,.bool n.ref.ar] 187:=hL;rw[←el] at hL;have a7:Ai w6 w9:=aj.step a1 AdG;have b0:=a2.trans a7;replace hN:=hN.chg a1 AdG;replace hR:=hR.chg a1 AdG;replace hS:=hS.chg a1 AdG;have k6:¬n.kind=6:=AdE
    rw[if_neg k6] at ax;refine Sa ?_;refine LW.load_agg (cs:=[.slice rp s.rows.to.length rc,.int .i64 s.rows.new]) rfl hS rfl rfl rfl ⟨rfl,rfl,trivial⟩ rfl ?_;refine Sa ?_;have a8:=JE s.rows av.1 _ n.ref.row (B6 n).row AdE AdE _ ⟨_,rfl,hr.ext a7⟩;rw[hP] at a8;refine Ay rfl rfl a8 ?_;rintro v bc ⟨rfl,a0⟩;replace hN:=hN.ext a0;replace hR:=hR.ext a0;replace hS:=hS.ext a0;replace hL:=hL.ext a0;have a3:=a7.trans a0;refine Sa ?_;refine LW.load_agg (cs:=[.slice cp s.cols.to.length cc,.int .i64 s.cols.new]) rfl hS rfl rfl rfl ⟨rfl,rfl,trivial⟩ rfl ?_;refine Sa ?_;have a9:=JE s.cols av.2 _ n.ref.col (B6 n).col AdE AdE _ ⟨_,rfl,hc.ext a3⟩;rw[hQ] at a9;refine Ay rfl rfl a9 ?_;rintro v bd ⟨rfl,a6⟩;replace hN:=hN.ext a6;replace hR:=hR.ext a6;have a5:=a2.trans (a3.trans a6);have b1:=a5.size
    cases x3 with
    | false=>
     rw[if_pos (ae.2 (.inl rfl))];refine Sa ?_;refine AD λw9 a1 hR=>?_;replace hR:Blk w9 R (Df ⟨BZ,.slice none 0 0⟩) 189:=hR;refine Sa ?_
     exact QW.body_c rfl rfl hR rfl rfl rfl ⟨⟨_,rfl,.inr ⟨rfl,rfl⟩⟩,a5.step a1 AdG⟩
    | true=>
    cases y3 with
    | false=>
     rw[if_pos (ae.2 (.inr (.inl rfl)))];refine Sa ?_;refine AD λw9 a1 hR=>?_;replace hR:Blk w9 R (Df ⟨BZ,.slice none 0 0⟩) 189:=hR;refine Sa ?_
     exact QW.body_c rfl rfl hR rfl rfl rfl ⟨⟨_,rfl,.inr ⟨rfl,rfl⟩⟩,a5.step a1 AdG⟩
    | true=>
    refine Sa ?_;by_cases m1:998<x2
    ·rw[if_pos (ae.2 (.inr (.inr (.inl m1))))];refine LW.know (t:=80) (c:=true) rfl (decide_eq_true m1) ?_;refine Sa ?_;refine AD λw9 a1 hR=>?_;replace hR:Blk w9 R (Df ⟨BZ,.slice none 0 0⟩) 189:=hR;refine Sa ?_;exact QW.body_c rfl rfl hR rfl rfl rfl ⟨⟨_,rfl,.inr ⟨rfl,rfl⟩⟩,a5.step a1 AdG⟩
    refine LW.know (t:=80) (c:=false) rfl (decide_eq_false m1) ?_;refine Sa ?_;refine A8 (λm2=>?_) λm2=>?_
    ·have m2:701<y2:=by simpa using m2
     rw[if_pos (ae.2 (.inr (.inr (.inr m2))))];refine Sa ?_;refine AD λw9 a1 hR=>?_;replace hR:Blk w9 R (Df ⟨BZ,.slice none 0 0⟩) 189:=hR;refine Sa ?_;exact QW.body_c rfl rfl hR rfl rfl rfl ⟨⟨_,rfl,.inr ⟨rfl,rfl⟩⟩,a5.step a1 AdG⟩
    have m2:¬701<y2:=by simpa using m2
    rw[if_neg (by rw[ae];simp;omega),ax];refine Sa ?_;refine CR λbe aa hN=>?_;refine Sa ?_;refine CR λbf ab hN=>?_;have a4:=(a5.step aa AdG).step ab AdG;replace hR:=(hR.chg aa AdG).chg ab AdG;refine Sa ?_;refine CW.no rfl (decide_eq_false k6) ?_;refine Sa ?_;refine AD λbg ak hR=>?_;refine Sa ?_;exact QW.body_c rfl rfl hR rfl rfl rfl ⟨⟨_,rfl,.inl ⟨rfl,rfl⟩⟩,a4.step ak AdG⟩
   ·have k6:n.kind=6:=AdE
    have el:B6 n=n.to:=by rw[B6,if_neg k5]
    refine CW.no rfl (decide_eq_false k5) ?_;rw[←el] at hL;have a7:=aj;have b0:=an;rw[if_pos k6] at ax;refine Sa ?_;refine LW.load_agg (cs:=[.slice rp s.rows.to.length rc,.int .i64 s.rows.new]) rfl hS rfl rfl rfl ⟨rfl,rfl,trivial⟩ rfl ?_;refine Sa ?_;have a8:=JE s.rows av.1 _ n.ref.row (B6 n).row AdE AdE _ ⟨_,rfl,hr.ext a7⟩;rw[hP] at a8;refine Ay rfl rfl a8 ?_;rintro v bc ⟨rfl,a0⟩;replace hN:=hN.ext a0;replace hR:=hR.ext a0;replace hS:=hS.ext a0;replace hL:=hL.ext a0;have a3:=a7.trans a0;refine Sa ?_;refine LW.load_agg (cs:=[.slice cp s.cols.to.length cc,.int .i64 s.cols.new]) rfl hS rfl rfl rfl ⟨rfl,rfl,trivial⟩ rfl ?_;refine Sa ?_;have a9:=JE s.cols av.2 _ n.ref.col (B6 n).col AdE AdE _ ⟨_,rfl,hc.ext a3⟩;rw[hQ] at a9;refine Ay rfl rfl a9 ?_;rintro v bd ⟨rfl,a6⟩;replace hN:=hN.ext a6;replace hR:=hR.ext a6;have a5:=a2.trans (a3.trans a6);have b1:=a5.size
    cases x3 with
    | false=>
     rw[if_pos (ae.2 (.inl rfl))];refine Sa ?_;refine AD λw9 a1 hR=>?_;replace hR:Blk w9 R (Df ⟨BZ,.slice none 0 0⟩) 189:=hR;refine Sa ?_
     exact QW.body_c rfl rfl hR rfl rfl rfl ⟨⟨_,rfl,.inr ⟨rfl,rfl⟩⟩,a5.step a1 AdG⟩
    | true=>
    cases y3 with
    | false=>
     rw[if_pos (ae.2 (.inr (.inl rfl)))];refine Sa ?_;refine AD λw9 a1 hR=>?_;replace hR:Blk w9 R (Df ⟨BZ,.slice none 0 0⟩) 189:=hR;refine Sa ?_
     exact QW.body_c rfl rfl hR rfl rfl rfl ⟨⟨_,rfl,.inr ⟨rfl,rfl⟩⟩,a5.step a1 AdG⟩
    | true=>
    refine Sa ?_;by_cases m1:998<x2
    ·rw[if_pos (ae.2 (.inr (.inr (.inl m1))))];refine LW.know (t:=80) (c:=true) rfl (decide_eq_true m1) ?_;refine Sa ?_;refine AD λw9 a1 hR=>?_;replace hR:Blk w9 R (Df ⟨BZ,.slice none 0 0⟩) 189:=hR;refine Sa ?_;exact QW.body_c rfl rfl hR rfl rfl rfl ⟨⟨_,rfl,.inr ⟨rfl,rfl⟩⟩,a5.step a1 AdG⟩
    refine LW.know (t:=80) (c:=false) rfl (decide_eq_false m1) ?_;refine Sa ?_;refine A8 (λm2=>?_) λm2=>?_
    ·have m2:701<y2:=by simpa using m2
     rw[if_pos (ae.2 (.inr (.inr (.inr m2))))];refine Sa ?_;refine AD λw9 a1 hR=>?_;replace hR:Blk w9 R (Df ⟨BZ,.slice none 0 0⟩) 189:=hR;refine Sa ?_;exact QW.body_c rfl rfl hR rfl rfl rfl ⟨⟨_,rfl,.inr ⟨rfl,rfl⟩⟩,a5.step a1 AdG⟩
    have m2:¬701<y2:=by simpa using m2
    rw[if_neg (by rw[ae];simp;omega),ax];refine Sa ?_;refine CR λbe aa hN=>?_;refine Sa ?_;refine CR λbf ab hN=>?_;have a4:=(a5.step aa AdG).step ab AdG;replace hR:=(hR.chg aa AdG).chg ab AdG;refine Sa ?_;refine CW.yes rfl (decide_eq_true k6) ?_;refine Sa ?_;refine CR λbs ao hN=>?_;refine Sa ?_;refine CR λbt ap hN=>?_;have a4:=(a4.step ao AdG).step ap AdG;replace hR:=(hR.chg ao AdG).chg ap AdG;refine Sa ?_;refine AD λbg ak hR=>?_;refine Sa ?_;exact QW.body_c rfl rfl hR rfl rfl rfl ⟨⟨_,rfl,.inl ⟨rfl,rfl⟩⟩,a4.step ak AdG⟩
theorem KS(new:Int):∀(l:List Int) (last z:Int),Bq new last (l++[z])=(Bq new last l&&(decide (z=-1)||decide (l.foldl (λa y=>if y=-1 then a else y) last<z∧z<new)))
 | [],last,z=>by
  show(if z=-1 then true else if z≤last∨new≤z then false else true)=(true&&(decide (z=-1)||decide (last<z∧z<new)));by_cases h:z=-1
  ·simp[h]
  ·by_cases h2:z≤last∨new≤z
   ·have h3:¬(last<z∧z<new):=AdE
    rw[if_neg h,if_pos h2];simp[h,h3]
   ·have h3:last<z∧z<new:=AdE
    rw[if_neg h,if_neg h2]
    simp[h3]
 | y::r,last,z=>by
  show(if y=-1 then Bq new last (r++[z]) else if y≤last∨new≤y then false else Bq new y (r++[z]))=((if y=-1 then Bq new last r else if y≤last∨new≤y then false else Bq new y r)&&(decide (z=-1)||decide (r.foldl (λa y=>if y=-1 then a else y) (if y=-1 then last else y)<z∧z<new)));by_cases h:y=-1
  ·simp only[if_pos h];exact KS new r last z
  ·simp only[if_neg h];by_cases h2:y≤last∨new≤y
   ·simp only[if_pos h2];rfl
   ·simp only[if_neg h2];exact KS new r y z
def L5(l:List Int):Int:=l.foldl (λa y=>if y=-1 then a else y) (-1)
theorem SX(l:List Int)(z:Int):L5 (l++[z])=if z=-1 then L5 l else z:=by simp[L5]
theorem OH{m:AH}{k:Nat}(h:k<m.to.length):Bq m.new (-1) (m.to.take (k+1))=(Bq m.new (-1) (m.to.take k)&&(decide (m.to.getD k 0=-1)||decide (L5 (m.to.take k)<m.to.getD k 0∧m.to.getD k 0<m.new)))∧L5 (m.to.take (k+1))=if m.to.getD k 0=-1 then L5 (m.to.take k) else m.to.getD k 0:=by
 have e:m.to.take (k+1)=m.to.take k++[m.to.getD k 0]:=by
  rw[Ab7,Aap h];simp[Aap h]
 rw[e,KS,SX];exact⟨rfl,rfl⟩
theorem Yc{new last:Int}:∀{l:List Int} (k:Nat),Bq new last (l.take k)=false→Bq new last l=false:=by
 intro l
 induction l generalizing last with
 | nil=>intro k h;simpa using h
 | cons y r ih=>
  intro k h
  match k with
  | 0=>simp[Bq] at h
  | k+1=>
   simp only[List.take_succ_cons,Bq] at h ⊢
   split
   ·rename_i hy;rw[if_pos hy] at h;exact ih k h
   ·rename_i hy;rw[if_neg hy] at h
    split
    ·rfl
    ·rename_i h2;rw[if_neg h2] at h;exact ih k h
def noP(s:List UInt8):Bool:=s.all (λc=>decide (c≠40)&&decide (c≠41))
def Aau(nd:Ah):Prop:=nd.text.length≤10∧nd.ref.sheet.length≤10∧nd.to.sheet.length≤10∧nd.num≤255∧nd.kids.length≤100∧noP nd.text=true∧(nd.ref.sheet=[]∨nd.ref.sheet=[84])
def NP(w0 w:World)(l:List Ah)(outv stv:Value):Prop:=∃nvs:List NV,E.Own w w0.heap.size 189 14 outv nvs.length (nvs.flatMap Df)∧nvs.map NV.node=l∧∀x∈nvs,C7 w x.kv x.node.kids∧∀b∈Ac x.kv,b∉Ac stv
theorem C7.chg{S:List Nat}{w w':World}{kv stv:Value}{ks:List Int}(h:C7 w kv ks)(hn:∀b∈Ac kv,b∉Ac stv)(hc:Chg S w w')(h2:∀b∈S,b∈Ac stv∨∃l T,Blk w b l T∧T≠3):C7 w' kv ks:=by
 rcases h with h | ⟨b,cap,sp,e,hb⟩
 ·exact .inl h
 ·refine .inr ⟨b,cap,sp,e,hb.chg hc (λhm=>?_)⟩;rcases h2 b hm with h2 | ⟨l,T,h3,h4⟩
  ·exact hn b (by rw[e];simp[Ac]) h2
  ·exact h4 (h3.inj hb)
theorem NP.chg{S:List Nat}{w0 w w':World}{l:List Ah}{outv stv:Value}(h:NP w0 w l outv stv)(hc:Chg S w w')(h1:∀b∈Ac outv,b∉S)(h2:∀b∈S,b∈Ac stv∨∃l T,Blk w b l T∧T≠3):NP w0 w' l outv stv:=by
 obtain⟨nvs,ho,hm,hk⟩:=h;exact⟨nvs,ho.chg hc h1,hm,λx hx=>⟨(hk x hx).1.chg (hk x hx).2 hc h2,(hk x hx).2⟩⟩
theorem NP.ext{w0 w w':World}{l:List Ah}{outv stv:Value}(h:NP w0 w l outv stv)(hx:Ai w w'):NP w0 w' l outv stv:=h.chg hx AdM AdM
def SV(w0 w:World)(v:Value)(s:List Int):Prop:=E.Own w w0.heap.size 3 1 v s.length (Af s)∨∃p,v=.slice p s.length s.length∧(p=none∧s.length=0∨∃a,p=some a∧∀j u,(Af s)[j]?=some u→w.cell? (a.add j)=some u)
structure CI(w0 w:World)(l:List Ah)(outv:Value)(X:Nat)(nd:Ah)(kv:Value)(s2:List Int)(stv:Value):Prop where
 ext:Ai w0 w
 np:NP w0 w l outv stv
 blk:Blk w X (Df ⟨nd,kv⟩) 189
 kids:C7 w kv nd.kids
 apart:∀b∈Ac kv,b∉Ac stv
 sv:SV w0 w stv s2
 go:Bu 0 [] (l++[nd])=some (s2++[(l.length:Int)])
 fine:Aau nd
 le:s2.length≤l.length
theorem Vf(zs:List Int)(v:Value)(w:World)(h:AY w v zs)(hl:zs.length≤100000):AF prog 172 [v] w (λv' w'=>(∃p c,v'=.slice p zs.length c)∧C7 w' v' zs∧(∀b∈Ac v',w.heap.size≤b)∧Ai w w'):=by
 refine Bj func172 ntmps172 ?_;obtain⟨_,⟨rfl,rfl⟩ | ⟨a,cap,rfl,hc⟩⟩:=h
 ·refine Sa ?_;refine LW.eql_sn rfl rfl rfl rfl ?_;refine Sa ?_;exact QW.body1 rfl rfl ⟨⟨_,_,rfl⟩,.inl ⟨rfl,rfl⟩,by simp[Ac],Chg.refl _ _⟩
 ·refine Sa ?_;refine LW.eql_sn rfl rfl rfl rfl ?_;refine Sa ?_
  (apply LW.buildSlice0;exact rfl;exact rfl;exact rfl;exact rfl;intro B w5 a5 a1 hB)
  refine Sa ?_;refine LW.append_any (lo:=w.heap.size) (xs:=[]) (news:=Af zs) rfl rfl rfl rfl rfl rfl (⟨rfl,.inr ⟨B,0,[],rfl,hB,by simp,by simp,by omega⟩⟩) (by have:=a1.size;omega) (by rw[A9];show _=_*1;omega) (.inr ⟨a,rfl,λj u hj=>by
   simp only[Af,Ab1] at hj
   cases hg:zs[j]? with
   | none=>rw[hg] at hj;cases hj
   | some y=>
    rw[hg] at hj;obtain rfl:=Abm hj;exact A0 a1 (hc j y hg)⟩) (λu hu=>by
   simp only[Af,AbE] at hu;obtain⟨_,_,rfl⟩:=hu;rfl) (by show(0+_)*9≤_;omega) rfl ?_
  intro v' w6 a3 a0 a2;obtain⟨p',c',rfl⟩:=a0.slice;have a4:Ai w w6:=a1.step a3 (by simp[Ac];omega);have hm:0+zs.length=zs.length:=AdE
  rw[hm] at a0 a2 ⊢;simp only[Ab5] at a0;refine Sa ?_;refine QW.body1 rfl rfl ⟨⟨_,_,rfl⟩,Rp a0,λb hb=>?_,a4⟩;rcases a2 b hb with h2 | h2
  ·simp[Ac] at h2;omega
  ·have:=a1.size;omega
set_option maxHeartbeats 1000000 in
theorem UK(l:List Ah)(v:Value)(own:List UInt8)(ss:List Bg)(sv:Value)(w:World)(g:CQ w)(hN:CS w v l)(hs:Pg l)(h:Cw w sv ss)(hss:∀s∈ss,s.Fine):AF prog 126 [v,Ao own,sv] w (λv' w'=>(CS w' v' (C2 DS own ss l)∧∀b∈Ac v',w.heap.size≤b)∧Ai w w'):=by
 obtain⟨p,c,rfl⟩:=hN.slice;have az:=hN.1;refine Bj func126 ntmps126 ?_;refine Sa ?_;refine Ay rfl rfl (Qr l _ w g hN hs) ?_;rintro v w1 ⟨rfl,ap⟩;refine Sa ?_
 cases ht:Cr l with
 | false=>
  refine Sa ?_
  exact QW.body1 rfl rfl ⟨⟨by rw[C2,if_neg (by rw[ht];simp)];exact MV _,by simp[Ac]⟩,ap⟩
 | true=>
 have b0:=J9 ht;have aq:=NB ht;obtain⟨q,qc,rfl⟩:=h.slice;refine Sa ?_;refine CW.loop (ι:=Nat×Option Addr×Nat) (λx w'=>x.1≤l.length∧Ai w w'∧NP w w' ((l.take x.1).map (B0 DS own ss)) (.slice x.2.1 x.1 x.2.2) (.slice none 0 0)) (λx=>[(7,.func (.func 171) ⟨[.agg ⟨[Ao own,.slice q ss.length qc]⟩]⟩ ⟨[]⟩),(8,.slice x.2.1 x.1 x.2.2),(18,.slice p l.length c),(19,.int .i64 l.length),(20,.int .i64 (x.1:Int))]) (λx=>l.length - x.1) (0,none,0) ⟨by simp,ap,⟨[],Own.nil _ _ _ _,rfl,by simp⟩⟩ Et ?_;rintro⟨k,op,oc⟩ w2 ⟨hk,ae,hP⟩;dsimp only at hk hP;show CW _ _ _ _ _ [(7,.func (.func 171) ⟨[.agg ⟨[Ao own,.slice q ss.length qc]⟩]⟩ ⟨[]⟩),(8,.slice op k oc),(18,.slice p l.length c),(19,.int .i64 l.length),(20,.int .i64 (k:Int))] _;have b8:=ae.size;refine Sa ?_;refine A8 (λh2=>?_) λh2=>?_;rotate_left
 ·have h2:k=l.length:=by simp at h2;omega
  subst h2;obtain⟨nvs,a0,hm,hk⟩:=hP;rw[AbH] at hm;have ar:nvs.length=l.length:=by rw[←List.length_map (f:=NV.node),hm,AbA]
  have b1:NZ w2 w.heap.size (.slice op l.length oc) (l.map (B0 DS own ss)):=⟨nvs,a0,hm,λx hx=>(hk x hx).1⟩;have b2:∀n∈l.map (B0 DS own ss),n.kids.length≤100000:=λn hn=>by
   obtain⟨m,h1,rfl⟩:=AbE.1 hn;have h3:=aq m h1;unfold B0
   split
   ·omega
   ·split
    ·omega
    ·unfold DS
     split
     ·simp[BZ]
     ·split
      ·simp[BZ]
      ·show m.kids.length≤_;omega
  refine Sa ?_;exact QW.body1 rfl rfl ⟨⟨by rw[C2,if_pos ht];exact b1.row (by rw[AbA];exact az) b2,λb hb=>(a0.lt hb).1⟩,ae⟩
 have h2:k<l.length:=by simp at h2;omega
 obtain⟨nd,ag⟩:∃nd,l[k]?=some nd:=⟨_,Aap h2⟩;have a7:=Abn ag;obtain⟨a,kp,kc,rfl,ah,a8⟩:=hN.at ag;have a1:∀j u,(Df ⟨nd,.slice kp nd.kids.length kc⟩)[j]?=some u→w2.cell? ((a.add (((k:Nat):Int).toNat*14)).add j)=some u:=λj u hj=>by rw[show((k:Nat):Int).toNat=k by omega];exact A0 ae (a8 j u hj)
 refine Sa ?_;refine Lo ?_;refine LW.load_cells rfl a1 rfl rfl rfl rfl ?_;refine Sa ?_;refine Bo λX w3 b9 au hX=>?_;have a9:∀b∈Ac (Value.slice op k oc),b<w2.heap.size:=λb hb=>by
  obtain⟨nvs,ho,_⟩:=hP;exact(ho.lt hb).2
 replace hP:=hP.ext au;have ai:=ae.trans au;have av:=hX;refine Sa ?_;refine AD λw4 aj hX=>?_;replace hX:Blk w4 X (Df ⟨nd,.slice kp nd.kids.length kc⟩) 189:=hX;replace hP:=hP.chg aj (λb hb=>by have:=a9 b hb;simp;omega) (λb hb=>by
  simp only[Aad] at hb;subst hb;exact .inr ⟨_,_,av,by decide⟩)
 have a2:Ai w w4:=ai.step aj AdG;refine Sa ?_;refine Ay rfl rfl (Vf nd.kids _ w4 (ah.ext a2) (by have:=aq nd a7;omega)) ?_;rintro v w5 ⟨⟨kp',kc',rfl⟩,hK,ba,ak⟩;replace hP:=hP.ext ak;replace hX:=hX.ext ak;have al:=a2.trans ak;have bb:=a2.size;have am:=hX;refine Sa ?_;refine CR λw6 af hX=>?_;replace hX:Blk w6 X (Df ⟨nd,.slice kp' nd.kids.length kc'⟩) 189:=hX;replace hP:=hP.chg af (λb hb=>by have:=a9 b hb;simp;omega) (λb hb=>by
  simp only[Aad] at hb;subst hb;exact .inr ⟨_,_,am,by decide⟩)
 replace hK:C7 w6 (.slice kp' nd.kids.length kc') nd.kids:=hK.chg (stv:=.slice none 0 0) Aet af (λb hb=>by
  simp only[Aad] at hb;subst hb;exact .inr ⟨_,_,am,by decide⟩)
 have aa:Ai w w6:=al.step af AdG;refine Sa ?_;refine LW.call (fs:=[.agg ⟨[Ao own,.slice q ss.length qc]⟩]) (cs:=[]) rfl rfl rfl (X8 own ss _ nd kp' nd.kids.length kc' w6 (h.ext aa) hss (b0 nd a7)) ?_;rintro v w7 ⟨⟨kv,rfl,aw⟩,an⟩;replace hP:=hP.ext an;replace hK:C7 w7 (.slice kp' nd.kids.length kc') nd.kids:=hK.chg (stv:=.slice none 0 0) Aet an AdM;have ab:=aa.trans an;have ax:C7 w7 kv (B0 DS own ss nd).kids:=by
  rcases aw with ⟨rfl,e⟩ | ⟨rfl,e⟩
  ·rw[e];exact hK
  ·exact .inl ⟨rfl,e⟩
 clear hK aw hX am av af aj;refine Sa ?_;refine Dt λC b3 bc a3 hC=>?_;replace hC:Blk b3 C (Df ⟨B0 DS own ss nd,kv⟩) 189:=hC;have ac:=ab.trans a3;have b4:=ac.size;have b5:(Df ⟨B0 DS own ss nd,kv⟩).all (·.oneCell')=true:=by
  simp only[Df,List.all_cons,List.all_nil,ax.one];rfl
 obtain⟨nvs,a0,hm,a4⟩:=hP;have ar:nvs.length=k:=by rw[←List.length_map (f:=NV.node),hm,AbA,Acb];omega
 subst ar;refine Sa ?_;refine LW.append rfl rfl rfl rfl rfl rfl (a0.ext a3) AdE hC rfl b5 rfl Aeg rfl ?_;intro v2 ay ao a5 b6;have e1:(nvs.flatMap Df++Df ⟨B0 DS own ss nd,kv⟩)=(nvs++[(⟨B0 DS own ss nd,kv⟩:NV)]).flatMap Df:=AdM
 have e2:nvs.length+1=(nvs++[(⟨B0 DS own ss nd,kv⟩:NV)]).length:=AdM
 rw[e1] at a5;obtain⟨p4,c4,rfl⟩:=a5.slice;have a6:Chg (Ac (.slice op nvs.length oc)) w7 ay:=by
  have:=Chg.trans a3 ao
  simpa using this
 have bd:∀b∈Ac (Value.slice op nvs.length oc),∀L T,Blk w7 b L T→T=189:=λb hb L T hL=>Own.type a0 hb hL;have hS:∀b∈Ac (Value.slice op nvs.length oc),b∈Ac (Value.slice none 0 0)∨∃l T,Blk w7 b l T∧T≠3:=λb hb=>by
  obtain⟨_,⟨e,_⟩ | ⟨g,cap,sp,e,hg,_⟩⟩:=a0
  ·rw[e] at hb;simp[Ac] at hb
  ·rw[e] at hb;simp[Ac] at hb;subst hb;exact .inr ⟨_,_,hg,by decide⟩
 have ad:Ai w ay:=ab.step a6 (λb hb=>(a0.lt hb).1);have b7:l.take (nvs.length+1)=l.take nvs.length++[nd]:=by rw[Ab7,ag];rfl
 refine Sa ?_;refine QW.again (nvs.length+1,p4,c4) ⟨by show nvs.length+1≤_;omega,ad,?_⟩ ?_ (by show l.length - (nvs.length+1)<l.length - nvs.length;omega)
 ·dsimp only;rw[b7];refine⟨nvs++[⟨B0 DS own ss nd,kv⟩],by rw[←e2];exact a5,by simp[hm],λx hx=>?_⟩;rcases Abf.1 hx with hx | hx
  ·exact⟨(a4 x hx).1.chg (a4 x hx).2 a6 hS,(a4 x hx).2⟩
  ·simp at hx;subst hx;exact⟨ax.chg (stv:=.slice none 0 0) Aet a6 hS,by simp[Ac]⟩
 ·exact Et
theorem UL(l:List Ah)(v:Value)(own:List UInt8)(ss:List Bg)(sv:Value)(w:World)(g:CQ w)(hN:CS w v l)(hs:Pg l)(h:Cw w sv ss)(hss:∀s∈ss,s.Fine):AF prog 126 [v,Ao own,sv] w (λv' w'=>CS w' v' (C2 DS own ss l)∧Ai w w'):=
 (UK l v own ss sv w g hN hs h hss).mono λ_ _ ⟨⟨h1,_⟩,h2⟩=>⟨h1,h2⟩
theorem UG{t:Tr false}(hf:t.Fit)(hn:t.Num):t.text≠[]:=(t.head hf hn).1
theorem P7(l:List Ah):AU []≠.ok l:=λh=>by
 obtain⟨_,h1,_,t,hf,hn,_,h2⟩:=Ia h;rw[h2] at h1;exact UG hf hn (Abt Aem)
theorem Tc{l:List Ah}(hsh:Em l)(hno:JC l)(hl:l.length≤100000)(ht:l=[]∨Cr l=true) :
  (BO l=[]↔l=[])∧(BO l).length≤400000000∧(∀e,AU (BO l)=.error e→l=[]∨300<(BO l).length∨e=6)∧∀m,AU (BO l)=.ok m→l=m:=by
 rcases ht with rfl | ht
 ·have hp:BO []=[]:=OE rfl;rw[hp];exact⟨by simp,by simp,λ_ _=>.inl rfl,λm h=>absurd h (P7 m)⟩
 ·obtain⟨t,rfl,hf⟩:=Kt ht;have hn:=hno t hf rfl;have a0:=t.flat_len 0;have a1:=t.len_le 0 hf hn (λn hm=>(hsh n hm).1);simp only[cond_false] at a1;have a2:t.flat 0≠[]:=λh=>by
   have:=t.cnt_pos;rw[h] at a0;simp at a0;omega
  rw[G9 hf,FW t hf hn];refine⟨⟨λh=>absurd h (UG hf hn),λh=>absurd h a2⟩,by omega,λe h=>?_,λm h=>?_⟩
  ·split at h
   ·rename_i h3;exact .inr (.inl h3)
   ·split at h
    ·cases h
    ·simp only[Except.error.injEq] at h;exact .inr (.inr h.symm)
  ·split at h
   ·cases h
   ·split at h
    ·simpa using h
    ·cases h
theorem May.fine{s:Bg}(h:s.May):s.Fine:=⟨O5 h.1,O5 h.2⟩
theorem VB{own:List UInt8}{ss:List Bg}(hss:∀s∈ss,s.May){l:List Ah}(hsh:Em l)(hno:JC l)(hl:l.length≤100000)(hk:∀n∈l,n.kids.length≤100000) :
  Em (C2 DS own ss l)∧JC (C2 DS own ss l)∧(∀n∈C2 DS own ss l,n.kids.length≤100000)∧(BO (C2 DS own ss l)).length≤400000000:=by
 obtain⟨h1,h2,h3,h4⟩:=Re (own:=own) hss hsh hno 100000 hk;have ht:C2 DS own ss l=[]∨Cr (C2 DS own ss l)=true:=by
  by_cases h:Cr l=true
  ·obtain⟨t,rfl,hf⟩:=Kt h;obtain⟨e,a0⟩:=Jw (own:=own) hss hf;rw[e];exact .inr (Tr.tree _ a0)
  ·exact .inl (by rw[C2,if_neg h])
 exact⟨h1,h2,h3,(Tc h1 h2 AdE ht).2.1⟩
theorem L7{own:List UInt8}{ss:List Bg}{s:List UInt8}{l:List Ah}(h1:Aj s 0=61)(h2:s≠[])(h3:BN s=true)(h4:AU (s.drop 1)=.ok l):D7 own ss s=if 300<(BO (C2 DS own ss l)).length+1 then Aaj else 61::BO (C2 DS own ss l):=by
 rw[D7,if_pos ⟨h2,h1,h3⟩,h4];rfl
theorem DH{own:List UInt8}{ss:List Bg}{s:List UInt8}(h:s=[]∨Aj s 0≠61∨BN s=false):D7 own ss s=s:=by
 rw[D7,if_neg];rintro⟨h1,h2,h3⟩;rcases h with h | h | h
 ·exact h1 h
 ·exact h h2
 ·rw[h] at h3;cases h3
theorem Tj(s own:List UInt8)(ss:List Bg)(sv:Value)(hs:s.length≤9223372036854775807)(w:World)(g:CQ w)(h:Cw w sv ss)(hss:∀s∈ss,s.May):AF prog 81 [Ao s,Ao own,sv] w (λv w'=>v=Ao (D7 own ss s)∧Ai w w'):=by
 refine Bj func81 ntmps81 ?_;refine Sa ?_;refine Ay rfl rfl (PY s hs w g) ?_;rintro v w1 ⟨hv,hx⟩;rcases hv with ⟨l,nv,rfl,h1,h2,h3,h4,hN⟩ | ⟨rfl,a2⟩
 ·obtain⟨_,f1,f2,f3,f4⟩:=EK h4;have a3:PIs (s.drop 1) l 0:=.inl ⟨h4,rfl⟩;obtain⟨m1,m2,m3,m4⟩:=VB (own:=own) hss f2 a3.num AdE (λn hn=>by have:=f4 n hn;omega);refine Sa ?_;refine Ay rfl rfl (UL l nv own ss sv w1 (g.ext hx) hN f2.t (h.ext hx) (λs hs=>May.fine (hss s hs))) ?_;rintro v w2 ⟨a4,a5⟩;have a0:=hx.trans a5;refine Sa ?_;refine Ay rfl rfl (Ob _ v w2 (g.ext a0) a4 m1 m2) ?_;rintro v w3 ⟨rfl,a6⟩;have a1:=a0.trans a6;rw[L7 h1 h2 h3 h4];refine Sa ?_;refine A8 (λq1=>?_) λq1=>?_
  ·have q1:300<(BO (C2 DS own ss l)).length+1:=by simp at q1;omega
   rw[if_pos q1];refine Sa ?_;exact QW.body1 rfl rfl ⟨rfl,a1⟩
  ·have q1:¬300<(BO (C2 DS own ss l)).length+1:=by simp at q1;omega
   rw[if_neg q1];refine Sa ?_;exact QW.body1 rfl rfl ⟨rfl,a1⟩
 ·rw[DH a2];refine Sa ?_;exact QW.body1 rfl rfl ⟨rfl,hx⟩
def DK(k:Nat)(f:Nat→Int):List Int:=(List.range k).map f
theorem B1(k:Nat)(f:Nat→Int):(DK k f).length=k:=by simp[DK]
theorem Hn{k:Nat}{f:Nat→Int}{j:Nat}(h:j<k):(DK k f).getD j 0=f j:=by
 simp[DK,h]
theorem R4(k:Nat)(f:Nat→Int):DK (k+1) f=DK k f++[f k]:=by simp[DK,AbJ]
def B7(k:Nat):AH:=⟨DK k λi=>i,k⟩
theorem Nu(new:Int):∀(l:List Int) (last:Int),(∀j,j<l.length→l.getD j 0=-1∨(last<l.getD j 0∧l.getD j 0<new∧∀i,i<j→l.getD i 0<l.getD j 0))→Bq new last l=true
 | [],_,_=>rfl
 | z::r,last,h=>by
  rw[Bq];have h0:=h 0 AdM;simp only[Ac9] at h0;by_cases hz:z=-1
  ·rw[if_pos hz];refine Nu new r last λj hj=>?_;have:=h (j+1) Ael;simp only[Acx] at this;rcases this with h1 | ⟨h1,h2,h3⟩
   ·exact .inl h1
   ·exact .inr ⟨h1,h2,λi hi=>by have:=h3 (i+1) AdE;simpa using this⟩
  ·rw[if_neg hz,if_neg (by rcases h0 with h0 | ⟨h1,h2,_⟩<;>omega)];refine Nu new r z λj hj=>?_;have:=h (j+1) Ael;simp only[Acx] at this;rcases this with h1 | ⟨h1,h2,h3⟩
   ·exact .inl h1
   ·refine .inr ⟨?_,h2,λi hi=>by have:=h3 (i+1) AdE;simpa using this⟩;have:=h3 0 AdE
    simpa using this
theorem Mb{m:AH}(h0:0≤m.new)(h1:m.new≤1048576)(h2:m.to.length≤1048576)(h:∀j,j<m.to.length→m.to.getD j 0=-1∨(0≤m.to.getD j 0∧m.to.getD j 0<m.new∧∀i,i<j→m.to.getD i 0<m.to.getD j 0)):Ey m=true:=by
 rw[Ey,decide_eq_true h0,decide_eq_true h1,decide_eq_true h2,Nu]
 ·rfl
 ·intro j hj;rcases h j hj with h | ⟨a,b,c⟩
  ·exact .inl h
  ·exact .inr ⟨by omega,b,c⟩
theorem N0{k:Nat}(h:k≤1000000):Ey (B7 k)=true:=by
 refine Mb (by simp[B7]) (by simp only[B7];omega) (by simp only[B7,B1];omega) λj hj=>?_;simp only[B7,B1] at hj ⊢;rw[Hn hj];exact .inr ⟨by omega,by omega,λi hi=>by rw[Hn AdE];omega⟩
theorem Own.ints{w:World}{lo:Nat}{v:Value}{zs:List Int}{n:Nat}(h:E.Own w lo 3 1 v n (Af zs))(hn:zs.length=n)(hb:zs.length≤100000000):AY w v zs:=by
 refine⟨by omega,?_⟩;by_cases h0:n=0
 ·have hz:zs=[]:=Abt AdE;subst hz;obtain⟨_,⟨e,e2⟩ | ⟨g,cap,sp,e,hg,_⟩⟩:=h
  ·exact .inl ⟨e,rfl⟩
  ·exact .inr ⟨_,cap,by rw[e,h0];rfl,λi z hz=>by simp at hz⟩
 ·obtain⟨g,cap,sp,rfl,hB,_⟩:=h.get AdE;refine .inr ⟨_,cap,by rw[hn],λi z hz=>hB.getElem _ _ ?_⟩;have hi:i<zs.length:=(Abg.1 hz).1;rw[Abk (by rw[A9];exact hi)];exact Jn hz
def ZK(w0 w:World)(v:Value)(m:AH):Prop:=∃tv,v=.agg ⟨[tv,.int .i64 m.new]⟩∧E.Own w w0.heap.size 3 1 tv m.to.length (Af m.to)
theorem RN{k:Nat}{i:Nat}:Bd (B7 k) (i:Int)=i:=by
 by_cases h:i<k
 ·rw[GQ (by simp only[B7,B1];exact h)];simp only[B7];rw[Hn h]
 ·rw[JR (by simp only[B7,B1];omega)];simp only[B7,B1];omega
theorem Yh{k:Nat}:∀j,j<(B7 k).to.length→0≤(B7 k).to.getD j 0:=λj hj=>by
 simp only[B7,B1] at hj ⊢;rw[Hn hj];omega
theorem IL{k:Nat}(hk:k≤1000000){lo hi:Int}(h0:0≤lo)(h:lo≤hi):Bt (B7 k) lo hi=(lo,hi,true):=by
 obtain⟨a,rfl⟩:=Aca h0;obtain⟨b,rfl⟩:=Aca (show 0≤hi by omega);obtain⟨h1,_,_,h4⟩:=Bs (N0 hk);rw[Wr h4 h1 Yh AdE,RN,RN]
theorem Xm{s:Bg}{a b:Nat}(ha:a≤1000000)(hb:b≤1000000)(hr:s.rows=B7 a)(hc:s.cols=B7 b)(hg:s.gone=false){n:Ah}(hp:AB n=true)(hk:n.kind=5∨n.kind=6):DS s n=n:=by
 have a0:Bt s.rows n.ref.row (B6 n).row=(n.ref.row,(B6 n).row,true):=by
  rw[hr];rcases hk with hk | hk
  ·obtain⟨h1,_⟩:=GA hp hk;obtain⟨b1,b2,b3,b4,_⟩:=BT h1;rw[B6,if_pos hk];exact IL ha b3 (AcK _)
  ·obtain⟨h1,_,h3,_⟩:=EN hp hk;obtain⟨b1,b2,b3,b4,_⟩:=BT h1;obtain⟨q1,q2,q3⟩:=Fj h3;rw[B6,if_neg AdE];exact IL ha b3 q3
 have a1:Bt s.cols n.ref.col (B6 n).col=(n.ref.col,(B6 n).col,true):=by
  rw[hc];rcases hk with hk | hk
  ·obtain⟨h1,_⟩:=GA hp hk;obtain⟨b1,b2,b3,b4,_⟩:=BT h1;rw[B6,if_pos hk];exact IL hb b1 (AcK _)
  ·obtain⟨h1,_,h3,_⟩:=EN hp hk;obtain⟨b1,b2,b3,b4,_⟩:=BT h1;obtain⟨q1,q2,q3⟩:=Fj h3;rw[B6,if_neg AdE];exact IL hb b1 q2
 obtain⟨_,_,s3,s4⟩:n.ref.row≤998∧n.ref.col≤701∧(B6 n).row≤998∧(B6 n).col≤701:=Ny hp hk;have a2:¬Dh s n:=by
  unfold Dh;rw[a0,a1];simp;omega
 rw[DS,if_neg (by rw[hg];simp),if_neg a2];unfold Kw;rw[a0,a1];simp only;by_cases h6:n.kind=6
 ·rw[if_pos h6];have hl:B6 n=n.to:=by rw[B6,if_neg AdE]
  rw[hl]
 ·rw[if_neg h6]
def ZJ(ss:List Bg)(l:List Ah)(own:List UInt8):Prop:=∀n∈l,n.kind=5∨n.kind=6→∀s,Ec ss (Tz own n)=some s→DS s n=n
theorem Vz{ss:List Bg}{l:List Ah}{own:List UInt8}(h:ZJ ss l own)(ht:Cr l=true):C2 DS own ss l=l:=by
 rw[C2,if_pos ht]
 conv=>rhs;rw[←List.map_id l]
 refine Ab0 λn hn=>?_;show B0 DS own ss n=n;by_cases hk:n.kind=5∨n.kind=6
 ·rw[Aa5 hk]
  cases hf:Ec ss (Tz own n) with
  | none=>rfl
  | some s=>exact h n hn hk s hf
 ·exact ZD AdE AdE
theorem SK{t:List UInt8}{l:List Ah}(hb:Aj t 0=61)(h0:t≠[])(hm:BN t=true)(hp:AU (t.drop 1)=.ok l):61::BO l=t∧t.length≤300:=by
 unfold BN at hm
 split at hm
 ·cases hm
 rename_i hl;rw[if_neg (by rintro(h | h);exact h0 h;omega)] at hm;rw[hp] at hm;simp only[decide_eq_true_eq] at hm;refine⟨?_,by omega⟩;rw[hm]
 cases t with
 | nil=>exact absurd rfl h0
 | cons c r=>
  have:Aj (c::r) 0=(c.toNat:Int):=rfl;rw[this] at hb;have hc:c=61:=by
   apply Ad7.1;simp;omega
  rw[hc];rfl
theorem Rc{own:List UInt8}{ss:List Bg}{t:List UInt8}(hm:BN t=true)(h:∀l,AU (t.drop 1)=.ok l→ZJ ss l own):D7 own ss t=t:=by
 by_cases hb:t≠[]∧Aj t 0=61
 ·cases hp:AU (t.drop 1) with
  | error e=>
   rw[D7,if_pos ⟨hb.1,hb.2,hm⟩,hp]
  | ok l=>
   obtain⟨_,ht,_⟩:=EK hp;obtain⟨h1,h2⟩:=SK hb.2 hb.1 hm hp;rw[L7 hb.2 hb.1 hm hp,Vz (h l hp) ht];have:t.length=(BO l).length+1:=by rw[←h1];rfl
   rw[if_neg AdE,h1]
 ·exact DH (by
   by_cases h0:t=[]
   ·exact .inl h0
   ·exact .inr (.inl (λh1=>hb ⟨h0,h1⟩)))
theorem WW:BN Aaj=true:=YX (t:=.leaf BZ) Aee
theorem MO{own:List UInt8}{ss:List Bg}{s:List UInt8}(hss:∀x∈ss,x.May)(h:BN s=true):BN (D7 own ss s)=true:=by
 unfold D7
 split
 ·cases hp:AU (s.drop 1) with
  | error e=>exact h
  | ok l=>
   simp only
   split
   ·exact WW
   ·rename_i a0;obtain⟨a1,a5,a6,t,hf,hn,rfl,a4⟩:=Ia hp;have a2:t.need≤12:=by
     rw[a4,FW t hf hn] at a1
     split at a1
     ·cases a1
     ·split at a1
      ·assumption
      ·cases a1
    obtain⟨e,a3⟩:=Jw (own:=own) hss hf;rw[e,G9 a3] at a0 ⊢;exact Se a3 (GX (I9 hss) t hf hn) (by simp at a0;omega) (by rw[GV];exact a2)
 ·exact h
end Go.Proofs.YtcjjcnecopnpcaaGreatDoor
