/-
  Joined by program out of the texts MapI MapS MovP MovT MovM Mov1 Mov2 Mov4 Mov5 Made Mov3 Mov6 MadeF Mov7 MovK MovS.
-/
import Derived.Test.YtefaigjfkddelaaGreatDoorRkD
import Derived.Test.YtefaigjfkddelaaGreatDoorRkE
import Derived.Test.YtefaigjfkddelaaGreatDoorRkC
import Derived.Test.YtefaigjfkddelaaGreatDoorRkG
import Derived.Test.YtefaigjfkddelaaGreatDoorRkH
import Derived.Test.YtefaigjfkddelaaGreatDoorRkF
import Derived.Test.YtefaigjfkddelaaGreatDoorRkB
namespace Go.Proofs.YtefaigjfkddelaaGreatDoor
open Go Go.E
structure CQ where
 to:List Int
 new:Int
def QU (w:World) (vs:List Value) (m:CQ):Prop:=∃tv,vs=[tv,.int .i64 m.new]∧AG w tv m.to
theorem QU.ext {w w':World} {vs:List Value} {m:CQ} (h:QU w vs m) (x:Ae w w'):QU w' vs m:=by
 obtain ⟨tv,e,h⟩:=h;exact ⟨tv,e,h.ext x⟩
def AK (m:CQ) (i:Int):Int:=if i<0 then -1 else if i<m.to.length then m.to.getD i.toNat 0 else i - m.to.length+m.new
def CQ.Fine (m:CQ):Prop:=m.to.length≤1000000000∧-1000000000≤m.new∧m.new≤1000000000
theorem Fh (m:CQ) (hm:m.Fine) (vs:List Value) (i:Int) (hi:i≤1000000000000) (w:World) (h:QU w vs m):AA Tryz.prog 47 [.agg ⟨vs⟩,.int .i64 i] w (λv w'=>v=.int .i64 (AK m i)∧Ae w w'):=by
 obtain ⟨tv,rfl,ht⟩:=h;obtain ⟨p,c,rfl⟩:=ht.slice;obtain ⟨m1,m2,m3⟩:=hm;refine AL Tryz.func47 Tryz.ntmps47 ?_;refine Sa ?_;refine CZ λA w1 a0 hx hA=>?_;replace hA:Blk w1 A [.slice p m.to.length c,.int .i64 m.new] 71:=hA;replace ht:=ht.ext hx;refine Sa ?_;refine Am (λh1=>?_) λh1=>?_
 ·have h1:i<0:=by simpa using h1
  refine Sa ?_;exact QW.body1 Tryz.results47 rfl ⟨by rw [AK,if_pos h1],hx⟩
 have h1:¬i<0:=by simpa using h1
 refine Sa ?_;refine Am (λh2=>?_) λh2=>?_
 ·have h2:i<m.to.length:=by simpa using h2
  obtain ⟨a,rfl,hc⟩:=ht.at (i:=i.toNat) (by omega);rw [show i.toNat=i.toNat*1 by omega] at hc;refine Sa ?_;refine Lo ?_;refine Lp hc ?_;refine Sa ?_;exact QW.body1 Tryz.results47 rfl ⟨by rw [AK,if_neg h1,if_pos h2,Nat.mul_one],hx⟩
 have h2:¬i<m.to.length:=by simpa using h2
 refine Sa ?_;exact QW.body1 Tryz.results47 rfl ⟨by rw [AK,if_neg h1,if_neg h2],hx⟩
theorem E1 (m:CQ) (hm:m.Fine) (vs:List Value) (i:Int) (hi:i≤1000000000000) (w:World) (h:QU w vs m):AA Tryz.prog 145 [.agg ⟨vs⟩,.int .i64 i] w (λv w'=>v=.int .i64 (AK m i)∧Ae w w'):=by
 obtain ⟨tv,rfl,ht⟩:=h;obtain ⟨p,c,rfl⟩:=ht.slice;obtain ⟨m1,m2,m3⟩:=hm;refine AL Tryz.func145 Tryz.ntmps145 ?_;refine Sa ?_;refine CZ λA w1 a0 hx hA=>?_;replace hA:Blk w1 A [.slice p m.to.length c,.int .i64 m.new] 71:=hA;replace ht:=ht.ext hx;refine Sa ?_;refine Am (λh1=>?_) λh1=>?_
 ·have h1:i<0:=by simpa using h1
  refine Sa ?_;exact QW.body1 Tryz.results145 rfl ⟨by rw [AK,if_pos h1],hx⟩
 have h1:¬i<0:=by simpa using h1
 refine Sa ?_;refine Am (λh2=>?_) λh2=>?_
 ·have h2:i<m.to.length:=by simpa using h2
  obtain ⟨a,rfl,hc⟩:=ht.at (i:=i.toNat) (by omega);rw [show i.toNat=i.toNat*1 by omega] at hc;refine Sa ?_;refine Lo ?_;refine Lp hc ?_;refine Sa ?_;exact QW.body1 Tryz.results145 rfl ⟨by rw [AK,if_neg h1,if_pos h2,Nat.mul_one],hx⟩
 have h2:¬i<m.to.length:=by simpa using h2
 refine Sa ?_;exact QW.body1 Tryz.results145 rfl ⟨by rw [AK,if_neg h1,if_neg h2],hx⟩
def D7 (a b:Int):Int:=if a<b then b else a
def FH (a:Int):List Int→Int
 | []=>a
 | z::r=>FH (if 0≤z∧a<0 then z else a) r
def Kh (b:Int):List Int→Int
 | []=>b
 | z::r=>Kh (D7 b z) r
theorem Fk (a:Int) (l:List Int) (z:Int):FH a (l++[z])=if 0≤z∧FH a l<0 then z else FH a l:=by
 induction l generalizing a with
 | nil=>rfl
 | cons y r ih=>exact ih _
theorem Ie (b:Int) (l:List Int) (z:Int):Kh b (l++[z])=D7 (Kh b l) z:=by
 induction l generalizing b with
 | nil=>rfl
 | cons y r ih=>exact ih _
def D1 (m:CQ) (lo k:Nat):List Int:=(m.to.take k).drop lo
def Bl (m:CQ) (lo hi:Int):Int×Int×Bool:=
 if lo<0∨hi<lo then (0,0,false) else
  let k:=(min (hi+1) (D7 lo m.to.length)).toNat
  let a0:=FH (-1) (D1 m lo.toNat k)
  let b:=if m.to.length≤hi then AK m hi else Kh (-1) (D1 m lo.toNat k)
  let a:=if m.to.length≤hi∧a0<0 then AK m (D7 lo m.to.length) else a0
  if a<0 then (0,0,false) else (a,b,true)
theorem FC {m:CQ} {lo k:Nat} (h0:lo≤k) (h:k<m.to.length):D1 m lo (k+1)=D1 m lo k++[m.to.getD k 0]:=by
 unfold D1;rw [List.take_add_one,List.getElem?_eq_getElem h,List.drop_append_of_le_length (by simp;omega)];simp [List.getD_eq_getElem?_getD,List.getElem?_eq_getElem h]
theorem L3 (m:CQ) (lo:Nat):D1 m lo lo=[]:=by
 unfold D1;simp
set_option maxHeartbeats 1000000 in
theorem Jb (m:CQ) (hm:m.Fine) (vs:List Value) (lo hi:Int) (hlo:lo≤1000000000) (hhi:hi≤1000000000) (w:World) (h:QU w vs m):AA Tryz.prog 141 [.agg ⟨vs⟩,.int .i64 lo,.int .i64 hi] w (λv w'=>v=.tuple #[.int .i64 (Bl m lo hi).1,.int .i64 (Bl m lo hi).2.1,.bool (Bl m lo hi).2.2]∧Ae w w'):=by
 have hR:=h;obtain ⟨tv,rfl,ht⟩:=h;obtain ⟨p,c,rfl⟩:=ht.slice;have a9:=hm;obtain ⟨m1,m2,m3⟩:=hm;refine AL Tryz.func141 Tryz.ntmps141 ?_;refine Sa ?_;refine CZ λA w1 ad ab hA=>?_;replace hA:Blk w1 A [.slice p m.to.length c,.int .i64 m.new] 71:=hA;refine Sa ?_;by_cases a1:lo<0
 ·refine LW.know (t:=12) (c:=true) rfl (decide_eq_true a1) ?_;refine Sa ?_;exact QW.body3 Tryz.results141 rfl rfl rfl ⟨by rw [Bl,if_pos (.inl a1)],ab⟩
 refine LW.know (t:=12) (c:=false) rfl (decide_eq_false a1) ?_;refine Sa ?_;refine Am (λa2=>?_) λa2=>?_
 ·have a2:hi<lo:=by simpa using a2
  refine Sa ?_;exact QW.body3 Tryz.results141 rfl rfl rfl ⟨by rw [Bl,if_pos (.inr a2)],ab⟩
 have a2:¬hi<lo:=by simpa using a2
 obtain ⟨L,rfl⟩:=Int.eq_ofNat_of_zero_le (show 0≤lo by omega);refine Sa ?_;refine CW.loop (ι:=Nat) (λk w'=>L≤k∧(k:Int)≤hi+1∧(k≤m.to.length∨k=L)∧Ae w w'∧Ae w1 w') (λk=>[(1,.int .i64 (L:Int)),(2,.int .i64 hi),(3,.pointer (some ⟨A,0,none⟩)),(6,.int .i64 (FH (-1) (D1 m L k))),(7,.int .i64 (Kh (-1) (D1 m L k))),(9,.int .i64 (k:Int))]) (λk=>(hi+1 - k).toNat) L ⟨by omega,by omega,.inr rfl,ab,Chg.refl _ _⟩ (by rw [L3];exact (Ad.cons rfl (Ad.cons rfl (Ad.cons rfl (Ad.cons rfl (Ad.cons rfl (Ad.cons rfl (Ad.nil)))))))) ?_;rintro k w2 ⟨k0,k1,k2,a3,a6⟩;replace hA:=hA.ext a6;replace ht:=ht.ext a3;replace hR:=hR.ext a3;have hK:Bl m (L:Int) hi=(if (if (m.to.length:Int)≤hi∧FH (-1) (D1 m L (min (hi+1) (D7 L m.to.length)).toNat)<0 then AK m (D7 L m.to.length) else FH (-1) (D1 m L (min (hi+1) (D7 L m.to.length)).toNat))<0 then (0,0,false) else ((if (m.to.length:Int)≤hi∧FH (-1) (D1 m L (min (hi+1) (D7 L m.to.length)).toNat)<0 then AK m (D7 L m.to.length) else FH (-1) (D1 m L (min (hi+1) (D7 L m.to.length)).toNat)),(if (m.to.length:Int)≤hi then AK m hi else Kh (-1) (D1 m L (min (hi+1) (D7 L m.to.length)).toNat)),true)):=by
  rw [Bl,if_neg (by omega)];rfl
 have aa:D7 (L:Int) m.to.length=if (L:Int)<m.to.length then (m.to.length:Int) else L:=rfl;refine Sa ?_;by_cases b1:(k:Int)≤hi;rotate_left
 ·refine LW.know (t:=21) (c:=false) rfl (decide_eq_false b1) ?_;have hk:(min (hi+1) (D7 (L:Int) m.to.length)).toNat=k:=by rw [aa];split<;>omega
  rw [hk] at hK;rw [hK];clear hK hk;generalize FH (-1) (D1 m L k)=a0;generalize Kh (-1) (D1 m L k)=b0;refine Sa ?_;refine Am (λd1=>?_) λd1=>?_
  ·have d1:(m.to.length:Int)≤hi:=by simpa using d1
   simp only [d1,true_and,if_true];refine Sa ?_;refine Ap rfl rfl (Fh m a9 _ hi (by omega) w2 hR) ?_;rintro v w3 ⟨rfl,a7⟩;replace hA:=hA.ext a7;replace hR:=hR.ext a7;have a4:=a3.trans a7;refine Sa ?_;refine Am (λd2=>?_) λd2=>?_
   ·have d2:a0<0:=by simpa using d2
    simp only [d2,if_true];have hz:(if (L:Int)<m.to.length then (m.to.length:Int) else L)=D7 L m.to.length:=rfl;refine Sa ?_;refine LW.max2 rfl rfl rfl ?_;rw [hz];refine Ap rfl rfl (Fh m a9 _ (D7 L m.to.length) (by rw [aa];split<;>omega) w3 hR) ?_;rintro v w4 ⟨rfl,ac⟩;have a5:=a4.trans ac;refine Sa ?_;refine Am (λd3=>?_) λd3=>?_
    ·have d3:AK m (D7 L m.to.length)<0:=by simpa using d3
     refine Sa ?_;exact QW.body3 Tryz.results141 rfl rfl rfl ⟨by rw [if_pos d3],a5⟩
    ·have d3:¬AK m (D7 L m.to.length)<0:=by simpa using d3
     refine Sa ?_;exact QW.body3 Tryz.results141 rfl rfl rfl ⟨by rw [if_neg d3],a5⟩
   ·have d2:¬a0<0:=by simpa using d2
    simp only [d2,if_false];refine Sa ?_;refine CW.no rfl (decide_eq_false d2) ?_;refine Sa ?_;exact QW.body3 Tryz.results141 rfl rfl rfl ⟨rfl,a4⟩
  ·have d1:¬(m.to.length:Int)≤hi:=by simpa using d1
   simp only [d1,false_and,if_false];refine Sa ?_;refine Am (λd2=>?_) λd2=>?_
   ·have d2:a0<0:=by simpa using d2
    refine Sa ?_;exact QW.body3 Tryz.results141 rfl rfl rfl ⟨by rw [if_pos d2],a3⟩
   ·have d2:¬a0<0:=by simpa using d2
    refine Sa ?_;exact QW.body3 Tryz.results141 rfl rfl rfl ⟨by rw [if_neg d2],a3⟩
 refine LW.know (t:=21) (c:=true) rfl (decide_eq_true b1) ?_;refine Sa ?_;refine Am (λb2=>?_) λb2=>?_;rotate_left
 ·have b2:¬(k:Int)<m.to.length:=by simpa using b2
  have hk:(min (hi+1) (D7 (L:Int) m.to.length)).toNat=k:=by rw [aa];split<;>omega
  rw [hk] at hK;rw [hK];clear hK hk;generalize FH (-1) (D1 m L k)=a0;generalize Kh (-1) (D1 m L k)=b0;refine Sa ?_;refine Am (λd1=>?_) λd1=>?_
  ·have d1:(m.to.length:Int)≤hi:=by simpa using d1
   simp only [d1,true_and,if_true];refine Sa ?_;refine Ap rfl rfl (Fh m a9 _ hi (by omega) w2 hR) ?_;rintro v w3 ⟨rfl,a7⟩;replace hA:=hA.ext a7;replace hR:=hR.ext a7;have a4:=a3.trans a7;refine Sa ?_;refine Am (λd2=>?_) λd2=>?_
   ·have d2:a0<0:=by simpa using d2
    simp only [d2,if_true];have hz:(if (L:Int)<m.to.length then (m.to.length:Int) else L)=D7 L m.to.length:=rfl;refine Sa ?_;refine LW.max2 rfl rfl rfl ?_;rw [hz];refine Ap rfl rfl (Fh m a9 _ (D7 L m.to.length) (by rw [aa];split<;>omega) w3 hR) ?_;rintro v w4 ⟨rfl,ac⟩;have a5:=a4.trans ac;refine Sa ?_;refine Am (λd3=>?_) λd3=>?_
    ·have d3:AK m (D7 L m.to.length)<0:=by simpa using d3
     refine Sa ?_;exact QW.body3 Tryz.results141 rfl rfl rfl ⟨by rw [if_pos d3],a5⟩
    ·have d3:¬AK m (D7 L m.to.length)<0:=by simpa using d3
     refine Sa ?_;exact QW.body3 Tryz.results141 rfl rfl rfl ⟨by rw [if_neg d3],a5⟩
   ·have d2:¬a0<0:=by simpa using d2
    simp only [d2,if_false];refine Sa ?_;refine CW.no rfl (decide_eq_false d2) ?_;refine Sa ?_;exact QW.body3 Tryz.results141 rfl rfl rfl ⟨rfl,a4⟩
  ·have d1:¬(m.to.length:Int)≤hi:=by simpa using d1
   simp only [d1,false_and,if_false];refine Sa ?_;refine Am (λd2=>?_) λd2=>?_
   ·have d2:a0<0:=by simpa using d2
    refine Sa ?_;exact QW.body3 Tryz.results141 rfl rfl rfl ⟨by rw [if_pos d2],a3⟩
   ·have d2:¬a0<0:=by simpa using d2
    refine Sa ?_;exact QW.body3 Tryz.results141 rfl rfl rfl ⟨by rw [if_neg d2],a3⟩
 have b2:k<m.to.length:=by simp at b2;omega
 obtain ⟨a,rfl,hc⟩:=ht.at b2;rw [show m.to.getD k 0=m.to.getD k 0 from rfl] at hc;have hs:=FC k0 b2;generalize m.to.getD k 0=z at hc hs;have a8:w2.cell? (a.add (((k:Nat):Int).toNat*1))=some (.int .i64 z):=by
  rw [show ((k:Nat):Int).toNat*1=k by omega];exact hc
 refine Sa ?_;refine Lo ?_;refine Lp a8 ?_;refine Sa ?_;have e2:Kh (-1) (D1 m L (k+1))=if Kh (-1) (D1 m L k)<z then z else Kh (-1) (D1 m L k):=by rw [hs,Ie];rfl
 by_cases b3:0≤z
 ·refine LW.know (t:=36) (c:=true) rfl (decide_eq_true b3) ?_;refine Sa ?_;refine Am (λb4=>?_) λb4=>?_
  ·have b4:FH (-1) (D1 m L k)<0:=by simpa using b4
   have e1:FH (-1) (D1 m L (k+1))=z:=by rw [hs,Fk,if_pos ⟨b3,b4⟩]
   refine Sa ?_;refine Lo ?_;refine Lp a8 ?_;refine Sa ?_;refine Lo ?_;refine Lp a8 ?_;refine LW.max2 rfl rfl rfl ?_;rw [←e2];refine Sa ?_;refine QW.again (k+1) ⟨by omega,by omega,.inl b2,a3,a6⟩ (by rw [e1];exact (Ad.cons rfl (Ad.cons rfl (Ad.cons rfl (Ad.cons rfl (Ad.cons rfl (Ad.cons rfl (Ad.nil)))))))) (by omega)
  ·have b4:¬FH (-1) (D1 m L k)<0:=by simpa using b4
   have e1:FH (-1) (D1 m L (k+1))=FH (-1) (D1 m L k):=by rw [hs,Fk,if_neg (λh=>b4 h.2)]
   refine Sa ?_;refine Lo ?_;refine Lp a8 ?_;refine LW.max2 rfl rfl rfl ?_;rw [←e2];refine Sa ?_;refine QW.again (k+1) ⟨by omega,by omega,.inl b2,a3,a6⟩ (by rw [e1];exact (Ad.cons rfl (Ad.cons rfl (Ad.cons rfl (Ad.cons rfl (Ad.cons rfl (Ad.cons rfl (Ad.nil)))))))) (by omega)
 ·refine LW.know (t:=36) (c:=false) rfl (decide_eq_false b3) ?_;have e1:FH (-1) (D1 m L (k+1))=FH (-1) (D1 m L k):=by rw [hs,Fk,if_neg (λh=>b3 h.1)]
  refine Sa ?_;refine Lo ?_;refine Lp a8 ?_;refine LW.max2 rfl rfl rfl ?_;rw [←e2];refine Sa ?_;refine QW.again (k+1) ⟨by omega,by omega,.inl b2,a3,a6⟩ (by rw [e1];exact (Ad.cons rfl (Ad.cons rfl (Ad.cons rfl (Ad.cons rfl (Ad.cons rfl (Ad.cons rfl (Ad.nil)))))))) (by omega)
def CO (new:Int):Int→List Int→Bool
 | _,[]=>true
 | last,z::r=>if z=-1 then CO new last r else if z≤last∨new≤z then false else CO new z r
def M1 (m:CQ):Bool:=decide (0≤m.new)&&decide (m.new≤1048576)&&decide (m.to.length≤1048576)&&CO m.new (-1) m.to
def Oy (m:CQ):Prop:=∀j,j<m.to.length→m.to.getD j 0=-1∨(0≤m.to.getD j 0∧m.to.getD j 0<m.new∧∀i,i<j→m.to.getD i 0<m.to.getD j 0)
theorem IU (new:Int):∀(l:List Int) (last:Int),-1≤last→CO new last l=true→∀j,j<l.length→l.getD j 0=-1∨(last<l.getD j 0∧l.getD j 0<new∧∀i,i<j→l.getD i 0<l.getD j 0)
 | [],_,_,_,j,hj=>by simp at hj
 | z::r,last,hl,h,j,hj=>by
  rw [CO] at h;by_cases hz:z=-1
  ·rw [if_pos hz] at h
   match j,hj with
   | 0,_=>exact .inl hz
   | j+1,hj=>
    have ih:=IU new r last hl h j (by simpa using hj);simp only [List.getD_cons_succ];rcases ih with ih | ⟨h1,h2,h3⟩
    ·exact .inl ih
    ·refine .inr ⟨h1,h2,λi hi=>?_⟩
     match i,hi with
     | 0,_=>simp only [List.getD_cons_zero];omega
     | i+1,hi=>simp only [List.getD_cons_succ];exact h3 i (by omega)
  ·rw [if_neg hz] at h;by_cases hy:z≤last∨new≤z
   ·rw [if_pos hy] at h;cases h
   ·rw [if_neg hy] at h
    match j,hj with
    | 0,_=>exact .inr ⟨by simp only [List.getD_cons_zero];omega,by simp only [List.getD_cons_zero];omega,λi hi=>by omega⟩
    | j+1,hj=>
     have ih:=IU new r z (by omega) h j (by simpa using hj);simp only [List.getD_cons_succ];rcases ih with ih | ⟨h1,h2,h3⟩
     ·exact .inl ih
     ·refine .inr ⟨by omega,h2,λi hi=>?_⟩
      match i,hi with
      | 0,_=>simp only [List.getD_cons_zero];omega
      | i+1,hi=>simp only [List.getD_cons_succ];exact h3 i (by omega)
theorem Ez {m:CQ} (h:M1 m=true):0≤m.new∧m.new≤1048576∧m.to.length≤1048576∧Oy m:=by
 simp only [M1,Bool.and_eq_true,decide_eq_true_eq] at h;obtain ⟨⟨⟨h1,h2⟩,h3⟩,h4⟩:=h;refine ⟨h1,h2,h3,λj hj=>?_⟩;rcases IU _ _ _ (by omega) h4 j hj with h | ⟨a,b,c⟩
 ·exact .inl h
 ·exact .inr ⟨by omega,b,c⟩
theorem Gu {m:CQ} (h:M1 m=true):m.Fine:=by
 obtain ⟨h1,h2,h3,_⟩:=Ez h;exact ⟨by omega,by omega,by omega⟩
theorem KY {m:CQ} {lo:Nat}:∀n,lo+n≤m.to.length→(∀j,lo≤j→j<lo+n→m.to.getD j 0<0)→FH (-1) (D1 m lo (lo+n))=-1
 | 0,_,_=>by rw [Nat.add_zero,L3];rfl
 | n+1,h,hj=>by
  rw [←Nat.add_assoc,FC (by omega) (by omega),Fk,KY n (by omega) (λj h1 h2=>hj j h1 (by omega))];have:=hj (lo+n) (by omega) (by omega);rw [if_neg (by omega)]
theorem Rl {m:CQ} {lo a:Nat} (ha:lo≤a) (hd:∀j,lo≤j→j<a→m.to.getD j 0<0) (hz:0≤m.to.getD a 0):∀n,a+1+n≤m.to.length→FH (-1) (D1 m lo (a+1+n))=m.to.getD a 0
 | 0,h=>by
  have e:=KY (m:=m) (lo:=lo) (a - lo) (by omega) (λj h1 h2=>hd j h1 (by omega));rw [show lo+(a - lo)=a by omega] at e
  rw [Nat.add_zero,FC ha (by omega),Fk,e,if_pos ⟨hz,by omega⟩]
 | n+1,h=>by
  rw [←Nat.add_assoc,FC (by omega) (by omega),Fk,Rl ha hd hz n (by omega),if_neg (by omega)]
theorem Vb {m:CQ} {lo:Nat} {x:Int} (hx:-1<x):∀n,lo+n≤m.to.length→(∀j,lo≤j→j<lo+n→m.to.getD j 0<x)→Kh (-1) (D1 m lo (lo+n))<x
 | 0,_,_=>by rw [Nat.add_zero,L3];exact hx
 | n+1,h,hj=>by
  have ih:=Vb hx n (by omega) (λj h1 h2=>hj j h1 (by omega));have:=hj (lo+n) (by omega) (by omega);rw [←Nat.add_assoc,FC (by omega) (by omega),Ie,D7]
  split<;>omega
theorem Va {m:CQ} (hr:Oy m) {lo b:Nat} (hb:lo≤b) (hz:0≤m.to.getD b 0):∀n,b+1+n≤m.to.length→(∀j,b<j→j<b+1+n→m.to.getD j 0<0)→Kh (-1) (D1 m lo (b+1+n))=m.to.getD b 0
 | 0,h,_=>by
  have e:=Vb (m:=m) (lo:=lo) (x:=m.to.getD b 0) (by omega) (b - lo) (by omega) (λj h1 h2=>by
   rcases hr b (by omega) with h3 | ⟨_,_,h3⟩
   ·omega
   ·exact h3 j (by omega))
  rw [show lo+(b - lo)=b by omega] at e
  rw [Nat.add_zero,FC hb (by omega),Ie,D7,if_pos e]
 | n+1,h,hj=>by
  have:=hj (b+1+n) (by omega) (by omega);rw [←Nat.add_assoc,FC (by omega) (by omega),Ie,Va hr hb hz n (by omega) (λj h1 h2=>hj j h1 (by omega)),D7,if_neg (by omega)]
theorem H0 {m:CQ} {a:Nat} (h:a<m.to.length):AK m (a:Int)=m.to.getD a 0:=by
 rw [AK,if_neg (by omega),if_pos (by omega)];rfl
theorem Ls {m:CQ} {a:Nat} (h:m.to.length≤a):AK m (a:Int)=a - m.to.length+m.new:=by
 rw [AK,if_neg (by omega),if_neg (by omega)]
theorem GY {m:CQ} (hr:Oy m) (hn:0≤m.new) {lo hi a b:Nat} (hlo:lo≤a) (hab:a≤b) (hb:b≤hi) (ha0:∀j,lo≤j→j<a→j<m.to.length∧m.to.getD j 0<0) (ha1:a<m.to.length→0≤m.to.getD a 0)
  (hb0:∀j,b<j→j≤hi→j<m.to.length∧m.to.getD j 0<0) (hb1:b<m.to.length→0≤m.to.getD b 0):Bl m lo hi=(AK m a,AK m b,true):=by
 rw [Bl,if_neg (by omega)];have a0:D7 (lo:Int) m.to.length=if (lo:Int)<m.to.length then (m.to.length:Int) else lo:=rfl;by_cases h1:(m.to.length:Int)≤hi
 ·have a1:b=hi:=by
   rcases Nat.lt_or_ge b hi with h | h
   ·have:=(hb0 hi h (Nat.le_refl _)).1;omega
   ·omega
  subst a1;simp only [h1,true_and,if_true];by_cases h2:a<m.to.length
  ·have hk:(min ((b:Int)+1) (D7 lo m.to.length)).toNat=a+1+(m.to.length - a - 1):=by rw [a0];split<;>omega
   have e:=Rl hlo (λj h3 h4=>(ha0 j h3 h4).2) (ha1 h2) (m.to.length - a - 1) (by omega);have:=ha1 h2;rw [hk,show ((lo:Nat):Int).toNat=lo by omega,e,if_neg (by omega),if_neg (by omega),H0 h2]
  ·have e:FH (-1) (D1 m lo (min ((b:Int)+1) (D7 lo m.to.length)).toNat)=-1:=by
    rw [a0]
    split
    ·rename_i h3;have e:=KY (m:=m) (lo:=lo) (m.to.length - lo) (by omega) (λj h4 h5=>(ha0 j h4 (by omega)).2);rw [show (min ((b:Int)+1) (m.to.length:Int)).toNat=lo+(m.to.length - lo) by omega];exact e
    ·rw [show (min ((b:Int)+1) (lo:Int)).toNat=lo by omega,L3];rfl
   have ea:D7 (lo:Int) m.to.length=a:=by
    rw [a0]
    split
    ·rename_i h3;have:¬m.to.length<a:=λh4=>by have:=(ha0 (m.to.length) (by omega) h4).1;omega
     omega
    ·have:¬lo<a:=λh4=>by have:=(ha0 lo (by omega) h4).1;omega
     omega
   rw [show ((lo:Nat):Int).toNat=lo by omega,e,if_pos (show (-1:Int)<0 by omega),ea,Ls (by omega),if_neg (by omega)]
 ·simp only [h1,false_and,if_false];have hk:(min ((hi:Int)+1) (D7 lo m.to.length)).toNat=a+1+(hi - a):=by rw [a0];split<;>omega
  have a2:a+1+(hi - a)=b+1+(hi - b):=by omega
  have e:=Rl hlo (λj h3 h4=>(ha0 j h3 h4).2) (ha1 (by omega)) (hi - a) (by omega);have e2:=Va hr (show lo≤b by omega) (hb1 (by omega)) (hi - b) (by omega) (λj h3 h4=>(hb0 j h3 (by omega)).2);have:=ha1 (by omega);rw [hk,show ((lo:Nat):Int).toNat=lo by omega,e,a2,e2,if_neg (by omega),H0 (by omega),H0 (by omega)]
theorem Ku {m:CQ} {lo hi:Nat} (h:∀j,lo≤j→j≤hi→j<m.to.length∧m.to.getD j 0<0) (hl:lo≤hi):Bl m lo hi=(0,0,false):=by
 have hh:=(h hi hl (Nat.le_refl _)).1;have a0:D7 (lo:Int) m.to.length=if (lo:Int)<m.to.length then (m.to.length:Int) else lo:=rfl;rw [Bl,if_neg (by omega)];have h1:¬(m.to.length:Int)≤hi:=by omega
 simp only [h1,false_and,if_false];have hk:(min ((hi:Int)+1) (D7 lo m.to.length)).toNat=lo+(hi+1 - lo):=by rw [a0];split<;>omega
 have e:=KY (m:=m) (lo:=lo) (hi+1 - lo) (by omega) (λj h4 h5=>(h j h4 (by omega)).2);rw [hk,show ((lo:Nat):Int).toNat=lo by omega,e,if_pos (by omega)]
theorem P4 (P:Nat→Prop) [DecidablePred P] (lo:Nat):∀n,(∀j,lo≤j→j<lo+n→¬P j)∨∃a,lo≤a∧a<lo+n∧P a∧∀j,lo≤j→j<a→¬P j
 | 0=>.inl λj h1 h2=>by omega
 | n+1=>by
  rcases P4 P lo n with h | ⟨a,h1,h2,h3,h4⟩
  ·by_cases hp:P (lo+n)
   ·exact .inr ⟨lo+n,by omega,by omega,hp,λj h1 h2=>h j h1 (by omega)⟩
   ·refine .inl λj h1 h2=>?_;rcases Nat.lt_or_ge j (lo+n) with h3 | h3
    ·exact h j h1 h3
    ·obtain rfl:j=lo+n:=by omega
     exact hp
  ·exact .inr ⟨a,h1,by omega,h3,h4⟩
theorem Sn (P:Nat→Prop) [DecidablePred P] (lo:Nat):∀n,(∀j,lo≤j→j<lo+n→¬P j)∨∃b,lo≤b∧b<lo+n∧P b∧∀j,b<j→j<lo+n→¬P j
 | 0=>.inl λj h1 h2=>by omega
 | n+1=>by
  by_cases hp:P (lo+n)
  ·exact .inr ⟨lo+n,by omega,by omega,hp,λj h1 h2=>by omega⟩
  ·rcases Sn P lo n with h | ⟨b,h1,h2,h3,h4⟩
   ·refine .inl λj h1 h2=>?_;rcases Nat.lt_or_ge j (lo+n) with h3 | h3
    ·exact h j h1 h3
    ·obtain rfl:j=lo+n:=by omega
     exact hp
   ·refine .inr ⟨b,h1,by omega,h3,λj h5 h6=>?_⟩;rcases Nat.lt_or_ge j (lo+n) with h7 | h7
    ·exact h4 j h5 h7
    ·obtain rfl:j=lo+n:=by omega
     exact hp
theorem UP {m:CQ} (hr:Oy m) {a b:Nat} (h:a<b) (hb:b<m.to.length→0≤m.to.getD b 0) (ha:a<m.to.length→0≤m.to.getD a 0):AK m (a:Int)<AK m (b:Int):=by
 by_cases h1:b<m.to.length
 ·rw [H0 h1,H0 (by omega)];rcases hr b h1 with h2 | ⟨_,_,h2⟩
  ·have:=hb h1;omega
  ·exact h2 a h
 ·rw [Ls (show m.to.length≤b by omega)];by_cases h2:a<m.to.length
  ·rw [H0 h2];rcases hr a h2 with h3 | ⟨_,h3,_⟩
   ·have:=ha h2;omega
   ·omega
  ·rw [Ls (show m.to.length≤a by omega)];omega
theorem WJ {m:CQ} (hr:Oy m) {a b:Nat} (h:a≤b) (hb:b<m.to.length→0≤m.to.getD b 0) (ha:a<m.to.length→0≤m.to.getD a 0):AK m (a:Int)≤AK m (b:Int):=by
 rcases Nat.lt_or_ge a b with h1 | h1
 ·have:=UP hr h1 hb ha;omega
 ·obtain rfl:a=b:=by omega
  omega
theorem UO {m:CQ} (hn:0≤m.new) {a:Nat} (ha:a<m.to.length→0≤m.to.getD a 0):0≤AK m (a:Int):=by
 by_cases h1:a<m.to.length
 ·rw [H0 h1];exact ha h1
 ·rw [Ls (by omega)];omega
theorem RK {m:CQ} (hr:Oy m) (hn:0≤m.new) {lo hi:Nat} (h:lo≤hi):Bl m lo hi=(0,0,false)∨∃a b:Nat,lo≤a∧a≤b∧b≤hi∧Bl m lo hi=(AK m a,AK m b,true)∧0≤AK m a∧AK m a≤AK m b:=by
 have hP:∀j,¬(m.to.length≤j∨0≤m.to.getD j 0)↔(j<m.to.length∧m.to.getD j 0<0):=λj=>by omega
 rcases P4 (λj=>m.to.length≤j∨0≤m.to.getD j 0) lo (hi+1 - lo) with h1 | ⟨a,h1,h2,h3,h4⟩
 ·exact .inl (Ku (λj h2 h3=>(hP j).1 (h1 j h2 (by omega))) h)
 ·rcases Sn (λj=>m.to.length≤j∨0≤m.to.getD j 0) lo (hi+1 - lo) with k1 | ⟨b,k1,k2,k3,k4⟩
  ·exact absurd h3 (k1 a h1 h2)
  ·have a0:a≤b:=by
    rcases Nat.lt_or_ge b a with h5 | h5
    ·exact absurd k3 (h4 b k1 h5)
    ·exact h5
   have a1:a<m.to.length→0≤m.to.getD a 0:=λh5=>by omega
   have a2:b<m.to.length→0≤m.to.getD b 0:=λh5=>by omega
   exact .inr ⟨a,b,h1,a0,by omega,GY hr hn h1 a0 (by omega) (λj h5 h6=>(hP j).1 (h4 j h5 h6)) a1 (λj h5 h6=>(hP j).1 (k4 j h5 (by omega))) a2,UO hn a1,WJ hr a0 a2 a1⟩
theorem V0 {m:CQ} (hr:Oy m) (hn:0≤m.new) (i:Nat):Bl m i i=if AK m i<0 then (0,0,false) else (AK m i,AK m i,true):=by
 by_cases h:i<m.to.length∧m.to.getD i 0<0
 ·rw [Ku (λj h1 h2=>(show j=i by omega) ▸ h) (Nat.le_refl _),H0 h.1,if_pos h.2]
 ·have h1:i<m.to.length→0≤m.to.getD i 0:=λh2=>by omega
  have:=UO hn h1;rw [GY hr hn (Nat.le_refl _) (Nat.le_refl _) (Nat.le_refl _) (λj h2 h3=>by omega) h1 (λj h2 h3=>by omega) h1,if_neg (by omega)]
structure CB where
 sheet:List UInt8
 rows:CQ
 cols:CQ
 gone:Bool
def CB.May (s:CB):Prop:=M1 s.rows=true∧M1 s.cols=true
def CB.Fine (s:CB):Prop:=s.rows.Fine∧s.cols.Fine
def B4:Ag:={kind:=4}
def Nt (own:List UInt8) (n:Ag):List UInt8:=if n.ref.sheet=[] then own else n.ref.sheet
def Hx (ss:List CB) (x:List UInt8):Option CB:=ss.find? (λs=>decide (s.sheet=x))
def C9 (n:Ag):Co:=if n.kind=5 then n.ref else n.to
def Dz (s:CB) (n:Ag):Prop:=(Bl s.rows n.ref.row (C9 n).row).2.2=false∨(Bl s.cols n.ref.col (C9 n).col).2.2=false∨998<(Bl s.rows n.ref.row (C9 n).row).2.1∨701<(Bl s.cols n.ref.col (C9 n).col).2.1
instance (s : CB) (n : Ag) : Decidable (Dz s n) := by unfold Dz; infer_instance
def KO (s:CB) (n:Ag):Ag:=
 {n with ref:={n.ref with row:=(Bl s.rows n.ref.row (C9 n).row).1,col:=(Bl s.cols n.ref.col (C9 n).col).1},to:=if n.kind=6 then {n.to with row:=(Bl s.rows n.ref.row (C9 n).row).2.1,col:=(Bl s.cols n.ref.col (C9 n).col).2.1} else n.to}
def Eb (s:CB) (n:Ag):Ag:=if s.gone=true then B4 else if Dz s n then B4 else KO s n
def Hi (s:CB) (n:Ag):Ag:=
 if s.gone=true then B4
 else if n.kind=5 then (if AP {n.ref with row:=AK s.rows n.ref.row,col:=AK s.cols n.ref.col}=true then {n with ref:={n.ref with row:=AK s.rows n.ref.row,col:=AK s.cols n.ref.col}} else B4)
 else if (Bl s.rows n.ref.row n.to.row).2.2=true∧(Bl s.cols n.ref.col n.to.col).2.2=true∧AP {n.ref with row:=(Bl s.rows n.ref.row n.to.row).1,col:=(Bl s.cols n.ref.col n.to.col).1}=true∧AP {n.to with row:=(Bl s.rows n.ref.row n.to.row).2.1,col:=(Bl s.cols n.ref.col n.to.col).2.1}=true then
  {n with ref:={n.ref with row:=(Bl s.rows n.ref.row n.to.row).1,col:=(Bl s.cols n.ref.col n.to.col).1},to:={n.to with row:=(Bl s.rows n.ref.row n.to.row).2.1,col:=(Bl s.cols n.ref.col n.to.col).2.1}}
 else B4
def AF (go:CB→Ag→Ag) (own:List UInt8) (ss:List CB) (n:Ag):Ag:=
 if n.kind≠5∧n.kind≠6 then n else match Hx ss (Nt own n) with
  | none=>n
  | some s=>go s n
def BI (go:CB→Ag→Ag) (own:List UInt8) (ss:List CB) (l:List Ag):List Ag:=if BL l=true then l.map (AF go own ss) else []
theorem Dk {x:Co} (h:AP x=true):0≤x.col∧x.col≤701∧0≤x.row∧x.row≤998∧∀r c,0≤r→r≤998→0≤c→c≤701→AP {x with row:=r,col:=c}=true:=by
 simp only [AP,Bool.and_eq_true,decide_eq_true_eq] at h ⊢;obtain ⟨⟨⟨⟨h0,h1⟩,h2⟩,h3⟩,h4⟩:=h;exact ⟨h1,h2,h3,h4,λr c h5 h6 h7 h8=>⟨⟨⟨⟨h0,h7⟩,h8⟩,h5⟩,h6⟩⟩
theorem Mx {x:Co} (h:AP x=true) (r c:Int):AP {x with row:=r,col:=c}=true↔0≤r∧r≤998∧0≤c∧c≤701:=by
 obtain ⟨_,_,_,_,h5⟩:=Dk h;refine ⟨λhh=>?_,λ⟨h1,h2,h3,h4⟩=>h5 r c h1 h2 h3 h4⟩;obtain ⟨a,b,c,d,_⟩:=Dk hh;exact ⟨c,d,a,b⟩
theorem Il {n:Ag} (h:Ar n=true) (hk:n.kind=5):AP n.ref=true∧n.num=0∧n.text=[]∧n.to=A3:=by
 simp only [Ar,Fb,A6,hk] at h;simp at h;exact ⟨h.1,h.2.1,h.2.2.1,h.2.2.2⟩
theorem FS {n:Ag} (h:Ar n=true) (hk:n.kind=6):AP n.ref=true∧AP n.to=true∧Bq n.ref n.to=true∧n.num=0∧n.text=[]:=by
 simp only [Ar,Fb,A6,hk] at h;simp at h;exact ⟨h.1.1,h.1.2.1,h.1.2.2,h.2.1,h.2.2⟩
theorem JB {a b:Co} (h:Bq a b=true):b.sheet=[]∧a.col≤b.col∧a.row≤b.row:=by
 simp only [Bq,Bool.and_eq_true,decide_eq_true_eq] at h;exact ⟨h.1.1,h.1.2,h.2⟩
theorem JK {m:CQ} (hr:Oy m) (hn:0≤m.new) {lo hi:Int} (h0:0≤lo) (h:lo≤hi):Bl m lo hi=(0,0,false)∨∃a b:Nat,lo≤a∧a≤b∧b≤hi∧Bl m lo hi=(AK m a,AK m b,true)∧0≤AK m a∧AK m a≤AK m b:=by
 obtain ⟨a,rfl⟩:=Int.eq_ofNat_of_zero_le h0;obtain ⟨b,rfl⟩:=Int.eq_ofNat_of_zero_le (show 0≤hi by omega);rcases RK hr hn (lo:=a) (hi:=b) (by omega) with h1 | ⟨x,y,h1,h2,h3,h4⟩
 ·exact .inl h1
 ·exact .inr ⟨x,y,by omega,h2,by omega,h4⟩
theorem JL {m:CQ} (hr:Oy m) (hn:0≤m.new) {i:Int} (h:0≤i):Bl m i i=if AK m i<0 then (0,0,false) else (AK m i,AK m i,true):=by
 obtain ⟨a,rfl⟩:=Int.eq_ofNat_of_zero_le h;exact V0 hr hn a
theorem Si {s:CB} (hm:s.May) {n:Ag} (hp:Ar n=true) (hk:n.kind=5∨n.kind=6):Eb s n=Hi s n:=by
 obtain ⟨r1,_,_,r4⟩:=Ez hm.1;obtain ⟨c1,_,_,c4⟩:=Ez hm.2;unfold Eb Hi;by_cases hg:s.gone=true
 ·rw [if_pos hg,if_pos hg]
 rw [if_neg hg,if_neg hg];rcases hk with hk | hk
 ·obtain ⟨h1,h2,h3,h4⟩:=Il hp hk;obtain ⟨b1,b2,b3,b4,_⟩:=Dk h1;have a0:=Mx h1 (AK s.rows n.ref.row) (AK s.cols n.ref.col);have hl:C9 n=n.ref:=by rw [C9,if_pos hk]
  have er:=JL r4 r1 b3;have ec:=JL c4 c1 b1;rw [if_pos hk];by_cases x1:AK s.rows n.ref.row<0
  ·have hg:Dz s n:=by unfold Dz;rw [hl,er,if_pos x1];exact .inl rfl
   rw [if_pos hg,if_neg (by rw [a0];omega)]
  by_cases x2:AK s.cols n.ref.col<0
  ·have hg:Dz s n:=by unfold Dz;rw [hl,ec,if_pos x2];exact .inr (.inl rfl)
   rw [if_pos hg,if_neg (by rw [a0];omega)]
  have hw:KO s n={n with ref:={n.ref with row:=AK s.rows n.ref.row,col:=AK s.cols n.ref.col}}:=by
   unfold KO;rw [hl,er,ec,if_neg x1,if_neg x2,if_neg (show ¬n.kind=6 by omega)]
  by_cases x3:998<AK s.rows n.ref.row∨701<AK s.cols n.ref.col
  ·have hg:Dz s n:=by unfold Dz;rw [hl,er,ec,if_neg x1,if_neg x2];exact .inr (.inr x3)
   rw [if_pos hg,if_neg (by rw [a0];omega)]
  ·have hg:¬Dz s n:=by unfold Dz;rw [hl,er,ec,if_neg x1,if_neg x2];simpa using x3
   rw [if_neg hg,hw,if_pos (by rw [a0];omega)]
 ·obtain ⟨h1,h2,h3,h4,h5⟩:=FS hp hk;obtain ⟨b1,b2,b3,b4,_⟩:=Dk h1;obtain ⟨q1,q2,q3⟩:=JB h3;have hl:C9 n=n.to:=by rw [C9,if_neg (by omega)]
  rw [if_neg (show ¬n.kind=5 by omega)];rcases JK r4 r1 b3 q3 with er | ⟨x,y,_,_,_,er,er1,er2⟩
  ·have hg:Dz s n:=by unfold Dz;rw [hl,er];exact .inl rfl
   rw [if_pos hg,er,if_neg (λh=>by cases h.1)]
  rcases JK c4 c1 b1 q2 with ec | ⟨u,v,_,_,_,ec,ec1,ec2⟩
  ·have hg:Dz s n:=by unfold Dz;rw [hl,ec];exact .inr (.inl rfl)
   rw [if_pos hg,ec,if_neg (λh=>by cases h.2.1)]
  have i1:=Mx h1 (AK s.rows x) (AK s.cols u);have i2:=Mx h2 (AK s.rows y) (AK s.cols v);have hw:KO s n={n with ref:={n.ref with row:=AK s.rows x,col:=AK s.cols u},to:={n.to with row:=AK s.rows y,col:=AK s.cols v}}:=by
   unfold KO;rw [hl,er,ec,if_pos hk]
  by_cases x3:998<AK s.rows y∨701<AK s.cols v
  ·have hg:Dz s n:=by unfold Dz;rw [hl,er,ec];exact .inr (.inr x3)
   rw [if_pos hg,er,ec,if_neg (λh=>by have:=i2.1 h.2.2.2;omega)]
  ·have hg:¬Dz s n:=by unfold Dz;rw [hl,er,ec];simpa using x3
   rw [if_neg hg,hw,er,ec,if_pos ⟨rfl,rfl,i1.2 (by omega),i2.2 (by omega)⟩]
theorem Ia {ss:List CB} {x:List UInt8} {s:CB} (h:Hx ss x=some s):s∈ss∧s.sheet=x:=by
 unfold Hx at h;have h1:=List.find?_some h;exact ⟨List.mem_of_find?_eq_some h,by simpa using h1⟩
theorem UN {s:CB} (hm:s.May) {n:Ag} (hp:Ar n=true) (hk:n.kind=5∨n.kind=6):Ar (Eb s n)=true∧1≤(Eb s n).kind∧(Eb s n).kind≤6∧(Eb s n).num=0∧(Eb s n).text=[]∧(Eb s n).ref.sheet.length≤n.ref.sheet.length∧(Eb s n).to.sheet.length≤n.to.sheet.length∧((Eb s n).kids=n.kids∨Eb s n=B4):=by
 have hd:Ar B4=true∧1≤B4.kind∧B4.kind≤6∧B4.num=0∧B4.text=[]∧B4.ref.sheet.length≤n.ref.sheet.length∧B4.to.sheet.length≤n.to.sheet.length∧(B4.kids=n.kids∨B4=B4):=⟨rfl,by decide,by decide,rfl,rfl,by simp [B4,A3],by simp [B4,A3],.inr rfl⟩;obtain ⟨r1,_,_,r4⟩:=Ez hm.1;obtain ⟨c1,_,_,c4⟩:=Ez hm.2;rw [Si hm hp hk];unfold Hi
 split
 ·exact hd
 split
 ·rename_i a0;obtain ⟨h1,h2,h3,h4⟩:=Il hp a0
  split
  ·rename_i hb;refine ⟨?_,by show 1≤n.kind;omega,by show n.kind≤6;omega,h2,h3,Nat.le_refl _,Nat.le_refl _,.inl rfl⟩;simp only [Ar,Fb,A6,a0,hb,h2,h3,h4];simp
  ·exact hd
 ·rename_i a0;have a1:n.kind=6:=by omega
  obtain ⟨h1,h2,h3,h4,h5⟩:=FS hp a1;obtain ⟨q1,q2,q3⟩:=JB h3;obtain ⟨b1,b2,b3,b4,_⟩:=Dk h1
  split
  ·rename_i hb;obtain ⟨e1,e2,e3,e4⟩:=hb;refine ⟨?_,by show 1≤n.kind;omega,by show n.kind≤6;omega,h4,h5,Nat.le_refl _,Nat.le_refl _,.inl rfl⟩;rcases JK r4 r1 b3 q3 with er | ⟨x,y,_,_,_,er,er1,er2⟩
   ·rw [er] at e1;cases e1
   rcases JK c4 c1 b1 q2 with ec | ⟨u,v,_,_,_,ec,ec1,ec2⟩
   ·rw [ec] at e2;cases e2
   rw [er,ec] at e3 e4 ⊢;have a2:Bq {n.ref with row:=AK s.rows x,col:=AK s.cols u} {n.to with row:=AK s.rows y,col:=AK s.cols v}=true:=by
    simp only [Bq,Bool.and_eq_true,decide_eq_true_eq];exact ⟨⟨q1,ec2⟩,er2⟩
   simp only [Ar,Fb,A6,a1,e3,e4,a2,h4,h5];simp
  ·exact hd
def Tr.mv (f:Ag→Ag):{b:Bool}→Tr b→Tr b
 | _,.leaf n=>.leaf (f n)
 | _,.neg a=>.neg (a.mv f)
 | _,.two k a b=>.two k (a.mv f) (b.mv f)
 | _,.call x ks=>.call x (ks.mv f)
 | _,.nil=>.nil
 | _,.snoc ks a=>.snoc (ks.mv f) (a.mv f)
structure RO (f:Ag→Ag):Prop where
 inner:∀n:Ag,7≤n.kind→f n=n
 leaf:∀n:Ag,1≤n.kind→n.kind≤6→n.kids=[]→Ar n=true→1≤(f n).kind∧(f n).kind≤6∧(f n).kids=[]∧Ar (f n)=true∧(f n=n∨(f n).num=0)
theorem UW {n:Ag} {k:An} (h:k∈Ct n):k.num=n.num∨k.num=0:=by
 unfold Ct at h
 repeat' split at h
 all_goals simp only [List.mem_cons,List.not_mem_nil,or_false] at h
 all_goals first | (subst h;first | exact .inl rfl | exact .inr rfl) | (rcases h with rfl | rfl | rfl<;>exact .inr rfl)
theorem Ge (f:Ag→Ag):∀{b:Bool} (t:Tr b),(t.mv f).cnt=t.cnt
 | _,.leaf _=>rfl
 | _,.neg a=>by simp only [Tr.mv,Tr.cnt,Ge f a]
 | _,.two _ a b=>by simp only [Tr.mv,Tr.cnt,Ge f a,Ge f b]
 | _,.call _ ks=>by simp only [Tr.mv,Tr.cnt,Ge f ks]
 | _,.nil=>rfl
 | _,.snoc ks a=>by simp only [Tr.mv,Tr.cnt,Ge f ks,Ge f a]
theorem S1 (f:Ag→Ag) (o:Nat):∀{b:Bool} (t:Tr b),(t.mv f).kids o=t.kids o
 | _,.leaf _=>rfl
 | _,.neg _=>rfl
 | _,.two _ _ _=>rfl
 | _,.call _ _=>rfl
 | _,.nil=>rfl
 | _,.snoc ks a=>by simp only [Tr.mv,Tr.kids,S1 f o ks,Ge]
theorem GM {f:Ag→Ag} (h:RO f):∀{b:Bool} (t:Tr b) (o:Nat),t.Fit→(t.mv f).flat o=(t.flat o).map f
 | _,.leaf _,_,_=>rfl
 | _,.neg a,o,hf=>by simp only [Tr.mv,Tr.flat,GM h a o hf,Ge,List.map_append,List.map_cons,List.map_nil];rw [h.inner _ (by show (7:Int)≤8;omega)]
 | _,.two k a b,o,hf=>by
  simp only [Tr.mv,Tr.flat,GM h a o hf.2.2.1,GM h b (o+a.cnt) hf.2.2.2,Ge,List.map_append,List.map_cons,List.map_nil]
  rw [h.inner _ (by have:=hf.1;show 7≤k;omega)]
 | _,.call x ks,o,hf=>by simp only [Tr.mv,Tr.flat,GM h ks o hf.2,S1,List.map_append,List.map_cons,List.map_nil];rw [h.inner _ (by show (7:Int)≤7;omega)]
 | _,.nil,_,_=>rfl
 | _,.snoc ks a,o,hf=>by simp only [Tr.mv,Tr.flat,GM h ks o hf.1,GM h a (o+ks.cnt) hf.2,Ge,List.map_append]
theorem IH {f:Ag→Ag} (h:RO f):∀{b:Bool} (t:Tr b),t.Fit→(t.mv f).Fit
 | _,.leaf n,hf=>by
  obtain ⟨a,b,c,d,_⟩:=h.leaf n hf.1 hf.2.1 hf.2.2.1 hf.2.2.2
  exact ⟨a,b,c,d⟩
 | _,.neg a,hf=>IH h a hf
 | _,.two k a b,hf=>⟨hf.1,hf.2.1,IH h a hf.2.2.1,IH h b hf.2.2.2⟩
 | _,.call x ks,hf=>⟨hf.1,IH h ks hf.2⟩
 | _,.nil,_=>trivial
 | _,.snoc ks a,hf=>⟨IH h ks hf.1,IH h a hf.2⟩
theorem H3 {f:Ag→Ag} (h:RO f):∀{b:Bool} (t:Tr b),t.Fit→t.Num→(t.mv f).Num
 | _,.leaf n,hf,hn=>λk hk=>by
  obtain ⟨_,_,_,_,e⟩:=h.leaf n hf.1 hf.2.1 hf.2.2.1 hf.2.2.2;have hk':k∈Ct (f n):=hk;rcases e with e | e
  ·rw [e] at hk';exact hn k hk'
  ·rcases UW hk' with h1 | h1<;>omega
 | _,.neg a,hf,hn=>S4 (H3 h a hf (λu hu=>hn u (by simp only [Tr.toks];exact List.mem_cons_of_mem _ (BG hu))))
 | _,.two o a b,hf,hn=>S5 (H3 h a hf.2.2.1 (λu hu=>hn u (by simp only [Tr.toks];exact List.mem_append_left _ (BG hu)))) (H3 h b hf.2.2.2 (λu hu=>hn u (by simp only [Tr.toks];exact List.mem_append_right _ (List.mem_cons_of_mem _ (BG hu)))))
 | _,.call x .nil,hf,hn=>hn
 | _,.call x (.snoc rs a),hf,hn=>PW (H3 h rs hf.2.1 (λu hu=>hn u (by simp only [Tr.toks];simp [hu]))) (H3 h a hf.2.2 (λu hu=>hn u (by simp only [Tr.toks];simp [hu])))
 | _,.nil,_,hn=>hn
 | _,.snoc rs a,hf,hn=>PZ (H3 h rs hf.1 (λu hu=>hn u (by simp only [Tr.toks];simp [hu]))) (H3 h a hf.2 (λu hu=>hn u (by simp only [Tr.toks];simp [hu])))
theorem Ki {own:List UInt8} {ss:List CB} (hss:∀s∈ss,s.May):RO (AF Eb own ss) where
 inner n hk:=by rw [AF,if_pos ⟨by omega,by omega⟩]
 leaf n h1 h2 h3 h4:=by
  unfold AF
  split
  ·exact ⟨h1,h2,h3,h4,.inl rfl⟩
  ·rename_i hk
   split
   ·exact ⟨h1,h2,h3,h4,.inl rfl⟩
   ·rename_i s e;obtain ⟨a,b,c,d,_,_,_,x⟩:=UN (hss s (Ia e).1) h4 (by omega);refine ⟨b,c,?_,a,.inr d⟩;rcases x with x | x
    ·rw [x,h3]
    ·rw [x];rfl
theorem GL {own:List UInt8} {ss:List CB} (hss:∀s∈ss,s.May) {n:Ag} (hp:Ar n=true):(AF Eb own ss n).text.length≤n.text.length∧(AF Eb own ss n).ref.sheet.length≤n.ref.sheet.length∧(AF Eb own ss n).to.sheet.length≤n.to.sheet.length∧(AF Eb own ss n).kids.length≤n.kids.length:=by
 unfold AF
 split
 ·exact ⟨Nat.le_refl _,Nat.le_refl _,Nat.le_refl _,Nat.le_refl _⟩
 ·split
  ·exact ⟨Nat.le_refl _,Nat.le_refl _,Nat.le_refl _,Nat.le_refl _⟩
  ·rename_i s e;obtain ⟨a,b,c,d,d2,h1,h2,x⟩:=UN (hss s (Ia e).1) hp (by omega);refine ⟨by rw [d2];simp,h1,h2,?_⟩;rcases x with x | x
   ·rw [x];exact Nat.le_refl _
   ·rw [x];simp [B4]
theorem Ey:∀{b:Bool} (t:Tr b) (o:Nat),t.Fit→∀n∈t.flat o,Ar n=true
 | _,.leaf m,o,hf,n,hn=>by
  simp only [Tr.flat,List.mem_singleton] at hn;subst hn
  exact hf.2.2.2
 | _,.neg a,o,hf,n,hn=>by
  simp only [Tr.flat,List.mem_append,List.mem_singleton] at hn;rcases hn with hn | rfl
  ·exact Ey a o hf n hn
  ·exact rfl
 | _,.two k a b,o,hf,n,hn=>by
  simp only [Tr.flat,List.mem_append,List.mem_singleton] at hn;rcases hn with (hn | hn) | rfl
  ·exact Ey a o hf.2.2.1 n hn
  ·exact Ey b _ hf.2.2.2 n hn
  ·exact (Nk hf.1 hf.2.1 _ _).2
 | _,.call x ks,o,hf,n,hn=>by
  simp only [Tr.flat,List.mem_append,List.mem_singleton] at hn;rcases hn with hn | rfl
  ·exact Ey ks o hf.2 n hn
  ·exact (HU hf.1 _).2
 | _,.nil,_,_,n,hn=>by simp [Tr.flat] at hn
 | _,.snoc ks a,o,hf,n,hn=>by
  simp only [Tr.flat,List.mem_append] at hn;rcases hn with hn | hn
  ·exact Ey ks o hf.1 n hn
  ·exact Ey a _ hf.2 n hn
theorem GZ {l:List Ag} (h:BL l=true):∀n∈l,Ar n=true:=by
 obtain ⟨t,rfl,hf⟩:=Iw h;exact Ey t 0 hf
theorem M3 {own:List UInt8} {ss:List CB} (hss:∀s∈ss,s.May) {t:Tr false} (hf:t.Fit):BI Eb own ss (t.flat 0)=(t.mv (AF Eb own ss)).flat 0∧(t.mv (AF Eb own ss)).Fit:=
 ⟨by rw [BI,if_pos (t.tree hf),GM (Ki hss) t 0 hf],IH (Ki hss) t hf⟩
theorem T8:Iz []:=Vf (by simp)
theorem PT {own:List UInt8} {ss:List CB} (hss:∀s∈ss,s.May) {l:List Ag} (hsh:D5 l) (hno:Iz l) (N:Nat) (hk:∀n∈l,n.kids.length≤N) :
  D5 (BI Eb own ss l)∧Iz (BI Eb own ss l)∧(∀n∈BI Eb own ss l,n.kids.length≤N)∧(BI Eb own ss l).length≤l.length:=by
 by_cases ht:BL l=true
 ·obtain ⟨t,rfl,hf⟩:=Iw ht;have hp:=GZ ht;obtain ⟨e,a0⟩:=M3 (own:=own) hss hf;have hm:∀n∈BI Eb own ss (t.flat 0),∃m∈t.flat 0,n=AF Eb own ss m:=λn hn=>by
   rw [BI,if_pos ht] at hn;obtain ⟨m,h1,h2⟩:=List.mem_map.1 hn;exact ⟨m,h1,h2.symm⟩
  refine ⟨λn hn=>?_,λu hu eu=>?_,λn hn=>?_,?_⟩
  ·obtain ⟨m,h1,rfl⟩:=hm n hn;obtain ⟨a,b,c,_⟩:=GL (own:=own) hss (hp m h1);obtain ⟨d1,d2,d3⟩:=hsh m h1;exact ⟨by omega,by omega,by omega⟩
  ·have:=Tr.inj u _ hu a0 [] [] (by simpa using eu.trans e) (.inl rfl);rw [this.1];exact H3 (Ki hss) t hf (hno t hf rfl)
  ·obtain ⟨m,h1,rfl⟩:=hm n hn;obtain ⟨_,_,_,d⟩:=GL (own:=own) hss (hp m h1);have:=hk m h1;omega
  ·rw [BI,if_pos ht,List.length_map];exact Nat.le_refl _
 ·rw [BI,if_neg ht];exact ⟨λn hn=>(List.not_mem_nil hn).elim,T8,λn hn=>(List.not_mem_nil hn).elim,by simp⟩
theorem PS {own:List UInt8} {ss:List CB} (hss:∀s∈ss,s.May) (l:List Ag):BI Eb own ss l=BI Hi own ss l:=by
 unfold BI
 split
 ·rename_i ht;refine List.map_congr_left λn hn=>?_;unfold AF
  split
  ·rfl
  ·split
   ·rfl
   ·rename_i s e;exact Si (hss s (Ia e).1) (GZ ht n hn) (by omega)
 ·rfl
def X0:List UInt8:=[61,35,82,69,70,33]
noncomputable def D0 (own:List UInt8) (ss:List CB) (s:List UInt8):List UInt8:=
 if s≠[]∧Ab s 0=61∧Cv s=true then (match AH (s.drop 1) with
  | .ok l=>if 300<(61::BF (BI Eb own ss l)).length then X0 else 61::BF (BI Eb own ss l)
  | .error _=>s) else s
def KK (s:CB) (rv cv:Value):List Value:=[Aj s.sheet,rv,.int .i64 s.rows.new,cv,.int .i64 s.cols.new,.bool s.gone]
def BZ (w:World) (v:Value) (l:List CB):Prop:=
 l.length≤1000000∧(v=.slice none 0 0∧l=[]∨∃a cap,v=.slice (some a) l.length cap∧∀i s,l[i]?=some s→∃rv cv,AG w rv s.rows.to∧AG w cv s.cols.to∧∀j u,(KK s rv cv)[j]?=some u→w.cell? ((a.add (i*6)).add j)=some u)
theorem BZ.ext {w w':World} {v:Value} {l:List CB} (h:BZ w v l) (x:Ae w w'):BZ w' v l:=by
 obtain ⟨h0,h | ⟨a,cap,e,h⟩⟩:=h
 ·exact ⟨h0,.inl h⟩
 ·exact ⟨h0,.inr ⟨a,cap,e,λi s hi=>let ⟨rv,cv,h1,h2,hc⟩:=h i s hi;⟨rv,cv,h1.ext x,h2.ext x,λj u hj=>Aw x (hc j u hj)⟩⟩⟩
theorem BZ.slice {w:World} {v:Value} {l:List CB} (h:BZ w v l):∃p c,v=.slice p l.length c:=by
 obtain ⟨h0,⟨rfl,rfl⟩ | ⟨a,cap,e,h⟩⟩:=h
 ·exact ⟨_,_,rfl⟩
 ·exact ⟨_,_,e⟩
theorem BZ.at {w:World} {p:Option Addr} {c:Nat} {l:List CB} (h:BZ w (.slice p l.length c) l) {i:Nat} {s:CB} (hi:l[i]?=some s) :
  ∃a rp rc cp cc,p=some a∧AG w (.slice rp s.rows.to.length rc) s.rows.to∧AG w (.slice cp s.cols.to.length cc) s.cols.to∧∀j u,(KK s (.slice rp s.rows.to.length rc) (.slice cp s.cols.to.length cc))[j]?=some u→w.cell? ((a.add (i*6)).add j)=some u:=by
 obtain ⟨h0,⟨e,e2⟩ | ⟨a,cap,e,h⟩⟩:=h
 ·rw [e2] at hi;simp at hi
 ·simp only [Value.slice.injEq] at e;obtain ⟨rv,cv,h1,h2,hc⟩:=h i s hi;obtain ⟨rp,rc,rfl⟩:=h1.slice;obtain ⟨cp,cc,rfl⟩:=h2.slice;exact ⟨a,rp,rc,cp,cc,e.1,h1,h2,hc⟩
def Mi (ss:List CB) (x:List UInt8):Option Nat:=ss.findIdx? (λs=>decide (s.sheet=x))
theorem Gn {ss:List CB} {x:List UInt8}:Hx ss x=(Mi ss x).bind (ss[·]?):=by
 unfold Hx Mi
 induction ss with
 | nil=>rfl
 | cons s r ih=>
  rw [List.find?_cons,List.findIdx?_cons];by_cases h:s.sheet=x
  ·simp [h]
  ·simp only [h,decide_false,Bool.false_eq_true,if_false];rw [ih];cases List.findIdx? (λs=>decide (s.sheet=x)) r<;>simp
theorem NH {ss:List CB} {x:List UInt8} (h:∀i s,i<ss.length→ss[i]?=some s→s.sheet≠x):Mi ss x=none:=by
 unfold Mi;rw [List.findIdx?_eq_none_iff];intro s hs;obtain ⟨i,hi,rfl⟩:=List.getElem_of_mem hs;have:=h i _ hi (List.getElem?_eq_getElem hi)
 simpa using this
theorem Kd {ss:List CB} {x:List UInt8} {k:Nat} {s:CB} (hk:ss[k]?=some s) (hs:s.sheet=x) (h:∀i u,i<k→ss[i]?=some u→u.sheet≠x):Mi ss x=some k:=by
 unfold Mi;rw [List.findIdx?_eq_some_iff_getElem];obtain ⟨a0,e⟩:=List.getElem?_eq_some_iff.1 hk;refine ⟨a0,by rw [e];simpa using hs,λj hj=>?_⟩;have:=h j _ hj (List.getElem?_eq_getElem (by omega))
 simpa using this
theorem RF (s:CB) (rp cp:Option Addr) (rl rc cl cc A:Nat) (x:List UInt8) (w:World) (hA:Blk w A [Aj x] 9):AA Tryz.prog 189 [.agg ⟨KK s (.slice rp rl rc) (.slice cp cl cc)⟩,.pointer (some ⟨A,0,none⟩)] w (λv w'=>v=.bool (decide (s.sheet=x))∧Ae w w'):=by
 refine AL Tryz.func189 Tryz.ntmps189 ?_;refine Sa ?_;refine CZ λX w1 a1 a0 hX=>?_;replace hX:Blk w1 X (KK s (.slice rp rl rc) (.slice cp cl cc)) 73:=hX;replace hA:=hA.ext a0;refine Sa ?_;exact QW.body1 Tryz.results189 rfl ⟨by simp,a0⟩
theorem Jq (ss:List CB) (sv:Value) (A:Nat) (x:List UInt8) (w:World) (h:BZ w sv ss) (hA:Blk w A [Aj x] 9):AA Tryz.prog 188 [sv,.func (.func 189) ⟨[]⟩ ⟨[.pointer (some ⟨A,0,none⟩)]⟩] w (λv w'=>v=.int .i64 (match Mi ss x with | some i=>(i:Int) | none=>-1)∧Ae w w'):=by
 obtain ⟨p,c,rfl⟩:=h.slice;have hl:=h.1;refine AL Tryz.func188 Tryz.ntmps188 ?_;refine Sa ?_;refine CW.loop (ι:=Nat) (λk w'=>k≤ss.length∧Ae w w'∧∀i u,i<k→ss[i]?=some u→u.sheet≠x) (λk=>[(0,.slice p ss.length c),(1,.func (.func 189) ⟨[]⟩ ⟨[.pointer (some ⟨A,0,none⟩)]⟩),(7,.int .i64 ss.length),(8,.int .i64 k)]) (λk=>ss.length - k) 0 ⟨by omega,Chg.refl _ _,λi u h=>by omega⟩ BN ?_;rintro k w1 ⟨hk,hx,a2⟩;replace h:=h.ext hx;replace hA:=hA.ext hx;refine Sa ?_;refine Am (λh2=>?_) λh2=>?_
 ·have h2:k<ss.length:=by simp at h2;omega
  obtain ⟨s,hs⟩:∃s,ss[k]?=some s:=⟨_,List.getElem?_eq_getElem h2⟩;obtain ⟨a,rp,rc,cp,cc,rfl,hr,hc,a1⟩:=h.at hs;have a0:∀j u,(KK s (.slice rp s.rows.to.length rc) (.slice cp s.cols.to.length cc))[j]?=some u→w1.cell? ((a.add (((k:Nat):Int).toNat*6)).add j)=some u:=λj u hj=>by rw [show ((k:Nat):Int).toNat=k by omega];exact a1 j u hj
  refine Sa ?_;refine Lo ?_;refine LW.load_cells rfl a0 rfl rfl rfl rfl ?_;refine Sa ?_;refine LW.call (fs:=[]) (cs:=[.pointer (some ⟨A,0,none⟩)]) rfl rfl rfl (RF s _ _ _ _ _ _ A x w1 hA) ?_;rintro v w2 ⟨rfl,a3⟩;refine Sa ?_;refine Am (λh3=>?_) λh3=>?_
  ·have h3:s.sheet=x:=by simpa using h3
   refine Sa ?_;exact QW.body1 Tryz.results188 rfl ⟨by rw [Kd hs h3 a2],hx.trans a3⟩
  ·have h3:s.sheet≠x:=by simpa using h3
   refine Sa ?_;refine QW.again (k+1) ⟨by omega,hx.trans a3,λi u hi hu=>?_⟩ BN (by omega);rcases Nat.lt_or_ge i k with h4 | h4
   ·exact a2 i u h4 hu
   ·obtain rfl:i=k:=by omega
    rw [hs] at hu;obtain rfl:=Option.some.inj hu;exact h3
 ·have h2:k=ss.length:=by simp at h2;omega
  subst h2;refine Sa ?_;refine QW.body1 Tryz.results188 rfl ⟨?_,hx⟩;rw [NH (λi s hi hs=>a2 i s hi hs)]
def Yh (w:World) (o:Option CB) (v:Value):Prop:=match o with
 | none=>∃cs,v=.tuple #[.agg ⟨cs⟩,.bool false]∧cs=KK ⟨[],⟨[],0⟩,⟨[],0⟩,false⟩ (.slice none 0 0) (.slice none 0 0)
 | some s=>∃rp rc cp cc,v=.tuple #[.agg ⟨KK s (.slice rp s.rows.to.length rc) (.slice cp s.cols.to.length cc)⟩,.bool true]∧AG w (.slice rp s.rows.to.length rc) s.rows.to∧AG w (.slice cp s.cols.to.length cc) s.cols.to
theorem Ue (own:List UInt8) (ss:List CB) (sv:Value) (x:List UInt8) (w:World) (h:BZ w sv ss):AA Tryz.prog 140 [.agg ⟨[Aj own,sv]⟩,Aj x] w (λv w'=>Yh w' (Hx ss (if x=[] then own else x)) v∧Ae w w'):=by
 obtain ⟨p,c,rfl⟩:=h.slice;have hl:=h.1;refine AL Tryz.func140 Tryz.ntmps140 ?_;refine Sa ?_;refine CZ λM w1 ah ad hM=>?_;replace hM:Blk w1 M [Aj own,.slice p ss.length c] 137:=hM;have ai:=ad.size;have ae:=hM.lt;refine Sa ?_;refine CZ λA w2 aj a9 hA=>?_;replace hA:Blk w2 A [Aj x] 9:=hA;have af:=hA.lt;replace hM:=hM.ext a9;have ak:=a9.size;refine Sa ?_;refine BP λR w3 al a8 hR=>?_;replace hM:=hM.ext a8;replace hA:=hA.ext a8;have am:=a8.size;have a6:=(ad.trans a9).trans a8;have ag:=hR.lt;refine Sa ?_;refine Am (λb1=>?_) λb1=>?_
 ·have b1:x=[]:=by simpa using b1
  refine Sa ?_;refine BS λw4 aa hA=>?_;replace hA:Blk w4 A [Aj own] 9:=hA;replace hM:=hM.chg aa (by simp;omega);replace hR:=hR.chg aa (by simp;omega);have a7:Ae w w4:=a6.step aa (by simp;omega);rw [if_pos b1];have ab:=h.ext a7;refine Sa ?_;refine Ap rfl rfl (Jq ss _ A _ _ ab hA) ?_;rintro v w5 ⟨rfl,a3⟩;replace hM:=hM.ext a3;replace hR:=hR.ext a3;have a0:=a7.trans a3;rw [Gn];refine Sa ?_
  cases hi:Mi ss _ with
  | none=>
   refine Sa ?_;refine AM λw6 a4 hR=>?_;refine Sa ?_
   exact QW.body_ct Tryz.results140 rfl hR rfl rfl rfl rfl ⟨⟨_,rfl,rfl⟩,a0.step a4 (by simp;omega)⟩
  | some i=>
   have ac:i<ss.length:=by
    unfold Mi at hi;exact (List.findIdx?_eq_some_iff_getElem.1 hi).1
   obtain ⟨s,hs⟩:∃s,ss[i]?=some s:=⟨_,List.getElem?_eq_getElem ac⟩;obtain ⟨a,rp,rc,cp,cc,rfl,hr,hc,a2⟩:=h.at hs;have a1:∀j u,(KK s (.slice rp s.rows.to.length rc) (.slice cp s.cols.to.length cc))[j]?=some u→w5.cell? ((a.add (((i:Nat):Int).toNat*6)).add j)=some u:=λj u hj=>by rw [show ((i:Nat):Int).toNat=i by omega];exact Aw a0 (a2 j u hj)
   simp only [Option.bind_some,hs];refine Sa ?_;refine LW.know (t:=16) (c:=false) rfl (decide_eq_false (by omega)) ?_;refine Sa ?_;refine Lo ?_;refine LW.load_cells rfl a1 rfl rfl rfl rfl ?_;refine Sa ?_;refine AM λw6 a4 hR=>?_;have a5:=a0.step a4 (by simp;omega);refine Sa ?_;exact QW.body_ct Tryz.results140 rfl hR rfl rfl rfl rfl ⟨⟨rp,rc,cp,cc,rfl,hr.ext a5,hc.ext a5⟩,a5⟩
 ·have b1:¬x=[]:=by simpa using b1
  have a7:=a6;rw [if_neg b1];have ab:=h.ext a7;refine Sa ?_;refine Ap rfl rfl (Jq ss _ A _ _ ab hA) ?_;rintro v w5 ⟨rfl,a3⟩;replace hM:=hM.ext a3;replace hR:=hR.ext a3;have a0:=a7.trans a3;rw [Gn];refine Sa ?_
  cases hi:Mi ss _ with
  | none=>
   refine Sa ?_;refine AM λw6 a4 hR=>?_;refine Sa ?_
   exact QW.body_ct Tryz.results140 rfl hR rfl rfl rfl rfl ⟨⟨_,rfl,rfl⟩,a0.step a4 (by simp;omega)⟩
  | some i=>
   have ac:i<ss.length:=by
    unfold Mi at hi;exact (List.findIdx?_eq_some_iff_getElem.1 hi).1
   obtain ⟨s,hs⟩:∃s,ss[i]?=some s:=⟨_,List.getElem?_eq_getElem ac⟩;obtain ⟨a,rp,rc,cp,cc,rfl,hr,hc,a2⟩:=h.at hs;have a1:∀j u,(KK s (.slice rp s.rows.to.length rc) (.slice cp s.cols.to.length cc))[j]?=some u→w5.cell? ((a.add (((i:Nat):Int).toNat*6)).add j)=some u:=λj u hj=>by rw [show ((i:Nat):Int).toNat=i by omega];exact Aw a0 (a2 j u hj)
   simp only [Option.bind_some,hs];refine Sa ?_;refine LW.know (t:=16) (c:=false) rfl (decide_eq_false (by omega)) ?_;refine Sa ?_;refine Lo ?_;refine LW.load_cells rfl a1 rfl rfl rfl rfl ?_;refine Sa ?_;refine AM λw6 a4 hR=>?_;have a5:=a0.step a4 (by simp;omega);refine Sa ?_;exact QW.body_ct Tryz.results140 rfl hR rfl rfl rfl rfl ⟨⟨rp,rc,cp,cc,rfl,hr.ext a5,hc.ext a5⟩,a5⟩
def XP (n m:Ag) (kv v:Value):Prop:=∃kv',v=.agg ⟨Br ⟨m,kv'⟩⟩∧(kv'=kv∧m.kids=n.kids∨kv'=.slice none 0 0∧m.kids=[])
theorem Ve {go:CB→Ag→Ag} {own:List UInt8} {ss:List CB} {n:Ag} (h5:n.kind≠5) (h6:n.kind≠6):AF go own ss n=n:=by rw [AF,if_pos ⟨h5,h6⟩]
theorem VW {go:CB→Ag→Ag} {own:List UInt8} {ss:List CB} {n:Ag} (h:n.kind=5∨n.kind=6):AF go own ss n=match Hx ss (Nt own n) with | none=>n | some s=>go s n:=by
 unfold AF;(rw [if_neg (by omega)])<;>cases Hx ss (Nt own n)<;>rfl
theorem Nb {n:Ag} (hp:Ar n=true) (h:n.kind=5∨n.kind=6):n.ref.row≤998∧n.ref.col≤701∧(C9 n).row≤998∧(C9 n).col≤701:=by
 rcases h with h | h
 ·obtain ⟨h1,_⟩:=Il hp h;obtain ⟨b1,b2,b3,b4,_⟩:=Dk h1;rw [C9,if_pos h];exact ⟨b4,b2,b4,b2⟩
 ·obtain ⟨h1,h2,_⟩:=FS hp h;obtain ⟨b1,b2,b3,b4,_⟩:=Dk h1;obtain ⟨c1,c2,c3,c4,_⟩:=Dk h2;rw [C9,if_neg (by omega)];exact ⟨b4,b2,c4,c2⟩
set_option maxHeartbeats 2000000 in
theorem Vd (own:List UInt8) (ss:List CB) (sv:Value) (n:Ag) (kp:Option Addr) (kl kc:Nat) (w:World) (h:BZ w sv ss) (hss:∀s∈ss,s.Fine) (hp:Ar n=true):AA Tryz.prog 97 [.agg ⟨[Aj own,sv]⟩,.agg ⟨Br ⟨n,.slice kp kl kc⟩⟩] w (λv w'=>XP n (AF Eb own ss n) (.slice kp kl kc) v∧Ae w w'):=by
 obtain ⟨p,c,rfl⟩:=h.slice;have hl:=h.1;refine AL Tryz.func97 Tryz.ntmps97 ?_;refine Sa ?_;refine CZ λM w1 bh b2 hM=>?_;replace hM:Blk w1 M [Aj own,.slice p ss.length c] 137:=hM;have bi:=b2.size;refine Sa ?_;refine CZ λN w2 bj ay hN=>?_;replace hN:Blk w2 N (Br ⟨n,.slice kp kl kc⟩) 139:=hN;have b3:=hN.lt;replace hM:=hM.ext ay;have bk:=ay.size;refine Sa ?_;refine BP λR w3 bl aq hR=>?_;replace hM:=hM.ext aq;replace hN:=hN.ext aq;have bm:=aq.size;have af:=(b2.trans ay).trans aq;have b4:=hR.lt;apply LW.nil;apply QW.then_n;refine CW.seq_cut (ι:=Unit) (λ_ w'=>w'=w3∧(n.kind=5∨n.kind=6)) (λ_=>[(2,.pointer (some ⟨M,0,none⟩)),(3,.pointer (some ⟨N,0,none⟩)),(4,.pointer (some ⟨R,0,none⟩))]) ?_ ?_
 ·refine Sa ?_;by_cases h5:n.kind=5;rotate_left
  ·refine LW.know (t:=17) (c:=true) rfl (by simp [h5]) ?_;refine Sa ?_;refine Am (λh6=>?_) λh6=>?_
   ·have h6:n.kind≠6:=by simpa using h6
    rw [Ve h5 h6];refine Sa ?_;refine AM λw4 b5 hR=>?_;replace hR:Blk w4 R (Br ⟨n,.slice kp kl kc⟩) 139:=hR;refine Sa ?_;exact QW.body_c Tryz.results97 rfl hR rfl rfl rfl ⟨⟨_,rfl,.inl ⟨rfl,rfl⟩⟩,af.step b5 (by simp;omega)⟩
   have h6:n.kind=6:=by simpa using h6
   refine Sa ?_;exact QW.head () ⟨rfl,.inr h6⟩ Bh
  refine LW.know (t:=17) (c:=false) rfl (by simp [h5]) ?_;refine Sa ?_;exact QW.head () ⟨rfl,.inl h5⟩ Bh
 rintro ⟨⟩ w3 ⟨rfl,hk⟩;show CW _ _ _ _ _ [(2,.pointer (some ⟨M,0,none⟩)),(3,.pointer (some ⟨N,0,none⟩)),(4,.pointer (some ⟨R,0,none⟩))] _;rw [VW hk];obtain ⟨s1,s2,s3,s4⟩:=Nb hp hk;refine Sa ?_;refine Ap rfl rfl (Ue own ss _ n.ref.sheet w3 (h.ext af)) ?_;rintro v w4 ⟨hv,au⟩;replace hN:=hN.ext au;replace hR:=hR.ext au;have bn:=au.size;have ag:=af.trans au;have b6:(if n.ref.sheet=[] then own else n.ref.sheet)=Nt own n:=rfl;rw [b6] at hv
 cases hf:Hx ss (Nt own n) with
 | none=>
  rw [hf] at hv;obtain ⟨cs,rfl,rfl⟩:=hv;refine Sa ?_;refine BP λS w5 b7 ad hS=>?_;replace hN:=hN.ext ad;replace hR:=hR.ext ad;have b8:=ad.size;have al:=ag.trans ad;refine Sa ?_;refine AM λw6 ah hS=>?_;replace hN:=hN.chg ah (by simp;omega);replace hR:=hR.chg ah (by simp;omega);have a2:=al.step ah (by simp;omega);refine Sa ?_;refine AM λw7 b9 hR=>?_;replace hR:Blk w7 R (Br ⟨n,.slice kp kl kc⟩) 139:=hR;refine Sa ?_
  exact QW.body_c Tryz.results97 rfl hR rfl rfl rfl ⟨⟨_,rfl,.inl ⟨rfl,rfl⟩⟩,a2.step b9 (by simp;omega)⟩
 | some s=>
  rw [hf] at hv;obtain ⟨rp,rc,cp,cc,rfl,hr,hc⟩:=hv;have av:=hss s (Ia hf).1;refine Sa ?_;refine BP λS w5 b7 ad hS=>?_;replace hN:=hN.ext ad;replace hR:=hR.ext ad;have b8:=ad.size;have al:=ag.trans ad;refine Sa ?_;refine AM λw6 ah hS=>?_;replace hS:Blk w6 S (KK s (.slice rp s.rows.to.length rc) (.slice cp s.cols.to.length cc)) 73:=hS;replace hN:=hN.chg ah (by simp;omega);replace hR:=hR.chg ah (by simp;omega);have ai:Ae w4 w6:=ad.step ah (by simp;omega);replace hr:=hr.ext ai;replace hc:=hc.ext ai;have a2:=ag.trans ai;have bo:=a2.size;have ba:=hS.lt;refine Sa ?_
  cases hg:s.gone with
  | true=>
   have eg:Eb s n=B4:=by rw [Eb,if_pos hg]
   simp only [eg];have a5:=a2;refine Sa ?_;refine AM λw9 a1 hR=>?_;replace hR:Blk w9 R (Br ⟨B4,.slice none 0 0⟩) 139:=hR;refine Sa ?_
   exact QW.body_c Tryz.results97 rfl hR rfl rfl rfl ⟨⟨_,rfl,.inr ⟨rfl,rfl⟩⟩,a5.step a1 (by simp;omega)⟩
  | false=>
   have eg:Eb s n=if Dz s n then B4 else KO s n:=by rw [Eb,if_neg (by rw [hg];simp)]
   simp only [eg];refine Sa ?_;refine LW.load_agg (cs:=AQ n.to) rfl hN rfl rfl rfl ⟨rfl,rfl,rfl,rfl,rfl,trivial⟩ rfl ?_;refine Sa ?_;refine BP λL w7 bp am hL=>?_;replace hN:=hN.ext am;replace hR:=hR.ext am;replace hS:=hS.ext am;have az:=a2.trans am;have bq:=az.size;refine Sa ?_;refine AM λw8 aw hL=>?_;replace hL:Blk w8 L [Aj n.to.sheet,.int .i64 n.to.col,.int .i64 n.to.row,.bool n.to.ac,.bool n.to.ar] 113:=hL;have aj:Ae w6 w8:=am.step aw (by simp;omega);have an:=a2.trans aj;replace hN:=hN.chg aw (by simp;omega);replace hR:=hR.chg aw (by simp;omega);replace hS:=hS.chg aw (by simp;omega);have br:=an.size;have bb:=hL.lt;rcases hP:Bl s.rows n.ref.row (C9 n).row with ⟨x1,x2,x3⟩;rcases hQ:Bl s.cols n.ref.col (C9 n).col with ⟨y1,y2,y3⟩;have ae:Dz s n↔(x3=false∨y3=false∨998<x2∨701<y2):=by unfold Dz;rw [hP,hQ]
   have ax:KO s n={n with ref:={n.ref with row:=x1,col:=y1},to:=if n.kind=6 then {n.to with row:=x2,col:=y2} else n.to}:=by unfold KO;rw [hP,hQ]
   refine Sa ?_;by_cases k5:n.kind=5
   ·have el:C9 n=n.ref:=by rw [C9,if_pos k5]
    refine CW.yes rfl (decide_eq_true k5) ?_;refine Sa ?_;refine LW.load_agg (cs:=AQ n.ref) rfl hN rfl rfl rfl ⟨rfl,rfl,rfl,rfl,rfl,trivial⟩ rfl ?_;refine Sa ?_;refine AM λw9 a1 hL=>?_;replace hL:Blk w9 L [Aj n.ref.sheet,.int .i64 n.ref.col,.int .i64 n.ref.row,.bool n.ref.ac,.bool n.ref.ar] 113:=hL;rw [←el] at hL;have a7:Ae w6 w9:=aj.step a1 (by simp;omega);have b0:=a2.trans a7;replace hN:=hN.chg a1 (by simp;omega);replace hR:=hR.chg a1 (by simp;omega);replace hS:=hS.chg a1 (by simp;omega);have k6:¬n.kind=6:=by omega
    rw [if_neg k6] at ax;refine Sa ?_;refine LW.load_agg (cs:=[.slice rp s.rows.to.length rc,.int .i64 s.rows.new]) rfl hS rfl rfl rfl ⟨rfl,rfl,trivial⟩ rfl ?_;refine Sa ?_;have a8:=Jb s.rows av.1 _ n.ref.row (C9 n).row (by omega) (by omega) _ ⟨_,rfl,hr.ext a7⟩;rw [hP] at a8;refine Ap rfl rfl a8 ?_;rintro v bc ⟨rfl,a0⟩;replace hN:=hN.ext a0;replace hR:=hR.ext a0;replace hS:=hS.ext a0;replace hL:=hL.ext a0;have a3:=a7.trans a0;refine Sa ?_;refine LW.load_agg (cs:=[.slice cp s.cols.to.length cc,.int .i64 s.cols.new]) rfl hS rfl rfl rfl ⟨rfl,rfl,trivial⟩ rfl ?_;refine Sa ?_;have a9:=Jb s.cols av.2 _ n.ref.col (C9 n).col (by omega) (by omega) _ ⟨_,rfl,hc.ext a3⟩;rw [hQ] at a9;refine Ap rfl rfl a9 ?_;rintro v bd ⟨rfl,a6⟩;replace hN:=hN.ext a6;replace hR:=hR.ext a6;have a5:=a2.trans (a3.trans a6);have b1:=a5.size
    cases x3 with
    | false=>
     rw [if_pos (ae.2 (.inl rfl))];refine Sa ?_;refine AM λw9 a1 hR=>?_;replace hR:Blk w9 R (Br ⟨B4,.slice none 0 0⟩) 139:=hR;refine Sa ?_
     exact QW.body_c Tryz.results97 rfl hR rfl rfl rfl ⟨⟨_,rfl,.inr ⟨rfl,rfl⟩⟩,a5.step a1 (by simp;omega)⟩
    | true=>
    cases y3 with
    | false=>
     rw [if_pos (ae.2 (.inr (.inl rfl)))];refine Sa ?_;refine AM λw9 a1 hR=>?_;replace hR:Blk w9 R (Br ⟨B4,.slice none 0 0⟩) 139:=hR;refine Sa ?_
     exact QW.body_c Tryz.results97 rfl hR rfl rfl rfl ⟨⟨_,rfl,.inr ⟨rfl,rfl⟩⟩,a5.step a1 (by simp;omega)⟩
    | true=>
    refine Sa ?_;by_cases m1:998<x2
    ·rw [if_pos (ae.2 (.inr (.inr (.inl m1))))];refine LW.know (t:=80) (c:=true) rfl (decide_eq_true m1) ?_;refine Sa ?_;refine AM λw9 a1 hR=>?_;replace hR:Blk w9 R (Br ⟨B4,.slice none 0 0⟩) 139:=hR;refine Sa ?_;exact QW.body_c Tryz.results97 rfl hR rfl rfl rfl ⟨⟨_,rfl,.inr ⟨rfl,rfl⟩⟩,a5.step a1 (by simp;omega)⟩
    refine LW.know (t:=80) (c:=false) rfl (decide_eq_false m1) ?_;refine Sa ?_;refine Am (λm2=>?_) λm2=>?_
    ·have m2:701<y2:=by simpa using m2
     rw [if_pos (ae.2 (.inr (.inr (.inr m2))))];refine Sa ?_;refine AM λw9 a1 hR=>?_;replace hR:Blk w9 R (Br ⟨B4,.slice none 0 0⟩) 139:=hR;refine Sa ?_;exact QW.body_c Tryz.results97 rfl hR rfl rfl rfl ⟨⟨_,rfl,.inr ⟨rfl,rfl⟩⟩,a5.step a1 (by simp;omega)⟩
    have m2:¬701<y2:=by simpa using m2
    rw [if_neg (by rw [ae];simp;omega),ax];refine Sa ?_;refine BS λbe aa hN=>?_;refine Sa ?_;refine BS λbf ab hN=>?_;have a4:=(a5.step aa (by simp;omega)).step ab (by simp;omega);replace hR:=(hR.chg aa (by simp;omega)).chg ab (by simp;omega);refine Sa ?_;refine CW.no rfl (decide_eq_false k6) ?_;refine Sa ?_;refine AM λbg ak hR=>?_;refine Sa ?_;exact QW.body_c Tryz.results97 rfl hR rfl rfl rfl ⟨⟨_,rfl,.inl ⟨rfl,rfl⟩⟩,a4.step ak (by simp;omega)⟩
   ·have k6:n.kind=6:=by omega
    have el:C9 n=n.to:=by rw [C9,if_neg k5]
    refine CW.no rfl (decide_eq_false k5) ?_;rw [←el] at hL;have a7:=aj;have b0:=an;rw [if_pos k6] at ax;refine Sa ?_;refine LW.load_agg (cs:=[.slice rp s.rows.to.length rc,.int .i64 s.rows.new]) rfl hS rfl rfl rfl ⟨rfl,rfl,trivial⟩ rfl ?_;refine Sa ?_;have a8:=Jb s.rows av.1 _ n.ref.row (C9 n).row (by omega) (by omega) _ ⟨_,rfl,hr.ext a7⟩;rw [hP] at a8;refine Ap rfl rfl a8 ?_;rintro v bc ⟨rfl,a0⟩;replace hN:=hN.ext a0;replace hR:=hR.ext a0;replace hS:=hS.ext a0;replace hL:=hL.ext a0;have a3:=a7.trans a0;refine Sa ?_;refine LW.load_agg (cs:=[.slice cp s.cols.to.length cc,.int .i64 s.cols.new]) rfl hS rfl rfl rfl ⟨rfl,rfl,trivial⟩ rfl ?_;refine Sa ?_;have a9:=Jb s.cols av.2 _ n.ref.col (C9 n).col (by omega) (by omega) _ ⟨_,rfl,hc.ext a3⟩;rw [hQ] at a9;refine Ap rfl rfl a9 ?_;rintro v bd ⟨rfl,a6⟩;replace hN:=hN.ext a6;replace hR:=hR.ext a6;have a5:=a2.trans (a3.trans a6);have b1:=a5.size
    cases x3 with
    | false=>
     rw [if_pos (ae.2 (.inl rfl))];refine Sa ?_;refine AM λw9 a1 hR=>?_;replace hR:Blk w9 R (Br ⟨B4,.slice none 0 0⟩) 139:=hR;refine Sa ?_
     exact QW.body_c Tryz.results97 rfl hR rfl rfl rfl ⟨⟨_,rfl,.inr ⟨rfl,rfl⟩⟩,a5.step a1 (by simp;omega)⟩
    | true=>
    cases y3 with
    | false=>
     rw [if_pos (ae.2 (.inr (.inl rfl)))];refine Sa ?_;refine AM λw9 a1 hR=>?_;replace hR:Blk w9 R (Br ⟨B4,.slice none 0 0⟩) 139:=hR;refine Sa ?_
     exact QW.body_c Tryz.results97 rfl hR rfl rfl rfl ⟨⟨_,rfl,.inr ⟨rfl,rfl⟩⟩,a5.step a1 (by simp;omega)⟩
    | true=>
    refine Sa ?_;by_cases m1:998<x2
    ·rw [if_pos (ae.2 (.inr (.inr (.inl m1))))];refine LW.know (t:=80) (c:=true) rfl (decide_eq_true m1) ?_;refine Sa ?_;refine AM λw9 a1 hR=>?_;replace hR:Blk w9 R (Br ⟨B4,.slice none 0 0⟩) 139:=hR;refine Sa ?_;exact QW.body_c Tryz.results97 rfl hR rfl rfl rfl ⟨⟨_,rfl,.inr ⟨rfl,rfl⟩⟩,a5.step a1 (by simp;omega)⟩
    refine LW.know (t:=80) (c:=false) rfl (decide_eq_false m1) ?_;refine Sa ?_;refine Am (λm2=>?_) λm2=>?_
    ·have m2:701<y2:=by simpa using m2
     rw [if_pos (ae.2 (.inr (.inr (.inr m2))))];refine Sa ?_;refine AM λw9 a1 hR=>?_;replace hR:Blk w9 R (Br ⟨B4,.slice none 0 0⟩) 139:=hR;refine Sa ?_;exact QW.body_c Tryz.results97 rfl hR rfl rfl rfl ⟨⟨_,rfl,.inr ⟨rfl,rfl⟩⟩,a5.step a1 (by simp;omega)⟩
    have m2:¬701<y2:=by simpa using m2
    rw [if_neg (by rw [ae];simp;omega),ax];refine Sa ?_;refine BS λbe aa hN=>?_;refine Sa ?_;refine BS λbf ab hN=>?_;have a4:=(a5.step aa (by simp;omega)).step ab (by simp;omega);replace hR:=(hR.chg aa (by simp;omega)).chg ab (by simp;omega);refine Sa ?_;refine CW.yes rfl (decide_eq_true k6) ?_;refine Sa ?_;refine BS λbs ao hN=>?_;refine Sa ?_;refine BS λbt ap hN=>?_;have a4:=(a4.step ao (by simp;omega)).step ap (by simp;omega);replace hR:=(hR.chg ao (by simp;omega)).chg ap (by simp;omega);refine Sa ?_;refine AM λbg ak hR=>?_;refine Sa ?_;exact QW.body_c Tryz.results97 rfl hR rfl rfl rfl ⟨⟨_,rfl,.inl ⟨rfl,rfl⟩⟩,a4.step ak (by simp;omega)⟩
set_option maxHeartbeats 1000000 in
theorem NZ (m:CQ) (hm:M1 m=true) (vs:List Value) (lo hi:Int) (hlo:lo≤1000000000) (hhi:hi≤1000000000) (w:World) (h:QU w vs m):AA Tryz.prog 147 [.agg ⟨vs⟩,.int .i64 lo,.int .i64 hi] w (λv w'=>v=.tuple #[.int .i64 (Bl m lo hi).1,.int .i64 (Bl m lo hi).2.1,.bool (Bl m lo hi).2.2]∧Ae w w'):=by
 have hR:=h;obtain ⟨tv,rfl,ht⟩:=h;obtain ⟨p,c,rfl⟩:=ht.slice;have ae:=Gu hm;obtain ⟨n0,n1,n2,a6⟩:=Ez hm;refine AL Tryz.func147 Tryz.ntmps147 ?_;refine Sa ?_;refine CZ λA w1 aq ag hA=>?_;replace hA:Blk w1 A [.slice p m.to.length c,.int .i64 m.new] 71:=hA;refine Sa ?_;by_cases a1:lo<0
 ·refine LW.know (t:=13) (c:=true) rfl (decide_eq_true a1) ?_;refine Sa ?_;exact QW.body3 Tryz.results147 rfl rfl rfl ⟨by rw [Bl,if_pos (.inl a1)],ag⟩
 refine LW.know (t:=13) (c:=false) rfl (decide_eq_false a1) ?_;refine Sa ?_;refine Am (λa2=>?_) λa2=>?_
 ·have a2:hi<lo:=by simpa using a2
  refine Sa ?_;exact QW.body3 Tryz.results147 rfl rfl rfl ⟨by rw [Bl,if_pos (.inr a2)],ag⟩
 have a2:¬hi<lo:=by simpa using a2
 obtain ⟨L,rfl⟩:=Int.eq_ofNat_of_zero_le (show 0≤lo by omega);obtain ⟨H,rfl⟩:=Int.eq_ofNat_of_zero_le (show 0≤hi by omega);refine Su ?_;refine CW.cutB (ι:=Nat) (λa w'=>L≤a∧a≤H+1∧Ae w w'∧Ae w1 w'∧(∀j,L≤j→j<a→j<m.to.length∧m.to.getD j 0<0)∧(a≤H→a<m.to.length→0≤m.to.getD a 0)) (λa=>[(2,.int .i64 (H:Int)),(3,.pointer (some ⟨A,0,none⟩)),(9,.int .i64 (a:Int))]) ?_ ?_
 ·refine CW.loop (ι:=Nat) (λa w'=>L≤a∧a≤H+1∧Ae w w'∧Ae w1 w'∧∀j,L≤j→j<a→j<m.to.length∧m.to.getD j 0<0) (λa=>[(2,.int .i64 (H:Int)),(3,.pointer (some ⟨A,0,none⟩)),(9,.int .i64 (a:Int))]) (λa=>H+1 - a) L ⟨by omega,by omega,ag,Chg.refl _ _,λj h1 h2=>by omega⟩ Bh ?_;rintro a w2 ⟨k0,k1,a7,a3,a0⟩;have al:=hA.ext a3;have aj:=ht.ext a7;refine Sa ?_;by_cases b1:(a:Int)≤(H:Int);rotate_left
  ·refine LW.know (t:=22) (c:=false) rfl (decide_eq_false b1) ?_;have a5:a≤H→a<m.to.length→0≤m.to.getD a 0:=λh1=>by omega
   refine Su ?_;exact QW.head a ⟨k0,k1,a7,a3,a0,a5⟩ Bh
  refine LW.know (t:=22) (c:=true) rfl (decide_eq_true b1) ?_;refine Sa ?_;by_cases b2:(a:Int)<(m.to.length:Int);rotate_left
  ·refine LW.know (t:=29) (c:=false) rfl (decide_eq_false b2) ?_;have a5:a≤H→a<m.to.length→0≤m.to.getD a 0:=λh1 h2=>by omega
   refine Su ?_;exact QW.head a ⟨k0,k1,a7,a3,a0,a5⟩ Bh
  refine LW.know (t:=29) (c:=true) rfl (decide_eq_true b2) ?_;obtain ⟨aa,rfl,hc⟩:=aj.at (i:=a) (by omega);have ah:w2.cell? (aa.add (((a:Nat):Int).toNat*1))=some (.int .i64 (m.to.getD a 0)):=by
   rw [show ((a:Nat):Int).toNat*1=a by omega];exact hc
  refine Sa ?_;refine Lo ?_
  first | refine Lp ah ?_ | (refine Lb ?_;refine Lp ah ?_)
  refine Sa ?_;by_cases b3:m.to.getD a 0<0;rotate_left
  ·refine CW.no rfl (decide_eq_false b3) ?_;have a5:a≤H→a<m.to.length→0≤m.to.getD a 0:=λh1 h2=>by omega
   clear hc ah;refine Su ?_;exact QW.head a ⟨k0,k1,a7,a3,a0,a5⟩ Bh
  refine CW.yes rfl (decide_eq_true b3) ?_;refine Sa ?_;refine QW.again (a+1) ⟨by omega,by omega,a7,a3,λj h1 h2=>?_⟩ Bh (by omega);rcases Nat.lt_or_ge j a with h3 | h3
  ·exact a0 j h1 h3
  ·obtain rfl:j=a:=by omega
   exact ⟨by omega,b3⟩
 rintro a w2 ⟨k0,k1,a7,a3,a0,a5⟩;have aj:=ht.ext a7;have al:=hA.ext a3;refine Sa ?_;refine CW.loop (ι:=Nat) (λb w'=>b≤H∧(a≤H→a≤b)∧Ae w w'∧Ae w1 w'∧∀j,b<j→j≤H→j<m.to.length∧m.to.getD j 0<0) (λb=>[(3,.pointer (some ⟨A,0,none⟩)),(9,.int .i64 (a:Int)),(10,.int .i64 (b:Int))]) (λb=>b) H ⟨by omega,by omega,a7,a3,λj h1 h2=>by omega⟩ Bh ?_;rintro b w3 ⟨m0,m1,a9,ac,a4⟩;have ar:=hA.ext ac;have am:=ht.ext a9;have af:=hR.ext a9;refine Sa ?_;by_cases c1:(a:Int)≤(b:Int);rotate_left
 ·refine LW.know (t:=43) (c:=false) rfl (decide_eq_false (by omega)) ?_;have an:Bl m (L:Int) (H:Int)=(0,0,false):=Ku (λj h1 h2=>a0 j h1 (by omega)) (by omega);rw [an];refine Sa ?_;refine CW.yes rfl (decide_eq_true (show (b:Int)<(a:Int) by omega)) ?_;refine Sa ?_;exact QW.body3 Tryz.results147 rfl rfl rfl ⟨rfl,a9⟩
 refine LW.know (t:=43) (c:=true) rfl (decide_eq_true c1) ?_;refine Sa ?_;by_cases c2:(b:Int)<(m.to.length:Int);rotate_left
 ·refine LW.know (t:=50) (c:=false) rfl (decide_eq_false c2) ?_;have a8:Bl m (L:Int) (H:Int)=(AK m a,AK m b,true):=GY a6 n0 k0 (by omega) m0 a0 (a5 (by omega)) a4 (λh1=>by omega);rw [a8];refine Sa ?_;refine CW.no rfl (decide_eq_false (show ¬(b:Int)<(a:Int) by omega)) ?_;refine Sa ?_;refine Hk ?_;refine Sq ?_;refine QL.call0 (v:=.int .i64 (AK m a)) rfl rfl (λw' hw=>E1 m ae _ a (by omega) w' (af.ext hw)) ?_;refine Sq ?_;refine QL.call0 (v:=.int .i64 (AK m b)) rfl rfl (λw' hw=>E1 m ae _ b (by omega) w' (af.ext hw)) ?_;refine Sq ?_;refine QL.nil λw4 ai=>?_;refine Sa ?_;exact QW.body3 Tryz.results147 rfl rfl rfl ⟨rfl,a9.trans ai⟩
 refine LW.know (t:=50) (c:=true) rfl (decide_eq_true c2) ?_;obtain ⟨ab,ak,ao⟩:=am.at (i:=b) (by omega);have ad:w3.cell? (ab.add (((b:Nat):Int).toNat*1))=some (.int .i64 (m.to.getD b 0)):=by
  rw [show ((b:Nat):Int).toNat*1=b by omega];exact ao
 first | subst ak | obtain rfl:=Option.some.inj ak
 refine Sa ?_;refine Lo ?_
 first | refine Lp ad ?_ | (refine Lb ?_;refine Lp ad ?_)
 refine Sa ?_;by_cases c3:m.to.getD b 0<0;rotate_left
 ·refine CW.no rfl (decide_eq_false c3) ?_;have a8:Bl m (L:Int) (H:Int)=(AK m a,AK m b,true):=GY a6 n0 k0 (by omega) m0 a0 (a5 (by omega)) a4 (λh1=>by omega);rw [a8];refine Sa ?_;refine CW.no rfl (decide_eq_false (show ¬(b:Int)<(a:Int) by omega)) ?_;refine Sa ?_;refine Hk ?_;refine Sq ?_;refine QL.call0 (v:=.int .i64 (AK m a)) rfl rfl (λw' hw=>E1 m ae _ a (by omega) w' (af.ext hw)) ?_;refine Sq ?_;refine QL.call0 (v:=.int .i64 (AK m b)) rfl rfl (λw' hw=>E1 m ae _ b (by omega) w' (af.ext hw)) ?_;refine Sq ?_;refine QL.nil λw4 ai=>?_;refine Sa ?_;exact QW.body3 Tryz.results147 rfl rfl rfl ⟨rfl,a9.trans ai⟩
 refine CW.yes rfl (decide_eq_true c3) ?_;have au:a≠b:=λe=>by
  subst e;have:=a5 (by omega) (by omega);omega
 refine Sa ?_;have ap:((b - 1:Nat):Int)=(b:Int) - 1:=by omega
 refine QW.again (b - 1) ⟨by omega,λh1=>by omega,a9,ac,λj h1 h2=>?_⟩ (by rw [ap];exact (Ad.cons rfl (Ad.cons rfl (Ad.cons rfl (Ad.nil))))) (by omega);rcases Nat.lt_or_ge b j with h3 | h3
 ·exact a4 j h3 h2
 ·obtain rfl:j=b:=by omega
  exact ⟨by omega,c3⟩
theorem IE {x:Co} (h:AP x=true):x.sheet.length≤1000000:=by have:=FU h;omega
set_option maxHeartbeats 2000000 in
theorem NO (s:CB) (hm:s.May) (n:Ag) (hp:Ar n=true) (hk:n.kind=5∨n.kind=6) (kp:Option Addr) (kl kc:Nat) (rp cp:Option Addr) (rc cc:Nat) (w:World) (hr:AG w (.slice rp s.rows.to.length rc) s.rows.to) (hc:AG w (.slice cp s.cols.to.length cc) s.cols.to):AA Tryz.prog 105 [.agg ⟨Br ⟨n,.slice kp kl kc⟩⟩,.agg ⟨KK s (.slice rp s.rows.to.length rc) (.slice cp s.cols.to.length cc)⟩] w (λv w'=>XP n (Hi s n) (.slice kp kl kc) v∧Ae w w'):=by
 obtain ⟨s1,s2,s3,s4⟩:=Nb hp hk;have aq:=Gu hm.1;have ar:=Gu hm.2;refine AL Tryz.func105 Tryz.ntmps105 ?_;refine Sa ?_;refine CZ λN w1 b0 al hN=>?_;replace hN:Blk w1 N (Br ⟨n,.slice kp kl kc⟩) 139:=hN;have b1:=al.size;have au:=hN.lt;refine Sa ?_;refine CZ λS w2 b2 ae hS=>?_;replace hS:Blk w2 S (KK s (.slice rp s.rows.to.length rc) (.slice cp s.cols.to.length cc)) 73:=hS;replace hN:=hN.ext ae;have b3:=ae.size;have av:=hS.lt;refine Sa ?_;refine BP λR w3 b4 ad hR=>?_;replace hN:=hN.ext ad;replace hS:=hS.ext ad;have b5:=ad.size;have a3:=(al.trans ae).trans ad;have aw:=hR.lt;refine Sa ?_
 cases hg:s.gone with
 | true=>
  have eg:Hi s n=B4:=by rw [Hi,if_pos hg]
  rw [eg];have a1:=a3;refine Sa ?_;refine AM λa2 a0 hR=>?_;replace hR:Blk a2 R (Br ⟨B4,.slice none 0 0⟩) 139:=hR;refine Sa ?_
  exact QW.body_c Tryz.results105 rfl hR rfl rfl rfl ⟨⟨_,rfl,.inr ⟨rfl,rfl⟩⟩,a1.step a0 (by simp;omega)⟩
 | false=>
 refine Sa ?_;by_cases k5:n.kind=5
 ·have eg:Hi s n=if AP {n.ref with row:=AK s.rows n.ref.row,col:=AK s.cols n.ref.col}=true then {n with ref:={n.ref with row:=AK s.rows n.ref.row,col:=AK s.cols n.ref.col}} else B4:=by rw [Hi,if_neg (by rw [hg];simp),if_pos k5]
  rw [eg];obtain ⟨p1,p2,p3,p4⟩:=Il hp k5;refine CW.yes rfl (decide_eq_true k5) ?_;refine Sa ?_;refine LW.load_agg (cs:=[.slice rp s.rows.to.length rc,.int .i64 s.rows.new]) rfl hS rfl rfl rfl ⟨rfl,rfl,trivial⟩ rfl ?_;refine Sa ?_;refine Ap rfl rfl (E1 s.rows aq _ n.ref.row (by omega) w3 ⟨_,rfl,hr.ext a3⟩) ?_;rintro v w4 ⟨rfl,a4⟩;replace hN:=hN.ext a4;replace hS:=hS.ext a4;replace hR:=hR.ext a4;have a5:=a3.trans a4;have ax:=a4.size;generalize AK s.rows n.ref.row=x1;refine Sa ?_;refine BS λw5 af hN=>?_;replace hS:=hS.chg af (by simp;omega);replace hR:=hR.chg af (by simp;omega);have a6:Ae w w5:=a5.step af (by simp;omega);refine Sa ?_;refine LW.load_agg (cs:=[.slice cp s.cols.to.length cc,.int .i64 s.cols.new]) rfl hS rfl rfl rfl ⟨rfl,rfl,trivial⟩ rfl ?_;refine Sa ?_;refine Ap rfl rfl (E1 s.cols ar _ n.ref.col (by omega) w5 ⟨_,rfl,hc.ext a6⟩) ?_;rintro v w6 ⟨rfl,ag⟩;replace hN:=hN.ext ag;replace hR:=hR.ext ag;have ah:=a6.trans ag;generalize AK s.cols n.ref.col=y1;refine Sa ?_;refine BS λw7 a9 hN=>?_;replace hN:Blk w7 N (Br ⟨{n with ref:={n.ref with row:=x1,col:=y1}},.slice kp kl kc⟩) 139:=hN;replace hR:=hR.chg a9 (by simp;omega);have ai:Ae w w7:=ah.step a9 (by simp;omega);refine Sa ?_;refine LW.load_agg (cs:=AQ {n.ref with row:=x1,col:=y1}) rfl hN rfl rfl rfl ⟨rfl,rfl,rfl,rfl,rfl,trivial⟩ rfl ?_;refine Sa ?_;refine Ap rfl rfl (EH {n.ref with row:=x1,col:=y1} (by show n.ref.sheet.length≤9223372036854775807;exact Nat.le_trans (IE p1) (by omega)) w7) ?_;rintro v w8 ⟨rfl,aj⟩;replace hN:=hN.ext aj;replace hR:=hR.ext aj;have a1:=ai.trans aj;refine Sa ?_
  cases hb:AP {n.ref with row:=x1,col:=y1} with
  | false=>
   rw [if_neg (by simp)];refine Sa ?_;refine AM λa2 a0 hR=>?_;replace hR:Blk a2 R (Br ⟨B4,.slice none 0 0⟩) 139:=hR;refine Sa ?_
   exact QW.body_c Tryz.results105 rfl hR rfl rfl rfl ⟨⟨_,rfl,.inr ⟨rfl,rfl⟩⟩,a1.step a0 (by simp;omega)⟩
  | true=>
   rw [if_pos rfl];refine Sa ?_;refine AM λa2 a0 hR=>?_;refine Sa ?_;exact QW.body_c Tryz.results105 rfl hR rfl rfl rfl ⟨⟨_,rfl,.inl ⟨rfl,rfl⟩⟩,a1.step a0 (by simp;omega)⟩
 ·have k6:n.kind=6:=by omega
  have hl:C9 n=n.to:=by rw [C9,if_neg k5]
  rw [hl] at s3 s4;obtain ⟨p1,p2,p3,p4,p5⟩:=FS hp k6;rcases hP:Bl s.rows n.ref.row n.to.row with ⟨x1,x2,x3⟩;rcases hQ:Bl s.cols n.ref.col n.to.col with ⟨y1,y2,y3⟩;have eg:Hi s n=if x3=true∧y3=true∧AP {n.ref with row:=x1,col:=y1}=true∧AP {n.to with row:=x2,col:=y2}=true then {n with ref:={n.ref with row:=x1,col:=y1},to:={n.to with row:=x2,col:=y2}} else B4:=by
   rw [Hi,if_neg (by rw [hg];simp),if_neg k5,hP,hQ]
  rw [eg];refine CW.no rfl (decide_eq_false k5) ?_;refine Sa ?_;refine LW.load_agg (cs:=[.slice rp s.rows.to.length rc,.int .i64 s.rows.new]) rfl hS rfl rfl rfl ⟨rfl,rfl,trivial⟩ rfl ?_;refine Sa ?_;have aa:=NZ s.rows hm.1 _ n.ref.row n.to.row (by omega) (by omega) w3 ⟨_,rfl,hr.ext a3⟩;rw [hP] at aa;refine Ap rfl rfl aa ?_;rintro v w4 ⟨rfl,a4⟩;replace hN:=hN.ext a4;replace hS:=hS.ext a4;replace hR:=hR.ext a4;have a5:=a3.trans a4;have ax:=a4.size;refine Sa ?_;refine LW.load_agg (cs:=[.slice cp s.cols.to.length cc,.int .i64 s.cols.new]) rfl hS rfl rfl rfl ⟨rfl,rfl,trivial⟩ rfl ?_;refine Sa ?_;have ab:=NZ s.cols hm.2 _ n.ref.col n.to.col (by omega) (by omega) w4 ⟨_,rfl,hc.ext a5⟩;rw [hQ] at ab;refine Ap rfl rfl ab ?_;rintro v w5 ⟨rfl,ak⟩;replace hN:=hN.ext ak;replace hR:=hR.ext ak;have a6:=a5.trans ak;refine Sa ?_;refine BS λw6 am hN=>?_;replace hR:=hR.chg am (by simp;omega);refine Sa ?_;refine BS λw7 a9 hN=>?_;replace hR:=hR.chg a9 (by simp;omega);refine Sa ?_;refine BS λw8 an hN=>?_;replace hR:=hR.chg an (by simp;omega);refine Sa ?_;refine BS λw9 ao hN=>?_;replace hR:=hR.chg ao (by simp;omega);have ap:Blk w9 N (Br ⟨{n with ref:={n.ref with row:=x1,col:=y1},to:={n.to with row:=x2,col:=y2}},.slice kp kl kc⟩) 139:=hN;have a1:Ae w w9:=(((a6.step am (by simp;omega)).step a9 (by simp;omega)).step an (by simp;omega)).step ao (by simp;omega);refine Sa ?_
  cases x3 with
  | false=>
   rw [if_neg (λh=>by cases h.1)];refine Sa ?_;refine AM λa2 a0 hR=>?_;replace hR:Blk a2 R (Br ⟨B4,.slice none 0 0⟩) 139:=hR;refine Sa ?_
   exact QW.body_c Tryz.results105 rfl hR rfl rfl rfl ⟨⟨_,rfl,.inr ⟨rfl,rfl⟩⟩,a1.step a0 (by simp;omega)⟩
  | true=>
  cases y3 with
  | false=>
   rw [if_neg (λh=>by cases h.2.1)];refine Sa ?_;refine AM λa2 a0 hR=>?_;replace hR:Blk a2 R (Br ⟨B4,.slice none 0 0⟩) 139:=hR;refine Sa ?_
   exact QW.body_c Tryz.results105 rfl hR rfl rfl rfl ⟨⟨_,rfl,.inr ⟨rfl,rfl⟩⟩,a1.step a0 (by simp;omega)⟩
  | true=>
  clear hN;refine Sa ?_;refine LW.load_agg (cs:=AQ {n.ref with row:=x1,col:=y1}) rfl ap rfl rfl rfl ⟨rfl,rfl,rfl,rfl,rfl,trivial⟩ rfl ?_;refine Sa ?_;refine Ap rfl rfl (EH {n.ref with row:=x1,col:=y1} (by show n.ref.sheet.length≤9223372036854775807;exact Nat.le_trans (IE p1) (by omega)) w9) ?_;rintro v ay ⟨rfl,a7⟩;have ac:=ap.ext a7;replace hR:=hR.ext a7;replace a1:=a1.trans a7
  cases b6:AP {n.ref with row:=x1,col:=y1} with
  | false=>
   rw [if_neg (λh=>by cases h.2.2.1)];refine Sa ?_;refine AM λa2 a0 hR=>?_;replace hR:Blk a2 R (Br ⟨B4,.slice none 0 0⟩) 139:=hR;refine Sa ?_
   exact QW.body_c Tryz.results105 rfl hR rfl rfl rfl ⟨⟨_,rfl,.inr ⟨rfl,rfl⟩⟩,a1.step a0 (by simp;omega)⟩
  | true=>
  refine Sa ?_;refine LW.load_agg (cs:=AQ {n.to with row:=x2,col:=y2}) rfl ac rfl rfl rfl ⟨rfl,rfl,rfl,rfl,rfl,trivial⟩ rfl ?_;refine Sa ?_;refine Ap rfl rfl (EH {n.to with row:=x2,col:=y2} (by show n.to.sheet.length≤9223372036854775807;exact Nat.le_trans (IE p2) (by omega)) ay) ?_;rintro v b7 ⟨rfl,a8⟩;have az:=ac.ext a8;replace hR:=hR.ext a8;replace a1:=a1.trans a8
  cases b8:AP {n.to with row:=x2,col:=y2} with
  | false=>
   rw [if_neg (λh=>by cases h.2.2.2)];refine Sa ?_;refine AM λa2 a0 hR=>?_;replace hR:Blk a2 R (Br ⟨B4,.slice none 0 0⟩) 139:=hR;refine Sa ?_
   exact QW.body_c Tryz.results105 rfl hR rfl rfl rfl ⟨⟨_,rfl,.inr ⟨rfl,rfl⟩⟩,a1.step a0 (by simp;omega)⟩
  | true=>
   rw [if_pos ⟨rfl,rfl,rfl,rfl⟩];refine Sa ?_;refine AM λa2 a0 hR=>?_;refine Sa ?_;exact QW.body_c Tryz.results105 rfl hR rfl rfl rfl ⟨⟨_,rfl,.inl ⟨rfl,rfl⟩⟩,a1.step a0 (by simp;omega)⟩
def noP (s:List UInt8):Bool:=s.all (λc=>decide (c≠40)&&decide (c≠41))
def Xh (nd:Ag):Prop:=nd.text.length≤10∧nd.ref.sheet.length≤10∧nd.to.sheet.length≤10∧nd.num≤255∧nd.kids.length≤100∧noP nd.text=true∧(nd.ref.sheet=[]∨nd.ref.sheet=[84])
def NP (w0 w:World) (l:List Ag) (outv stv:Value):Prop:=∃nvs:List NV,Ax w w0.heap.size 139 14 outv nvs.length (nvs.flatMap Br)∧nvs.map NV.node=l∧∀x∈nvs,Be w x.kv x.node.kids∧∀b∈Af x.kv,b∉Af stv
theorem Be.chg {S:List Nat} {w w':World} {kv stv:Value} {ks:List Int} (h:Be w kv ks) (hn:∀b∈Af kv,b∉Af stv) (hc:Chg S w w') (h2:∀b∈S,b∈Af stv∨∃l T,Blk w b l T∧T≠3):Be w' kv ks:=by
 rcases h with h | ⟨b,cap,sp,e,hb⟩
 ·exact .inl h
 ·refine .inr ⟨b,cap,sp,e,hb.chg hc (λhm=>?_)⟩;rcases h2 b hm with h2 | ⟨l,T,h3,h4⟩
  ·exact hn b (by rw [e];simp [Af]) h2
  ·exact h4 (h3.inj hb)
theorem NP.chg {S:List Nat} {w0 w w':World} {l:List Ag} {outv stv:Value} (h:NP w0 w l outv stv) (hc:Chg S w w') (h1:∀b∈Af outv,b∉S) (h2:∀b∈S,b∈Af stv∨∃l T,Blk w b l T∧T≠3):NP w0 w' l outv stv:=by
 obtain ⟨nvs,ho,hm,hk⟩:=h;exact ⟨nvs,ho.chg hc h1,hm,λx hx=>⟨(hk x hx).1.chg (hk x hx).2 hc h2,(hk x hx).2⟩⟩
theorem NP.ext {w0 w w':World} {l:List Ag} {outv stv:Value} (h:NP w0 w l outv stv) (hx:Ae w w'):NP w0 w' l outv stv:=h.chg hx (by simp) (by simp)
def SV (w0 w:World) (v:Value) (s:List Int):Prop:=Ax w w0.heap.size 3 1 v s.length (Ac s)∨∃p,v=.slice p s.length s.length∧(p=none∧s.length=0∨∃a,p=some a∧∀j u,(Ac s)[j]?=some u→w.cell? (a.add j)=some u)
structure CI (w0 w:World) (l:List Ag) (outv:Value) (X:Nat) (nd:Ag) (kv:Value) (s2:List Int) (stv:Value):Prop where
 ext:Ae w0 w
 np:NP w0 w l outv stv
 blk:Blk w X (Br ⟨nd,kv⟩) 139
 kids:Be w kv nd.kids
 apart:∀b∈Af kv,b∉Af stv
 sv:SV w0 w stv s2
 go:Bn 0 [] (l++[nd])=some (s2++[(l.length:Int)])
 fine:Xh nd
 le:s2.length≤l.length
theorem Tb (zs:List Int) (v:Value) (w:World) (h:AG w v zs) (hl:zs.length≤100000):AA Tryz.prog 98 [v] w (λv' w'=>(∃p c,v'=.slice p zs.length c)∧Be w' v' zs∧(∀b∈Af v',w.heap.size≤b)∧Ae w w'):=by
 refine AL Tryz.func98 Tryz.ntmps98 ?_;obtain ⟨_,⟨rfl,rfl⟩ | ⟨a,cap,rfl,hc⟩⟩:=h
 ·refine Sa ?_;refine LW.eql_sn rfl rfl rfl rfl ?_;refine Sa ?_;exact QW.body1 Tryz.results98 rfl ⟨⟨_,_,rfl⟩,.inl ⟨rfl,rfl⟩,by simp [Af],Chg.refl _ _⟩
 ·refine Sa ?_;refine LW.eql_sn rfl rfl rfl rfl ?_;refine Sa ?_
  (apply LW.buildSlice0;exact rfl;exact rfl;exact rfl;exact rfl;intro B w5 a5 a1 hB)
  refine Sa ?_;refine LW.append_any (lo:=w.heap.size) (xs:=[]) (news:=Ac zs) rfl rfl rfl rfl rfl rfl (⟨rfl,.inr ⟨B,0,[],rfl,hB,by simp,by simp,by omega⟩⟩) (by have:=a1.size;omega) (by rw [A7];show _=_*1;omega) (.inr ⟨a,rfl,λj u hj=>by
   simp only [Ac,List.getElem?_map] at hj
   cases hg:zs[j]? with
   | none=>rw [hg] at hj;cases hj
   | some y=>
    rw [hg] at hj;obtain rfl:=Option.some.inj hj;exact Aw a1 (hc j y hg)⟩) (λu hu=>by
   simp only [Ac,List.mem_map] at hu;obtain ⟨_,_,rfl⟩:=hu;rfl) (by show (0+_)*9≤_;omega) rfl ?_
  intro v' w6 a3 a0 a2;obtain ⟨p',c',rfl⟩:=a0.slice;have a4:Ae w w6:=a1.step a3 (by simp [Af];omega);have hm:0+zs.length=zs.length:=by omega
  rw [hm] at a0 a2 ⊢;simp only [List.nil_append] at a0;refine Sa ?_;refine QW.body1 Tryz.results98 rfl ⟨⟨_,_,rfl⟩,J6 a0,λb hb=>?_,a4⟩;rcases a2 b hb with h2 | h2
  ·simp [Af] at h2;omega
  ·have:=a1.size;omega
set_option maxHeartbeats 1000000 in
theorem SM (l:List Ag) (v:Value) (own:List UInt8) (ss:List CB) (sv:Value) (w:World) (g:CU w) (hN:BM w v l) (hs:JO l) (h:BZ w sv ss) (hss:∀s∈ss,s.Fine):AA Tryz.prog 69 [v,Aj own,sv] w (λv' w'=>(BM w' v' (BI Eb own ss l)∧∀b∈Af v',w.heap.size≤b)∧Ae w w'):=by
 obtain ⟨p,c,rfl⟩:=hN.slice;have az:=hN.1;refine AL Tryz.func69 Tryz.ntmps69 ?_;refine Sa ?_;refine Ap rfl rfl (Pg l _ w g hN hs) ?_;rintro v w1 ⟨rfl,ap⟩;refine Sa ?_
 cases ht:BL l with
 | false=>
  refine Sa ?_
  exact QW.body1 Tryz.results69 rfl ⟨⟨by rw [BI,if_neg (by rw [ht];simp)];exact IJ _,by simp [Af]⟩,ap⟩
 | true=>
 have b0:=GZ ht;have aq:=IY ht;obtain ⟨q,qc,rfl⟩:=h.slice;refine Sa ?_;refine CW.loop (ι:=Nat×Option Addr×Nat) (λx w'=>x.1≤l.length∧Ae w w'∧NP w w' ((l.take x.1).map (AF Eb own ss)) (.slice x.2.1 x.1 x.2.2) (.slice none 0 0)) (λx=>[(7,.func (.func 97) ⟨[.agg ⟨[Aj own,.slice q ss.length qc]⟩]⟩ ⟨[]⟩),(8,.slice x.2.1 x.1 x.2.2),(18,.slice p l.length c),(19,.int .i64 l.length),(20,.int .i64 (x.1:Int))]) (λx=>l.length - x.1) (0,none,0) ⟨by simp,ap,⟨[],Ax.nil _ _ _ _,rfl,by simp⟩⟩ C2 ?_;rintro ⟨k,op,oc⟩ w2 ⟨hk,ae,hP⟩;dsimp only at hk hP;show CW _ _ _ _ _ [(7,.func (.func 97) ⟨[.agg ⟨[Aj own,.slice q ss.length qc]⟩]⟩ ⟨[]⟩),(8,.slice op k oc),(18,.slice p l.length c),(19,.int .i64 l.length),(20,.int .i64 (k:Int))] _;have b8:=ae.size;refine Sa ?_;refine Am (λh2=>?_) λh2=>?_;rotate_left
 ·have h2:k=l.length:=by simp at h2;omega
  subst h2;obtain ⟨nvs,a0,hm,hk⟩:=hP;rw [List.take_length] at hm;have ar:nvs.length=l.length:=by rw [←List.length_map (f:=NV.node),hm,List.length_map]
  have b1:K0 w2 w.heap.size (.slice op l.length oc) (l.map (AF Eb own ss)):=⟨nvs,a0,hm,λx hx=>(hk x hx).1⟩;have b2:∀n∈l.map (AF Eb own ss),n.kids.length≤100000:=λn hn=>by
   obtain ⟨m,h1,rfl⟩:=List.mem_map.1 hn;have h3:=aq m h1;unfold AF
   split
   ·omega
   ·split
    ·omega
    ·unfold Eb
     split
     ·simp [B4]
     ·split
      ·simp [B4]
      ·show m.kids.length≤_;omega
  refine Sa ?_;exact QW.body1 Tryz.results69 rfl ⟨⟨by rw [BI,if_pos ht];exact b1.row (by rw [List.length_map];exact az) b2,λb hb=>(a0.lt hb).1⟩,ae⟩
 have h2:k<l.length:=by simp at h2;omega
 obtain ⟨nd,ag⟩:∃nd,l[k]?=some nd:=⟨_,List.getElem?_eq_getElem h2⟩;have a7:=List.mem_of_getElem? ag;obtain ⟨a,kp,kc,rfl,ah,a8⟩:=hN.at ag;have a1:∀j u,(Br ⟨nd,.slice kp nd.kids.length kc⟩)[j]?=some u→w2.cell? ((a.add (((k:Nat):Int).toNat*14)).add j)=some u:=λj u hj=>by rw [show ((k:Nat):Int).toNat=k by omega];exact Aw ae (a8 j u hj)
 refine Sa ?_;refine Lo ?_;refine LW.load_cells rfl a1 rfl rfl rfl rfl ?_;refine Sa ?_;refine BP λX w3 b9 au hX=>?_;have a9:∀b∈Af (Value.slice op k oc),b<w2.heap.size:=λb hb=>by
  obtain ⟨nvs,ho,_⟩:=hP;exact (ho.lt hb).2
 replace hP:=hP.ext au;have ai:=ae.trans au;have av:=hX;refine Sa ?_;refine AM λw4 aj hX=>?_;replace hX:Blk w4 X (Br ⟨nd,.slice kp nd.kids.length kc⟩) 139:=hX;replace hP:=hP.chg aj (λb hb=>by have:=a9 b hb;simp;omega) (λb hb=>by
  simp only [List.mem_singleton] at hb;subst hb;exact .inr ⟨_,_,av,by decide⟩)
 have a2:Ae w w4:=ai.step aj (by simp;omega);refine Sa ?_;refine Ap rfl rfl (Tb nd.kids _ w4 (ah.ext a2) (by have:=aq nd a7;omega)) ?_;rintro v w5 ⟨⟨kp',kc',rfl⟩,hK,ba,ak⟩;replace hP:=hP.ext ak;replace hX:=hX.ext ak;have al:=a2.trans ak;have bb:=a2.size;have am:=hX;refine Sa ?_;refine BS λw6 af hX=>?_;replace hX:Blk w6 X (Br ⟨nd,.slice kp' nd.kids.length kc'⟩) 139:=hX;replace hP:=hP.chg af (λb hb=>by have:=a9 b hb;simp;omega) (λb hb=>by
  simp only [List.mem_singleton] at hb;subst hb;exact .inr ⟨_,_,am,by decide⟩)
 replace hK:Be w6 (.slice kp' nd.kids.length kc') nd.kids:=hK.chg (stv:=.slice none 0 0) (by simp [Af]) af (λb hb=>by
  simp only [List.mem_singleton] at hb;subst hb;exact .inr ⟨_,_,am,by decide⟩)
 have aa:Ae w w6:=al.step af (by simp;omega);refine Sa ?_;refine LW.call (fs:=[.agg ⟨[Aj own,.slice q ss.length qc]⟩]) (cs:=[]) rfl rfl rfl (Vd own ss _ nd kp' nd.kids.length kc' w6 (h.ext aa) hss (b0 nd a7)) ?_;rintro v w7 ⟨⟨kv,rfl,aw⟩,an⟩;replace hP:=hP.ext an;replace hK:Be w7 (.slice kp' nd.kids.length kc') nd.kids:=hK.chg (stv:=.slice none 0 0) (by simp [Af]) an (by simp);have ab:=aa.trans an;have ax:Be w7 kv (AF Eb own ss nd).kids:=by
  rcases aw with ⟨rfl,e⟩ | ⟨rfl,e⟩
  ·rw [e];exact hK
  ·exact .inl ⟨rfl,e⟩
 clear hK aw hX am av af aj;refine Sa ?_;refine Cl λC b3 bc a3 hC=>?_;replace hC:Blk b3 C (Br ⟨AF Eb own ss nd,kv⟩) 139:=hC;have ac:=ab.trans a3;have b4:=ac.size;have b5:(Br ⟨AF Eb own ss nd,kv⟩).all (·.oneCell')=true:=by
  simp only [Br,List.all_cons,List.all_nil,ax.one];rfl
 obtain ⟨nvs,a0,hm,a4⟩:=hP;have ar:nvs.length=k:=by rw [←List.length_map (f:=NV.node),hm,List.length_map,List.length_take];omega
 subst ar;refine Sa ?_;refine LW.append rfl rfl rfl rfl rfl rfl (a0.ext a3) (by omega) hC rfl b5 rfl (by show (nvs.length+1)*137≤140737488355328;omega) rfl ?_;intro v2 ay ao a5 b6;have e1:(nvs.flatMap Br++Br ⟨AF Eb own ss nd,kv⟩)=(nvs++[(⟨AF Eb own ss nd,kv⟩:NV)]).flatMap Br:=by simp
 have e2:nvs.length+1=(nvs++[(⟨AF Eb own ss nd,kv⟩:NV)]).length:=by simp
 rw [e1] at a5;obtain ⟨p4,c4,rfl⟩:=a5.slice;have a6:Chg (Af (.slice op nvs.length oc)) w7 ay:=by
  have:=Chg.trans a3 ao
  simpa using this
 have bd:∀b∈Af (Value.slice op nvs.length oc),∀L T,Blk w7 b L T→T=139:=λb hb L T hL=>Ax.type a0 hb hL;have hS:∀b∈Af (Value.slice op nvs.length oc),b∈Af (Value.slice none 0 0)∨∃l T,Blk w7 b l T∧T≠3:=λb hb=>by
  obtain ⟨_,⟨e,_⟩ | ⟨g,cap,sp,e,hg,_⟩⟩:=a0
  ·rw [e] at hb;simp [Af] at hb
  ·rw [e] at hb;simp [Af] at hb;subst hb;exact .inr ⟨_,_,hg,by decide⟩
 have ad:Ae w ay:=ab.step a6 (λb hb=>(a0.lt hb).1);have b7:l.take (nvs.length+1)=l.take nvs.length++[nd]:=by rw [List.take_add_one,ag];rfl
 refine Sa ?_;refine QW.again (nvs.length+1,p4,c4) ⟨by show nvs.length+1≤_;omega,ad,?_⟩ ?_ (by show l.length - (nvs.length+1)<l.length - nvs.length;omega)
 ·dsimp only;rw [b7];refine ⟨nvs++[⟨AF Eb own ss nd,kv⟩],by rw [←e2];exact a5,by simp [hm],λx hx=>?_⟩;rcases List.mem_append.1 hx with hx | hx
  ·exact ⟨(a4 x hx).1.chg (a4 x hx).2 a6 hS,(a4 x hx).2⟩
  ·simp at hx;subst hx;exact ⟨ax.chg (stv:=.slice none 0 0) (by simp [Af]) a6 hS,by simp [Af]⟩
 ·exact C2
theorem SN (l:List Ag) (v:Value) (own:List UInt8) (ss:List CB) (sv:Value) (w:World) (g:CU w) (hN:BM w v l) (hs:JO l) (h:BZ w sv ss) (hss:∀s∈ss,s.Fine):AA Tryz.prog 69 [v,Aj own,sv] w (λv' w'=>BM w' v' (BI Eb own ss l)∧Ae w w'):=
 (SM l v own ss sv w g hN hs h hss).mono λ_ _ ⟨⟨h1,_⟩,h2⟩=>⟨h1,h2⟩
set_option maxHeartbeats 4000000 in
theorem R8 (l:List Ag) (v:Value) (own:List UInt8) (ss:List CB) (sv:Value) (w:World) (hN:BM w v l) (hs:JO l) (hkl:∀n∈l,n.kids.length≤1000000) (h:BZ w sv ss) (hss:∀s∈ss,s.May):AA Tryz.prog 73 [v,Aj own,sv] w (λv' w'=>BM w' v' (BI Hi own ss l)∧Ae w w'):=by
 obtain ⟨p,c,rfl⟩:=hN.slice;have bu:=hN.1;refine AL Tryz.func73 Tryz.ntmps73 ?_;refine Sa ?_;refine Ap rfl rfl (Oa l _ w hN hs hkl) ?_;rintro v w1 ⟨rfl,bj⟩;refine Sa ?_
 cases ht:BL l with
 | false=>
  refine Sa ?_
  exact QW.body1 Tryz.results73 rfl ⟨by rw [BI,if_neg (by rw [ht];simp)];exact IJ _,bj⟩
 | true=>
 have bk:=GZ ht;have bb:=IY ht;obtain ⟨q,qc,rfl⟩:=h.slice;have c8:=h.1;refine Sa ?_;refine CW.loop (ι:=Nat×Option Addr×Nat) (λx w'=>x.1≤l.length∧Ae w w'∧NP w w' ((l.take x.1).map (AF Hi own ss)) (.slice x.2.1 x.1 x.2.2) (.slice none 0 0)) (λx=>[(0,.slice p l.length c),(1,Aj own),(2,.slice q ss.length qc),(7,.slice x.2.1 x.1 x.2.2),(8,.int .i64 (x.1:Int))]) (λx=>l.length - x.1) (0,none,0) ⟨by simp,bj,⟨[],Ax.nil _ _ _ _,rfl,by simp⟩⟩ C2 ?_;rintro ⟨k,op,oc⟩ w2 ⟨hk,b8,hP⟩;dsimp only at hk hP;show CW _ _ _ _ _ [(0,.slice p l.length c),(1,Aj own),(2,.slice q ss.length qc),(7,.slice op k oc),(8,.int .i64 (k:Int))] _;have c9:=b8.size;refine Sa ?_;refine Am (λh2=>?_) λh2=>?_;rotate_left
 ·have h2:k=l.length:=by simp at h2;omega
  subst h2;obtain ⟨nvs,au,hm,hk⟩:=hP;rw [List.take_length] at hm;have bl:nvs.length=l.length:=by rw [←List.length_map (f:=NV.node),hm,List.length_map]
  have bv:K0 w2 w.heap.size (.slice op l.length oc) (l.map (AF Hi own ss)):=⟨nvs,au,hm,λx hx=>(hk x hx).1⟩;have bw:∀n∈l.map (AF Hi own ss),n.kids.length≤100000:=λn hn=>by
   obtain ⟨m,h1,rfl⟩:=List.mem_map.1 hn;have h3:=bb m h1;have e:l.map (AF Hi own ss)=l.map (AF Eb own ss):=by
    have:=PS (own:=own) hss l;rw [BI,BI,if_pos ht,if_pos ht] at this;exact this.symm
   rw [e] at hn;obtain ⟨m',bm,e'⟩:=List.mem_map.1 hn;have ca:=bb m' bm;rw [←e'];have:=(GL (own:=own) hss (bk m' bm)).2.2.2;omega
  refine Sa ?_;exact QW.body1 Tryz.results73 rfl ⟨by rw [BI,if_pos ht];exact bv.row (by rw [List.length_map];exact bu) bw,b8⟩
 have h2:k<l.length:=by simp at h2;omega
 obtain ⟨nd,bc⟩:∃nd,l[k]?=some nd:=⟨_,List.getElem?_eq_getElem h2⟩;have av:=List.mem_of_getElem? bc;obtain ⟨a,kp,kc,rfl,bd,aw⟩:=hN.at bc;have af:∀j u,(Br ⟨nd,.slice kp nd.kids.length kc⟩)[j]?=some u→w2.cell? ((a.add (((k:Nat):Int).toNat*14)).add j)=some u:=λj u hj=>by rw [show ((k:Nat):Int).toNat=k by omega];exact Aw b8 (aw j u hj)
 have bn:=bk nd av;have cb:=bb nd av;refine Sa ?_;refine Lo ?_;refine LW.load_cells rfl af rfl rfl rfl rfl ?_;refine Sa ?_;refine BP λX w3 cd bo hX=>?_;have ad:∀b∈Af (Value.slice op k oc),b<w2.heap.size:=λb hb=>by
  obtain ⟨nvs,ho,_⟩:=hP;exact (ho.lt hb).2
 replace hP:=hP.ext bo;have be:=b8.trans bo;have bp:=hX;refine Sa ?_;refine AM λw4 bf hX=>?_;replace hX:Blk w4 X (Br ⟨nd,.slice kp nd.kids.length kc⟩) 139:=hX;replace hP:=hP.chg bf (λb hb=>by have:=ad b hb;simp;omega) (λb hb=>by
  simp only [List.mem_singleton] at hb;subst hb;exact .inr ⟨_,_,bp,by decide⟩)
 have ae:Ae w w4:=be.step bf (by simp;omega);have bx:=hX.lt;refine Sa ?_
 (apply LW.buildSlice0;exact rfl;exact rfl;exact rfl;exact rfl;intro B w5 ce b9 hB)
 have bz:=hX.ext b9;refine Sa ?_;refine LW.append_any (lo:=w.heap.size) (xs:=[]) (news:=Ac nd.kids) rfl rfl rfl rfl rfl rfl (⟨rfl,.inr ⟨B,0,[],rfl,hB,by simp,by simp,by have:=ae.size;omega⟩⟩) (by have:=b9.size;have:=ae.size;omega) (by rw [A7];show _=_*1;omega) (by
  have c0:=(bd.ext ae).ext b9;obtain ⟨_,⟨e,e2⟩ | ⟨a',cap,e,hc⟩⟩:=c0
  ·simp only [Value.slice.injEq] at e;exact .inl ⟨e.1,by simp [e2]⟩
  ·simp only [Value.slice.injEq] at e;refine .inr ⟨a',e.1,λj u hj=>?_⟩;simp only [Ac,List.getElem?_map] at hj
   cases hg:nd.kids[j]? with
   | none=>rw [hg] at hj;cases hj
   | some y=>
    rw [hg] at hj;obtain rfl:=Option.some.inj hj;exact hc j y hg) (λu hu=>by
  simp only [Ac,List.mem_map] at hu;obtain ⟨_,_,rfl⟩:=hu;rfl) (by show (0+_)*9≤_;omega) rfl ?_
 intro v' w6 bq a5 br;obtain ⟨kp',kc',rfl⟩:=a5.slice;have ag:Ae w4 w6:=b9.step bq (by simp [Af];omega);have c1:0+nd.kids.length=nd.kids.length:=by omega
 rw [c1] at a5 br ⊢;simp only [List.nil_append] at a5;have hK:Be w6 (.slice kp' nd.kids.length kc') nd.kids:=J6 a5;replace hX:=hX.ext ag;replace hP:=hP.ext ag;have bg:=ae.trans ag;clear a5 br bq hB bz;have a8:=hX;refine Sa ?_;refine BS λw7 ba hX=>?_;replace hX:Blk w7 X (Br ⟨nd,.slice kp' nd.kids.length kc'⟩) 139:=hX;replace hP:=hP.chg ba (λb hb=>by have:=ad b hb;simp;omega) (λb hb=>by
  simp only [List.mem_singleton] at hb;subst hb;exact .inr ⟨_,_,a8,by decide⟩)
 replace hK:Be w7 (.slice kp' nd.kids.length kc') nd.kids:=hK.chg (stv:=.slice none 0 0) (by simp [Af]) ba (λb hb=>by
  simp only [List.mem_singleton] at hb;subst hb;exact .inr ⟨_,_,a8,by decide⟩)
 have bh:Ae w w7:=bg.step ba (by simp;omega);clear a8 bp ba bf;obtain ⟨nm,ax⟩:∃nm,nm=Nt own nd:=⟨_,rfl⟩;refine Sa ?_;refine CW.cut (ι:=Unit) (λ_ w'=>w'=w7) (λ_=>[(0,.slice (some a) l.length c),(1,Aj own),(2,.slice q ss.length qc),(7,.slice op k oc),(8,.int .i64 (k:Int)),(9,.pointer (some ⟨X,0,none⟩)),(10,Aj nm)]) ?_ ?_
 ·refine Am (λb1=>?_) λb1=>?_
  ·have b1:nd.ref.sheet=[]:=by simpa using b1
   have en:own=nm:=by rw [ax,Nt,if_pos b1]
   refine Sa ?_;exact QW.head () rfl (Ad.cons rfl (Ad.cons rfl (Ad.cons rfl (Ad.cons rfl (Ad.cons rfl (Ad.cons rfl (Ad.cons (by rw [←en];rfl) Ad.nil)))))))
  ·have b1:¬nd.ref.sheet=[]:=by simpa using b1
   have en:nd.ref.sheet=nm:=by rw [ax,Nt,if_neg b1]
   refine Sa ?_;exact QW.head () rfl (Ad.cons rfl (Ad.cons rfl (Ad.cons rfl (Ad.cons rfl (Ad.cons rfl (Ad.cons rfl (Ad.cons (by rw [←en];rfl) Ad.nil)))))))
 rintro ⟨⟩ w7 rfl;show CW _ _ _ _ _ [(0,.slice (some a) l.length c),(1,Aj own),(2,.slice q ss.length qc),(7,.slice op k oc),(8,.int .i64 (k:Int)),(9,.pointer (some ⟨X,0,none⟩)),(10,Aj nm)] _;refine Su ?_;refine CW.cutB (ι:=Value) (λkv w'=>Ae w w'∧NP w w' ((l.take k).map (AF Hi own ss)) (.slice op k oc) (.slice none 0 0)∧Be w' kv (AF Hi own ss nd).kids∧Blk w' X (Br ⟨AF Hi own ss nd,kv⟩) 139) (λ_=>[(0,.slice (some a) l.length c),(1,Aj own),(2,.slice q ss.length qc),(7,.slice op k oc),(8,.int .i64 (k:Int)),(9,.pointer (some ⟨X,0,none⟩))]) ?_ ?_
 ·refine CW.loop (ι:=Nat) (λj w'=>j≤ss.length∧Ae w7 w'∧∀i u,i<j→ss[i]?=some u→u.sheet≠nm) (λj=>[(0,.slice (some a) l.length c),(1,Aj own),(2,.slice q ss.length qc),(7,.slice op k oc),(8,.int .i64 (k:Int)),(9,.pointer (some ⟨X,0,none⟩)),(10,Aj nm),(11,.int .i64 (j:Int))]) (λj=>ss.length - j) 0 ⟨by omega,Chg.refl _ _,λi u h=>by omega⟩ LE ?_;rintro j w8 ⟨hj,a7,ay⟩;have a3:=bh.trans a7;replace hX:=hX.ext a7;replace hP:=hP.ext a7;replace hK:Be w8 (.slice kp' nd.kids.length kc') nd.kids:=hK.chg (stv:=.slice none 0 0) (by simp [Af]) a7 (by simp);refine Sa ?_;by_cases b2:(j:Int)<(ss.length:Int);rotate_left
  ·refine LW.know (t:=40) (c:=false) rfl (decide_eq_false b2) ?_;have hm:AF Hi own ss nd=nd:=by
    by_cases ah:nd.kind=5∨nd.kind=6
    ·rw [VW ah,←ax,Gn,NH (λi s hi hs=>ay i s (by omega) hs)];rfl
    ·exact Ve (by omega) (by omega)
   have a0:=a3;obtain ⟨kv,a9⟩:∃kv,kv=Value.slice kp' nd.kids.length kc':=⟨_,rfl⟩;rw [←a9] at hX hK;rw [←hm] at hX hK;clear a9;refine Su ?_;exact QW.head kv ⟨a0,hP,hK,hX⟩ BQ
  refine LW.know (t:=40) (c:=true) rfl (decide_eq_true b2) ?_;refine Sa ?_;by_cases b3:nd.kind=5
  ·refine LW.know (t:=44) (c:=true) rfl (decide_eq_true b3) ?_;have ah:nd.kind=5∨nd.kind=6:=.inl b3;obtain ⟨s,aa⟩:∃s,ss[j]?=some s:=⟨_,List.getElem?_eq_getElem (by omega)⟩;obtain ⟨sa,rp,rc,cp,cc,hq,hr,hc,a2⟩:=h.at aa;subst hq;have ai:=hss s (List.mem_of_getElem? aa);have aj:w8.cell? ((sa.add (((j:Nat):Int).toNat*6)).add 0)=some (Aj s.sheet):=by
    rw [show ((j:Nat):Int).toNat=j by omega];exact Aw a3 (a2 0 _ rfl)
   have ak:∀w',Ae w w'→∀i u,(KK s (.slice rp s.rows.to.length rc) (.slice cp s.cols.to.length cc))[i]?=some u→w'.cell? ((sa.add (((j:Nat):Int).toNat*6)).add i)=some u:=λw' hw i u hi=>by
    rw [show ((j:Nat):Int).toNat=j by omega];exact Aw hw (a2 i u hi)
   refine Sa ?_;refine Lo ?_;refine Ln ?_;refine Lp aj ?_;refine Sa ?_;refine Am (λb5=>?_) λb5=>?_;rotate_left
   ·have b5:s.sheet≠nm:=by simpa using b5
    refine Sa ?_;refine QW.again (j+1) ⟨by omega,a7,λi u hi hu=>?_⟩ LE (by omega);rcases Nat.lt_or_ge i j with h4 | h4
    ·exact ay i u h4 hu
    ·obtain rfl:i=j:=by omega
     rw [aa] at hu;obtain rfl:=Option.some.inj hu;exact b5
   have b5:s.sheet=nm:=by simpa using b5
   have ab:Hx ss (Nt own nd)=some s:=by
    rw [←ax,Gn,Kd aa b5 ay];exact aa
   have hm:AF Hi own ss nd=Hi s nd:=by rw [VW ah,ab]
   refine Sa ?_;refine CW.drawHeld (λw'=>Ae w w') (λw' h=>a3.trans h) (by kernel_rfl) λw9 al=>?_;refine HW.take 1 rfl rfl rfl rfl (λw _=>Y.pure rfl) rfl (by kernel_rfl) (by kernel_rfl) (by kernel_rfl) (λ_ _ _ h=>h) ?_;refine HW.take 2 rfl rfl rfl rfl (λw _=>Y.pure rfl) rfl (by kernel_rfl) (by kernel_rfl) (by kernel_rfl) (λ_ _ _ h=>h) ?_;refine HW.take 3 rfl rfl rfl rfl (λw _=>Y.idx_addr rfl rfl rfl rfl rfl (by omega) (by omega)) rfl (by kernel_rfl) (by kernel_rfl) (by kernel_rfl) (λ_ _ _ h=>h) ?_;refine HW.take 4 rfl rfl rfl rfl (λw' hw=>Y.load_cells (cs:=KK s (.slice rp s.rows.to.length rc) (.slice cp s.cols.to.length cc)) rfl (ak w' hw) rfl rfl rfl) rfl (by kernel_rfl) (by kernel_rfl) (by kernel_rfl) (λ_ _ _ h=>h) ?_;refine HW.one 0 (by kernel_rfl) rfl rfl (λhS=>?_);replace hX:=hX.ext al;have a6:=a3.trans al;refine Lg ?_;apply LW.nil;refine QW.held a6 ?_;refine HW.one 5 (by kernel_rfl) rfl rfl (λhS=>?_);refine Ap rfl rfl (NO s ai nd bn ah kp' nd.kids.length kc' rp cp rc cc w9 (hr.ext a6) (hc.ext a6)) ?_;rintro v az ⟨⟨kv,rfl,b0⟩,ac⟩;replace hX:=hX.ext ac;have a1:=al.trans ac;have a0:=a3.trans a1;replace hP:=hP.ext a1;replace hK:Be az (.slice kp' nd.kids.length kc') nd.kids:=hK.chg (stv:=.slice none 0 0) (by simp [Af]) a1 (by simp);replace hK:Be az kv (Hi s nd).kids:=by
    rcases b0 with ⟨rfl,e⟩ | ⟨rfl,e⟩
    ·rw [e];exact hK
    ·exact .inl ⟨rfl,e⟩
   have am:kv.oneCell'=true:=hK.one;apply LW.nil;refine QW.held a0 ?_;refine HW.one 6 (by kernel_rfl) rfl rfl (λhS=>?_);have a8:=hX;refine LW.store_all rfl rfl (by simp only [Br,List.all_cons,List.all_nil,am];rfl) hX rfl rfl rfl ?_;intro an a4 hX;replace hX:Blk an X (Br ⟨Hi s nd,kv⟩) 139:=hX;replace hP:=hP.chg a4 (λb hb=>by have:=ad b hb;simp;omega) (λb hb=>by
    simp only [List.mem_singleton] at hb;subst hb;exact .inr ⟨_,_,a8,by decide⟩)
   replace hK:Be an kv (Hi s nd).kids:=hK.chg (stv:=.slice none 0 0) (by simp [Af]) a4 (λb hb=>by
    simp only [List.mem_singleton] at hb;subst hb;exact .inr ⟨_,_,a8,by decide⟩)
   have a0:Ae w an:=a0.step a4 (by simp;omega);apply LW.nil;refine QW.held a0 ?_;refine HW.done (by kernel_rfl) ?_;rw [←hm] at hX hK;clear a4 a8 b0;refine Su ?_;exact QW.head kv ⟨a0,hP,hK,hX⟩ BQ
  refine LW.know (t:=44) (c:=false) rfl (decide_eq_false b3) ?_;refine Sa ?_;refine Am (λb4=>?_) λb4=>?_;rotate_left
  ·have b4:nd.kind≠6:=by simpa using b4
   have hm:AF Hi own ss nd=nd:=Ve b3 b4;have a0:=a3;obtain ⟨kv,a9⟩:∃kv,kv=Value.slice kp' nd.kids.length kc':=⟨_,rfl⟩;rw [←a9] at hX hK;rw [←hm] at hX hK;clear a9;refine Su ?_;exact QW.head kv ⟨a0,hP,hK,hX⟩ BQ
  have b4:nd.kind=6:=by simpa using b4
  have ah:nd.kind=5∨nd.kind=6:=.inr b4;obtain ⟨s,aa⟩:∃s,ss[j]?=some s:=⟨_,List.getElem?_eq_getElem (by omega)⟩;obtain ⟨sa,rp,rc,cp,cc,hq,hr,hc,a2⟩:=h.at aa;subst hq;have ai:=hss s (List.mem_of_getElem? aa);have aj:w8.cell? ((sa.add (((j:Nat):Int).toNat*6)).add 0)=some (Aj s.sheet):=by
   rw [show ((j:Nat):Int).toNat=j by omega];exact Aw a3 (a2 0 _ rfl)
  have ak:∀w',Ae w w'→∀i u,(KK s (.slice rp s.rows.to.length rc) (.slice cp s.cols.to.length cc))[i]?=some u→w'.cell? ((sa.add (((j:Nat):Int).toNat*6)).add i)=some u:=λw' hw i u hi=>by
   rw [show ((j:Nat):Int).toNat=j by omega];exact Aw hw (a2 i u hi)
  refine Sa ?_;refine Lo ?_;refine Ln ?_;refine Lp aj ?_;refine Sa ?_;refine Am (λb5=>?_) λb5=>?_;rotate_left
  ·have b5:s.sheet≠nm:=by simpa using b5
   refine Sa ?_;refine QW.again (j+1) ⟨by omega,a7,λi u hi hu=>?_⟩ LE (by omega);rcases Nat.lt_or_ge i j with h4 | h4
   ·exact ay i u h4 hu
   ·obtain rfl:i=j:=by omega
    rw [aa] at hu;obtain rfl:=Option.some.inj hu;exact b5
  have b5:s.sheet=nm:=by simpa using b5
  have ab:Hx ss (Nt own nd)=some s:=by
   rw [←ax,Gn,Kd aa b5 ay];exact aa
  have hm:AF Hi own ss nd=Hi s nd:=by rw [VW ah,ab]
  refine Sa ?_;refine CW.drawHeld (λw'=>Ae w w') (λw' h=>a3.trans h) (by kernel_rfl) λw9 al=>?_;refine HW.take 1 rfl rfl rfl rfl (λw _=>Y.pure rfl) rfl (by kernel_rfl) (by kernel_rfl) (by kernel_rfl) (λ_ _ _ h=>h) ?_;refine HW.take 2 rfl rfl rfl rfl (λw _=>Y.pure rfl) rfl (by kernel_rfl) (by kernel_rfl) (by kernel_rfl) (λ_ _ _ h=>h) ?_;refine HW.take 3 rfl rfl rfl rfl (λw _=>Y.idx_addr rfl rfl rfl rfl rfl (by omega) (by omega)) rfl (by kernel_rfl) (by kernel_rfl) (by kernel_rfl) (λ_ _ _ h=>h) ?_;refine HW.take 4 rfl rfl rfl rfl (λw' hw=>Y.load_cells (cs:=KK s (.slice rp s.rows.to.length rc) (.slice cp s.cols.to.length cc)) rfl (ak w' hw) rfl rfl rfl) rfl (by kernel_rfl) (by kernel_rfl) (by kernel_rfl) (λ_ _ _ h=>h) ?_;refine HW.one 0 (by kernel_rfl) rfl rfl (λhS=>?_);replace hX:=hX.ext al;have a6:=a3.trans al;refine Lg ?_;apply LW.nil;refine QW.held a6 ?_;refine HW.one 5 (by kernel_rfl) rfl rfl (λhS=>?_);refine Ap rfl rfl (NO s ai nd bn ah kp' nd.kids.length kc' rp cp rc cc w9 (hr.ext a6) (hc.ext a6)) ?_;rintro v az ⟨⟨kv,rfl,b0⟩,ac⟩;replace hX:=hX.ext ac;have a1:=al.trans ac;have a0:=a3.trans a1;replace hP:=hP.ext a1;replace hK:Be az (.slice kp' nd.kids.length kc') nd.kids:=hK.chg (stv:=.slice none 0 0) (by simp [Af]) a1 (by simp);replace hK:Be az kv (Hi s nd).kids:=by
   rcases b0 with ⟨rfl,e⟩ | ⟨rfl,e⟩
   ·rw [e];exact hK
   ·exact .inl ⟨rfl,e⟩
  have am:kv.oneCell'=true:=hK.one;apply LW.nil;refine QW.held a0 ?_;refine HW.one 6 (by kernel_rfl) rfl rfl (λhS=>?_);have a8:=hX;refine LW.store_all rfl rfl (by simp only [Br,List.all_cons,List.all_nil,am];rfl) hX rfl rfl rfl ?_;intro an a4 hX;replace hX:Blk an X (Br ⟨Hi s nd,kv⟩) 139:=hX;replace hP:=hP.chg a4 (λb hb=>by have:=ad b hb;simp;omega) (λb hb=>by
   simp only [List.mem_singleton] at hb;subst hb;exact .inr ⟨_,_,a8,by decide⟩)
  replace hK:Be an kv (Hi s nd).kids:=hK.chg (stv:=.slice none 0 0) (by simp [Af]) a4 (λb hb=>by
   simp only [List.mem_singleton] at hb;subst hb;exact .inr ⟨_,_,a8,by decide⟩)
  have a0:Ae w an:=a0.step a4 (by simp;omega);apply LW.nil;refine QW.held a0 ?_;refine HW.done (by kernel_rfl) ?_;rw [←hm] at hX hK;clear a4 a8 b0;refine Su ?_;exact QW.head kv ⟨a0,hP,hK,hX⟩ BQ
 rintro kv w9 ⟨a0,hP,hK,hX⟩;show CW _ _ _ _ _ [(0,.slice (some a) l.length c),(1,Aj own),(2,.slice q ss.length qc),(7,.slice op k oc),(8,.int .i64 (k:Int)),(9,.pointer (some ⟨X,0,none⟩))] _;refine Sa ?_;refine Cl λC c2 cf ao hC=>?_;replace hC:Blk c2 C (Br ⟨AF Hi own ss nd,kv⟩) 139:=hC;have b6:=a0.trans ao;have c3:=b6.size;have c5:(Br ⟨AF Hi own ss nd,kv⟩).all (·.oneCell')=true:=by
  simp only [Br,List.all_cons,List.all_nil,hK.one];rfl
 obtain ⟨nvs,au,bs,ap⟩:=hP;have bl:nvs.length=k:=by rw [←List.length_map (f:=NV.node),bs,List.length_map,List.length_take];omega
 subst bl;refine Sa ?_;refine LW.append rfl rfl rfl rfl rfl rfl (au.ext ao) (by omega) hC rfl c5 rfl (by show (nvs.length+1)*137≤140737488355328;omega) rfl ?_;intro v2 bt bi aq c6;have e1:(nvs.flatMap Br++Br ⟨AF Hi own ss nd,kv⟩)=(nvs++[(⟨AF Hi own ss nd,kv⟩:NV)]).flatMap Br:=by simp
 have e2:nvs.length+1=(nvs++[(⟨AF Hi own ss nd,kv⟩:NV)]).length:=by simp
 rw [e1] at aq;obtain ⟨p4,c4,rfl⟩:=aq.slice;have ar:Chg (Af (.slice op nvs.length oc)) _ bt:=Chg.trans ao bi;have hS:∀b∈Af (Value.slice op nvs.length oc),b∈Af (Value.slice none 0 0)∨∃l T,Blk _ b l T∧T≠3:=λb hb=>by
  obtain ⟨_,⟨e,_⟩ | ⟨g,cap,sp,e,hg,_⟩⟩:=au
  ·rw [e] at hb;simp [Af] at hb
  ·rw [e] at hb;simp [Af] at hb;subst hb;exact .inr ⟨_,_,hg,by decide⟩
 have b7:Ae w bt:=a0.step ar (λb hb=>(au.lt hb).1);have c7:l.take (nvs.length+1)=l.take nvs.length++[nd]:=by rw [List.take_add_one,bc];rfl
 refine Sa ?_;refine QW.again (nvs.length+1,p4,c4) ⟨by show nvs.length+1≤_;omega,b7,?_⟩ ?_ (by show l.length - (nvs.length+1)<l.length - nvs.length;omega)
 ·dsimp only;rw [c7];refine ⟨nvs++[⟨AF Hi own ss nd,kv⟩],by rw [←e2];exact aq,by simp [bs],λx hx=>?_⟩;rcases List.mem_append.1 hx with hx | hx
  ·exact ⟨(ap x hx).1.chg (ap x hx).2 ar hS,(ap x hx).2⟩
  ·simp at hx;subst hx;exact ⟨hK.chg (stv:=.slice none 0 0) (by simp [Af]) ar hS,by simp [Af]⟩
 ·exact C2
theorem SJ {t:Tr false} (hf:t.Fit) (hn:t.Num):t.text≠[]:=(t.head hf hn).1
theorem OH (l:List Ag):AH []≠.ok l:=λh=>by
 obtain ⟨_,h1,_,t,hf,hn,_,h2⟩:=HB h;rw [h2] at h1;exact SJ hf hn (List.eq_nil_of_length_eq_zero (by simpa using h1))
theorem Rx {l:List Ag} (hsh:D5 l) (hno:Iz l) (hl:l.length≤100000) (ht:l=[]∨BL l=true) :
  (BF l=[]↔l=[])∧(BF l).length≤400000000∧(∀e,AH (BF l)=.error e→l=[]∨300<(BF l).length∨e=6)∧∀m,AH (BF l)=.ok m→l=m:=by
 rcases ht with rfl | ht
 ·have hp:BF []=[]:=Ko rfl;rw [hp];exact ⟨by simp,by simp,λ_ _=>.inl rfl,λm h=>absurd h (OH m)⟩
 ·obtain ⟨t,rfl,hf⟩:=Iw ht;have hn:=hno t hf rfl;have a0:=t.flat_len 0;have a1:=t.len_le 0 hf hn (λn hm=>(hsh n hm).1);simp only [cond_false] at a1;have a2:t.flat 0≠[]:=λh=>by
   have:=t.cnt_pos;rw [h] at a0;simp at a0;omega
  rw [Gz hf,HA t hf hn];refine ⟨⟨λh=>absurd h (SJ hf hn),λh=>absurd h a2⟩,by omega,λe h=>?_,λm h=>?_⟩
  ·split at h
   ·rename_i h3;exact .inr (.inl h3)
   ·split at h
    ·cases h
    ·simp only [Except.error.injEq] at h;exact .inr (.inr h.symm)
  ·split at h
   ·cases h
   ·split at h
    ·simpa using h
    ·cases h
theorem May.fine {s:CB} (h:s.May):s.Fine:=⟨Gu h.1,Gu h.2⟩
theorem NN {own:List UInt8} {ss:List CB} (hss:∀s∈ss,s.May) {l:List Ag} (hsh:D5 l) (hno:Iz l) (hl:l.length≤100000) (hk:∀n∈l,n.kids.length≤100000) :
  D5 (BI Eb own ss l)∧Iz (BI Eb own ss l)∧(∀n∈BI Eb own ss l,n.kids.length≤100000)∧(BF (BI Eb own ss l)).length≤400000000:=by
 obtain ⟨h1,h2,h3,h4⟩:=PT (own:=own) hss hsh hno 100000 hk;have ht:BI Eb own ss l=[]∨BL (BI Eb own ss l)=true:=by
  by_cases h:BL l=true
  ·obtain ⟨t,rfl,hf⟩:=Iw h;obtain ⟨e,a0⟩:=M3 (own:=own) hss hf;rw [e];exact .inr (Tr.tree _ a0)
  ·exact .inl (by rw [BI,if_neg h])
 exact ⟨h1,h2,h3,(Rx h1 h2 (by omega) ht).2.1⟩
theorem K9 {own:List UInt8} {ss:List CB} {s:List UInt8} {l:List Ag} (h1:Ab s 0=61) (h2:s≠[]) (h3:Cv s=true) (h4:AH (s.drop 1)=.ok l):D0 own ss s=if 300<(BF (BI Eb own ss l)).length+1 then X0 else 61::BF (BI Eb own ss l):=by
 rw [D0,if_pos ⟨h2,h1,h3⟩,h4];rfl
theorem M2 {own:List UInt8} {ss:List CB} {s:List UInt8} (h:s=[]∨Ab s 0≠61∨Cv s=false):D0 own ss s=s:=by
 rw [D0,if_neg];rintro ⟨h1,h2,h3⟩;rcases h with h | h | h
 ·exact h1 h
 ·exact h h2
 ·rw [h] at h3;cases h3
theorem Rz (s own:List UInt8) (ss:List CB) (sv:Value) (hs:s.length≤9223372036854775807) (w:World) (g:CU w) (h:BZ w sv ss) (hss:∀s∈ss,s.May):AA Tryz.prog 48 [Aj s,Aj own,sv] w (λv w'=>v=Aj (D0 own ss s)∧Ae w w'):=by
 refine AL Tryz.func48 Tryz.ntmps48 ?_;refine Sa ?_;refine Ap rfl rfl (OZ s hs w g) ?_;rintro v w1 ⟨hv,hx⟩;rcases hv with ⟨l,nv,rfl,h1,h2,h3,h4,hN⟩ | ⟨rfl,a2⟩
 ·obtain ⟨_,f1,f2,f3,f4⟩:=DL h4;have a3:W3 (s.drop 1) l 0:=.inl ⟨h4,rfl⟩;obtain ⟨m1,m2,m3,m4⟩:=NN (own:=own) hss f2 a3.num (by omega) (λn hn=>by have:=f4 n hn;omega);refine Sa ?_;refine Ap rfl rfl (SN l nv own ss sv w1 (g.ext hx) hN f2.t (h.ext hx) (λs hs=>May.fine (hss s hs))) ?_;rintro v w2 ⟨a4,a5⟩;have a0:=hx.trans a5;refine Sa ?_;refine Ap rfl rfl (N1 _ v w2 (g.ext a0) a4 m1 m2) ?_;rintro v w3 ⟨rfl,a6⟩;have a1:=a0.trans a6;rw [K9 h1 h2 h3 h4];refine Sa ?_;refine Am (λq1=>?_) λq1=>?_
  ·have q1:300<(BF (BI Eb own ss l)).length+1:=by simp at q1;omega
   rw [if_pos q1];refine Sa ?_;exact QW.body1 Tryz.results48 rfl ⟨rfl,a1⟩
  ·have q1:¬300<(BF (BI Eb own ss l)).length+1:=by simp at q1;omega
   rw [if_neg q1];refine Sa ?_;exact QW.body1 Tryz.results48 rfl ⟨rfl,a1⟩
 ·rw [M2 a2];refine Sa ?_;exact QW.body1 Tryz.results48 rfl ⟨rfl,hx⟩
theorem Q3 (s own:List UInt8) (ss:List CB) (sv:Value) (hs:s.length≤9223372036854775807) (w:World) (h:BZ w sv ss) (hss:∀s∈ss,s.May):AA Tryz.prog 51 [Aj s,Aj own,sv] w (λv w'=>v=Aj (D0 own ss s)∧Ae w w'):=by
 refine AL Tryz.func51 Tryz.ntmps51 ?_;refine Sa ?_;refine Ap rfl rfl (OJ s hs w) ?_;rintro v w1 ⟨hv,hx⟩;rcases hv with ⟨l,nv,rfl,h1,h2,h3,h4,hN⟩ | ⟨rfl,a2⟩
 ·obtain ⟨_,f1,f2,f3,f4⟩:=DL h4;have a3:W3 (s.drop 1) l 0:=.inl ⟨h4,rfl⟩;obtain ⟨m1,m2,m3,m4⟩:=NN (own:=own) hss f2 a3.num (by omega) (λn hn=>by have:=f4 n hn;omega);refine Sa ?_;refine Ap rfl rfl (R8 l nv own ss sv w1 hN f2.t (λn hn=>by have:=f4 n hn;omega) (h.ext hx) hss) ?_;rw [←PS hss l];rintro v w2 ⟨a4,a5⟩;have a1:=hx.trans a5;refine Sa ?_;refine Ap rfl rfl (MO _ v w2 a4 m1 (λn hn=>by have:=m3 n hn;omega) m2) ?_;rintro v w3 ⟨rfl,a6⟩;have a0:=a1.trans a6;rw [K9 h1 h2 h3 h4];refine Sa ?_;refine Am (λq1=>?_) λq1=>?_
  ·have q1:300<(BF (BI Eb own ss l)).length+1:=by simp at q1;omega
   rw [if_pos q1];refine Sa ?_;exact QW.body1 Tryz.results51 rfl ⟨rfl,a0⟩
  ·have q1:¬300<(BF (BI Eb own ss l)).length+1:=by simp at q1;omega
   rw [if_neg q1];refine Sa ?_;exact QW.body1 Tryz.results51 rfl ⟨rfl,a0⟩
 ·rw [M2 a2];refine Sa ?_;exact QW.body1 Tryz.results51 rfl ⟨rfl,hx⟩
theorem Ax.ints {w:World} {lo:Nat} {v:Value} {zs:List Int} {n:Nat} (h:Ax w lo 3 1 v n (Ac zs)) (hn:zs.length=n) (hb:zs.length≤100000000):AG w v zs:=by
 refine ⟨by omega,?_⟩;by_cases h0:n=0
 ·have hz:zs=[]:=List.eq_nil_of_length_eq_zero (by omega);subst hz;obtain ⟨_,⟨e,e2⟩ | ⟨g,cap,sp,e,hg,_⟩⟩:=h
  ·exact .inl ⟨e,rfl⟩
  ·exact .inr ⟨_,cap,by rw [e,h0];rfl,λi z hz=>by simp at hz⟩
 ·obtain ⟨g,cap,sp,rfl,hB,_⟩:=h.get (by omega);refine .inr ⟨_,cap,by rw [hn],λi z hz=>hB.getElem _ _ ?_⟩;have hi:i<zs.length:=(List.getElem?_eq_some_iff.1 hz).1;rw [List.getElem?_append_left (by rw [A7];exact hi)];exact GG hz
end Go.Proofs.YtefaigjfkddelaaGreatDoor
