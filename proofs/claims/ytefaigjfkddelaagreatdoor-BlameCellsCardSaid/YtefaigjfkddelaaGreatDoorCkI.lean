/-
  Joined by program out of the texts MapI MapS MovP MovT MovM Mov1 Mov2 Mov4 Mov5 Made Mov3 Mov6 MadeF Mov7 MovK MovS.
-/
import Derived.Test.YtefaigjfkddelaaGreatDoorCkD
import Derived.Test.YtefaigjfkddelaaGreatDoorCkE
import Derived.Test.YtefaigjfkddelaaGreatDoorCkC
import Derived.Test.YtefaigjfkddelaaGreatDoorCkG
import Derived.Test.YtefaigjfkddelaaGreatDoorCkH
import Derived.Test.YtefaigjfkddelaaGreatDoorCkF
import Derived.Test.YtefaigjfkddelaaGreatDoorCkB
namespace Go.Proofs.YtefaigjfkddelaaGreatDoor
open Go Go.E
structure BT where
 to:List Int
 new:Int
def Se (w:World) (vs:List Value) (m:BT):Prop:=∃tv,vs=[tv,.int .i64 m.new]∧AU w tv m.to
theorem Se.ext {w w':World} {vs:List Value} {m:BT} (h:Se w vs m) (x:Ag w w'):Se w' vs m:=by
 obtain ⟨tv,e,h⟩:=h;exact ⟨tv,e,h.ext x⟩
def A9 (m:BT) (i:Int):Int:=if i<0 then -1 else if i<m.to.length then m.to.getD i.toNat 0 else i - m.to.length+m.new
def BT.Fine (m:BT):Prop:=m.to.length≤1000000000∧-1000000000≤m.new∧m.new≤1000000000
theorem Eh (m:BT) (hm:m.Fine) (vs:List Value) (i:Int) (hi:i≤1000000000000) (w:World) (h:Se w vs m):AL Tryz.prog 47 [.agg ⟨vs⟩,.int .i64 i] w (λv w'=>v=.int .i64 (A9 m i)∧Ag w w'):=by
 obtain ⟨tv,rfl,ht⟩:=h;obtain ⟨p,c,rfl⟩:=ht.slice;obtain ⟨m1,m2,m3⟩:=hm;refine Br Tryz.func47 Tryz.ntmps47 ?_;refine Sa ?_;refine Ei λA w1 a0 hx hA=>?_;replace hA:Blk w1 A [.slice p m.to.length c,.int .i64 m.new] 71:=hA;replace ht:=ht.ext hx;refine Sa ?_;refine A4 (λh1=>?_) λh1=>?_
 ·have h1:i<0:=by simpa using h1
  refine Sa ?_;exact QW.body1 Tryz.results47 rfl ⟨by rw [A9,if_pos h1],hx⟩
 have h1:¬i<0:=by simpa using h1
 refine Sa ?_;refine A4 (λh2=>?_) λh2=>?_
 ·have h2:i<m.to.length:=by simpa using h2
  obtain ⟨a,rfl,hc⟩:=ht.at (i:=i.toNat) (by omega);rw [show i.toNat=i.toNat*1 by omega] at hc;refine Sa ?_;refine Lo ?_;refine Lp hc ?_;refine Sa ?_;exact QW.body1 Tryz.results47 rfl ⟨by rw [A9,if_neg h1,if_pos h2,Nat.mul_one],hx⟩
 have h2:¬i<m.to.length:=by simpa using h2
 refine Sa ?_;exact QW.body1 Tryz.results47 rfl ⟨by rw [A9,if_neg h1,if_neg h2],hx⟩
def CO (a b:Int):Int:=if a<b then b else a
def E6 (a:Int):List Int→Int
 | []=>a
 | z::r=>E6 (if 0≤z∧a<0 then z else a) r
def Iz (b:Int):List Int→Int
 | []=>b
 | z::r=>Iz (CO b z) r
theorem Ek (a:Int) (l:List Int) (z:Int):E6 a (l++[z])=if 0≤z∧E6 a l<0 then z else E6 a l:=by
 induction l generalizing a with
 | nil=>rfl
 | cons y r ih=>exact ih _
theorem G3 (b:Int) (l:List Int) (z:Int):Iz b (l++[z])=CO (Iz b l) z:=by
 induction l generalizing b with
 | nil=>rfl
 | cons y r ih=>exact ih _
def CJ (m:BT) (lo k:Nat):List Int:=(m.to.take k).drop lo
def Bf (m:BT) (lo hi:Int):Int×Int×Bool:=
 if lo<0∨hi<lo then (0,0,false) else
  let k:=(min (hi+1) (CO lo m.to.length)).toNat
  let a0:=E6 (-1) (CJ m lo.toNat k)
  let b:=if m.to.length≤hi then A9 m hi else Iz (-1) (CJ m lo.toNat k)
  let a:=if m.to.length≤hi∧a0<0 then A9 m (CO lo m.to.length) else a0
  if a<0 then (0,0,false) else (a,b,true)
theorem E1 {m:BT} {lo k:Nat} (h0:lo≤k) (h:k<m.to.length):CJ m lo (k+1)=CJ m lo k++[m.to.getD k 0]:=by
 unfold CJ;rw [List.take_add_one,List.getElem?_eq_getElem h,List.drop_append_of_le_length (by simp;omega)];simp [List.getD_eq_getElem?_getD,List.getElem?_eq_getElem h]
theorem Jw (m:BT) (lo:Nat):CJ m lo lo=[]:=by
 unfold CJ;simp
set_option maxHeartbeats 1000000 in
theorem Hy (m:BT) (hm:m.Fine) (vs:List Value) (lo hi:Int) (hlo:lo≤1000000000) (hhi:hi≤1000000000) (w:World) (h:Se w vs m):AL Tryz.prog 141 [.agg ⟨vs⟩,.int .i64 lo,.int .i64 hi] w (λv w'=>v=.tuple #[.int .i64 (Bf m lo hi).1,.int .i64 (Bf m lo hi).2.1,.bool (Bf m lo hi).2.2]∧Ag w w'):=by
 have hR:=h;obtain ⟨tv,rfl,ht⟩:=h;obtain ⟨p,c,rfl⟩:=ht.slice;have a9:=hm;obtain ⟨m1,m2,m3⟩:=hm;refine Br Tryz.func141 Tryz.ntmps141 ?_;refine Sa ?_;refine Ei λA w1 ad ab hA=>?_;replace hA:Blk w1 A [.slice p m.to.length c,.int .i64 m.new] 71:=hA;refine Sa ?_;by_cases a1:lo<0
 ·refine LW.know (t:=12) (c:=true) rfl (decide_eq_true a1) ?_;refine Sa ?_;exact QW.body3 Tryz.results141 rfl rfl rfl ⟨by rw [Bf,if_pos (.inl a1)],ab⟩
 refine LW.know (t:=12) (c:=false) rfl (decide_eq_false a1) ?_;refine Sa ?_;refine A4 (λa2=>?_) λa2=>?_
 ·have a2:hi<lo:=by simpa using a2
  refine Sa ?_;exact QW.body3 Tryz.results141 rfl rfl rfl ⟨by rw [Bf,if_pos (.inr a2)],ab⟩
 have a2:¬hi<lo:=by simpa using a2
 obtain ⟨L,rfl⟩:=Int.eq_ofNat_of_zero_le (show 0≤lo by omega);refine Sa ?_;refine CW.loop (ι:=Nat) (λk w'=>L≤k∧(k:Int)≤hi+1∧(k≤m.to.length∨k=L)∧Ag w w'∧Ag w1 w') (λk=>[(1,.int .i64 (L:Int)),(2,.int .i64 hi),(3,.pointer (some ⟨A,0,none⟩)),(6,.int .i64 (E6 (-1) (CJ m L k))),(7,.int .i64 (Iz (-1) (CJ m L k))),(9,.int .i64 (k:Int))]) (λk=>(hi+1 - k).toNat) L ⟨by omega,by omega,.inr rfl,ab,Chg.refl _ _⟩ (by rw [Jw];exact (Af.cons rfl (Af.cons rfl (Af.cons rfl (Af.cons rfl (Af.cons rfl (Af.cons rfl (Af.nil)))))))) ?_;rintro k w2 ⟨k0,k1,k2,a3,a6⟩;replace hA:=hA.ext a6;replace ht:=ht.ext a3;replace hR:=hR.ext a3;have hK:Bf m (L:Int) hi=(if (if (m.to.length:Int)≤hi∧E6 (-1) (CJ m L (min (hi+1) (CO L m.to.length)).toNat)<0 then A9 m (CO L m.to.length) else E6 (-1) (CJ m L (min (hi+1) (CO L m.to.length)).toNat))<0 then (0,0,false) else ((if (m.to.length:Int)≤hi∧E6 (-1) (CJ m L (min (hi+1) (CO L m.to.length)).toNat)<0 then A9 m (CO L m.to.length) else E6 (-1) (CJ m L (min (hi+1) (CO L m.to.length)).toNat)),(if (m.to.length:Int)≤hi then A9 m hi else Iz (-1) (CJ m L (min (hi+1) (CO L m.to.length)).toNat)),true)):=by
  rw [Bf,if_neg (by omega)];rfl
 have aa:CO (L:Int) m.to.length=if (L:Int)<m.to.length then (m.to.length:Int) else L:=rfl;refine Sa ?_;by_cases b1:(k:Int)≤hi;rotate_left
 ·refine LW.know (t:=21) (c:=false) rfl (decide_eq_false b1) ?_;have hk:(min (hi+1) (CO (L:Int) m.to.length)).toNat=k:=by rw [aa];split<;>omega
  rw [hk] at hK;rw [hK];clear hK hk;generalize E6 (-1) (CJ m L k)=a0;generalize Iz (-1) (CJ m L k)=b0;refine Sa ?_;refine A4 (λd1=>?_) λd1=>?_
  ·have d1:(m.to.length:Int)≤hi:=by simpa using d1
   simp only [d1,true_and,if_true];refine Sa ?_;refine AE rfl rfl (Eh m a9 _ hi (by omega) w2 hR) ?_;rintro v w3 ⟨rfl,a7⟩;replace hA:=hA.ext a7;replace hR:=hR.ext a7;have a4:=a3.trans a7;refine Sa ?_;refine A4 (λd2=>?_) λd2=>?_
   ·have d2:a0<0:=by simpa using d2
    simp only [d2,if_true];have hz:(if (L:Int)<m.to.length then (m.to.length:Int) else L)=CO L m.to.length:=rfl;refine Sa ?_;refine LW.max2 rfl rfl rfl ?_;rw [hz];refine AE rfl rfl (Eh m a9 _ (CO L m.to.length) (by rw [aa];split<;>omega) w3 hR) ?_;rintro v w4 ⟨rfl,ac⟩;have a5:=a4.trans ac;refine Sa ?_;refine A4 (λd3=>?_) λd3=>?_
    ·have d3:A9 m (CO L m.to.length)<0:=by simpa using d3
     refine Sa ?_;exact QW.body3 Tryz.results141 rfl rfl rfl ⟨by rw [if_pos d3],a5⟩
    ·have d3:¬A9 m (CO L m.to.length)<0:=by simpa using d3
     refine Sa ?_;exact QW.body3 Tryz.results141 rfl rfl rfl ⟨by rw [if_neg d3],a5⟩
   ·have d2:¬a0<0:=by simpa using d2
    simp only [d2,if_false];refine Sa ?_;refine CW.no rfl (decide_eq_false d2) ?_;refine Sa ?_;exact QW.body3 Tryz.results141 rfl rfl rfl ⟨rfl,a4⟩
  ·have d1:¬(m.to.length:Int)≤hi:=by simpa using d1
   simp only [d1,false_and,if_false];refine Sa ?_;refine A4 (λd2=>?_) λd2=>?_
   ·have d2:a0<0:=by simpa using d2
    refine Sa ?_;exact QW.body3 Tryz.results141 rfl rfl rfl ⟨by rw [if_pos d2],a3⟩
   ·have d2:¬a0<0:=by simpa using d2
    refine Sa ?_;exact QW.body3 Tryz.results141 rfl rfl rfl ⟨by rw [if_neg d2],a3⟩
 refine LW.know (t:=21) (c:=true) rfl (decide_eq_true b1) ?_;refine Sa ?_;refine A4 (λb2=>?_) λb2=>?_;rotate_left
 ·have b2:¬(k:Int)<m.to.length:=by simpa using b2
  have hk:(min (hi+1) (CO (L:Int) m.to.length)).toNat=k:=by rw [aa];split<;>omega
  rw [hk] at hK;rw [hK];clear hK hk;generalize E6 (-1) (CJ m L k)=a0;generalize Iz (-1) (CJ m L k)=b0;refine Sa ?_;refine A4 (λd1=>?_) λd1=>?_
  ·have d1:(m.to.length:Int)≤hi:=by simpa using d1
   simp only [d1,true_and,if_true];refine Sa ?_;refine AE rfl rfl (Eh m a9 _ hi (by omega) w2 hR) ?_;rintro v w3 ⟨rfl,a7⟩;replace hA:=hA.ext a7;replace hR:=hR.ext a7;have a4:=a3.trans a7;refine Sa ?_;refine A4 (λd2=>?_) λd2=>?_
   ·have d2:a0<0:=by simpa using d2
    simp only [d2,if_true];have hz:(if (L:Int)<m.to.length then (m.to.length:Int) else L)=CO L m.to.length:=rfl;refine Sa ?_;refine LW.max2 rfl rfl rfl ?_;rw [hz];refine AE rfl rfl (Eh m a9 _ (CO L m.to.length) (by rw [aa];split<;>omega) w3 hR) ?_;rintro v w4 ⟨rfl,ac⟩;have a5:=a4.trans ac;refine Sa ?_;refine A4 (λd3=>?_) λd3=>?_
    ·have d3:A9 m (CO L m.to.length)<0:=by simpa using d3
     refine Sa ?_;exact QW.body3 Tryz.results141 rfl rfl rfl ⟨by rw [if_pos d3],a5⟩
    ·have d3:¬A9 m (CO L m.to.length)<0:=by simpa using d3
     refine Sa ?_;exact QW.body3 Tryz.results141 rfl rfl rfl ⟨by rw [if_neg d3],a5⟩
   ·have d2:¬a0<0:=by simpa using d2
    simp only [d2,if_false];refine Sa ?_;refine CW.no rfl (decide_eq_false d2) ?_;refine Sa ?_;exact QW.body3 Tryz.results141 rfl rfl rfl ⟨rfl,a4⟩
  ·have d1:¬(m.to.length:Int)≤hi:=by simpa using d1
   simp only [d1,false_and,if_false];refine Sa ?_;refine A4 (λd2=>?_) λd2=>?_
   ·have d2:a0<0:=by simpa using d2
    refine Sa ?_;exact QW.body3 Tryz.results141 rfl rfl rfl ⟨by rw [if_pos d2],a3⟩
   ·have d2:¬a0<0:=by simpa using d2
    refine Sa ?_;exact QW.body3 Tryz.results141 rfl rfl rfl ⟨by rw [if_neg d2],a3⟩
 have b2:k<m.to.length:=by simp at b2;omega
 obtain ⟨a,rfl,hc⟩:=ht.at b2;rw [show m.to.getD k 0=m.to.getD k 0 from rfl] at hc;have hs:=E1 k0 b2;generalize m.to.getD k 0=z at hc hs;have a8:w2.cell? (a.add (((k:Nat):Int).toNat*1))=some (.int .i64 z):=by
  rw [show ((k:Nat):Int).toNat*1=k by omega];exact hc
 refine Sa ?_;refine Lo ?_;refine Lp a8 ?_;refine Sa ?_;have e2:Iz (-1) (CJ m L (k+1))=if Iz (-1) (CJ m L k)<z then z else Iz (-1) (CJ m L k):=by rw [hs,G3];rfl
 by_cases b3:0≤z
 ·refine LW.know (t:=36) (c:=true) rfl (decide_eq_true b3) ?_;refine Sa ?_;refine A4 (λb4=>?_) λb4=>?_
  ·have b4:E6 (-1) (CJ m L k)<0:=by simpa using b4
   have e1:E6 (-1) (CJ m L (k+1))=z:=by rw [hs,Ek,if_pos ⟨b3,b4⟩]
   refine Sa ?_;refine Lo ?_;refine Lp a8 ?_;refine Sa ?_;refine Lo ?_;refine Lp a8 ?_;refine LW.max2 rfl rfl rfl ?_;rw [←e2];refine Sa ?_;refine QW.again (k+1) ⟨by omega,by omega,.inl b2,a3,a6⟩ (by rw [e1];exact (Af.cons rfl (Af.cons rfl (Af.cons rfl (Af.cons rfl (Af.cons rfl (Af.cons rfl (Af.nil)))))))) (by omega)
  ·have b4:¬E6 (-1) (CJ m L k)<0:=by simpa using b4
   have e1:E6 (-1) (CJ m L (k+1))=E6 (-1) (CJ m L k):=by rw [hs,Ek,if_neg (λh=>b4 h.2)]
   refine Sa ?_;refine Lo ?_;refine Lp a8 ?_;refine LW.max2 rfl rfl rfl ?_;rw [←e2];refine Sa ?_;refine QW.again (k+1) ⟨by omega,by omega,.inl b2,a3,a6⟩ (by rw [e1];exact (Af.cons rfl (Af.cons rfl (Af.cons rfl (Af.cons rfl (Af.cons rfl (Af.cons rfl (Af.nil)))))))) (by omega)
 ·refine LW.know (t:=36) (c:=false) rfl (decide_eq_false b3) ?_;have e1:E6 (-1) (CJ m L (k+1))=E6 (-1) (CJ m L k):=by rw [hs,Ek,if_neg (λh=>b3 h.1)]
  refine Sa ?_;refine Lo ?_;refine Lp a8 ?_;refine LW.max2 rfl rfl rfl ?_;rw [←e2];refine Sa ?_;refine QW.again (k+1) ⟨by omega,by omega,.inl b2,a3,a6⟩ (by rw [e1];exact (Af.cons rfl (Af.cons rfl (Af.cons rfl (Af.cons rfl (Af.cons rfl (Af.cons rfl (Af.nil)))))))) (by omega)
def Ci (new:Int):Int→List Int→Bool
 | _,[]=>true
 | last,z::r=>if z=-1 then Ci new last r else if z≤last∨new≤z then false else Ci new z r
def KV (m:BT):Bool:=decide (0≤m.new)&&decide (m.new≤1048576)&&decide (m.to.length≤1048576)&&Ci m.new (-1) m.to
def Mj (m:BT):Prop:=∀j,j<m.to.length→m.to.getD j 0=-1∨(0≤m.to.getD j 0∧m.to.getD j 0<m.new∧∀i,i<j→m.to.getD i 0<m.to.getD j 0)
theorem Hr (new:Int):∀(l:List Int) (last:Int),-1≤last→Ci new last l=true→∀j,j<l.length→l.getD j 0=-1∨(last<l.getD j 0∧l.getD j 0<new∧∀i,i<j→l.getD i 0<l.getD j 0)
 | [],_,_,_,j,hj=>by simp at hj
 | z::r,last,hl,h,j,hj=>by
  rw [Ci] at h;by_cases hz:z=-1
  ·rw [if_pos hz] at h
   match j,hj with
   | 0,_=>exact .inl hz
   | j+1,hj=>
    have ih:=Hr new r last hl h j (by simpa using hj);simp only [List.getD_cons_succ];rcases ih with ih | ⟨h1,h2,h3⟩
    ·exact .inl ih
    ·refine .inr ⟨h1,h2,λi hi=>?_⟩
     match i,hi with
     | 0,_=>simp only [List.getD_cons_zero];omega
     | i+1,hi=>simp only [List.getD_cons_succ];exact h3 i (by omega)
  ·rw [if_neg hz] at h;by_cases hy:z≤last∨new≤z
   ·rw [if_pos hy] at h;cases h
   ·rw [if_neg hy] at h
    match j,hj with
    | 0,_=>exact .inr ⟨by simp only [List.getD_cons_zero];omega,by simp only [List.getD_cons_zero];omega,λi hi=>by omega⟩
    | j+1,hj=>
     have ih:=Hr new r z (by omega) h j (by simpa using hj);simp only [List.getD_cons_succ];rcases ih with ih | ⟨h1,h2,h3⟩
     ·exact .inl ih
     ·refine .inr ⟨by omega,h2,λi hi=>?_⟩
      match i,hi with
      | 0,_=>simp only [List.getD_cons_zero];omega
      | i+1,hi=>simp only [List.getD_cons_succ];exact h3 i (by omega)
theorem El {m:BT} (h:KV m=true):0≤m.new∧m.new≤1048576∧m.to.length≤1048576∧Mj m:=by
 simp only [KV,Bool.and_eq_true,decide_eq_true_eq] at h;obtain ⟨⟨⟨h1,h2⟩,h3⟩,h4⟩:=h;refine ⟨h1,h2,h3,λj hj=>?_⟩;rcases Hr _ _ _ (by omega) h4 j hj with h | ⟨a,b,c⟩
 ·exact .inl h
 ·exact .inr ⟨by omega,b,c⟩
theorem LH {m:BT} (h:KV m=true):m.Fine:=by
 obtain ⟨h1,h2,h3,_⟩:=El h;exact ⟨by omega,by omega,by omega⟩
theorem Jq {m:BT} {lo:Nat}:∀n,lo+n≤m.to.length→(∀j,lo≤j→j<lo+n→m.to.getD j 0<0)→E6 (-1) (CJ m lo (lo+n))=-1
 | 0,_,_=>by rw [Nat.add_zero,Jw];rfl
 | n+1,h,hj=>by
  rw [←Nat.add_assoc,E1 (by omega) (by omega),Ek,Jq n (by omega) (λj h1 h2=>hj j h1 (by omega))];have:=hj (lo+n) (by omega) (by omega);rw [if_neg (by omega)]
theorem OM {m:BT} {lo a:Nat} (ha:lo≤a) (hd:∀j,lo≤j→j<a→m.to.getD j 0<0) (hz:0≤m.to.getD a 0):∀n,a+1+n≤m.to.length→E6 (-1) (CJ m lo (a+1+n))=m.to.getD a 0
 | 0,h=>by
  have e:=Jq (m:=m) (lo:=lo) (a - lo) (by omega) (λj h1 h2=>hd j h1 (by omega));rw [show lo+(a - lo)=a by omega] at e
  rw [Nat.add_zero,E1 ha (by omega),Ek,e,if_pos ⟨hz,by omega⟩]
 | n+1,h=>by
  rw [←Nat.add_assoc,E1 (by omega) (by omega),Ek,OM ha hd hz n (by omega),if_neg (by omega)]
theorem Tb {m:BT} {lo:Nat} {x:Int} (hx:-1<x):∀n,lo+n≤m.to.length→(∀j,lo≤j→j<lo+n→m.to.getD j 0<x)→Iz (-1) (CJ m lo (lo+n))<x
 | 0,_,_=>by rw [Nat.add_zero,Jw];exact hx
 | n+1,h,hj=>by
  have ih:=Tb hx n (by omega) (λj h1 h2=>hj j h1 (by omega));have:=hj (lo+n) (by omega) (by omega);rw [←Nat.add_assoc,E1 (by omega) (by omega),G3,CO]
  split<;>omega
theorem SZ {m:BT} (hr:Mj m) {lo b:Nat} (hb:lo≤b) (hz:0≤m.to.getD b 0):∀n,b+1+n≤m.to.length→(∀j,b<j→j<b+1+n→m.to.getD j 0<0)→Iz (-1) (CJ m lo (b+1+n))=m.to.getD b 0
 | 0,h,_=>by
  have e:=Tb (m:=m) (lo:=lo) (x:=m.to.getD b 0) (by omega) (b - lo) (by omega) (λj h1 h2=>by
   rcases hr b (by omega) with h3 | ⟨_,_,h3⟩
   ·omega
   ·exact h3 j (by omega))
  rw [show lo+(b - lo)=b by omega] at e
  rw [Nat.add_zero,E1 hb (by omega),G3,CO,if_pos e]
 | n+1,h,hj=>by
  have:=hj (b+1+n) (by omega) (by omega);rw [←Nat.add_assoc,E1 (by omega) (by omega),G3,SZ hr hb hz n (by omega) (λj h1 h2=>hj j h1 (by omega)),CO,if_neg (by omega)]
theorem Fz {m:BT} {a:Nat} (h:a<m.to.length):A9 m (a:Int)=m.to.getD a 0:=by
 rw [A9,if_neg (by omega),if_pos (by omega)];rfl
theorem HF {m:BT} {a:Nat} (h:m.to.length≤a):A9 m (a:Int)=a - m.to.length+m.new:=by
 rw [A9,if_neg (by omega),if_neg (by omega)]
theorem KH {m:BT} (hr:Mj m) (hn:0≤m.new) {lo hi a b:Nat} (hlo:lo≤a) (hab:a≤b) (hb:b≤hi) (ha0:∀j,lo≤j→j<a→j<m.to.length∧m.to.getD j 0<0) (ha1:a<m.to.length→0≤m.to.getD a 0)
  (hb0:∀j,b<j→j≤hi→j<m.to.length∧m.to.getD j 0<0) (hb1:b<m.to.length→0≤m.to.getD b 0):Bf m lo hi=(A9 m a,A9 m b,true):=by
 rw [Bf,if_neg (by omega)];have a0:CO (lo:Int) m.to.length=if (lo:Int)<m.to.length then (m.to.length:Int) else lo:=rfl;by_cases h1:(m.to.length:Int)≤hi
 ·have a1:b=hi:=by
   rcases Nat.lt_or_ge b hi with h | h
   ·have:=(hb0 hi h (Nat.le_refl _)).1;omega
   ·omega
  subst a1;simp only [h1,true_and,if_true];by_cases h2:a<m.to.length
  ·have hk:(min ((b:Int)+1) (CO lo m.to.length)).toNat=a+1+(m.to.length - a - 1):=by rw [a0];split<;>omega
   have e:=OM hlo (λj h3 h4=>(ha0 j h3 h4).2) (ha1 h2) (m.to.length - a - 1) (by omega);have:=ha1 h2;rw [hk,show ((lo:Nat):Int).toNat=lo by omega,e,if_neg (by omega),if_neg (by omega),Fz h2]
  ·have e:E6 (-1) (CJ m lo (min ((b:Int)+1) (CO lo m.to.length)).toNat)=-1:=by
    rw [a0]
    split
    ·rename_i h3;have e:=Jq (m:=m) (lo:=lo) (m.to.length - lo) (by omega) (λj h4 h5=>(ha0 j h4 (by omega)).2);rw [show (min ((b:Int)+1) (m.to.length:Int)).toNat=lo+(m.to.length - lo) by omega];exact e
    ·rw [show (min ((b:Int)+1) (lo:Int)).toNat=lo by omega,Jw];rfl
   have ea:CO (lo:Int) m.to.length=a:=by
    rw [a0]
    split
    ·rename_i h3;have:¬m.to.length<a:=λh4=>by have:=(ha0 (m.to.length) (by omega) h4).1;omega
     omega
    ·have:¬lo<a:=λh4=>by have:=(ha0 lo (by omega) h4).1;omega
     omega
   rw [show ((lo:Nat):Int).toNat=lo by omega,e,if_pos (show (-1:Int)<0 by omega),ea,HF (by omega),if_neg (by omega)]
 ·simp only [h1,false_and,if_false];have hk:(min ((hi:Int)+1) (CO lo m.to.length)).toNat=a+1+(hi - a):=by rw [a0];split<;>omega
  have a2:a+1+(hi - a)=b+1+(hi - b):=by omega
  have e:=OM hlo (λj h3 h4=>(ha0 j h3 h4).2) (ha1 (by omega)) (hi - a) (by omega);have e2:=SZ hr (show lo≤b by omega) (hb1 (by omega)) (hi - b) (by omega) (λj h3 h4=>(hb0 j h3 (by omega)).2);have:=ha1 (by omega);rw [hk,show ((lo:Nat):Int).toNat=lo by omega,e,a2,e2,if_neg (by omega),Fz (by omega),Fz (by omega)]
theorem LV {m:BT} {lo hi:Nat} (h:∀j,lo≤j→j≤hi→j<m.to.length∧m.to.getD j 0<0) (hl:lo≤hi):Bf m lo hi=(0,0,false):=by
 have hh:=(h hi hl (Nat.le_refl _)).1;have a0:CO (lo:Int) m.to.length=if (lo:Int)<m.to.length then (m.to.length:Int) else lo:=rfl;rw [Bf,if_neg (by omega)];have h1:¬(m.to.length:Int)≤hi:=by omega
 simp only [h1,false_and,if_false];have hk:(min ((hi:Int)+1) (CO lo m.to.length)).toNat=lo+(hi+1 - lo):=by rw [a0];split<;>omega
 have e:=Jq (m:=m) (lo:=lo) (hi+1 - lo) (by omega) (λj h4 h5=>(h j h4 (by omega)).2);rw [hk,show ((lo:Nat):Int).toNat=lo by omega,e,if_pos (by omega)]
theorem Np (P:Nat→Prop) [DecidablePred P] (lo:Nat):∀n,(∀j,lo≤j→j<lo+n→¬P j)∨∃a,lo≤a∧a<lo+n∧P a∧∀j,lo≤j→j<a→¬P j
 | 0=>.inl λj h1 h2=>by omega
 | n+1=>by
  rcases Np P lo n with h | ⟨a,h1,h2,h3,h4⟩
  ·by_cases hp:P (lo+n)
   ·exact .inr ⟨lo+n,by omega,by omega,hp,λj h1 h2=>h j h1 (by omega)⟩
   ·refine .inl λj h1 h2=>?_;rcases Nat.lt_or_ge j (lo+n) with h3 | h3
    ·exact h j h1 h3
    ·obtain rfl:j=lo+n:=by omega
     exact hp
  ·exact .inr ⟨a,h1,by omega,h3,h4⟩
theorem PU (P:Nat→Prop) [DecidablePred P] (lo:Nat):∀n,(∀j,lo≤j→j<lo+n→¬P j)∨∃b,lo≤b∧b<lo+n∧P b∧∀j,b<j→j<lo+n→¬P j
 | 0=>.inl λj h1 h2=>by omega
 | n+1=>by
  by_cases hp:P (lo+n)
  ·exact .inr ⟨lo+n,by omega,by omega,hp,λj h1 h2=>by omega⟩
  ·rcases PU P lo n with h | ⟨b,h1,h2,h3,h4⟩
   ·refine .inl λj h1 h2=>?_;rcases Nat.lt_or_ge j (lo+n) with h3 | h3
    ·exact h j h1 h3
    ·obtain rfl:j=lo+n:=by omega
     exact hp
   ·refine .inr ⟨b,h1,by omega,h3,λj h5 h6=>?_⟩;rcases Nat.lt_or_ge j (lo+n) with h7 | h7
    ·exact h4 j h5 h7
    ·obtain rfl:j=lo+n:=by omega
     exact hp
theorem SN {m:BT} (hr:Mj m) {a b:Nat} (h:a<b) (hb:b<m.to.length→0≤m.to.getD b 0) (ha:a<m.to.length→0≤m.to.getD a 0):A9 m (a:Int)<A9 m (b:Int):=by
 by_cases h1:b<m.to.length
 ·rw [Fz h1,Fz (by omega)];rcases hr b h1 with h2 | ⟨_,_,h2⟩
  ·have:=hb h1;omega
  ·exact h2 a h
 ·rw [HF (show m.to.length≤b by omega)];by_cases h2:a<m.to.length
  ·rw [Fz h2];rcases hr a h2 with h3 | ⟨_,h3,_⟩
   ·have:=ha h2;omega
   ·omega
  ·rw [HF (show m.to.length≤a by omega)];omega
theorem Vl {m:BT} (hr:Mj m) {a b:Nat} (h:a≤b) (hb:b<m.to.length→0≤m.to.getD b 0) (ha:a<m.to.length→0≤m.to.getD a 0):A9 m (a:Int)≤A9 m (b:Int):=by
 rcases Nat.lt_or_ge a b with h1 | h1
 ·have:=SN hr h1 hb ha;omega
 ·obtain rfl:a=b:=by omega
  omega
theorem SM {m:BT} (hn:0≤m.new) {a:Nat} (ha:a<m.to.length→0≤m.to.getD a 0):0≤A9 m (a:Int):=by
 by_cases h1:a<m.to.length
 ·rw [Fz h1];exact ha h1
 ·rw [HF (by omega)];omega
theorem Pz {m:BT} (hr:Mj m) (hn:0≤m.new) {lo hi:Nat} (h:lo≤hi):Bf m lo hi=(0,0,false)∨∃a b:Nat,lo≤a∧a≤b∧b≤hi∧Bf m lo hi=(A9 m a,A9 m b,true)∧0≤A9 m a∧A9 m a≤A9 m b:=by
 have hP:∀j,¬(m.to.length≤j∨0≤m.to.getD j 0)↔(j<m.to.length∧m.to.getD j 0<0):=λj=>by omega
 rcases Np (λj=>m.to.length≤j∨0≤m.to.getD j 0) lo (hi+1 - lo) with h1 | ⟨a,h1,h2,h3,h4⟩
 ·exact .inl (LV (λj h2 h3=>(hP j).1 (h1 j h2 (by omega))) h)
 ·rcases PU (λj=>m.to.length≤j∨0≤m.to.getD j 0) lo (hi+1 - lo) with k1 | ⟨b,k1,k2,k3,k4⟩
  ·exact absurd h3 (k1 a h1 h2)
  ·have a0:a≤b:=by
    rcases Nat.lt_or_ge b a with h5 | h5
    ·exact absurd k3 (h4 b k1 h5)
    ·exact h5
   have a1:a<m.to.length→0≤m.to.getD a 0:=λh5=>by omega
   have a2:b<m.to.length→0≤m.to.getD b 0:=λh5=>by omega
   exact .inr ⟨a,b,h1,a0,by omega,KH hr hn h1 a0 (by omega) (λj h5 h6=>(hP j).1 (h4 j h5 h6)) a1 (λj h5 h6=>(hP j).1 (k4 j h5 (by omega))) a2,SM hn a1,Vl hr a0 a2 a1⟩
theorem TD {m:BT} (hr:Mj m) (hn:0≤m.new) (i:Nat):Bf m i i=if A9 m i<0 then (0,0,false) else (A9 m i,A9 m i,true):=by
 by_cases h:i<m.to.length∧m.to.getD i 0<0
 ·rw [LV (λj h1 h2=>(show j=i by omega) ▸ h) (Nat.le_refl _),Fz h.1,if_pos h.2]
 ·have h1:i<m.to.length→0≤m.to.getD i 0:=λh2=>by omega
  have:=SM hn h1;rw [KH hr hn (Nat.le_refl _) (Nat.le_refl _) (Nat.le_refl _) (λj h2 h3=>by omega) h1 (λj h2 h3=>by omega) h1,if_neg (by omega)]
structure BQ where
 sheet:List UInt8
 rows:BT
 cols:BT
 gone:Bool
def BQ.May (s:BQ):Prop:=KV s.rows=true∧KV s.cols=true
def BQ.Fine (s:BQ):Prop:=s.rows.Fine∧s.cols.Fine
def Bx:Ab:={kind:=4}
def Tp (own:List UInt8) (n:Ab):List UInt8:=if n.ref.sheet=[] then own else n.ref.sheet
def HC (ss:List BQ) (x:List UInt8):Option BQ:=ss.find? (λs=>decide (s.sheet=x))
def Ch (n:Ab):Cn:=if n.kind=5 then n.ref else n.to
def CE (s:BQ) (n:Ab):Prop:=(Bf s.rows n.ref.row (Ch n).row).2.2=false∨(Bf s.cols n.ref.col (Ch n).col).2.2=false∨998<(Bf s.rows n.ref.row (Ch n).row).2.1∨701<(Bf s.cols n.ref.col (Ch n).col).2.1
instance (s : BQ) (n : Ab) : Decidable (CE s n) := by unfold CE; infer_instance
def Jd (s:BQ) (n:Ab):Ab:=
 {n with ref:={n.ref with row:=(Bf s.rows n.ref.row (Ch n).row).1,col:=(Bf s.cols n.ref.col (Ch n).col).1},to:=if n.kind=6 then {n.to with row:=(Bf s.rows n.ref.row (Ch n).row).2.1,col:=(Bf s.cols n.ref.col (Ch n).col).2.1} else n.to}
def DA (s:BQ) (n:Ab):Ab:=if s.gone=true then Bx else if CE s n then Bx else Jd s n
def Wl (s:BQ) (n:Ab):Ab:=
 if s.gone=true then Bx
 else if n.kind=5 then (if AV {n.ref with row:=A9 s.rows n.ref.row,col:=A9 s.cols n.ref.col}=true then {n with ref:={n.ref with row:=A9 s.rows n.ref.row,col:=A9 s.cols n.ref.col}} else Bx)
 else if (Bf s.rows n.ref.row n.to.row).2.2=true∧(Bf s.cols n.ref.col n.to.col).2.2=true∧AV {n.ref with row:=(Bf s.rows n.ref.row n.to.row).1,col:=(Bf s.cols n.ref.col n.to.col).1}=true∧AV {n.to with row:=(Bf s.rows n.ref.row n.to.row).2.1,col:=(Bf s.cols n.ref.col n.to.col).2.1}=true then
  {n with ref:={n.ref with row:=(Bf s.rows n.ref.row n.to.row).1,col:=(Bf s.cols n.ref.col n.to.col).1},to:={n.to with row:=(Bf s.rows n.ref.row n.to.row).2.1,col:=(Bf s.cols n.ref.col n.to.col).2.1}}
 else Bx
def Bb (go:BQ→Ab→Ab) (own:List UInt8) (ss:List BQ) (n:Ab):Ab:=
 if n.kind≠5∧n.kind≠6 then n else match HC ss (Tp own n) with
  | none=>n
  | some s=>go s n
def BZ (go:BQ→Ab→Ab) (own:List UInt8) (ss:List BQ) (l:List Ab):List Ab:=if BI l=true then l.map (Bb go own ss) else []
theorem C4 {x:Cn} (h:AV x=true):0≤x.col∧x.col≤701∧0≤x.row∧x.row≤998∧∀r c,0≤r→r≤998→0≤c→c≤701→AV {x with row:=r,col:=c}=true:=by
 simp only [AV,Bool.and_eq_true,decide_eq_true_eq] at h ⊢;obtain ⟨⟨⟨⟨h0,h1⟩,h2⟩,h3⟩,h4⟩:=h;exact ⟨h1,h2,h3,h4,λr c h5 h6 h7 h8=>⟨⟨⟨⟨h0,h7⟩,h8⟩,h5⟩,h6⟩⟩
theorem Kj {x:Cn} (h:AV x=true) (r c:Int):AV {x with row:=r,col:=c}=true↔0≤r∧r≤998∧0≤c∧c≤701:=by
 obtain ⟨_,_,_,_,h5⟩:=C4 h;refine ⟨λhh=>?_,λ⟨h1,h2,h3,h4⟩=>h5 r c h1 h2 h3 h4⟩;obtain ⟨a,b,c,d,_⟩:=C4 hh;exact ⟨c,d,a,b⟩
theorem I7 {n:Ab} (h:A3 n=true) (hk:n.kind=5):AV n.ref=true∧n.num=0∧n.text=[]∧n.to=AF:=by
 simp only [A3,G6,AO,hk] at h;simp at h;exact ⟨h.1,h.2.1,h.2.2.1,h.2.2.2⟩
theorem Ge {n:Ab} (h:A3 n=true) (hk:n.kind=6):AV n.ref=true∧AV n.to=true∧Bk n.ref n.to=true∧n.num=0∧n.text=[]:=by
 simp only [A3,G6,AO,hk] at h;simp at h;exact ⟨h.1.1,h.1.2.1,h.1.2.2,h.2.1,h.2.2⟩
theorem HU {a b:Cn} (h:Bk a b=true):b.sheet=[]∧a.col≤b.col∧a.row≤b.row:=by
 simp only [Bk,Bool.and_eq_true,decide_eq_true_eq] at h;exact ⟨h.1.1,h.1.2,h.2⟩
theorem Ie {m:BT} (hr:Mj m) (hn:0≤m.new) {lo hi:Int} (h0:0≤lo) (h:lo≤hi):Bf m lo hi=(0,0,false)∨∃a b:Nat,lo≤a∧a≤b∧b≤hi∧Bf m lo hi=(A9 m a,A9 m b,true)∧0≤A9 m a∧A9 m a≤A9 m b:=by
 obtain ⟨a,rfl⟩:=Int.eq_ofNat_of_zero_le h0;obtain ⟨b,rfl⟩:=Int.eq_ofNat_of_zero_le (show 0≤hi by omega);rcases Pz hr hn (lo:=a) (hi:=b) (by omega) with h1 | ⟨x,y,h1,h2,h3,h4⟩
 ·exact .inl h1
 ·exact .inr ⟨x,y,by omega,h2,by omega,h4⟩
theorem Ig {m:BT} (hr:Mj m) (hn:0≤m.new) {i:Int} (h:0≤i):Bf m i i=if A9 m i<0 then (0,0,false) else (A9 m i,A9 m i,true):=by
 obtain ⟨a,rfl⟩:=Int.eq_ofNat_of_zero_le h;exact TD hr hn a
theorem Um {s:BQ} (hm:s.May) {n:Ab} (hp:A3 n=true) (hk:n.kind=5∨n.kind=6):DA s n=Wl s n:=by
 obtain ⟨r1,_,_,r4⟩:=El hm.1;obtain ⟨c1,_,_,c4⟩:=El hm.2;unfold DA Wl;by_cases hg:s.gone=true
 ·rw [if_pos hg,if_pos hg]
 rw [if_neg hg,if_neg hg];rcases hk with hk | hk
 ·obtain ⟨h1,h2,h3,h4⟩:=I7 hp hk;obtain ⟨b1,b2,b3,b4,_⟩:=C4 h1;have a0:=Kj h1 (A9 s.rows n.ref.row) (A9 s.cols n.ref.col);have hl:Ch n=n.ref:=by rw [Ch,if_pos hk]
  have er:=Ig r4 r1 b3;have ec:=Ig c4 c1 b1;rw [if_pos hk];by_cases x1:A9 s.rows n.ref.row<0
  ·have hg:CE s n:=by unfold CE;rw [hl,er,if_pos x1];exact .inl rfl
   rw [if_pos hg,if_neg (by rw [a0];omega)]
  by_cases x2:A9 s.cols n.ref.col<0
  ·have hg:CE s n:=by unfold CE;rw [hl,ec,if_pos x2];exact .inr (.inl rfl)
   rw [if_pos hg,if_neg (by rw [a0];omega)]
  have hw:Jd s n={n with ref:={n.ref with row:=A9 s.rows n.ref.row,col:=A9 s.cols n.ref.col}}:=by
   unfold Jd;rw [hl,er,ec,if_neg x1,if_neg x2,if_neg (show ¬n.kind=6 by omega)]
  by_cases x3:998<A9 s.rows n.ref.row∨701<A9 s.cols n.ref.col
  ·have hg:CE s n:=by unfold CE;rw [hl,er,ec,if_neg x1,if_neg x2];exact .inr (.inr x3)
   rw [if_pos hg,if_neg (by rw [a0];omega)]
  ·have hg:¬CE s n:=by unfold CE;rw [hl,er,ec,if_neg x1,if_neg x2];simpa using x3
   rw [if_neg hg,hw,if_pos (by rw [a0];omega)]
 ·obtain ⟨h1,h2,h3,h4,h5⟩:=Ge hp hk;obtain ⟨b1,b2,b3,b4,_⟩:=C4 h1;obtain ⟨q1,q2,q3⟩:=HU h3;have hl:Ch n=n.to:=by rw [Ch,if_neg (by omega)]
  rw [if_neg (show ¬n.kind=5 by omega)];rcases Ie r4 r1 b3 q3 with er | ⟨x,y,_,_,_,er,er1,er2⟩
  ·have hg:CE s n:=by unfold CE;rw [hl,er];exact .inl rfl
   rw [if_pos hg,er,if_neg (λh=>by cases h.1)]
  rcases Ie c4 c1 b1 q2 with ec | ⟨u,v,_,_,_,ec,ec1,ec2⟩
  ·have hg:CE s n:=by unfold CE;rw [hl,ec];exact .inr (.inl rfl)
   rw [if_pos hg,ec,if_neg (λh=>by cases h.2.1)]
  have i1:=Kj h1 (A9 s.rows x) (A9 s.cols u);have i2:=Kj h2 (A9 s.rows y) (A9 s.cols v);have hw:Jd s n={n with ref:={n.ref with row:=A9 s.rows x,col:=A9 s.cols u},to:={n.to with row:=A9 s.rows y,col:=A9 s.cols v}}:=by
   unfold Jd;rw [hl,er,ec,if_pos hk]
  by_cases x3:998<A9 s.rows y∨701<A9 s.cols v
  ·have hg:CE s n:=by unfold CE;rw [hl,er,ec];exact .inr (.inr x3)
   rw [if_pos hg,er,ec,if_neg (λh=>by have:=i2.1 h.2.2.2;omega)]
  ·have hg:¬CE s n:=by unfold CE;rw [hl,er,ec];simpa using x3
   rw [if_neg hg,hw,er,ec,if_pos ⟨rfl,rfl,i1.2 (by omega),i2.2 (by omega)⟩]
theorem Iw {ss:List BQ} {x:List UInt8} {s:BQ} (h:HC ss x=some s):s∈ss∧s.sheet=x:=by
 unfold HC at h;have h1:=List.find?_some h;exact ⟨List.mem_of_find?_eq_some h,by simpa using h1⟩
theorem SJ {s:BQ} (hm:s.May) {n:Ab} (hp:A3 n=true) (hk:n.kind=5∨n.kind=6):A3 (DA s n)=true∧1≤(DA s n).kind∧(DA s n).kind≤6∧(DA s n).num=0∧(DA s n).text=[]∧(DA s n).ref.sheet.length≤n.ref.sheet.length∧(DA s n).to.sheet.length≤n.to.sheet.length∧((DA s n).kids=n.kids∨DA s n=Bx):=by
 have hd:A3 Bx=true∧1≤Bx.kind∧Bx.kind≤6∧Bx.num=0∧Bx.text=[]∧Bx.ref.sheet.length≤n.ref.sheet.length∧Bx.to.sheet.length≤n.to.sheet.length∧(Bx.kids=n.kids∨Bx=Bx):=⟨rfl,by decide,by decide,rfl,rfl,by simp [Bx,AF],by simp [Bx,AF],.inr rfl⟩;obtain ⟨r1,_,_,r4⟩:=El hm.1;obtain ⟨c1,_,_,c4⟩:=El hm.2;rw [Um hm hp hk];unfold Wl
 split
 ·exact hd
 split
 ·rename_i a0;obtain ⟨h1,h2,h3,h4⟩:=I7 hp a0
  split
  ·rename_i hb;refine ⟨?_,by show 1≤n.kind;omega,by show n.kind≤6;omega,h2,h3,Nat.le_refl _,Nat.le_refl _,.inl rfl⟩;simp only [A3,G6,AO,a0,hb,h2,h3,h4];simp
  ·exact hd
 ·rename_i a0;have a1:n.kind=6:=by omega
  obtain ⟨h1,h2,h3,h4,h5⟩:=Ge hp a1;obtain ⟨q1,q2,q3⟩:=HU h3;obtain ⟨b1,b2,b3,b4,_⟩:=C4 h1
  split
  ·rename_i hb;obtain ⟨e1,e2,e3,e4⟩:=hb;refine ⟨?_,by show 1≤n.kind;omega,by show n.kind≤6;omega,h4,h5,Nat.le_refl _,Nat.le_refl _,.inl rfl⟩;rcases Ie r4 r1 b3 q3 with er | ⟨x,y,_,_,_,er,er1,er2⟩
   ·rw [er] at e1;cases e1
   rcases Ie c4 c1 b1 q2 with ec | ⟨u,v,_,_,_,ec,ec1,ec2⟩
   ·rw [ec] at e2;cases e2
   rw [er,ec] at e3 e4 ⊢;have a2:Bk {n.ref with row:=A9 s.rows x,col:=A9 s.cols u} {n.to with row:=A9 s.rows y,col:=A9 s.cols v}=true:=by
    simp only [Bk,Bool.and_eq_true,decide_eq_true_eq];exact ⟨⟨q1,ec2⟩,er2⟩
   simp only [A3,G6,AO,a1,e3,e4,a2,h4,h5];simp
  ·exact hd
def Tr.mv (f:Ab→Ab):{b:Bool}→Tr b→Tr b
 | _,.leaf n=>.leaf (f n)
 | _,.neg a=>.neg (a.mv f)
 | _,.two k a b=>.two k (a.mv f) (b.mv f)
 | _,.call x ks=>.call x (ks.mv f)
 | _,.nil=>.nil
 | _,.snoc ks a=>.snoc (ks.mv f) (a.mv f)
structure P5 (f:Ab→Ab):Prop where
 inner:∀n:Ab,7≤n.kind→f n=n
 leaf:∀n:Ab,1≤n.kind→n.kind≤6→n.kids=[]→A3 n=true→1≤(f n).kind∧(f n).kind≤6∧(f n).kids=[]∧A3 (f n)=true∧(f n=n∨(f n).num=0)
theorem SU {n:Ab} {k:Ak} (h:k∈BH n):k.num=n.num∨k.num=0:=by
 unfold BH at h
 repeat' split at h
 all_goals simp only [List.mem_cons,List.not_mem_nil,or_false] at h
 all_goals first | (subst h;first | exact .inl rfl | exact .inr rfl) | (rcases h with rfl | rfl | rfl<;>exact .inr rfl)
theorem ER (f:Ab→Ab):∀{b:Bool} (t:Tr b),(t.mv f).cnt=t.cnt
 | _,.leaf _=>rfl
 | _,.neg a=>by simp only [Tr.mv,Tr.cnt,ER f a]
 | _,.two _ a b=>by simp only [Tr.mv,Tr.cnt,ER f a,ER f b]
 | _,.call _ ks=>by simp only [Tr.mv,Tr.cnt,ER f ks]
 | _,.nil=>rfl
 | _,.snoc ks a=>by simp only [Tr.mv,Tr.cnt,ER f ks,ER f a]
theorem PY (f:Ab→Ab) (o:Nat):∀{b:Bool} (t:Tr b),(t.mv f).kids o=t.kids o
 | _,.leaf _=>rfl
 | _,.neg _=>rfl
 | _,.two _ _ _=>rfl
 | _,.call _ _=>rfl
 | _,.nil=>rfl
 | _,.snoc ks a=>by simp only [Tr.mv,Tr.kids,PY f o ks,ER]
theorem F2 {f:Ab→Ab} (h:P5 f):∀{b:Bool} (t:Tr b) (o:Nat),t.Fit→(t.mv f).flat o=(t.flat o).map f
 | _,.leaf _,_,_=>rfl
 | _,.neg a,o,hf=>by simp only [Tr.mv,Tr.flat,F2 h a o hf,ER,List.map_append,List.map_cons,List.map_nil];rw [h.inner _ (by show (7:Int)≤8;omega)]
 | _,.two k a b,o,hf=>by
  simp only [Tr.mv,Tr.flat,F2 h a o hf.2.2.1,F2 h b (o+a.cnt) hf.2.2.2,ER,List.map_append,List.map_cons,List.map_nil]
  rw [h.inner _ (by have:=hf.1;show 7≤k;omega)]
 | _,.call x ks,o,hf=>by simp only [Tr.mv,Tr.flat,F2 h ks o hf.2,PY,List.map_append,List.map_cons,List.map_nil];rw [h.inner _ (by show (7:Int)≤7;omega)]
 | _,.nil,_,_=>rfl
 | _,.snoc ks a,o,hf=>by simp only [Tr.mv,Tr.flat,F2 h ks o hf.1,F2 h a (o+ks.cnt) hf.2,ER,List.map_append]
theorem Hk {f:Ab→Ab} (h:P5 f):∀{b:Bool} (t:Tr b),t.Fit→(t.mv f).Fit
 | _,.leaf n,hf=>by
  obtain ⟨a,b,c,d,_⟩:=h.leaf n hf.1 hf.2.1 hf.2.2.1 hf.2.2.2
  exact ⟨a,b,c,d⟩
 | _,.neg a,hf=>Hk h a hf
 | _,.two k a b,hf=>⟨hf.1,hf.2.1,Hk h a hf.2.2.1,Hk h b hf.2.2.2⟩
 | _,.call x ks,hf=>⟨hf.1,Hk h ks hf.2⟩
 | _,.nil,_=>trivial
 | _,.snoc ks a,hf=>⟨Hk h ks hf.1,Hk h a hf.2⟩
theorem FY {f:Ab→Ab} (h:P5 f):∀{b:Bool} (t:Tr b),t.Fit→t.Num→(t.mv f).Num
 | _,.leaf n,hf,hn=>λk hk=>by
  obtain ⟨_,_,_,_,e⟩:=h.leaf n hf.1 hf.2.1 hf.2.2.1 hf.2.2.2;have hk':k∈BH (f n):=hk;rcases e with e | e
  ·rw [e] at hk';exact hn k hk'
  ·rcases SU hk' with h1 | h1<;>omega
 | _,.neg a,hf,hn=>Qj (FY h a hf (λu hu=>hn u (by simp only [Tr.toks];exact List.mem_cons_of_mem _ (Bv hu))))
 | _,.two o a b,hf,hn=>Qk (FY h a hf.2.2.1 (λu hu=>hn u (by simp only [Tr.toks];exact List.mem_append_left _ (Bv hu)))) (FY h b hf.2.2.2 (λu hu=>hn u (by simp only [Tr.toks];exact List.mem_append_right _ (List.mem_cons_of_mem _ (Bv hu)))))
 | _,.call x .nil,hf,hn=>hn
 | _,.call x (.snoc rs a),hf,hn=>NK (FY h rs hf.2.1 (λu hu=>hn u (by simp only [Tr.toks];simp [hu]))) (FY h a hf.2.2 (λu hu=>hn u (by simp only [Tr.toks];simp [hu])))
 | _,.nil,_,hn=>hn
 | _,.snoc rs a,hf,hn=>NL (FY h rs hf.1 (λu hu=>hn u (by simp only [Tr.toks];simp [hu]))) (FY h a hf.2 (λu hu=>hn u (by simp only [Tr.toks];simp [hu])))
theorem I0 {own:List UInt8} {ss:List BQ} (hss:∀s∈ss,s.May):P5 (Bb DA own ss) where
 inner n hk:=by rw [Bb,if_pos ⟨by omega,by omega⟩]
 leaf n h1 h2 h3 h4:=by
  unfold Bb
  split
  ·exact ⟨h1,h2,h3,h4,.inl rfl⟩
  ·rename_i hk
   split
   ·exact ⟨h1,h2,h3,h4,.inl rfl⟩
   ·rename_i s e;obtain ⟨a,b,c,d,_,_,_,x⟩:=SJ (hss s (Iw e).1) h4 (by omega);refine ⟨b,c,?_,a,.inr d⟩;rcases x with x | x
    ·rw [x,h3]
    ·rw [x];rfl
theorem HN {own:List UInt8} {ss:List BQ} (hss:∀s∈ss,s.May) {n:Ab} (hp:A3 n=true):(Bb DA own ss n).text.length≤n.text.length∧(Bb DA own ss n).ref.sheet.length≤n.ref.sheet.length∧(Bb DA own ss n).to.sheet.length≤n.to.sheet.length∧(Bb DA own ss n).kids.length≤n.kids.length:=by
 unfold Bb
 split
 ·exact ⟨Nat.le_refl _,Nat.le_refl _,Nat.le_refl _,Nat.le_refl _⟩
 ·split
  ·exact ⟨Nat.le_refl _,Nat.le_refl _,Nat.le_refl _,Nat.le_refl _⟩
  ·rename_i s e;obtain ⟨a,b,c,d,d2,h1,h2,x⟩:=SJ (hss s (Iw e).1) hp (by omega);refine ⟨by rw [d2];simp,h1,h2,?_⟩;rcases x with x | x
   ·rw [x];exact Nat.le_refl _
   ·rw [x];simp [Bx]
theorem D9:∀{b:Bool} (t:Tr b) (o:Nat),t.Fit→∀n∈t.flat o,A3 n=true
 | _,.leaf m,o,hf,n,hn=>by
  simp only [Tr.flat,List.mem_singleton] at hn;subst hn
  exact hf.2.2.2
 | _,.neg a,o,hf,n,hn=>by
  simp only [Tr.flat,List.mem_append,List.mem_singleton] at hn;rcases hn with hn | rfl
  ·exact D9 a o hf n hn
  ·exact rfl
 | _,.two k a b,o,hf,n,hn=>by
  simp only [Tr.flat,List.mem_append,List.mem_singleton] at hn;rcases hn with (hn | hn) | rfl
  ·exact D9 a o hf.2.2.1 n hn
  ·exact D9 b _ hf.2.2.2 n hn
  ·exact (KN hf.1 hf.2.1 _ _).2
 | _,.call x ks,o,hf,n,hn=>by
  simp only [Tr.flat,List.mem_append,List.mem_singleton] at hn;rcases hn with hn | rfl
  ·exact D9 ks o hf.2 n hn
  ·exact (Gs hf.1 _).2
 | _,.nil,_,_,n,hn=>by simp [Tr.flat] at hn
 | _,.snoc ks a,o,hf,n,hn=>by
  simp only [Tr.flat,List.mem_append] at hn;rcases hn with hn | hn
  ·exact D9 ks o hf.1 n hn
  ·exact D9 a _ hf.2 n hn
theorem KM {l:List Ab} (h:BI l=true):∀n∈l,A3 n=true:=by
 obtain ⟨t,rfl,hf⟩:=Ij h;exact D9 t 0 hf
theorem Kn {own:List UInt8} {ss:List BQ} (hss:∀s∈ss,s.May) {t:Tr false} (hf:t.Fit):BZ DA own ss (t.flat 0)=(t.mv (Bb DA own ss)).flat 0∧(t.mv (Bb DA own ss)).Fit:=
 ⟨by rw [BZ,if_pos (t.tree hf),F2 (I0 hss) t 0 hf],Hk (I0 hss) t hf⟩
theorem Rs:Hx []:=Th (by simp)
theorem NE {own:List UInt8} {ss:List BQ} (hss:∀s∈ss,s.May) {l:List Ab} (hsh:Dw l) (hno:Hx l) (N:Nat) (hk:∀n∈l,n.kids.length≤N) :
  Dw (BZ DA own ss l)∧Hx (BZ DA own ss l)∧(∀n∈BZ DA own ss l,n.kids.length≤N)∧(BZ DA own ss l).length≤l.length:=by
 by_cases ht:BI l=true
 ·obtain ⟨t,rfl,hf⟩:=Ij ht;have hp:=KM ht;obtain ⟨e,a0⟩:=Kn (own:=own) hss hf;have hm:∀n∈BZ DA own ss (t.flat 0),∃m∈t.flat 0,n=Bb DA own ss m:=λn hn=>by
   rw [BZ,if_pos ht] at hn;obtain ⟨m,h1,h2⟩:=List.mem_map.1 hn;exact ⟨m,h1,h2.symm⟩
  refine ⟨λn hn=>?_,λu hu eu=>?_,λn hn=>?_,?_⟩
  ·obtain ⟨m,h1,rfl⟩:=hm n hn;obtain ⟨a,b,c,_⟩:=HN (own:=own) hss (hp m h1);obtain ⟨d1,d2,d3⟩:=hsh m h1;exact ⟨by omega,by omega,by omega⟩
  ·have:=Tr.inj u _ hu a0 [] [] (by simpa using eu.trans e) (.inl rfl);rw [this.1];exact FY (I0 hss) t hf (hno t hf rfl)
  ·obtain ⟨m,h1,rfl⟩:=hm n hn;obtain ⟨_,_,_,d⟩:=HN (own:=own) hss (hp m h1);have:=hk m h1;omega
  ·rw [BZ,if_pos ht,List.length_map];exact Nat.le_refl _
 ·rw [BZ,if_neg ht];exact ⟨λn hn=>(List.not_mem_nil hn).elim,Rs,λn hn=>(List.not_mem_nil hn).elim,by simp⟩
def VR:List UInt8:=[61,35,82,69,70,33]
noncomputable def Ct (own:List UInt8) (ss:List BQ) (s:List UInt8):List UInt8:=
 if s≠[]∧Ae s 0=61∧Dc s=true then (match AM (s.drop 1) with
  | .ok l=>if 300<(61::B6 (BZ DA own ss l)).length then VR else 61::B6 (BZ DA own ss l)
  | .error _=>s) else s
def O0 (s:BQ) (rv cv:Value):List Value:=[Ap s.sheet,rv,.int .i64 s.rows.new,cv,.int .i64 s.cols.new,.bool s.gone]
def BS (w:World) (v:Value) (l:List BQ):Prop:=
 l.length≤1000000∧(v=.slice none 0 0∧l=[]∨∃a cap,v=.slice (some a) l.length cap∧∀i s,l[i]?=some s→∃rv cv,AU w rv s.rows.to∧AU w cv s.cols.to∧∀j u,(O0 s rv cv)[j]?=some u→w.cell? ((a.add (i*6)).add j)=some u)
theorem BS.ext {w w':World} {v:Value} {l:List BQ} (h:BS w v l) (x:Ag w w'):BS w' v l:=by
 obtain ⟨h0,h | ⟨a,cap,e,h⟩⟩:=h
 ·exact ⟨h0,.inl h⟩
 ·exact ⟨h0,.inr ⟨a,cap,e,λi s hi=>let ⟨rv,cv,h1,h2,hc⟩:=h i s hi;⟨rv,cv,h1.ext x,h2.ext x,λj u hj=>Aw x (hc j u hj)⟩⟩⟩
theorem BS.slice {w:World} {v:Value} {l:List BQ} (h:BS w v l):∃p c,v=.slice p l.length c:=by
 obtain ⟨h0,⟨rfl,rfl⟩ | ⟨a,cap,e,h⟩⟩:=h
 ·exact ⟨_,_,rfl⟩
 ·exact ⟨_,_,e⟩
theorem BS.at {w:World} {p:Option Addr} {c:Nat} {l:List BQ} (h:BS w (.slice p l.length c) l) {i:Nat} {s:BQ} (hi:l[i]?=some s) :
  ∃a rp rc cp cc,p=some a∧AU w (.slice rp s.rows.to.length rc) s.rows.to∧AU w (.slice cp s.cols.to.length cc) s.cols.to∧∀j u,(O0 s (.slice rp s.rows.to.length rc) (.slice cp s.cols.to.length cc))[j]?=some u→w.cell? ((a.add (i*6)).add j)=some u:=by
 obtain ⟨h0,⟨e,e2⟩ | ⟨a,cap,e,h⟩⟩:=h
 ·rw [e2] at hi;simp at hi
 ·simp only [Value.slice.injEq] at e;obtain ⟨rv,cv,h1,h2,hc⟩:=h i s hi;obtain ⟨rp,rc,rfl⟩:=h1.slice;obtain ⟨cp,cc,rfl⟩:=h2.slice;exact ⟨a,rp,rc,cp,cc,e.1,h1,h2,hc⟩
def JU (ss:List BQ) (x:List UInt8):Option Nat:=ss.findIdx? (λs=>decide (s.sheet=x))
theorem LA {ss:List BQ} {x:List UInt8}:HC ss x=(JU ss x).bind (ss[·]?):=by
 unfold HC JU
 induction ss with
 | nil=>rfl
 | cons s r ih=>
  rw [List.find?_cons,List.findIdx?_cons];by_cases h:s.sheet=x
  ·simp [h]
  ·simp only [h,decide_false,Bool.false_eq_true,if_false];rw [ih];cases List.findIdx? (λs=>decide (s.sheet=x)) r<;>simp
theorem Ra {ss:List BQ} {x:List UInt8} (h:∀i s,i<ss.length→ss[i]?=some s→s.sheet≠x):JU ss x=none:=by
 unfold JU;rw [List.findIdx?_eq_none_iff];intro s hs;obtain ⟨i,hi,rfl⟩:=List.getElem_of_mem hs;have:=h i _ hi (List.getElem?_eq_getElem hi)
 simpa using this
theorem Rb {ss:List BQ} {x:List UInt8} {k:Nat} {s:BQ} (hk:ss[k]?=some s) (hs:s.sheet=x) (h:∀i u,i<k→ss[i]?=some u→u.sheet≠x):JU ss x=some k:=by
 unfold JU;rw [List.findIdx?_eq_some_iff_getElem];obtain ⟨a0,e⟩:=List.getElem?_eq_some_iff.1 hk;refine ⟨a0,by rw [e];simpa using hs,λj hj=>?_⟩;have:=h j _ hj (List.getElem?_eq_getElem (by omega))
 simpa using this
theorem Px (s:BQ) (rp cp:Option Addr) (rl rc cl cc A:Nat) (x:List UInt8) (w:World) (hA:Blk w A [Ap x] 9):AL Tryz.prog 189 [.agg ⟨O0 s (.slice rp rl rc) (.slice cp cl cc)⟩,.pointer (some ⟨A,0,none⟩)] w (λv w'=>v=.bool (decide (s.sheet=x))∧Ag w w'):=by
 refine Br Tryz.func189 Tryz.ntmps189 ?_;refine Sa ?_;refine Ei λX w1 a1 a0 hX=>?_;replace hX:Blk w1 X (O0 s (.slice rp rl rc) (.slice cp cl cc)) 73:=hX;replace hA:=hA.ext a0;refine Sa ?_;exact QW.body1 Tryz.results189 rfl ⟨by simp,a0⟩
theorem HE (ss:List BQ) (sv:Value) (A:Nat) (x:List UInt8) (w:World) (h:BS w sv ss) (hA:Blk w A [Ap x] 9):AL Tryz.prog 188 [sv,.func (.func 189) ⟨[]⟩ ⟨[.pointer (some ⟨A,0,none⟩)]⟩] w (λv w'=>v=.int .i64 (match JU ss x with | some i=>(i:Int) | none=>-1)∧Ag w w'):=by
 obtain ⟨p,c,rfl⟩:=h.slice;have hl:=h.1;refine Br Tryz.func188 Tryz.ntmps188 ?_;refine Sa ?_;refine CW.loop (ι:=Nat) (λk w'=>k≤ss.length∧Ag w w'∧∀i u,i<k→ss[i]?=some u→u.sheet≠x) (λk=>[(0,.slice p ss.length c),(1,.func (.func 189) ⟨[]⟩ ⟨[.pointer (some ⟨A,0,none⟩)]⟩),(7,.int .i64 ss.length),(8,.int .i64 k)]) (λk=>ss.length - k) 0 ⟨by omega,Chg.refl _ _,λi u h=>by omega⟩ BU ?_;rintro k w1 ⟨hk,hx,a2⟩;replace h:=h.ext hx;replace hA:=hA.ext hx;refine Sa ?_;refine A4 (λh2=>?_) λh2=>?_
 ·have h2:k<ss.length:=by simp at h2;omega
  obtain ⟨s,hs⟩:∃s,ss[k]?=some s:=⟨_,List.getElem?_eq_getElem h2⟩;obtain ⟨a,rp,rc,cp,cc,rfl,hr,hc,a1⟩:=h.at hs;have a0:∀j u,(O0 s (.slice rp s.rows.to.length rc) (.slice cp s.cols.to.length cc))[j]?=some u→w1.cell? ((a.add (((k:Nat):Int).toNat*6)).add j)=some u:=λj u hj=>by rw [show ((k:Nat):Int).toNat=k by omega];exact a1 j u hj
  refine Sa ?_;refine Lo ?_;refine LW.load_cells rfl a0 rfl rfl rfl rfl ?_;refine Sa ?_;refine LW.call (fs:=[]) (cs:=[.pointer (some ⟨A,0,none⟩)]) rfl rfl rfl (Px s _ _ _ _ _ _ A x w1 hA) ?_;rintro v w2 ⟨rfl,a3⟩;refine Sa ?_;refine A4 (λh3=>?_) λh3=>?_
  ·have h3:s.sheet=x:=by simpa using h3
   refine Sa ?_;exact QW.body1 Tryz.results188 rfl ⟨by rw [Rb hs h3 a2],hx.trans a3⟩
  ·have h3:s.sheet≠x:=by simpa using h3
   refine Sa ?_;refine QW.again (k+1) ⟨by omega,hx.trans a3,λi u hi hu=>?_⟩ BU (by omega);rcases Nat.lt_or_ge i k with h4 | h4
   ·exact a2 i u h4 hu
   ·obtain rfl:i=k:=by omega
    rw [hs] at hu;obtain rfl:=Option.some.inj hu;exact h3
 ·have h2:k=ss.length:=by simp at h2;omega
  subst h2;refine Sa ?_;refine QW.body1 Tryz.results188 rfl ⟨?_,hx⟩;rw [Ra (λi s hi hs=>a2 i s hi hs)]
def WE (w:World) (o:Option BQ) (v:Value):Prop:=match o with
 | none=>∃cs,v=.tuple #[.agg ⟨cs⟩,.bool false]∧cs=O0 ⟨[],⟨[],0⟩,⟨[],0⟩,false⟩ (.slice none 0 0) (.slice none 0 0)
 | some s=>∃rp rc cp cc,v=.tuple #[.agg ⟨O0 s (.slice rp s.rows.to.length rc) (.slice cp s.cols.to.length cc)⟩,.bool true]∧AU w (.slice rp s.rows.to.length rc) s.rows.to∧AU w (.slice cp s.cols.to.length cc) s.cols.to
theorem RL (own:List UInt8) (ss:List BQ) (sv:Value) (x:List UInt8) (w:World) (h:BS w sv ss):AL Tryz.prog 140 [.agg ⟨[Ap own,sv]⟩,Ap x] w (λv w'=>WE w' (HC ss (if x=[] then own else x)) v∧Ag w w'):=by
 obtain ⟨p,c,rfl⟩:=h.slice;have hl:=h.1;refine Br Tryz.func140 Tryz.ntmps140 ?_;refine Sa ?_;refine Ei λM w1 ah ad hM=>?_;replace hM:Blk w1 M [Ap own,.slice p ss.length c] 137:=hM;have ai:=ad.size;have ae:=hM.lt;refine Sa ?_;refine Ei λA w2 aj a9 hA=>?_;replace hA:Blk w2 A [Ap x] 9:=hA;have af:=hA.lt;replace hM:=hM.ext a9;have ak:=a9.size;refine Sa ?_;refine D4 λR w3 al a8 hR=>?_;replace hM:=hM.ext a8;replace hA:=hA.ext a8;have am:=a8.size;have a6:=(ad.trans a9).trans a8;have ag:=hR.lt;refine Sa ?_;refine A4 (λb1=>?_) λb1=>?_
 ·have b1:x=[]:=by simpa using b1
  refine Sa ?_;refine CH λw4 aa hA=>?_;replace hA:Blk w4 A [Ap own] 9:=hA;replace hM:=hM.chg aa (by simp;omega);replace hR:=hR.chg aa (by simp;omega);have a7:Ag w w4:=a6.step aa (by simp;omega);rw [if_pos b1];have ab:=h.ext a7;refine Sa ?_;refine AE rfl rfl (HE ss _ A _ _ ab hA) ?_;rintro v w5 ⟨rfl,a3⟩;replace hM:=hM.ext a3;replace hR:=hR.ext a3;have a0:=a7.trans a3;rw [LA];refine Sa ?_
  cases hi:JU ss _ with
  | none=>
   refine Sa ?_;refine Cj λw6 a4 hR=>?_;refine Sa ?_
   exact QW.body_ct Tryz.results140 rfl hR rfl rfl rfl rfl ⟨⟨_,rfl,rfl⟩,a0.step a4 (by simp;omega)⟩
  | some i=>
   have ac:i<ss.length:=by
    unfold JU at hi;exact (List.findIdx?_eq_some_iff_getElem.1 hi).1
   obtain ⟨s,hs⟩:∃s,ss[i]?=some s:=⟨_,List.getElem?_eq_getElem ac⟩;obtain ⟨a,rp,rc,cp,cc,rfl,hr,hc,a2⟩:=h.at hs;have a1:∀j u,(O0 s (.slice rp s.rows.to.length rc) (.slice cp s.cols.to.length cc))[j]?=some u→w5.cell? ((a.add (((i:Nat):Int).toNat*6)).add j)=some u:=λj u hj=>by rw [show ((i:Nat):Int).toNat=i by omega];exact Aw a0 (a2 j u hj)
   simp only [Option.bind_some,hs];refine Sa ?_;refine LW.know (t:=16) (c:=false) rfl (decide_eq_false (by omega)) ?_;refine Sa ?_;refine Lo ?_;refine LW.load_cells rfl a1 rfl rfl rfl rfl ?_;refine Sa ?_;refine Cj λw6 a4 hR=>?_;have a5:=a0.step a4 (by simp;omega);refine Sa ?_;exact QW.body_ct Tryz.results140 rfl hR rfl rfl rfl rfl ⟨⟨rp,rc,cp,cc,rfl,hr.ext a5,hc.ext a5⟩,a5⟩
 ·have b1:¬x=[]:=by simpa using b1
  have a7:=a6;rw [if_neg b1];have ab:=h.ext a7;refine Sa ?_;refine AE rfl rfl (HE ss _ A _ _ ab hA) ?_;rintro v w5 ⟨rfl,a3⟩;replace hM:=hM.ext a3;replace hR:=hR.ext a3;have a0:=a7.trans a3;rw [LA];refine Sa ?_
  cases hi:JU ss _ with
  | none=>
   refine Sa ?_;refine Cj λw6 a4 hR=>?_;refine Sa ?_
   exact QW.body_ct Tryz.results140 rfl hR rfl rfl rfl rfl ⟨⟨_,rfl,rfl⟩,a0.step a4 (by simp;omega)⟩
  | some i=>
   have ac:i<ss.length:=by
    unfold JU at hi;exact (List.findIdx?_eq_some_iff_getElem.1 hi).1
   obtain ⟨s,hs⟩:∃s,ss[i]?=some s:=⟨_,List.getElem?_eq_getElem ac⟩;obtain ⟨a,rp,rc,cp,cc,rfl,hr,hc,a2⟩:=h.at hs;have a1:∀j u,(O0 s (.slice rp s.rows.to.length rc) (.slice cp s.cols.to.length cc))[j]?=some u→w5.cell? ((a.add (((i:Nat):Int).toNat*6)).add j)=some u:=λj u hj=>by rw [show ((i:Nat):Int).toNat=i by omega];exact Aw a0 (a2 j u hj)
   simp only [Option.bind_some,hs];refine Sa ?_;refine LW.know (t:=16) (c:=false) rfl (decide_eq_false (by omega)) ?_;refine Sa ?_;refine Lo ?_;refine LW.load_cells rfl a1 rfl rfl rfl rfl ?_;refine Sa ?_;refine Cj λw6 a4 hR=>?_;have a5:=a0.step a4 (by simp;omega);refine Sa ?_;exact QW.body_ct Tryz.results140 rfl hR rfl rfl rfl rfl ⟨⟨rp,rc,cp,cc,rfl,hr.ext a5,hc.ext a5⟩,a5⟩
def WD (n m:Ab) (kv v:Value):Prop:=∃kv',v=.agg ⟨Cu ⟨m,kv'⟩⟩∧(kv'=kv∧m.kids=n.kids∨kv'=.slice none 0 0∧m.kids=[])
theorem VK {go:BQ→Ab→Ab} {own:List UInt8} {ss:List BQ} {n:Ab} (h5:n.kind≠5) (h6:n.kind≠6):Bb go own ss n=n:=by rw [Bb,if_pos ⟨h5,h6⟩]
theorem Wm {go:BQ→Ab→Ab} {own:List UInt8} {ss:List BQ} {n:Ab} (h:n.kind=5∨n.kind=6):Bb go own ss n=match HC ss (Tp own n) with | none=>n | some s=>go s n:=by
 unfold Bb;(rw [if_neg (by omega)])<;>cases HC ss (Tp own n)<;>rfl
theorem Pt {n:Ab} (hp:A3 n=true) (h:n.kind=5∨n.kind=6):n.ref.row≤998∧n.ref.col≤701∧(Ch n).row≤998∧(Ch n).col≤701:=by
 rcases h with h | h
 ·obtain ⟨h1,_⟩:=I7 hp h;obtain ⟨b1,b2,b3,b4,_⟩:=C4 h1;rw [Ch,if_pos h];exact ⟨b4,b2,b4,b2⟩
 ·obtain ⟨h1,h2,_⟩:=Ge hp h;obtain ⟨b1,b2,b3,b4,_⟩:=C4 h1;obtain ⟨c1,c2,c3,c4,_⟩:=C4 h2;rw [Ch,if_neg (by omega)];exact ⟨b4,b2,c4,c2⟩
set_option maxHeartbeats 2000000 in
theorem Td (own:List UInt8) (ss:List BQ) (sv:Value) (n:Ab) (kp:Option Addr) (kl kc:Nat) (w:World) (h:BS w sv ss) (hss:∀s∈ss,s.Fine) (hp:A3 n=true):AL Tryz.prog 97 [.agg ⟨[Ap own,sv]⟩,.agg ⟨Cu ⟨n,.slice kp kl kc⟩⟩] w (λv w'=>WD n (Bb DA own ss n) (.slice kp kl kc) v∧Ag w w'):=by
 obtain ⟨p,c,rfl⟩:=h.slice;have hl:=h.1;refine Br Tryz.func97 Tryz.ntmps97 ?_;refine Sa ?_;refine Ei λM w1 bh b2 hM=>?_;replace hM:Blk w1 M [Ap own,.slice p ss.length c] 137:=hM;have bi:=b2.size;refine Sa ?_;refine Ei λN w2 bj ay hN=>?_;replace hN:Blk w2 N (Cu ⟨n,.slice kp kl kc⟩) 139:=hN;have b3:=hN.lt;replace hM:=hM.ext ay;have bk:=ay.size;refine Sa ?_;refine D4 λR w3 bl aq hR=>?_;replace hM:=hM.ext aq;replace hN:=hN.ext aq;have bm:=aq.size;have af:=(b2.trans ay).trans aq;have b4:=hR.lt;apply LW.nil;apply QW.then_n;refine CW.seq_cut (ι:=Unit) (λ_ w'=>w'=w3∧(n.kind=5∨n.kind=6)) (λ_=>[(2,.pointer (some ⟨M,0,none⟩)),(3,.pointer (some ⟨N,0,none⟩)),(4,.pointer (some ⟨R,0,none⟩))]) ?_ ?_
 ·refine Sa ?_;by_cases h5:n.kind=5;rotate_left
  ·refine LW.know (t:=17) (c:=true) rfl (by simp [h5]) ?_;refine Sa ?_;refine A4 (λh6=>?_) λh6=>?_
   ·have h6:n.kind≠6:=by simpa using h6
    rw [VK h5 h6];refine Sa ?_;refine Cj λw4 b5 hR=>?_;replace hR:Blk w4 R (Cu ⟨n,.slice kp kl kc⟩) 139:=hR;refine Sa ?_;exact QW.body_c Tryz.results97 rfl hR rfl rfl rfl ⟨⟨_,rfl,.inl ⟨rfl,rfl⟩⟩,af.step b5 (by simp;omega)⟩
   have h6:n.kind=6:=by simpa using h6
   refine Sa ?_;exact QW.head () ⟨rfl,.inr h6⟩ C0
  refine LW.know (t:=17) (c:=false) rfl (by simp [h5]) ?_;refine Sa ?_;exact QW.head () ⟨rfl,.inl h5⟩ C0
 rintro ⟨⟩ w3 ⟨rfl,hk⟩;show CW _ _ _ _ _ [(2,.pointer (some ⟨M,0,none⟩)),(3,.pointer (some ⟨N,0,none⟩)),(4,.pointer (some ⟨R,0,none⟩))] _;rw [Wm hk];obtain ⟨s1,s2,s3,s4⟩:=Pt hp hk;refine Sa ?_;refine AE rfl rfl (RL own ss _ n.ref.sheet w3 (h.ext af)) ?_;rintro v w4 ⟨hv,au⟩;replace hN:=hN.ext au;replace hR:=hR.ext au;have bn:=au.size;have ag:=af.trans au;have b6:(if n.ref.sheet=[] then own else n.ref.sheet)=Tp own n:=rfl;rw [b6] at hv
 cases hf:HC ss (Tp own n) with
 | none=>
  rw [hf] at hv;obtain ⟨cs,rfl,rfl⟩:=hv;refine Sa ?_;refine D4 λS w5 b7 ad hS=>?_;replace hN:=hN.ext ad;replace hR:=hR.ext ad;have b8:=ad.size;have al:=ag.trans ad;refine Sa ?_;refine Cj λw6 ah hS=>?_;replace hN:=hN.chg ah (by simp;omega);replace hR:=hR.chg ah (by simp;omega);have a2:=al.step ah (by simp;omega);refine Sa ?_;refine Cj λw7 b9 hR=>?_;replace hR:Blk w7 R (Cu ⟨n,.slice kp kl kc⟩) 139:=hR;refine Sa ?_
  exact QW.body_c Tryz.results97 rfl hR rfl rfl rfl ⟨⟨_,rfl,.inl ⟨rfl,rfl⟩⟩,a2.step b9 (by simp;omega)⟩
 | some s=>
  rw [hf] at hv;obtain ⟨rp,rc,cp,cc,rfl,hr,hc⟩:=hv;have av:=hss s (Iw hf).1;refine Sa ?_;refine D4 λS w5 b7 ad hS=>?_;replace hN:=hN.ext ad;replace hR:=hR.ext ad;have b8:=ad.size;have al:=ag.trans ad;refine Sa ?_;refine Cj λw6 ah hS=>?_;replace hS:Blk w6 S (O0 s (.slice rp s.rows.to.length rc) (.slice cp s.cols.to.length cc)) 73:=hS;replace hN:=hN.chg ah (by simp;omega);replace hR:=hR.chg ah (by simp;omega);have ai:Ag w4 w6:=ad.step ah (by simp;omega);replace hr:=hr.ext ai;replace hc:=hc.ext ai;have a2:=ag.trans ai;have bo:=a2.size;have ba:=hS.lt;refine Sa ?_
  cases hg:s.gone with
  | true=>
   have eg:DA s n=Bx:=by rw [DA,if_pos hg]
   simp only [eg];have a5:=a2;refine Sa ?_;refine Cj λw9 a1 hR=>?_;replace hR:Blk w9 R (Cu ⟨Bx,.slice none 0 0⟩) 139:=hR;refine Sa ?_
   exact QW.body_c Tryz.results97 rfl hR rfl rfl rfl ⟨⟨_,rfl,.inr ⟨rfl,rfl⟩⟩,a5.step a1 (by simp;omega)⟩
  | false=>
   have eg:DA s n=if CE s n then Bx else Jd s n:=by rw [DA,if_neg (by rw [hg];simp)]
   simp only [eg];refine Sa ?_;refine LW.load_agg (cs:=Cr n.to) rfl hN rfl rfl rfl ⟨rfl,rfl,rfl,rfl,rfl,trivial⟩ rfl ?_;refine Sa ?_;refine D4 λL w7 bp am hL=>?_;replace hN:=hN.ext am;replace hR:=hR.ext am;replace hS:=hS.ext am;have az:=a2.trans am;have bq:=az.size;refine Sa ?_;refine Cj λw8 aw hL=>?_;replace hL:Blk w8 L [Ap n.to.sheet,.int .i64 n.to.col,.int .i64 n.to.row,.bool n.to.ac,.bool n.to.ar] 113:=hL;have aj:Ag w6 w8:=am.step aw (by simp;omega);have an:=a2.trans aj;replace hN:=hN.chg aw (by simp;omega);replace hR:=hR.chg aw (by simp;omega);replace hS:=hS.chg aw (by simp;omega);have br:=an.size;have bb:=hL.lt;rcases hP:Bf s.rows n.ref.row (Ch n).row with ⟨x1,x2,x3⟩;rcases hQ:Bf s.cols n.ref.col (Ch n).col with ⟨y1,y2,y3⟩;have ae:CE s n↔(x3=false∨y3=false∨998<x2∨701<y2):=by unfold CE;rw [hP,hQ]
   have ax:Jd s n={n with ref:={n.ref with row:=x1,col:=y1},to:=if n.kind=6 then {n.to with row:=x2,col:=y2} else n.to}:=by unfold Jd;rw [hP,hQ]
   refine Sa ?_;by_cases k5:n.kind=5
   ·have el:Ch n=n.ref:=by rw [Ch,if_pos k5]
    refine CW.yes rfl (decide_eq_true k5) ?_;refine Sa ?_;refine LW.load_agg (cs:=Cr n.ref) rfl hN rfl rfl rfl ⟨rfl,rfl,rfl,rfl,rfl,trivial⟩ rfl ?_;refine Sa ?_;refine Cj λw9 a1 hL=>?_;replace hL:Blk w9 L [Ap n.ref.sheet,.int .i64 n.ref.col,.int .i64 n.ref.row,.bool n.ref.ac,.bool n.ref.ar] 113:=hL;rw [←el] at hL;have a7:Ag w6 w9:=aj.step a1 (by simp;omega);have b0:=a2.trans a7;replace hN:=hN.chg a1 (by simp;omega);replace hR:=hR.chg a1 (by simp;omega);replace hS:=hS.chg a1 (by simp;omega);have k6:¬n.kind=6:=by omega
    rw [if_neg k6] at ax;refine Sa ?_;refine LW.load_agg (cs:=[.slice rp s.rows.to.length rc,.int .i64 s.rows.new]) rfl hS rfl rfl rfl ⟨rfl,rfl,trivial⟩ rfl ?_;refine Sa ?_;have a8:=Hy s.rows av.1 _ n.ref.row (Ch n).row (by omega) (by omega) _ ⟨_,rfl,hr.ext a7⟩;rw [hP] at a8;refine AE rfl rfl a8 ?_;rintro v bc ⟨rfl,a0⟩;replace hN:=hN.ext a0;replace hR:=hR.ext a0;replace hS:=hS.ext a0;replace hL:=hL.ext a0;have a3:=a7.trans a0;refine Sa ?_;refine LW.load_agg (cs:=[.slice cp s.cols.to.length cc,.int .i64 s.cols.new]) rfl hS rfl rfl rfl ⟨rfl,rfl,trivial⟩ rfl ?_;refine Sa ?_;have a9:=Hy s.cols av.2 _ n.ref.col (Ch n).col (by omega) (by omega) _ ⟨_,rfl,hc.ext a3⟩;rw [hQ] at a9;refine AE rfl rfl a9 ?_;rintro v bd ⟨rfl,a6⟩;replace hN:=hN.ext a6;replace hR:=hR.ext a6;have a5:=a2.trans (a3.trans a6);have b1:=a5.size
    cases x3 with
    | false=>
     rw [if_pos (ae.2 (.inl rfl))];refine Sa ?_;refine Cj λw9 a1 hR=>?_;replace hR:Blk w9 R (Cu ⟨Bx,.slice none 0 0⟩) 139:=hR;refine Sa ?_
     exact QW.body_c Tryz.results97 rfl hR rfl rfl rfl ⟨⟨_,rfl,.inr ⟨rfl,rfl⟩⟩,a5.step a1 (by simp;omega)⟩
    | true=>
    cases y3 with
    | false=>
     rw [if_pos (ae.2 (.inr (.inl rfl)))];refine Sa ?_;refine Cj λw9 a1 hR=>?_;replace hR:Blk w9 R (Cu ⟨Bx,.slice none 0 0⟩) 139:=hR;refine Sa ?_
     exact QW.body_c Tryz.results97 rfl hR rfl rfl rfl ⟨⟨_,rfl,.inr ⟨rfl,rfl⟩⟩,a5.step a1 (by simp;omega)⟩
    | true=>
    refine Sa ?_;by_cases m1:998<x2
    ·rw [if_pos (ae.2 (.inr (.inr (.inl m1))))];refine LW.know (t:=80) (c:=true) rfl (decide_eq_true m1) ?_;refine Sa ?_;refine Cj λw9 a1 hR=>?_;replace hR:Blk w9 R (Cu ⟨Bx,.slice none 0 0⟩) 139:=hR;refine Sa ?_;exact QW.body_c Tryz.results97 rfl hR rfl rfl rfl ⟨⟨_,rfl,.inr ⟨rfl,rfl⟩⟩,a5.step a1 (by simp;omega)⟩
    refine LW.know (t:=80) (c:=false) rfl (decide_eq_false m1) ?_;refine Sa ?_;refine A4 (λm2=>?_) λm2=>?_
    ·have m2:701<y2:=by simpa using m2
     rw [if_pos (ae.2 (.inr (.inr (.inr m2))))];refine Sa ?_;refine Cj λw9 a1 hR=>?_;replace hR:Blk w9 R (Cu ⟨Bx,.slice none 0 0⟩) 139:=hR;refine Sa ?_;exact QW.body_c Tryz.results97 rfl hR rfl rfl rfl ⟨⟨_,rfl,.inr ⟨rfl,rfl⟩⟩,a5.step a1 (by simp;omega)⟩
    have m2:¬701<y2:=by simpa using m2
    rw [if_neg (by rw [ae];simp;omega),ax];refine Sa ?_;refine CH λbe aa hN=>?_;refine Sa ?_;refine CH λbf ab hN=>?_;have a4:=(a5.step aa (by simp;omega)).step ab (by simp;omega);replace hR:=(hR.chg aa (by simp;omega)).chg ab (by simp;omega);refine Sa ?_;refine CW.no rfl (decide_eq_false k6) ?_;refine Sa ?_;refine Cj λbg ak hR=>?_;refine Sa ?_;exact QW.body_c Tryz.results97 rfl hR rfl rfl rfl ⟨⟨_,rfl,.inl ⟨rfl,rfl⟩⟩,a4.step ak (by simp;omega)⟩
   ·have k6:n.kind=6:=by omega
    have el:Ch n=n.to:=by rw [Ch,if_neg k5]
    refine CW.no rfl (decide_eq_false k5) ?_;rw [←el] at hL;have a7:=aj;have b0:=an;rw [if_pos k6] at ax;refine Sa ?_;refine LW.load_agg (cs:=[.slice rp s.rows.to.length rc,.int .i64 s.rows.new]) rfl hS rfl rfl rfl ⟨rfl,rfl,trivial⟩ rfl ?_;refine Sa ?_;have a8:=Hy s.rows av.1 _ n.ref.row (Ch n).row (by omega) (by omega) _ ⟨_,rfl,hr.ext a7⟩;rw [hP] at a8;refine AE rfl rfl a8 ?_;rintro v bc ⟨rfl,a0⟩;replace hN:=hN.ext a0;replace hR:=hR.ext a0;replace hS:=hS.ext a0;replace hL:=hL.ext a0;have a3:=a7.trans a0;refine Sa ?_;refine LW.load_agg (cs:=[.slice cp s.cols.to.length cc,.int .i64 s.cols.new]) rfl hS rfl rfl rfl ⟨rfl,rfl,trivial⟩ rfl ?_;refine Sa ?_;have a9:=Hy s.cols av.2 _ n.ref.col (Ch n).col (by omega) (by omega) _ ⟨_,rfl,hc.ext a3⟩;rw [hQ] at a9;refine AE rfl rfl a9 ?_;rintro v bd ⟨rfl,a6⟩;replace hN:=hN.ext a6;replace hR:=hR.ext a6;have a5:=a2.trans (a3.trans a6);have b1:=a5.size
    cases x3 with
    | false=>
     rw [if_pos (ae.2 (.inl rfl))];refine Sa ?_;refine Cj λw9 a1 hR=>?_;replace hR:Blk w9 R (Cu ⟨Bx,.slice none 0 0⟩) 139:=hR;refine Sa ?_
     exact QW.body_c Tryz.results97 rfl hR rfl rfl rfl ⟨⟨_,rfl,.inr ⟨rfl,rfl⟩⟩,a5.step a1 (by simp;omega)⟩
    | true=>
    cases y3 with
    | false=>
     rw [if_pos (ae.2 (.inr (.inl rfl)))];refine Sa ?_;refine Cj λw9 a1 hR=>?_;replace hR:Blk w9 R (Cu ⟨Bx,.slice none 0 0⟩) 139:=hR;refine Sa ?_
     exact QW.body_c Tryz.results97 rfl hR rfl rfl rfl ⟨⟨_,rfl,.inr ⟨rfl,rfl⟩⟩,a5.step a1 (by simp;omega)⟩
    | true=>
    refine Sa ?_;by_cases m1:998<x2
    ·rw [if_pos (ae.2 (.inr (.inr (.inl m1))))];refine LW.know (t:=80) (c:=true) rfl (decide_eq_true m1) ?_;refine Sa ?_;refine Cj λw9 a1 hR=>?_;replace hR:Blk w9 R (Cu ⟨Bx,.slice none 0 0⟩) 139:=hR;refine Sa ?_;exact QW.body_c Tryz.results97 rfl hR rfl rfl rfl ⟨⟨_,rfl,.inr ⟨rfl,rfl⟩⟩,a5.step a1 (by simp;omega)⟩
    refine LW.know (t:=80) (c:=false) rfl (decide_eq_false m1) ?_;refine Sa ?_;refine A4 (λm2=>?_) λm2=>?_
    ·have m2:701<y2:=by simpa using m2
     rw [if_pos (ae.2 (.inr (.inr (.inr m2))))];refine Sa ?_;refine Cj λw9 a1 hR=>?_;replace hR:Blk w9 R (Cu ⟨Bx,.slice none 0 0⟩) 139:=hR;refine Sa ?_;exact QW.body_c Tryz.results97 rfl hR rfl rfl rfl ⟨⟨_,rfl,.inr ⟨rfl,rfl⟩⟩,a5.step a1 (by simp;omega)⟩
    have m2:¬701<y2:=by simpa using m2
    rw [if_neg (by rw [ae];simp;omega),ax];refine Sa ?_;refine CH λbe aa hN=>?_;refine Sa ?_;refine CH λbf ab hN=>?_;have a4:=(a5.step aa (by simp;omega)).step ab (by simp;omega);replace hR:=(hR.chg aa (by simp;omega)).chg ab (by simp;omega);refine Sa ?_;refine CW.yes rfl (decide_eq_true k6) ?_;refine Sa ?_;refine CH λbs ao hN=>?_;refine Sa ?_;refine CH λbt ap hN=>?_;have a4:=(a4.step ao (by simp;omega)).step ap (by simp;omega);replace hR:=(hR.chg ao (by simp;omega)).chg ap (by simp;omega);refine Sa ?_;refine Cj λbg ak hR=>?_;refine Sa ?_;exact QW.body_c Tryz.results97 rfl hR rfl rfl rfl ⟨⟨_,rfl,.inl ⟨rfl,rfl⟩⟩,a4.step ak (by simp;omega)⟩
def noP (s:List UInt8):Bool:=s.all (λc=>decide (c≠40)&&decide (c≠41))
def V5 (nd:Ab):Prop:=nd.text.length≤10∧nd.ref.sheet.length≤10∧nd.to.sheet.length≤10∧nd.num≤255∧nd.kids.length≤100∧noP nd.text=true∧(nd.ref.sheet=[]∨nd.ref.sheet=[84])
def NP (w0 w:World) (l:List Ab) (outv stv:Value):Prop:=∃nvs:List NV,Ay w w0.heap.size 139 14 outv nvs.length (nvs.flatMap Cu)∧nvs.map NV.node=l∧∀x∈nvs,BK w x.kv x.node.kids∧∀b∈Ad x.kv,b∉Ad stv
theorem BK.chg {S:List Nat} {w w':World} {kv stv:Value} {ks:List Int} (h:BK w kv ks) (hn:∀b∈Ad kv,b∉Ad stv) (hc:Chg S w w') (h2:∀b∈S,b∈Ad stv∨∃l T,Blk w b l T∧T≠3):BK w' kv ks:=by
 rcases h with h | ⟨b,cap,sp,e,hb⟩
 ·exact .inl h
 ·refine .inr ⟨b,cap,sp,e,hb.chg hc (λhm=>?_)⟩;rcases h2 b hm with h2 | ⟨l,T,h3,h4⟩
  ·exact hn b (by rw [e];simp [Ad]) h2
  ·exact h4 (h3.inj hb)
theorem NP.chg {S:List Nat} {w0 w w':World} {l:List Ab} {outv stv:Value} (h:NP w0 w l outv stv) (hc:Chg S w w') (h1:∀b∈Ad outv,b∉S) (h2:∀b∈S,b∈Ad stv∨∃l T,Blk w b l T∧T≠3):NP w0 w' l outv stv:=by
 obtain ⟨nvs,ho,hm,hk⟩:=h;exact ⟨nvs,ho.chg hc h1,hm,λx hx=>⟨(hk x hx).1.chg (hk x hx).2 hc h2,(hk x hx).2⟩⟩
theorem NP.ext {w0 w w':World} {l:List Ab} {outv stv:Value} (h:NP w0 w l outv stv) (hx:Ag w w'):NP w0 w' l outv stv:=h.chg hx (by simp) (by simp)
def SV (w0 w:World) (v:Value) (s:List Int):Prop:=Ay w w0.heap.size 3 1 v s.length (Ac s)∨∃p,v=.slice p s.length s.length∧(p=none∧s.length=0∨∃a,p=some a∧∀j u,(Ac s)[j]?=some u→w.cell? (a.add j)=some u)
structure CI (w0 w:World) (l:List Ab) (outv:Value) (X:Nat) (nd:Ab) (kv:Value) (s2:List Int) (stv:Value):Prop where
 ext:Ag w0 w
 np:NP w0 w l outv stv
 blk:Blk w X (Cu ⟨nd,kv⟩) 139
 kids:BK w kv nd.kids
 apart:∀b∈Ad kv,b∉Ad stv
 sv:SV w0 w stv s2
 go:AR 0 [] (l++[nd])=some (s2++[(l.length:Int)])
 fine:V5 nd
 le:s2.length≤l.length
theorem QJ (zs:List Int) (v:Value) (w:World) (h:AU w v zs) (hl:zs.length≤100000):AL Tryz.prog 98 [v] w (λv' w'=>(∃p c,v'=.slice p zs.length c)∧BK w' v' zs∧(∀b∈Ad v',w.heap.size≤b)∧Ag w w'):=by
 refine Br Tryz.func98 Tryz.ntmps98 ?_;obtain ⟨_,⟨rfl,rfl⟩ | ⟨a,cap,rfl,hc⟩⟩:=h
 ·refine Sa ?_;refine LW.eql_sn rfl rfl rfl rfl ?_;refine Sa ?_;exact QW.body1 Tryz.results98 rfl ⟨⟨_,_,rfl⟩,.inl ⟨rfl,rfl⟩,by simp [Ad],Chg.refl _ _⟩
 ·refine Sa ?_;refine LW.eql_sn rfl rfl rfl rfl ?_;refine Sa ?_
  (apply LW.buildSlice0;exact rfl;exact rfl;exact rfl;exact rfl;intro B w5 a5 a1 hB)
  refine Sa ?_;refine LW.append_any (lo:=w.heap.size) (xs:=[]) (news:=Ac zs) rfl rfl rfl rfl rfl rfl (⟨rfl,.inr ⟨B,0,[],rfl,hB,by simp,by simp,by omega⟩⟩) (by have:=a1.size;omega) (by rw [AG];show _=_*1;omega) (.inr ⟨a,rfl,λj u hj=>by
   simp only [Ac,List.getElem?_map] at hj
   cases hg:zs[j]? with
   | none=>rw [hg] at hj;cases hj
   | some y=>
    rw [hg] at hj;obtain rfl:=Option.some.inj hj;exact Aw a1 (hc j y hg)⟩) (λu hu=>by
   simp only [Ac,List.mem_map] at hu;obtain ⟨_,_,rfl⟩:=hu;rfl) (by show (0+_)*9≤_;omega) rfl ?_
  intro v' w6 a3 a0 a2;obtain ⟨p',c',rfl⟩:=a0.slice;have a4:Ag w w6:=a1.step a3 (by simp [Ad];omega);have hm:0+zs.length=zs.length:=by omega
  rw [hm] at a0 a2 ⊢;simp only [List.nil_append] at a0;refine Sa ?_;refine QW.body1 Tryz.results98 rfl ⟨⟨_,_,rfl⟩,NO a0,λb hb=>?_,a4⟩;rcases a2 b hb with h2 | h2
  ·simp [Ad] at h2;omega
  ·have:=a1.size;omega
set_option maxHeartbeats 1000000 in
theorem Q5 (l:List Ab) (v:Value) (own:List UInt8) (ss:List BQ) (sv:Value) (w:World) (g:Cm w) (hN:Ck w v l) (hs:Mk l) (h:BS w sv ss) (hss:∀s∈ss,s.Fine):AL Tryz.prog 69 [v,Ap own,sv] w (λv' w'=>(Ck w' v' (BZ DA own ss l)∧∀b∈Ad v',w.heap.size≤b)∧Ag w w'):=by
 obtain ⟨p,c,rfl⟩:=hN.slice;have az:=hN.1;refine Br Tryz.func69 Tryz.ntmps69 ?_;refine Sa ?_;refine AE rfl rfl (MR l _ w g hN hs) ?_;rintro v w1 ⟨rfl,ap⟩;refine Sa ?_
 cases ht:BI l with
 | false=>
  refine Sa ?_
  exact QW.body1 Tryz.results69 rfl ⟨⟨by rw [BZ,if_neg (by rw [ht];simp)];exact Kr _,by simp [Ad]⟩,ap⟩
 | true=>
 have b0:=KM ht;have aq:=KL ht;obtain ⟨q,qc,rfl⟩:=h.slice;refine Sa ?_;refine CW.loop (ι:=Nat×Option Addr×Nat) (λx w'=>x.1≤l.length∧Ag w w'∧NP w w' ((l.take x.1).map (Bb DA own ss)) (.slice x.2.1 x.1 x.2.2) (.slice none 0 0)) (λx=>[(7,.func (.func 97) ⟨[.agg ⟨[Ap own,.slice q ss.length qc]⟩]⟩ ⟨[]⟩),(8,.slice x.2.1 x.1 x.2.2),(18,.slice p l.length c),(19,.int .i64 l.length),(20,.int .i64 (x.1:Int))]) (λx=>l.length - x.1) (0,none,0) ⟨by simp,ap,⟨[],Ay.nil _ _ _ _,rfl,by simp⟩⟩ Hz ?_;rintro ⟨k,op,oc⟩ w2 ⟨hk,ae,hP⟩;dsimp only at hk hP;show CW _ _ _ _ _ [(7,.func (.func 97) ⟨[.agg ⟨[Ap own,.slice q ss.length qc]⟩]⟩ ⟨[]⟩),(8,.slice op k oc),(18,.slice p l.length c),(19,.int .i64 l.length),(20,.int .i64 (k:Int))] _;have b8:=ae.size;refine Sa ?_;refine A4 (λh2=>?_) λh2=>?_;rotate_left
 ·have h2:k=l.length:=by simp at h2;omega
  subst h2;obtain ⟨nvs,a0,hm,hk⟩:=hP;rw [List.take_length] at hm;have ar:nvs.length=l.length:=by rw [←List.length_map (f:=NV.node),hm,List.length_map]
  have b1:Ls w2 w.heap.size (.slice op l.length oc) (l.map (Bb DA own ss)):=⟨nvs,a0,hm,λx hx=>(hk x hx).1⟩;have b2:∀n∈l.map (Bb DA own ss),n.kids.length≤100000:=λn hn=>by
   obtain ⟨m,h1,rfl⟩:=List.mem_map.1 hn;have h3:=aq m h1;unfold Bb
   split
   ·omega
   ·split
    ·omega
    ·unfold DA
     split
     ·simp [Bx]
     ·split
      ·simp [Bx]
      ·show m.kids.length≤_;omega
  refine Sa ?_;exact QW.body1 Tryz.results69 rfl ⟨⟨by rw [BZ,if_pos ht];exact b1.row (by rw [List.length_map];exact az) b2,λb hb=>(a0.lt hb).1⟩,ae⟩
 have h2:k<l.length:=by simp at h2;omega
 obtain ⟨nd,ag⟩:∃nd,l[k]?=some nd:=⟨_,List.getElem?_eq_getElem h2⟩;have a7:=List.mem_of_getElem? ag;obtain ⟨a,kp,kc,rfl,ah,a8⟩:=hN.at ag;have a1:∀j u,(Cu ⟨nd,.slice kp nd.kids.length kc⟩)[j]?=some u→w2.cell? ((a.add (((k:Nat):Int).toNat*14)).add j)=some u:=λj u hj=>by rw [show ((k:Nat):Int).toNat=k by omega];exact Aw ae (a8 j u hj)
 refine Sa ?_;refine Lo ?_;refine LW.load_cells rfl a1 rfl rfl rfl rfl ?_;refine Sa ?_;refine D4 λX w3 b9 au hX=>?_;have a9:∀b∈Ad (Value.slice op k oc),b<w2.heap.size:=λb hb=>by
  obtain ⟨nvs,ho,_⟩:=hP;exact (ho.lt hb).2
 replace hP:=hP.ext au;have ai:=ae.trans au;have av:=hX;refine Sa ?_;refine Cj λw4 aj hX=>?_;replace hX:Blk w4 X (Cu ⟨nd,.slice kp nd.kids.length kc⟩) 139:=hX;replace hP:=hP.chg aj (λb hb=>by have:=a9 b hb;simp;omega) (λb hb=>by
  simp only [List.mem_singleton] at hb;subst hb;exact .inr ⟨_,_,av,by decide⟩)
 have a2:Ag w w4:=ai.step aj (by simp;omega);refine Sa ?_;refine AE rfl rfl (QJ nd.kids _ w4 (ah.ext a2) (by have:=aq nd a7;omega)) ?_;rintro v w5 ⟨⟨kp',kc',rfl⟩,hK,ba,ak⟩;replace hP:=hP.ext ak;replace hX:=hX.ext ak;have al:=a2.trans ak;have bb:=a2.size;have am:=hX;refine Sa ?_;refine CH λw6 af hX=>?_;replace hX:Blk w6 X (Cu ⟨nd,.slice kp' nd.kids.length kc'⟩) 139:=hX;replace hP:=hP.chg af (λb hb=>by have:=a9 b hb;simp;omega) (λb hb=>by
  simp only [List.mem_singleton] at hb;subst hb;exact .inr ⟨_,_,am,by decide⟩)
 replace hK:BK w6 (.slice kp' nd.kids.length kc') nd.kids:=hK.chg (stv:=.slice none 0 0) (by simp [Ad]) af (λb hb=>by
  simp only [List.mem_singleton] at hb;subst hb;exact .inr ⟨_,_,am,by decide⟩)
 have aa:Ag w w6:=al.step af (by simp;omega);refine Sa ?_;refine LW.call (fs:=[.agg ⟨[Ap own,.slice q ss.length qc]⟩]) (cs:=[]) rfl rfl rfl (Td own ss _ nd kp' nd.kids.length kc' w6 (h.ext aa) hss (b0 nd a7)) ?_;rintro v w7 ⟨⟨kv,rfl,aw⟩,an⟩;replace hP:=hP.ext an;replace hK:BK w7 (.slice kp' nd.kids.length kc') nd.kids:=hK.chg (stv:=.slice none 0 0) (by simp [Ad]) an (by simp);have ab:=aa.trans an;have ax:BK w7 kv (Bb DA own ss nd).kids:=by
  rcases aw with ⟨rfl,e⟩ | ⟨rfl,e⟩
  ·rw [e];exact hK
  ·exact .inl ⟨rfl,e⟩
 clear hK aw hX am av af aj;refine Sa ?_;refine DG λC b3 bc a3 hC=>?_;replace hC:Blk b3 C (Cu ⟨Bb DA own ss nd,kv⟩) 139:=hC;have ac:=ab.trans a3;have b4:=ac.size;have b5:(Cu ⟨Bb DA own ss nd,kv⟩).all (·.oneCell')=true:=by
  simp only [Cu,List.all_cons,List.all_nil,ax.one];rfl
 obtain ⟨nvs,a0,hm,a4⟩:=hP;have ar:nvs.length=k:=by rw [←List.length_map (f:=NV.node),hm,List.length_map,List.length_take];omega
 subst ar;refine Sa ?_;refine LW.append rfl rfl rfl rfl rfl rfl (a0.ext a3) (by omega) hC rfl b5 rfl (by show (nvs.length+1)*137≤140737488355328;omega) rfl ?_;intro v2 ay ao a5 b6;have e1:(nvs.flatMap Cu++Cu ⟨Bb DA own ss nd,kv⟩)=(nvs++[(⟨Bb DA own ss nd,kv⟩:NV)]).flatMap Cu:=by simp
 have e2:nvs.length+1=(nvs++[(⟨Bb DA own ss nd,kv⟩:NV)]).length:=by simp
 rw [e1] at a5;obtain ⟨p4,c4,rfl⟩:=a5.slice;have a6:Chg (Ad (.slice op nvs.length oc)) w7 ay:=by
  have:=Chg.trans a3 ao
  simpa using this
 have bd:∀b∈Ad (Value.slice op nvs.length oc),∀L T,Blk w7 b L T→T=139:=λb hb L T hL=>Ay.type a0 hb hL;have hS:∀b∈Ad (Value.slice op nvs.length oc),b∈Ad (Value.slice none 0 0)∨∃l T,Blk w7 b l T∧T≠3:=λb hb=>by
  obtain ⟨_,⟨e,_⟩ | ⟨g,cap,sp,e,hg,_⟩⟩:=a0
  ·rw [e] at hb;simp [Ad] at hb
  ·rw [e] at hb;simp [Ad] at hb;subst hb;exact .inr ⟨_,_,hg,by decide⟩
 have ad:Ag w ay:=ab.step a6 (λb hb=>(a0.lt hb).1);have b7:l.take (nvs.length+1)=l.take nvs.length++[nd]:=by rw [List.take_add_one,ag];rfl
 refine Sa ?_;refine QW.again (nvs.length+1,p4,c4) ⟨by show nvs.length+1≤_;omega,ad,?_⟩ ?_ (by show l.length - (nvs.length+1)<l.length - nvs.length;omega)
 ·dsimp only;rw [b7];refine ⟨nvs++[⟨Bb DA own ss nd,kv⟩],by rw [←e2];exact a5,by simp [hm],λx hx=>?_⟩;rcases List.mem_append.1 hx with hx | hx
  ·exact ⟨(a4 x hx).1.chg (a4 x hx).2 a6 hS,(a4 x hx).2⟩
  ·simp at hx;subst hx;exact ⟨ax.chg (stv:=.slice none 0 0) (by simp [Ad]) a6 hS,by simp [Ad]⟩
 ·exact Hz
theorem Q6 (l:List Ab) (v:Value) (own:List UInt8) (ss:List BQ) (sv:Value) (w:World) (g:Cm w) (hN:Ck w v l) (hs:Mk l) (h:BS w sv ss) (hss:∀s∈ss,s.Fine):AL Tryz.prog 69 [v,Ap own,sv] w (λv' w'=>Ck w' v' (BZ DA own ss l)∧Ag w w'):=
 (Q5 l v own ss sv w g hN hs h hss).mono λ_ _ ⟨⟨h1,_⟩,h2⟩=>⟨h1,h2⟩
theorem Q0 {t:Tr false} (hf:t.Fit) (hn:t.Num):t.text≠[]:=(t.head hf hn).1
theorem M7 (l:List Ab):AM []≠.ok l:=λh=>by
 obtain ⟨_,h1,_,t,hf,hn,_,h2⟩:=IV h;rw [h2] at h1;exact Q0 hf hn (List.eq_nil_of_length_eq_zero (by simpa using h1))
theorem Pa {l:List Ab} (hsh:Dw l) (hno:Hx l) (hl:l.length≤100000) (ht:l=[]∨BI l=true) :
  (B6 l=[]↔l=[])∧(B6 l).length≤400000000∧(∀e,AM (B6 l)=.error e→l=[]∨300<(B6 l).length∨e=6)∧∀m,AM (B6 l)=.ok m→l=m:=by
 rcases ht with rfl | ht
 ·have hp:B6 []=[]:=LN rfl;rw [hp];exact ⟨by simp,by simp,λ_ _=>.inl rfl,λm h=>absurd h (M7 m)⟩
 ·obtain ⟨t,rfl,hf⟩:=Ij ht;have hn:=hno t hf rfl;have a0:=t.flat_len 0;have a1:=t.len_le 0 hf hn (λn hm=>(hsh n hm).1);simp only [cond_false] at a1;have a2:t.flat 0≠[]:=λh=>by
   have:=t.cnt_pos;rw [h] at a0;simp at a0;omega
  rw [I5 hf,IR t hf hn];refine ⟨⟨λh=>absurd h (Q0 hf hn),λh=>absurd h a2⟩,by omega,λe h=>?_,λm h=>?_⟩
  ·split at h
   ·rename_i h3;exact .inr (.inl h3)
   ·split at h
    ·cases h
    ·simp only [Except.error.injEq] at h;exact .inr (.inr h.symm)
  ·split at h
   ·cases h
   ·split at h
    ·simpa using h
    ·cases h
theorem May.fine {s:BQ} (h:s.May):s.Fine:=⟨LH h.1,LH h.2⟩
theorem Rp {own:List UInt8} {ss:List BQ} (hss:∀s∈ss,s.May) {l:List Ab} (hsh:Dw l) (hno:Hx l) (hl:l.length≤100000) (hk:∀n∈l,n.kids.length≤100000) :
  Dw (BZ DA own ss l)∧Hx (BZ DA own ss l)∧(∀n∈BZ DA own ss l,n.kids.length≤100000)∧(B6 (BZ DA own ss l)).length≤400000000:=by
 obtain ⟨h1,h2,h3,h4⟩:=NE (own:=own) hss hsh hno 100000 hk;have ht:BZ DA own ss l=[]∨BI (BZ DA own ss l)=true:=by
  by_cases h:BI l=true
  ·obtain ⟨t,rfl,hf⟩:=Ij h;obtain ⟨e,a0⟩:=Kn (own:=own) hss hf;rw [e];exact .inr (Tr.tree _ a0)
  ·exact .inl (by rw [BZ,if_neg h])
 exact ⟨h1,h2,h3,(Pa h1 h2 (by omega) ht).2.1⟩
theorem NC {own:List UInt8} {ss:List BQ} {s:List UInt8} {l:List Ab} (h1:Ae s 0=61) (h2:s≠[]) (h3:Dc s=true) (h4:AM (s.drop 1)=.ok l):Ct own ss s=if 300<(B6 (BZ DA own ss l)).length+1 then VR else 61::B6 (BZ DA own ss l):=by
 rw [Ct,if_pos ⟨h2,h1,h3⟩,h4];rfl
theorem Hj {own:List UInt8} {ss:List BQ} {s:List UInt8} (h:s=[]∨Ae s 0≠61∨Dc s=false):Ct own ss s=s:=by
 rw [Ct,if_neg];rintro ⟨h1,h2,h3⟩;rcases h with h | h | h
 ·exact h1 h
 ·exact h h2
 ·rw [h] at h3;cases h3
theorem Pc (s own:List UInt8) (ss:List BQ) (sv:Value) (hs:s.length≤9223372036854775807) (w:World) (g:Cm w) (h:BS w sv ss) (hss:∀s∈ss,s.May):AL Tryz.prog 48 [Ap s,Ap own,sv] w (λv w'=>v=Ap (Ct own ss s)∧Ag w w'):=by
 refine Br Tryz.func48 Tryz.ntmps48 ?_;refine Sa ?_;refine AE rfl rfl (ML s hs w g) ?_;rintro v w1 ⟨hv,hx⟩;rcases hv with ⟨l,nv,rfl,h1,h2,h3,h4,hN⟩ | ⟨rfl,a2⟩
 ·obtain ⟨_,f1,f2,f3,f4⟩:=Gd h4;have a3:V0 (s.drop 1) l 0:=.inl ⟨h4,rfl⟩;obtain ⟨m1,m2,m3,m4⟩:=Rp (own:=own) hss f2 a3.num (by omega) (λn hn=>by have:=f4 n hn;omega);refine Sa ?_;refine AE rfl rfl (Q6 l nv own ss sv w1 (g.ext hx) hN f2.t (h.ext hx) (λs hs=>May.fine (hss s hs))) ?_;rintro v w2 ⟨a4,a5⟩;have a0:=hx.trans a5;refine Sa ?_;refine AE rfl rfl (Lx _ v w2 (g.ext a0) a4 m1 m2) ?_;rintro v w3 ⟨rfl,a6⟩;have a1:=a0.trans a6;rw [NC h1 h2 h3 h4];refine Sa ?_;refine A4 (λq1=>?_) λq1=>?_
  ·have q1:300<(B6 (BZ DA own ss l)).length+1:=by simp at q1;omega
   rw [if_pos q1];refine Sa ?_;exact QW.body1 Tryz.results48 rfl ⟨rfl,a1⟩
  ·have q1:¬300<(B6 (BZ DA own ss l)).length+1:=by simp at q1;omega
   rw [if_neg q1];refine Sa ?_;exact QW.body1 Tryz.results48 rfl ⟨rfl,a1⟩
 ·rw [Hj a2];refine Sa ?_;exact QW.body1 Tryz.results48 rfl ⟨rfl,hx⟩
def K6 (k:Nat) (f:Nat→Int):List Int:=(List.range k).map f
theorem Hp (k:Nat) (f:Nat→Int):(K6 k f).length=k:=by simp [K6]
theorem Pn {k:Nat} {f:Nat→Int} {j:Nat} (h:j<k):(K6 k f).getD j 0=f j:=by
 simp [K6,List.getD_eq_getElem?_getD,h]
def KF (k:Nat):BT:=⟨K6 k λi=>i,k⟩
theorem Ay.ints {w:World} {lo:Nat} {v:Value} {zs:List Int} {n:Nat} (h:Ay w lo 3 1 v n (Ac zs)) (hn:zs.length=n) (hb:zs.length≤100000000):AU w v zs:=by
 refine ⟨by omega,?_⟩;by_cases h0:n=0
 ·have hz:zs=[]:=List.eq_nil_of_length_eq_zero (by omega);subst hz;obtain ⟨_,⟨e,e2⟩ | ⟨g,cap,sp,e,hg,_⟩⟩:=h
  ·exact .inl ⟨e,rfl⟩
  ·exact .inr ⟨_,cap,by rw [e,h0];rfl,λi z hz=>by simp at hz⟩
 ·obtain ⟨g,cap,sp,rfl,hB,_⟩:=h.get (by omega);refine .inr ⟨_,cap,by rw [hn],λi z hz=>hB.getElem _ _ ?_⟩;have hi:i<zs.length:=(List.getElem?_eq_some_iff.1 hz).1;rw [List.getElem?_append_left (by rw [AG];exact hi)];exact GZ hz
theorem Oi {k:Nat} {i:Nat}:A9 (KF k) (i:Int)=i:=by
 by_cases h:i<k
 ·rw [Fz (by simp only [KF,Hp];exact h)];simp only [KF];rw [Pn h]
 ·rw [HF (by simp only [KF,Hp];omega)];simp only [KF,Hp];omega
end Go.Proofs.YtefaigjfkddelaaGreatDoor
