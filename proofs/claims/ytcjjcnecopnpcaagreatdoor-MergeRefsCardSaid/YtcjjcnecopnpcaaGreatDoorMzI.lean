/-
  Joined by program out of the texts MapI MapS MovP MovT MovM Mov1 Mov2 Mov4 Mov5 Made Mov3 Mov6 MadeF Mov7 MovK MovS MovZ.
-/
import Derived.Test.YtcjjcnecopnpcaaGreatDoorMzD
import Derived.Test.YtcjjcnecopnpcaaGreatDoorMzE
import Derived.Test.YtcjjcnecopnpcaaGreatDoorMzC
import Derived.Test.YtcjjcnecopnpcaaGreatDoorMzG
import Derived.Test.YtcjjcnecopnpcaaGreatDoorMzH
import Derived.Test.YtcjjcnecopnpcaaGreatDoorMzF
import Derived.Test.YtcjjcnecopnpcaaGreatDoorMzB
namespace Go.Proofs.YtcjjcnecopnpcaaGreatDoor
open Tryz
open Go Go.E
structure Bg where
 to:List Int
 new:Int
def Qs(w:World)(vs:List Value)(m:Bg):Prop:=∃tv,vs=[tv,.int .i64 m.new]∧Be w tv m.to
theorem Qs.ext{w w':World}{vs:List Value}{m:Bg}(h:Qs w vs m)(x:Ah w w'):Qs w' vs m:=by
 obtain⟨tv,e,h⟩:=h;exact⟨tv,e,h.ext x⟩
def Bj(m:Bg)(i:Int):Int:=if i<0 then -1 else if i<m.to.length then m.to.getD i.toNat 0 else i - m.to.length+m.new
def Bg.Fine(m:Bg):Prop:=m.to.length≤1000000000∧-1000000000≤m.new∧m.new≤1000000000
theorem F3(m:Bg)(hm:m.Fine)(vs:List Value)(i:Int)(hi:i≤1000000000000)(w:World)(h:Qs w vs m):AN prog 80 [.agg ⟨vs⟩,.int .i64 i] w (λv w'=>v=.int .i64 (Bj m i)∧Ah w w'):=by
 obtain⟨tv,rfl,ht⟩:=h;obtain⟨p,c,rfl⟩:=ht.slice;obtain⟨m1,m2,m3⟩:=hm;refine Bq func80 ntmps80 ?_;refine Sa ?_;refine De λA w1 a0 hx hA=>?_;replace hA:Blk w1 A [.slice p m.to.length c,.int .i64 m.new] 77:=hA;replace ht:=ht.ext hx;refine Sa ?_;refine AB (λh1=>?_) λh1=>?_
 ·have h1:i<0:=by simpa using h1
  refine Sa ?_;exact QW.body1 rfl rfl ⟨by rw[Bj,if_pos h1],hx⟩
 have h1:¬i<0:=by simpa using h1
 refine Sa ?_;refine AB (λh2=>?_) λh2=>?_
 ·have h2:i<m.to.length:=by simpa using h2
  obtain⟨a,rfl,hc⟩:=ht.at (i:=i.toNat) AdV;rw[show i.toNat=i.toNat*1 by omega] at hc;refine Sa ?_;refine Lo ?_;refine Lp hc ?_;refine Sa ?_;exact QW.body1 rfl rfl ⟨by rw[Bj,if_neg h1,if_pos h2,AcB],hx⟩
 have h2:¬i<m.to.length:=by simpa using h2
 refine Sa ?_;exact QW.body1 rfl rfl ⟨by rw[Bj,if_neg h1,if_neg h2],hx⟩
def DK(a b:Int):Int:=if a<b then b else a
def Gc(a:Int):List Int→Int
 | []=>a
 | z::r=>Gc (if 0≤z∧a<0 then z else a) r
def KH(b:Int):List Int→Int
 | []=>b
 | z::r=>KH (DK b z) r
theorem F5(a:Int)(l:List Int)(z:Int):Gc a (l++[z])=if 0≤z∧Gc a l<0 then z else Gc a l:=by
 induction l generalizing a with
 | nil=>rfl
 | cons y r ih=>exact ih _
theorem II(b:Int)(l:List Int)(z:Int):KH b (l++[z])=DK (KH b l) z:=by
 induction l generalizing b with
 | nil=>rfl
 | cons y r ih=>exact ih _
def DF(m:Bg)(lo k:Nat):List Int:=(m.to.take k).drop lo
def B2(m:Bg)(lo hi:Int):Int×Int×Bool:=
 if lo<0∨hi<lo then(0,0,false) else
  let k:=(min (hi+1) (DK lo m.to.length)).toNat
  let a0:=Gc (-1) (DF m lo.toNat k)
  let b:=if m.to.length≤hi then Bj m hi else KH (-1) (DF m lo.toNat k)
  let a:=if m.to.length≤hi∧a0<0 then Bj m (DK lo m.to.length) else a0
  if a<0 then(0,0,false) else(a,b,true)
theorem FT{m:Bg}{lo k:Nat}(h0:lo≤k)(h:k<m.to.length):DF m lo (k+1)=DF m lo k++[m.to.getD k 0]:=by
 unfold DF;rw[AbU,B7 h,List.drop_append_of_le_length AdY];simp[B7 h]
theorem Mi(m:Bg)(lo:Nat):DF m lo lo=[]:=by
 unfold DF;simp
set_option maxHeartbeats 1000000 in
theorem JM(m:Bg)(hm:m.Fine)(vs:List Value)(lo hi:Int)(hlo:lo≤1000000000)(hhi:hi≤1000000000)(w:World)(h:Qs w vs m):AN prog 217 [.agg ⟨vs⟩,.int .i64 lo,.int .i64 hi] w (λv w'=>v=.tuple #[.int .i64 (B2 m lo hi).1,.int .i64 (B2 m lo hi).2.1,.bool (B2 m lo hi).2.2]∧Ah w w'):=by
 have hR:=h;obtain⟨tv,rfl,ht⟩:=h;obtain⟨p,c,rfl⟩:=ht.slice;have a9:=hm;obtain⟨m1,m2,m3⟩:=hm;refine Bq func217 ntmps217 ?_;refine Sa ?_;refine De λA w1 ad ab hA=>?_;replace hA:Blk w1 A [.slice p m.to.length c,.int .i64 m.new] 77:=hA;refine Sa ?_;by_cases a1:lo<0
 ·refine LW.know (t:=12) (c:=true) rfl (decide_eq_true a1) ?_;refine Sa ?_;exact QW.body3 rfl rfl rfl rfl ⟨by rw[B2,if_pos (.inl a1)],ab⟩
 refine LW.know (t:=12) (c:=false) rfl (decide_eq_false a1) ?_;refine Sa ?_;refine AB (λa2=>?_) λa2=>?_
 ·have a2:hi<lo:=by simpa using a2
  refine Sa ?_;exact QW.body3 rfl rfl rfl rfl ⟨by rw[B2,if_pos (.inr a2)],ab⟩
 have a2:¬hi<lo:=by simpa using a2
 obtain⟨L,rfl⟩:=Acx (show 0≤lo by omega);refine Sa ?_;refine CW.loop (ι:=Nat) (λk w'=>L≤k∧(k:Int)≤hi+1∧(k≤m.to.length∨k=L)∧Ah w w'∧Ah w1 w') (λk=>[(1,.int .i64 (L:Int)),(2,.int .i64 hi),(3,.pointer (some ⟨A,0,none⟩)),(6,.int .i64 (Gc (-1) (DF m L k))),(7,.int .i64 (KH (-1) (DF m L k))),(9,.int .i64 (k:Int))]) (λk=>(hi+1 - k).toNat) L ⟨by omega,by omega,.inr rfl,ab,Chg.refl _ _⟩ (by rw[Mi];exact(Al.cons rfl (Al.cons rfl (Al.cons rfl (Al.cons rfl (Al.cons rfl (Al.cons rfl (Al.nil)))))))) ?_;rintro k w2 ⟨k0,k1,k2,a3,a6⟩;replace hA:=hA.ext a6;replace ht:=ht.ext a3;replace hR:=hR.ext a3;have hK:B2 m (L:Int) hi=(if (if (m.to.length:Int)≤hi∧Gc (-1) (DF m L (min (hi+1) (DK L m.to.length)).toNat)<0 then Bj m (DK L m.to.length) else Gc (-1) (DF m L (min (hi+1) (DK L m.to.length)).toNat))<0 then(0,0,false) else((if (m.to.length:Int)≤hi∧Gc (-1) (DF m L (min (hi+1) (DK L m.to.length)).toNat)<0 then Bj m (DK L m.to.length) else Gc (-1) (DF m L (min (hi+1) (DK L m.to.length)).toNat)),(if (m.to.length:Int)≤hi then Bj m hi else KH (-1) (DF m L (min (hi+1) (DK L m.to.length)).toNat)),true)):=by
  rw[B2,if_neg AdV];rfl
 have aa:DK (L:Int) m.to.length=if (L:Int)<m.to.length then(m.to.length:Int) else L:=rfl;refine Sa ?_;by_cases b1:(k:Int)≤hi;rotate_left
 ·refine LW.know (t:=21) (c:=false) rfl (decide_eq_false b1) ?_;have hk:(min (hi+1) (DK (L:Int) m.to.length)).toNat=k:=by rw[aa];split<;>omega
  rw[hk] at hK;rw[hK];clear hK hk;generalize Gc (-1) (DF m L k)=a0;generalize KH (-1) (DF m L k)=b0;refine Sa ?_;refine AB (λd1=>?_) λd1=>?_
  ·have d1:(m.to.length:Int)≤hi:=by simpa using d1
   simp only[d1,true_and,if_true];refine Sa ?_;refine Ar rfl rfl (F3 m a9 _ hi AdV w2 hR) ?_;rintro v w3 ⟨rfl,a7⟩;replace hA:=hA.ext a7;replace hR:=hR.ext a7;have a4:=a3.trans a7;refine Sa ?_;refine AB (λd2=>?_) λd2=>?_
   ·have d2:a0<0:=by simpa using d2
    simp only[d2,if_true];have hz:(if (L:Int)<m.to.length then(m.to.length:Int) else L)=DK L m.to.length:=rfl;refine Sa ?_;refine LW.max2 rfl rfl rfl ?_;rw[hz];refine Ar rfl rfl (F3 m a9 _ (DK L m.to.length) (by rw[aa];split<;>omega) w3 hR) ?_;rintro v w4 ⟨rfl,ac⟩;have a5:=a4.trans ac;refine Sa ?_;refine AB (λd3=>?_) λd3=>?_
    ·have d3:Bj m (DK L m.to.length)<0:=by simpa using d3
     refine Sa ?_;exact QW.body3 rfl rfl rfl rfl ⟨by rw[if_pos d3],a5⟩
    ·have d3:¬Bj m (DK L m.to.length)<0:=by simpa using d3
     refine Sa ?_;exact QW.body3 rfl rfl rfl rfl ⟨by rw[if_neg d3],a5⟩
   ·have d2:¬a0<0:=by simpa using d2
    simp only[d2,if_false];refine Sa ?_;refine CW.no rfl (decide_eq_false d2) ?_;refine Sa ?_;exact QW.body3 rfl rfl rfl rfl ⟨rfl,a4⟩
  ·have d1:¬(m.to.length:Int)≤hi:=by simpa using d1
   simp only[d1,false_and,if_false];refine Sa ?_;refine AB (λd2=>?_) λd2=>?_
   ·have d2:a0<0:=by simpa using d2
    refine Sa ?_;exact QW.body3 rfl rfl rfl rfl ⟨by rw[if_pos d2],a3⟩
   ·have d2:¬a0<0:=by simpa using d2
    refine Sa ?_;exact QW.body3 rfl rfl rfl rfl ⟨by rw[if_neg d2],a3⟩
 refine LW.know (t:=21) (c:=true) rfl (decide_eq_true b1) ?_;refine Sa ?_;refine AB (λb2=>?_) λb2=>?_;rotate_left
 ·have b2:¬(k:Int)<m.to.length:=by simpa using b2
  have hk:(min (hi+1) (DK (L:Int) m.to.length)).toNat=k:=by rw[aa];split<;>omega
  rw[hk] at hK;rw[hK];clear hK hk;generalize Gc (-1) (DF m L k)=a0;generalize KH (-1) (DF m L k)=b0;refine Sa ?_;refine AB (λd1=>?_) λd1=>?_
  ·have d1:(m.to.length:Int)≤hi:=by simpa using d1
   simp only[d1,true_and,if_true];refine Sa ?_;refine Ar rfl rfl (F3 m a9 _ hi AdV w2 hR) ?_;rintro v w3 ⟨rfl,a7⟩;replace hA:=hA.ext a7;replace hR:=hR.ext a7;have a4:=a3.trans a7;refine Sa ?_;refine AB (λd2=>?_) λd2=>?_
   ·have d2:a0<0:=by simpa using d2
    simp only[d2,if_true];have hz:(if (L:Int)<m.to.length then(m.to.length:Int) else L)=DK L m.to.length:=rfl;refine Sa ?_;refine LW.max2 rfl rfl rfl ?_;rw[hz];refine Ar rfl rfl (F3 m a9 _ (DK L m.to.length) (by rw[aa];split<;>omega) w3 hR) ?_;rintro v w4 ⟨rfl,ac⟩;have a5:=a4.trans ac;refine Sa ?_;refine AB (λd3=>?_) λd3=>?_
    ·have d3:Bj m (DK L m.to.length)<0:=by simpa using d3
     refine Sa ?_;exact QW.body3 rfl rfl rfl rfl ⟨by rw[if_pos d3],a5⟩
    ·have d3:¬Bj m (DK L m.to.length)<0:=by simpa using d3
     refine Sa ?_;exact QW.body3 rfl rfl rfl rfl ⟨by rw[if_neg d3],a5⟩
   ·have d2:¬a0<0:=by simpa using d2
    simp only[d2,if_false];refine Sa ?_;refine CW.no rfl (decide_eq_false d2) ?_;refine Sa ?_;exact QW.body3 rfl rfl rfl rfl ⟨rfl,a4⟩
  ·have d1:¬(m.to.length:Int)≤hi:=by simpa using d1
   simp only[d1,false_and,if_false];refine Sa ?_;refine AB (λd2=>?_) λd2=>?_
   ·have d2:a0<0:=by simpa using d2
    refine Sa ?_;exact QW.body3 rfl rfl rfl rfl ⟨by rw[if_pos d2],a3⟩
   ·have d2:¬a0<0:=by simpa using d2
    refine Sa ?_;exact QW.body3 rfl rfl rfl rfl ⟨by rw[if_neg d2],a3⟩
 have b2:k<m.to.length:=by simp at b2;omega
 obtain⟨a,rfl,hc⟩:=ht.at b2;rw[show m.to.getD k 0=m.to.getD k 0 from rfl] at hc;have hs:=FT k0 b2;generalize m.to.getD k 0=z at hc hs;have a8:w2.cell? (a.add (((k:Nat):Int).toNat*1))=some (.int .i64 z):=by
  rw[show((k:Nat):Int).toNat*1=k by omega];exact hc
 refine Sa ?_;refine Lo ?_;refine Lp a8 ?_;refine Sa ?_;have e2:KH (-1) (DF m L (k+1))=if KH (-1) (DF m L k)<z then z else KH (-1) (DF m L k):=by rw[hs,II];rfl
 by_cases b3:0≤z
 ·refine LW.know (t:=36) (c:=true) rfl (decide_eq_true b3) ?_;refine Sa ?_;refine AB (λb4=>?_) λb4=>?_
  ·have b4:Gc (-1) (DF m L k)<0:=by simpa using b4
   have e1:Gc (-1) (DF m L (k+1))=z:=by rw[hs,F5,if_pos ⟨b3,b4⟩]
   refine Sa ?_;refine Lo ?_;refine Lp a8 ?_;refine Sa ?_;refine Lo ?_;refine Lp a8 ?_;refine LW.max2 rfl rfl rfl ?_;rw[←e2];refine Sa ?_;refine QW.again (k+1) ⟨by omega,by omega,.inl b2,a3,a6⟩ Aeq AdV
  ·have b4:¬Gc (-1) (DF m L k)<0:=by simpa using b4
   have e1:Gc (-1) (DF m L (k+1))=Gc (-1) (DF m L k):=by rw[hs,F5,if_neg (λh=>b4 h.2)]
   refine Sa ?_;refine Lo ?_;refine Lp a8 ?_;refine LW.max2 rfl rfl rfl ?_;rw[←e2];refine Sa ?_;refine QW.again (k+1) ⟨by omega,by omega,.inl b2,a3,a6⟩ Aeq AdV
 ·refine LW.know (t:=36) (c:=false) rfl (decide_eq_false b3) ?_;have e1:Gc (-1) (DF m L (k+1))=Gc (-1) (DF m L k):=by rw[hs,F5,if_neg (λh=>b3 h.1)]
  refine Sa ?_;refine Lo ?_;refine Lp a8 ?_;refine LW.max2 rfl rfl rfl ?_;rw[←e2];refine Sa ?_;refine QW.again (k+1) ⟨by omega,by omega,.inl b2,a3,a6⟩ Aeq AdV
def Bw(new:Int):Int→List Int→Bool
 | _,[]=>true
 | last,z::r=>if z=-1 then Bw new last r else if z≤last∨new≤z then false else Bw new z r
def Er(m:Bg):Bool:=decide (0≤m.new)&&decide (m.new≤1048576)&&decide (m.to.length≤1048576)&&Bw m.new (-1) m.to
def GX(m:Bg):Prop:=∀j,j<m.to.length→m.to.getD j 0=-1∨(0≤m.to.getD j 0∧m.to.getD j 0<m.new∧∀i,i<j→m.to.getD i 0<m.to.getD j 0)
theorem JA(new:Int):∀(l:List Int) (last:Int),-1≤last→Bw new last l=true→∀j,j<l.length→l.getD j 0=-1∨(last<l.getD j 0∧l.getD j 0<new∧∀i,i<j→l.getD i 0<l.getD j 0)
 | [],_,_,_,j,hj=>by simp at hj
 | z::r,last,hl,h,j,hj=>by
  rw[Bw] at h;by_cases hz:z=-1
  ·rw[if_pos hz] at h
   match j,hj with
   | 0,_=>exact .inl hz
   | j+1,hj=>
    have ih:=JA new r last hl h j AeG;simp only[AcE];rcases ih with ih | ⟨h1,h2,h3⟩
    ·exact .inl ih
    ·refine .inr ⟨h1,h2,λi hi=>?_⟩
     match i,hi with
     | 0,_=>simp only[AcS];omega
     | i+1,hi=>simp only[AcE];exact h3 i AdV
  ·rw[if_neg hz] at h;by_cases hy:z≤last∨new≤z
   ·rw[if_pos hy] at h;cases h
   ·rw[if_neg hy] at h
    match j,hj with
    | 0,_=>exact .inr ⟨by simp only[AcS];omega,by simp only[AcS];omega,λi hi=>by omega⟩
    | j+1,hj=>
     have ih:=JA new r z AdV h j AeG;simp only[AcE];rcases ih with ih | ⟨h1,h2,h3⟩
     ·exact .inl ih
     ·refine .inr ⟨by omega,h2,λi hi=>?_⟩
      match i,hi with
      | 0,_=>simp only[AcS];omega
      | i+1,hi=>simp only[AcE];exact h3 i AdV
theorem BR{m:Bg}(h:Er m=true):0≤m.new∧m.new≤1048576∧m.to.length≤1048576∧GX m:=by
 simp only[Er,AaG,decide_eq_true_eq] at h;obtain⟨⟨⟨h1,h2⟩,h3⟩,h4⟩:=h;refine⟨h1,h2,h3,λj hj=>?_⟩;rcases JA _ _ _ AdV h4 j hj with h | ⟨a,b,c⟩
 ·exact .inl h
 ·exact .inr ⟨by omega,b,c⟩
theorem OD{m:Bg}(h:Er m=true):m.Fine:=by
 obtain⟨h1,h2,h3,_⟩:=BR h;exact⟨by omega,by omega,by omega⟩
theorem LY{m:Bg}{lo:Nat}:∀n,lo+n≤m.to.length→(∀j,lo≤j→j<lo+n→m.to.getD j 0<0)→Gc (-1) (DF m lo (lo+n))=-1
 | 0,_,_=>by rw[Ac9,Mi];rfl
 | n+1,h,hj=>by
  rw[←Nat.add_assoc,FT AdV AdV,F5,LY n AdV (λj h1 h2=>hj j h1 AdV)];have:=hj (lo+n) AdV AdV;rw[if_neg AdV]
theorem SH{m:Bg}{lo a:Nat}(ha:lo≤a)(hd:∀j,lo≤j→j<a→m.to.getD j 0<0)(hz:0≤m.to.getD a 0):∀n,a+1+n≤m.to.length→Gc (-1) (DF m lo (a+1+n))=m.to.getD a 0
 | 0,h=>by
  have e:=LY (m:=m) (lo:=lo) (a - lo) AdV (λj h1 h2=>hd j h1 AdV);rw[show lo+(a - lo)=a by omega] at e
  rw[Ac9,FT ha AdV,F5,e,if_pos ⟨hz,by omega⟩]
 | n+1,h=>by
  rw[←Nat.add_assoc,FT AdV AdV,F5,SH ha hd hz n AdV,if_neg AdV]
theorem XH{m:Bg}{lo:Nat}{x:Int}(hx:-1<x):∀n,lo+n≤m.to.length→(∀j,lo≤j→j<lo+n→m.to.getD j 0<x)→KH (-1) (DF m lo (lo+n))<x
 | 0,_,_=>by rw[Ac9,Mi];exact hx
 | n+1,h,hj=>by
  have ih:=XH hx n AdV (λj h1 h2=>hj j h1 AdV);have:=hj (lo+n) AdV AdV;rw[←Nat.add_assoc,FT AdV AdV,II,DK]
  split<;>omega
theorem XG{m:Bg}(hr:GX m){lo b:Nat}(hb:lo≤b)(hz:0≤m.to.getD b 0):∀n,b+1+n≤m.to.length→(∀j,b<j→j<b+1+n→m.to.getD j 0<0)→KH (-1) (DF m lo (b+1+n))=m.to.getD b 0
 | 0,h,_=>by
  have e:=XH (m:=m) (lo:=lo) (x:=m.to.getD b 0) AdV (b - lo) AdV (λj h1 h2=>by
   rcases hr b AdV with h3 | ⟨_,_,h3⟩
   ·omega
   ·exact h3 j AdV)
  rw[show lo+(b - lo)=b by omega] at e
  rw[Ac9,FT hb AdV,II,DK,if_pos e]
 | n+1,h,hj=>by
  have:=hj (b+1+n) AdV AdV;rw[←Nat.add_assoc,FT AdV AdV,II,XG hr hb hz n AdV (λj h1 h2=>hj j h1 AdV),DK,if_neg AdV]
theorem Hk{m:Bg}{a:Nat}(h:a<m.to.length):Bj m (a:Int)=m.to.getD a 0:=by
 rw[Bj,if_neg AdV,if_pos AdV];rfl
theorem JY{m:Bg}{a:Nat}(h:m.to.length≤a):Bj m (a:Int)=a - m.to.length+m.new:=by
 rw[Bj,if_neg AdV,if_neg AdV]
theorem JE{m:Bg}(hr:GX m)(hn:0≤m.new){lo hi a b:Nat}(hlo:lo≤a)(hab:a≤b)(hb:b≤hi)(ha0:∀j,lo≤j→j<a→j<m.to.length∧m.to.getD j 0<0)(ha1:a<m.to.length→0≤m.to.getD a 0)
  (hb0:∀j,b<j→j≤hi→j<m.to.length∧m.to.getD j 0<0) (hb1:b<m.to.length→0≤m.to.getD b 0):B2 m lo hi=(Bj m a,Bj m b,true):=by
 rw[B2,if_neg AdV];have a0:DK (lo:Int) m.to.length=if (lo:Int)<m.to.length then(m.to.length:Int) else lo:=rfl;by_cases h1:(m.to.length:Int)≤hi
 ·have a1:b=hi:=by
   rcases Ach b hi with h | h
   ·have:=(hb0 hi h (Abv _)).1;omega
   ·omega
  subst a1;simp only[h1,true_and,if_true];by_cases h2:a<m.to.length
  ·have hk:(min ((b:Int)+1) (DK lo m.to.length)).toNat=a+1+(m.to.length - a - 1):=by rw[a0];split<;>omega
   have e:=SH hlo (λj h3 h4=>(ha0 j h3 h4).2) (ha1 h2) (m.to.length - a - 1) AdV;have:=ha1 h2;rw[hk,show((lo:Nat):Int).toNat=lo by omega,e,if_neg AdV,if_neg AdV,Hk h2]
  ·have e:Gc (-1) (DF m lo (min ((b:Int)+1) (DK lo m.to.length)).toNat)=-1:=by
    rw[a0]
    split
    ·rename_i h3;have e:=LY (m:=m) (lo:=lo) (m.to.length - lo) AdV (λj h4 h5=>(ha0 j h4 AdV).2);rw[show(min ((b:Int)+1) (m.to.length:Int)).toNat=lo+(m.to.length - lo) by omega];exact e
    ·rw[show(min ((b:Int)+1) (lo:Int)).toNat=lo by omega,Mi];rfl
   have ea:DK (lo:Int) m.to.length=a:=by
    rw[a0]
    split
    ·rename_i h3;have:¬m.to.length<a:=λh4=>by have:=(ha0 (m.to.length) AdV h4).1;omega
     omega
    ·have:¬lo<a:=λh4=>by have:=(ha0 lo AdV h4).1;omega
     omega
   rw[show((lo:Nat):Int).toNat=lo by omega,e,if_pos (show(-1:Int)<0 by omega),ea,JY AdV,if_neg AdV]
 ·simp only[h1,false_and,if_false];have hk:(min ((hi:Int)+1) (DK lo m.to.length)).toNat=a+1+(hi - a):=by rw[a0];split<;>omega
  have a2:a+1+(hi - a)=b+1+(hi - b):=AdV
  have e:=SH hlo (λj h3 h4=>(ha0 j h3 h4).2) (ha1 AdV) (hi - a) AdV;have e2:=XG hr (show lo≤b by omega) (hb1 AdV) (hi - b) AdV (λj h3 h4=>(hb0 j h3 AdV).2);have:=ha1 AdV;rw[hk,show((lo:Nat):Int).toNat=lo by omega,e,a2,e2,if_neg AdV,Hk AdV,Hk AdV]
theorem Pa{m:Bg}{lo hi:Nat}(h:∀j,lo≤j→j≤hi→j<m.to.length∧m.to.getD j 0<0)(hl:lo≤hi):B2 m lo hi=(0,0,false):=by
 have hh:=(h hi hl (Abv _)).1;have a0:DK (lo:Int) m.to.length=if (lo:Int)<m.to.length then(m.to.length:Int) else lo:=rfl;rw[B2,if_neg AdV];have h1:¬(m.to.length:Int)≤hi:=AdV
 simp only[h1,false_and,if_false];have hk:(min ((hi:Int)+1) (DK lo m.to.length)).toNat=lo+(hi+1 - lo):=by rw[a0];split<;>omega
 have e:=LY (m:=m) (lo:=lo) (hi+1 - lo) AdV (λj h4 h5=>(h j h4 AdV).2);rw[hk,show((lo:Nat):Int).toNat=lo by omega,e,if_pos AdV]
theorem QG(P:Nat→Prop)[DecidablePred P](lo:Nat):∀n,(∀j,lo≤j→j<lo+n→¬P j)∨∃a,lo≤a∧a<lo+n∧P a∧∀j,lo≤j→j<a→¬P j
 | 0=>.inl λj h1 h2=>by omega
 | n+1=>by
  rcases QG P lo n with h | ⟨a,h1,h2,h3,h4⟩
  ·by_cases hp:P (lo+n)
   ·exact .inr ⟨lo+n,by omega,by omega,hp,λj h1 h2=>h j h1 AdV⟩
   ·refine .inl λj h1 h2=>?_;rcases Ach j (lo+n) with h3 | h3
    ·exact h j h1 h3
    ·obtain rfl:j=lo+n:=by omega
     exact hp
  ·exact .inr ⟨a,h1,by omega,h3,h4⟩
theorem Uf(P:Nat→Prop)[DecidablePred P](lo:Nat):∀n,(∀j,lo≤j→j<lo+n→¬P j)∨∃b,lo≤b∧b<lo+n∧P b∧∀j,b<j→j<lo+n→¬P j
 | 0=>.inl λj h1 h2=>by omega
 | n+1=>by
  by_cases hp:P (lo+n)
  ·exact .inr ⟨lo+n,by omega,by omega,hp,λj h1 h2=>by omega⟩
  ·rcases Uf P lo n with h | ⟨b,h1,h2,h3,h4⟩
   ·refine .inl λj h1 h2=>?_;rcases Ach j (lo+n) with h3 | h3
    ·exact h j h1 h3
    ·obtain rfl:j=lo+n:=by omega
     exact hp
   ·refine .inr ⟨b,h1,by omega,h3,λj h5 h6=>?_⟩;rcases Ach j (lo+n) with h7 | h7
    ·exact h4 j h5 h7
    ·obtain rfl:j=lo+n:=by omega
     exact hp
theorem X0{m:Bg}(hr:GX m){a b:Nat}(h:a<b)(hb:b<m.to.length→0≤m.to.getD b 0)(ha:a<m.to.length→0≤m.to.getD a 0):Bj m (a:Int)<Bj m (b:Int):=by
 by_cases h1:b<m.to.length
 ·rw[Hk h1,Hk AdV];rcases hr b h1 with h2 | ⟨_,_,h2⟩
  ·have:=hb h1;omega
  ·exact h2 a h
 ·rw[JY (show m.to.length≤b by omega)];by_cases h2:a<m.to.length
  ·rw[Hk h2];rcases hr a h2 with h3 | ⟨_,h3,_⟩
   ·have:=ha h2;omega
   ·omega
  ·rw[JY (show m.to.length≤a by omega)];omega
theorem Aaw{m:Bg}(hr:GX m){a b:Nat}(h:a≤b)(hb:b<m.to.length→0≤m.to.getD b 0)(ha:a<m.to.length→0≤m.to.getD a 0):Bj m (a:Int)≤Bj m (b:Int):=by
 rcases Ach a b with h1 | h1
 ·have:=X0 hr h1 hb ha;omega
 ·obtain rfl:a=b:=by omega
  omega
theorem Xz{m:Bg}(hn:0≤m.new){a:Nat}(ha:a<m.to.length→0≤m.to.getD a 0):0≤Bj m (a:Int):=by
 by_cases h1:a<m.to.length
 ·rw[Hk h1];exact ha h1
 ·rw[JY AdV];omega
theorem TC{m:Bg}(hr:GX m)(hn:0≤m.new){lo hi:Nat}(h:lo≤hi):B2 m lo hi=(0,0,false)∨∃a b:Nat,lo≤a∧a≤b∧b≤hi∧B2 m lo hi=(Bj m a,Bj m b,true)∧0≤Bj m a∧Bj m a≤Bj m b:=by
 have hP:∀j,¬(m.to.length≤j∨0≤m.to.getD j 0)↔(j<m.to.length∧m.to.getD j 0<0):=λj=>by omega
 rcases QG (λj=>m.to.length≤j∨0≤m.to.getD j 0) lo (hi+1 - lo) with h1 | ⟨a,h1,h2,h3,h4⟩
 ·exact .inl (Pa (λj h2 h3=>(hP j).1 (h1 j h2 AdV)) h)
 ·rcases Uf (λj=>m.to.length≤j∨0≤m.to.getD j 0) lo (hi+1 - lo) with k1 | ⟨b,k1,k2,k3,k4⟩
  ·exact absurd h3 (k1 a h1 h2)
  ·have a0:a≤b:=by
    rcases Ach b a with h5 | h5
    ·exact absurd k3 (h4 b k1 h5)
    ·exact h5
   have a1:a<m.to.length→0≤m.to.getD a 0:=λh5=>by omega
   have a2:b<m.to.length→0≤m.to.getD b 0:=λh5=>by omega
   exact .inr ⟨a,b,h1,a0,by omega,JE hr hn h1 a0 AdV (λj h5 h6=>(hP j).1 (h4 j h5 h6)) a1 (λj h5 h6=>(hP j).1 (k4 j h5 AdV)) a2,Xz hn a1,Aaw hr a0 a2 a1⟩
theorem YA{m:Bg}(hr:GX m)(hn:0≤m.new)(i:Nat):B2 m i i=if Bj m i<0 then(0,0,false) else(Bj m i,Bj m i,true):=by
 by_cases h:i<m.to.length∧m.to.getD i 0<0
 ·rw[Pa (λj h1 h2=>(show j=i by omega) ▸ h) (Abv _),Hk h.1,if_pos h.2]
 ·have h1:i<m.to.length→0≤m.to.getD i 0:=λh2=>by omega
  have:=Xz hn h1;rw[JE hr hn (Abv _) (Abv _) (Abv _) (λj h2 h3=>by omega) h1 (λj h2 h3=>by omega) h1,if_neg AdV]
theorem Wv{m:Bg}(hr:GX m)(hn:0≤m.new)(ha:∀j,j<m.to.length→0≤m.to.getD j 0){lo hi:Nat}(h:lo≤hi):B2 m lo hi=(Bj m lo,Bj m hi,true):=
 JE hr hn (Abv _) h (Abv _) (λj h2 h3=>by omega) (ha lo) (λj h2 h3=>by omega) (ha hi)
structure Bl where
 sheet:List UInt8
 rows:Bg
 cols:Bg
 gone:Bool
def Bl.May(s:Bl):Prop:=Er s.rows=true∧Er s.cols=true
def Bl.Fine(s:Bl):Prop:=s.rows.Fine∧s.cols.Fine
def Cj:Ag:={kind:=4}
def Tt(own:List UInt8)(n:Ag):List UInt8:=if n.ref.sheet=[] then own else n.ref.sheet
def En(ss:List Bl)(x:List UInt8):Option Bl:=ss.find? (λs=>decide (s.sheet=x))
def BG(n:Ag):CH:=if n.kind=5 then n.ref else n.to
def Dm(s:Bl)(n:Ag):Prop:=(B2 s.rows n.ref.row (BG n).row).2.2=false∨(B2 s.cols n.ref.col (BG n).col).2.2=false∨998<(B2 s.rows n.ref.row (BG n).row).2.1∨701<(B2 s.cols n.ref.col (BG n).col).2.1
instance (s : Bl)(n : Ag) : Decidable (Dm s n) := by unfold Dm; infer_instance
def Kz(s:Bl)(n:Ag):Ag:=
 {n with ref:={n.ref with row:=(B2 s.rows n.ref.row (BG n).row).1,col:=(B2 s.cols n.ref.col (BG n).col).1},to:=if n.kind=6 then {n.to with row:=(B2 s.rows n.ref.row (BG n).row).2.1,col:=(B2 s.cols n.ref.col (BG n).col).2.1} else n.to}
def DQ(s:Bl)(n:Ag):Ag:=if s.gone=true then Cj else if Dm s n then Cj else Kz s n
def goD(s:Bl)(n:Ag):Ag:=
 if s.gone=true then Cj
 else if n.kind=5 then(if BA {n.ref with row:=Bj s.rows n.ref.row,col:=Bj s.cols n.ref.col}=true then {n with ref:={n.ref with row:=Bj s.rows n.ref.row,col:=Bj s.cols n.ref.col}} else Cj)
 else if (B2 s.rows n.ref.row n.to.row).2.2=true∧(B2 s.cols n.ref.col n.to.col).2.2=true∧BA {n.ref with row:=(B2 s.rows n.ref.row n.to.row).1,col:=(B2 s.cols n.ref.col n.to.col).1}=true∧BA {n.to with row:=(B2 s.rows n.ref.row n.to.row).2.1,col:=(B2 s.cols n.ref.col n.to.col).2.1}=true then
  {n with ref:={n.ref with row:=(B2 s.rows n.ref.row n.to.row).1,col:=(B2 s.cols n.ref.col n.to.col).1},to:={n.to with row:=(B2 s.rows n.ref.row n.to.row).2.1,col:=(B2 s.cols n.ref.col n.to.col).2.1}}
 else Cj
def Bv(go:Bl→Ag→Ag)(own:List UInt8)(ss:List Bl)(n:Ag):Ag:=
 if n.kind≠5∧n.kind≠6 then n else match En ss (Tt own n) with
  | none=>n
  | some s=>go s n
def C4(go:Bl→Ag→Ag)(own:List UInt8)(ss:List Bl)(l:List Ag):List Ag:=if Cw l=true then l.map (Bv go own ss) else[]
theorem Cg{x:CH}(h:BA x=true):0≤x.col∧x.col≤701∧0≤x.row∧x.row≤998∧∀r c,0≤r→r≤998→0≤c→c≤701→BA {x with row:=r,col:=c}=true:=by
 simp only[BA,AaG,decide_eq_true_eq] at h ⊢;obtain⟨⟨⟨⟨h0,h1⟩,h2⟩,h3⟩,h4⟩:=h;exact⟨h1,h2,h3,h4,λr c h5 h6 h7 h8=>⟨⟨⟨⟨h0,h7⟩,h8⟩,h5⟩,h6⟩⟩
theorem MN{x:CH}(h:BA x=true)(r c:Int):BA {x with row:=r,col:=c}=true↔0≤r∧r≤998∧0≤c∧c≤701:=by
 obtain⟨_,_,_,_,h5⟩:=Cg h;refine⟨λhh=>?_,λ⟨h1,h2,h3,h4⟩=>h5 r c h1 h2 h3 h4⟩;obtain⟨a,b,c,d,_⟩:=Cg hh;exact⟨c,d,a,b⟩
theorem GN{n:Ag}(h:AH n=true)(hk:n.kind=5):BA n.ref=true∧n.num=0∧n.text=[]∧n.to=Bh:=by
 simp only[AH,IR,Br,hk] at h;simp at h;exact⟨h.1,h.2.1,h.2.2.1,h.2.2.2⟩
theorem Fa{n:Ag}(h:AH n=true)(hk:n.kind=6):BA n.ref=true∧BA n.to=true∧BV n.ref n.to=true∧n.num=0∧n.text=[]:=by
 simp only[AH,IR,Br,hk] at h;simp at h;exact⟨h.1.1,h.1.2.1,h.1.2.2,h.2.1,h.2.2⟩
theorem Fz{a b:CH}(h:BV a b=true):b.sheet=[]∧a.col≤b.col∧a.row≤b.row:=by
 simp only[BV,AaG,decide_eq_true_eq] at h;exact⟨h.1.1,h.1.2,h.2⟩
theorem Kt{m:Bg}(hr:GX m)(hn:0≤m.new){lo hi:Int}(h0:0≤lo)(h:lo≤hi):B2 m lo hi=(0,0,false)∨∃a b:Nat,lo≤a∧a≤b∧b≤hi∧B2 m lo hi=(Bj m a,Bj m b,true)∧0≤Bj m a∧Bj m a≤Bj m b:=by
 obtain⟨a,rfl⟩:=Acx h0;obtain⟨b,rfl⟩:=Acx (show 0≤hi by omega);rcases TC hr hn (lo:=a) (hi:=b) AdV with h1 | ⟨x,y,h1,h2,h3,h4⟩
 ·exact .inl h1
 ·exact .inr ⟨x,y,by omega,h2,by omega,h4⟩
theorem Ku{m:Bg}(hr:GX m)(hn:0≤m.new){i:Int}(h:0≤i):B2 m i i=if Bj m i<0 then(0,0,false) else(Bj m i,Bj m i,true):=by
 obtain⟨a,rfl⟩:=Acx h;exact YA hr hn a
theorem Zd{s:Bl}(hm:s.May){n:Ag}(hp:AH n=true)(hk:n.kind=5∨n.kind=6):DQ s n=goD s n:=by
 obtain⟨r1,_,_,r4⟩:=BR hm.1;obtain⟨c1,_,_,c4⟩:=BR hm.2;unfold DQ goD;by_cases hg:s.gone=true
 ·rw[if_pos hg,if_pos hg]
 rw[if_neg hg,if_neg hg];rcases hk with hk | hk
 ·obtain⟨h1,h2,h3,h4⟩:=GN hp hk;obtain⟨b1,b2,b3,b4,_⟩:=Cg h1;have a0:=MN h1 (Bj s.rows n.ref.row) (Bj s.cols n.ref.col);have hl:BG n=n.ref:=by rw[BG,if_pos hk]
  have er:=Ku r4 r1 b3;have ec:=Ku c4 c1 b1;rw[if_pos hk];by_cases x1:Bj s.rows n.ref.row<0
  ·have hg:Dm s n:=by unfold Dm;rw[hl,er,if_pos x1];exact .inl rfl
   rw[if_pos hg,if_neg AeV]
  by_cases x2:Bj s.cols n.ref.col<0
  ·have hg:Dm s n:=by unfold Dm;rw[hl,ec,if_pos x2];exact .inr (.inl rfl)
   rw[if_pos hg,if_neg AeV]
  have hw:Kz s n={n with ref:={n.ref with row:=Bj s.rows n.ref.row,col:=Bj s.cols n.ref.col}}:=by
   unfold Kz;rw[hl,er,ec,if_neg x1,if_neg x2,if_neg (show ¬n.kind=6 by omega)]
  by_cases x3:998<Bj s.rows n.ref.row∨701<Bj s.cols n.ref.col
  ·have hg:Dm s n:=by unfold Dm;rw[hl,er,ec,if_neg x1,if_neg x2];exact .inr (.inr x3)
   rw[if_pos hg,if_neg AeV]
  ·have hg:¬Dm s n:=by unfold Dm;rw[hl,er,ec,if_neg x1,if_neg x2];simpa using x3
   rw[if_neg hg,hw,if_pos AeV]
 ·obtain⟨h1,h2,h3,h4,h5⟩:=Fa hp hk;obtain⟨b1,b2,b3,b4,_⟩:=Cg h1;obtain⟨q1,q2,q3⟩:=Fz h3;have hl:BG n=n.to:=by rw[BG,if_neg AdV]
  rw[if_neg (show ¬n.kind=5 by omega)];rcases Kt r4 r1 b3 q3 with er | ⟨x,y,_,_,_,er,er1,er2⟩
  ·have hg:Dm s n:=by unfold Dm;rw[hl,er];exact .inl rfl
   rw[if_pos hg,er,if_neg (λh=>by cases h.1)]
  rcases Kt c4 c1 b1 q2 with ec | ⟨u,v,_,_,_,ec,ec1,ec2⟩
  ·have hg:Dm s n:=by unfold Dm;rw[hl,ec];exact .inr (.inl rfl)
   rw[if_pos hg,ec,if_neg (λh=>by cases h.2.1)]
  have i1:=MN h1 (Bj s.rows x) (Bj s.cols u);have i2:=MN h2 (Bj s.rows y) (Bj s.cols v);have hw:Kz s n={n with ref:={n.ref with row:=Bj s.rows x,col:=Bj s.cols u},to:={n.to with row:=Bj s.rows y,col:=Bj s.cols v}}:=by
   unfold Kz;rw[hl,er,ec,if_pos hk]
  by_cases x3:998<Bj s.rows y∨701<Bj s.cols v
  ·have hg:Dm s n:=by unfold Dm;rw[hl,er,ec];exact .inr (.inr x3)
   rw[if_pos hg,er,ec,if_neg (λh=>by have:=i2.1 h.2.2.2;omega)]
  ·have hg:¬Dm s n:=by unfold Dm;rw[hl,er,ec];simpa using x3
   rw[if_neg hg,hw,er,ec,if_pos ⟨rfl,rfl,i1.2 AdV,i2.2 AdV⟩]
theorem GA{ss:List Bl}{x:List UInt8}{s:Bl}(h:En ss x=some s):s∈ss∧s.sheet=x:=by
 unfold En at h;have h1:=AdQ h;exact⟨Ado h,by simpa using h1⟩
theorem Xw{s:Bl}(hm:s.May){n:Ag}(hp:AH n=true)(hk:n.kind=5∨n.kind=6):AH (DQ s n)=true∧1≤(DQ s n).kind∧(DQ s n).kind≤6∧(DQ s n).num=0∧(DQ s n).text=[]∧(DQ s n).ref.sheet.length≤n.ref.sheet.length∧(DQ s n).to.sheet.length≤n.to.sheet.length∧((DQ s n).kids=n.kids∨DQ s n=Cj):=by
 have hd:AH Cj=true∧1≤Cj.kind∧Cj.kind≤6∧Cj.num=0∧Cj.text=[]∧Cj.ref.sheet.length≤n.ref.sheet.length∧Cj.to.sheet.length≤n.to.sheet.length∧(Cj.kids=n.kids∨Cj=Cj):=⟨rfl,by decide,by decide,rfl,rfl,by simp[Cj,Bh],by simp[Cj,Bh],.inr rfl⟩;obtain⟨r1,_,_,r4⟩:=BR hm.1;obtain⟨c1,_,_,c4⟩:=BR hm.2;rw[Zd hm hp hk];unfold goD
 split
 ·exact hd
 split
 ·rename_i a0;obtain⟨h1,h2,h3,h4⟩:=GN hp a0
  split
  ·rename_i hb;refine⟨?_,by show 1≤n.kind;omega,by show n.kind≤6;omega,h2,h3,Abv _,Abv _,.inl rfl⟩;simp only[AH,IR,Br,a0,hb,h2,h3,h4];simp
  ·exact hd
 ·rename_i a0;have a1:n.kind=6:=AdV
  obtain⟨h1,h2,h3,h4,h5⟩:=Fa hp a1;obtain⟨q1,q2,q3⟩:=Fz h3;obtain⟨b1,b2,b3,b4,_⟩:=Cg h1
  split
  ·rename_i hb;obtain⟨e1,e2,e3,e4⟩:=hb;refine⟨?_,by show 1≤n.kind;omega,by show n.kind≤6;omega,h4,h5,Abv _,Abv _,.inl rfl⟩;rcases Kt r4 r1 b3 q3 with er | ⟨x,y,_,_,_,er,er1,er2⟩
   ·rw[er] at e1;cases e1
   rcases Kt c4 c1 b1 q2 with ec | ⟨u,v,_,_,_,ec,ec1,ec2⟩
   ·rw[ec] at e2;cases e2
   rw[er,ec] at e3 e4 ⊢;have a2:BV {n.ref with row:=Bj s.rows x,col:=Bj s.cols u} {n.to with row:=Bj s.rows y,col:=Bj s.cols v}=true:=by
    simp only[BV,AaG,decide_eq_true_eq];exact⟨⟨q1,ec2⟩,er2⟩
   simp only[AH,IR,Br,a1,e3,e4,a2,h4,h5];simp
  ·exact hd
def Tr.mv(f:Ag→Ag):{b:Bool}→Tr b→Tr b
 | _,.leaf n=>.leaf (f n)
 | _,.neg a=>.neg (a.mv f)
 | _,.two k a b=>.two k (a.mv f) (b.mv f)
 | _,.call x ks=>.call x (ks.mv f)
 | _,.nil=>.nil
 | _,.snoc ks a=>.snoc (ks.mv f) (a.mv f)
structure TG(f:Ag→Ag):Prop where
 inner:∀n:Ag,7≤n.kind→f n=n
 leaf:∀n:Ag,1≤n.kind→n.kind≤6→n.kids=[]→AH n=true→1≤(f n).kind∧(f n).kind≤6∧(f n).kids=[]∧AH (f n)=true∧(f n=n∨(f n).num=0)
theorem X9{n:Ag}{k:Ap}(h:k∈C2 n):k.num=n.num∨k.num=0:=by
 unfold C2 at h
 repeat' split at h
 all_goals simp only[AaH,AbL,or_false] at h
 all_goals first | (subst h;first | exact .inl rfl | exact .inr rfl) | (rcases h with rfl | rfl | rfl<;>exact .inr rfl)
theorem Gw(f:Ag→Ag):∀{b:Bool} (t:Tr b),(t.mv f).cnt=t.cnt
 | _,.leaf _=>rfl
 | _,.neg a=>by simp only[Tr.mv,Tr.cnt,Gw f a]
 | _,.two _ a b=>by simp only[Tr.mv,Tr.cnt,Gw f a,Gw f b]
 | _,.call _ ks=>by simp only[Tr.mv,Tr.cnt,Gw f ks]
 | _,.nil=>rfl
 | _,.snoc ks a=>by simp only[Tr.mv,Tr.cnt,Gw f ks,Gw f a]
theorem Uj(f:Ag→Ag)(o:Nat):∀{b:Bool} (t:Tr b),(t.mv f).kids o=t.kids o
 | _,.leaf _=>rfl
 | _,.neg _=>rfl
 | _,.two _ _ _=>rfl
 | _,.call _ _=>rfl
 | _,.nil=>rfl
 | _,.snoc ks a=>by simp only[Tr.mv,Tr.kids,Uj f o ks,Gw]
theorem Hr{f:Ag→Ag}(h:TG f):∀{b:Bool} (t:Tr b) (o:Nat),t.Fit→(t.mv f).flat o=(t.flat o).map f
 | _,.leaf _,_,_=>rfl
 | _,.neg a,o,hf=>by simp only[Tr.mv,Tr.flat,Hr h a o hf,Gw,AbT,Acb,Ac3];rw[h.inner _ (by show(7:Int)≤8;omega)]
 | _,.two k a b,o,hf=>by
  simp only[Tr.mv,Tr.flat,Hr h a o hf.2.2.1,Hr h b (o+a.cnt) hf.2.2.2,Gw,AbT,Acb,Ac3]
  rw[h.inner _ (by have:=hf.1;show 7≤k;omega)]
 | _,.call x ks,o,hf=>by simp only[Tr.mv,Tr.flat,Hr h ks o hf.2,Uj,AbT,Acb,Ac3];rw[h.inner _ (by show(7:Int)≤7;omega)]
 | _,.nil,_,_=>rfl
 | _,.snoc ks a,o,hf=>by simp only[Tr.mv,Tr.flat,Hr h ks o hf.1,Hr h a (o+ks.cnt) hf.2,Gw,AbT]
theorem J4{f:Ag→Ag}(h:TG f):∀{b:Bool} (t:Tr b),t.Fit→(t.mv f).Fit
 | _,.leaf n,hf=>by
  obtain⟨a,b,c,d,_⟩:=h.leaf n hf.1 hf.2.1 hf.2.2.1 hf.2.2.2
  exact⟨a,b,c,d⟩
 | _,.neg a,hf=>J4 h a hf
 | _,.two k a b,hf=>⟨hf.1,hf.2.1,J4 h a hf.2.2.1,J4 h b hf.2.2.2⟩
 | _,.call x ks,hf=>⟨hf.1,J4 h ks hf.2⟩
 | _,.nil,_=>trivial
 | _,.snoc ks a,hf=>⟨J4 h ks hf.1,J4 h a hf.2⟩
theorem Uk(f:Ag→Ag):∀{b:Bool} (t:Tr b),(t.mv f).rank=t.rank
 | _,.leaf _=>rfl
 | _,.neg _=>rfl
 | _,.two _ _ _=>rfl
 | _,.call _ _=>rfl
 | _,.nil=>rfl
 | _,.snoc _ _=>rfl
theorem Ht(f:Ag→Ag):∀{b:Bool} (t:Tr b),(t.mv f).need=t.need
 | _,.leaf _=>rfl
 | _,.neg a=>by simp only[Tr.mv,Tr.need,Uk,Ht f a]
 | _,.two _ a b=>by simp only[Tr.mv,Tr.need,Uk,Ht f a,Ht f b]
 | _,.call _ ks=>by simp only[Tr.mv,Tr.need,Ht f ks]
 | _,.nil=>rfl
 | _,.snoc ks a=>by simp only[Tr.mv,Tr.need,Ht f ks,Ht f a]
theorem Hu{f:Ag→Ag}(h:TG f):∀{b:Bool} (t:Tr b),t.Fit→t.Num→(t.mv f).Num
 | _,.leaf n,hf,hn=>λk hk=>by
  obtain⟨_,_,_,_,e⟩:=h.leaf n hf.1 hf.2.1 hf.2.2.1 hf.2.2.2;have hk':k∈C2 (f n):=hk;rcases e with e | e
  ·rw[e] at hk';exact hn k hk'
  ·rcases X9 hk' with h1 | h1<;>omega
 | _,.neg a,hf,hn=>Uo (Hu h a hf (λu hu=>hn u Aez))
 | _,.two o a b,hf,hn=>Up (Hu h a hf.2.2.1 (λu hu=>hn u Aes)) (Hu h b hf.2.2.2 (λu hu=>hn u Aer))
 | _,.call x .nil,hf,hn=>hn
 | _,.call x (.snoc rs a),hf,hn=>Rn (Hu h rs hf.2.1 (λu hu=>hn u Aej)) (Hu h a hf.2.2 (λu hu=>hn u Aej))
 | _,.nil,_,hn=>hn
 | _,.snoc rs a,hf,hn=>Ro (Hu h rs hf.1 (λu hu=>hn u Aej)) (Hu h a hf.2 (λu hu=>hn u Aej))
theorem IL{own:List UInt8}{ss:List Bl}(hss:∀s∈ss,s.May):TG (Bv DQ own ss) where
 inner n hk:=by rw[Bv,if_pos ⟨by omega,by omega⟩]
 leaf n h1 h2 h3 h4:=by
  unfold Bv
  split
  ·exact⟨h1,h2,h3,h4,.inl rfl⟩
  ·rename_i hk
   split
   ·exact⟨h1,h2,h3,h4,.inl rfl⟩
   ·rename_i s e;obtain⟨a,b,c,d,_,_,_,x⟩:=Xw (hss s (GA e).1) h4 AdV;refine⟨b,c,?_,a,.inr d⟩;rcases x with x | x
    ·rw[x,h3]
    ·rw[x];rfl
theorem Ke{own:List UInt8}{ss:List Bl}(hss:∀s∈ss,s.May){n:Ag}(hp:AH n=true):(Bv DQ own ss n).text.length≤n.text.length∧(Bv DQ own ss n).ref.sheet.length≤n.ref.sheet.length∧(Bv DQ own ss n).to.sheet.length≤n.to.sheet.length∧(Bv DQ own ss n).kids.length≤n.kids.length:=by
 unfold Bv
 split
 ·exact⟨Abv _,Abv _,Abv _,Abv _⟩
 ·split
  ·exact⟨Abv _,Abv _,Abv _,Abv _⟩
  ·rename_i s e;obtain⟨a,b,c,d,d2,h1,h2,x⟩:=Xw (hss s (GA e).1) hp AdV;refine⟨by rw[d2];simp,h1,h2,?_⟩;rcases x with x | x
   ·rw[x];exact Abv _
   ·rw[x];simp[Cj]
theorem EC:∀{b:Bool} (t:Tr b) (o:Nat),t.Fit→∀n∈t.flat o,AH n=true
 | _,.leaf m,o,hf,n,hn=>by
  simp only[Tr.flat,B3] at hn;subst hn
  exact hf.2.2.2
 | _,.neg a,o,hf,n,hn=>by
  simp only[Tr.flat,AaC,B3] at hn;rcases hn with hn | rfl
  ·exact EC a o hf n hn
  ·exact rfl
 | _,.two k a b,o,hf,n,hn=>by
  simp only[Tr.flat,AaC,B3] at hn;rcases hn with (hn | hn) | rfl
  ·exact EC a o hf.2.2.1 n hn
  ·exact EC b _ hf.2.2.2 n hn
  ·exact(NF hf.1 hf.2.1 _ _).2
 | _,.call x ks,o,hf,n,hn=>by
  simp only[Tr.flat,AaC,B3] at hn;rcases hn with hn | rfl
  ·exact EC ks o hf.2 n hn
  ·exact(I7 hf.1 _).2
 | _,.nil,_,_,n,hn=>by simp[Tr.flat] at hn
 | _,.snoc ks a,o,hf,n,hn=>by
  simp only[Tr.flat,AaC] at hn;rcases hn with hn | hn
  ·exact EC ks o hf.1 n hn
  ·exact EC a _ hf.2 n hn
theorem JF{l:List Ag}(h:Cw l=true):∀n∈l,AH n=true:=by
 obtain⟨t,rfl,hf⟩:=Kx h;exact EC t 0 hf
theorem Hq{own:List UInt8}{ss:List Bl}(hss:∀s∈ss,s.May){t:Tr false}(hf:t.Fit):C4 DQ own ss (t.flat 0)=(t.mv (Bv DQ own ss)).flat 0∧(t.mv (Bv DQ own ss)).Fit:=
 ⟨by rw[C4,if_pos (t.tree hf),Hr (IL hss) t 0 hf],J4 (IL hss) t hf⟩
theorem VK:JK []:=XM Aei
theorem Ri{own:List UInt8}{ss:List Bl}(hss:∀s∈ss,s.May){l:List Ag}(hsh:E0 l)(hno:JK l)(N:Nat)(hk:∀n∈l,n.kids.length≤N) :
  E0 (C4 DQ own ss l)∧JK (C4 DQ own ss l)∧(∀n∈C4 DQ own ss l,n.kids.length≤N)∧(C4 DQ own ss l).length≤l.length:=by
 by_cases ht:Cw l=true
 ·obtain⟨t,rfl,hf⟩:=Kx ht;have hp:=JF ht;obtain⟨e,a0⟩:=Hq (own:=own) hss hf;have hm:∀n∈C4 DQ own ss (t.flat 0),∃m∈t.flat 0,n=Bv DQ own ss m:=λn hn=>by
   rw[C4,if_pos ht] at hn;obtain⟨m,h1,h2⟩:=AbJ.1 hn;exact⟨m,h1,h2.symm⟩
  refine⟨λn hn=>?_,λu hu eu=>?_,λn hn=>?_,?_⟩
  ·obtain⟨m,h1,rfl⟩:=hm n hn;obtain⟨a,b,c,_⟩:=Ke (own:=own) hss (hp m h1);obtain⟨d1,d2,d3⟩:=hsh m h1;exact⟨by omega,by omega,by omega⟩
  ·have:=Tr.inj u _ hu a0 [] [] (by simpa using eu.trans e) (.inl rfl);rw[this.1];exact Hu (IL hss) t hf (hno t hf rfl)
  ·obtain⟨m,h1,rfl⟩:=hm n hn;obtain⟨_,_,_,d⟩:=Ke (own:=own) hss (hp m h1);have:=hk m h1;omega
  ·rw[C4,if_pos ht,Abr];exact Abv _
 ·rw[C4,if_neg ht];exact⟨λn hn=>(AbL hn).elim,VK,λn hn=>(AbL hn).elim,by simp⟩
def Aa8:List UInt8:=[61,35,82,69,70,33]
noncomputable def CP(own:List UInt8)(ss:List Bl)(s:List UInt8):List UInt8:=
 if s≠[]∧Ai s 0=61∧Cs s=true then(match AY (s.drop 1) with
  | .ok l=>if 300<(61::BX (C4 DQ own ss l)).length then Aa8 else 61::BX (C4 DQ own ss l)
  | .error _=>s) else s
def JD(s:Bl)(rv cv:Value):List Value:=[Av s.sheet,rv,.int .i64 s.rows.new,cv,.int .i64 s.cols.new,.bool s.gone]
def Cz(w:World)(v:Value)(l:List Bl):Prop:=
 l.length≤1000000∧(v=.slice none 0 0∧l=[]∨∃a cap,v=.slice (some a) l.length cap∧∀i s,l[i]?=some s→∃rv cv,Be w rv s.rows.to∧Be w cv s.cols.to∧∀j u,(JD s rv cv)[j]?=some u→w.cell? ((a.add (i*6)).add j)=some u)
theorem Cz.ext{w w':World}{v:Value}{l:List Bl}(h:Cz w v l)(x:Ah w w'):Cz w' v l:=by
 obtain⟨h0,h | ⟨a,cap,e,h⟩⟩:=h
 ·exact⟨h0,.inl h⟩
 ·exact⟨h0,.inr ⟨a,cap,e,λi s hi=>let ⟨rv,cv,h1,h2,hc⟩:=h i s hi;⟨rv,cv,h1.ext x,h2.ext x,λj u hj=>AC x (hc j u hj)⟩⟩⟩
theorem Cz.slice{w:World}{v:Value}{l:List Bl}(h:Cz w v l):∃p c,v=.slice p l.length c:=by
 obtain⟨h0,⟨rfl,rfl⟩ | ⟨a,cap,e,h⟩⟩:=h
 ·exact⟨_,_,rfl⟩
 ·exact⟨_,_,e⟩
theorem Cz.at{w:World}{p:Option Addr}{c:Nat}{l:List Bl}(h:Cz w (.slice p l.length c) l){i:Nat}{s:Bl}(hi:l[i]?=some s) :
  ∃a rp rc cp cc,p=some a∧Be w (.slice rp s.rows.to.length rc) s.rows.to∧Be w (.slice cp s.cols.to.length cc) s.cols.to∧∀j u,(JD s (.slice rp s.rows.to.length rc) (.slice cp s.cols.to.length cc))[j]?=some u→w.cell? ((a.add (i*6)).add j)=some u:=by
 obtain⟨h0,⟨e,e2⟩ | ⟨a,cap,e,h⟩⟩:=h
 ·rw[e2] at hi;simp at hi
 ·simp only[Acu] at e;obtain⟨rv,cv,h1,h2,hc⟩:=h i s hi;obtain⟨rp,rc,rfl⟩:=h1.slice;obtain⟨cp,cc,rfl⟩:=h2.slice;exact⟨a,rp,rc,cp,cc,e.1,h1,h2,hc⟩
def KC(ss:List Bl)(x:List UInt8):Option Nat:=ss.findIdx? (λs=>decide (s.sheet=x))
theorem KD{ss:List Bl}{x:List UInt8}:En ss x=(KC ss x).bind (ss[·]?):=by
 unfold En KC
 induction ss with
 | nil=>rfl
 | cons s r ih=>
  rw[List.find?_cons,Ads];by_cases h:s.sheet=x
  ·simp[h]
  ·simp only[h,decide_false,AbZ,if_false];rw[ih];cases List.findIdx? (λs=>decide (s.sheet=x)) r<;>simp
theorem O6{ss:List Bl}{x:List UInt8}(h:∀i s,i<ss.length→ss[i]?=some s→s.sheet≠x):KC ss x=none:=by
 unfold KC;rw[AcM];intro s hs;obtain⟨i,hi,rfl⟩:=List.getElem_of_mem hs;have:=h i _ hi (B7 hi)
 simpa using this
theorem O7{ss:List Bl}{x:List UInt8}{k:Nat}{s:Bl}(hk:ss[k]?=some s)(hs:s.sheet=x)(h:∀i u,i<k→ss[i]?=some u→u.sheet≠x):KC ss x=some k:=by
 unfold KC;rw[AbN];obtain⟨a0,e⟩:=Abu.1 hk;refine⟨a0,by rw[e];simpa using hs,λj hj=>?_⟩;have:=h j _ hj (B7 AdV)
 simpa using this
theorem TA(s:Bl)(rp cp:Option Addr)(rl rc cl cc A:Nat)(x:List UInt8)(w:World)(hA:Blk w A [Av x] 9):AN prog 261 [.agg ⟨JD s (.slice rp rl rc) (.slice cp cl cc)⟩,.pointer (some ⟨A,0,none⟩)] w (λv w'=>v=.bool (decide (s.sheet=x))∧Ah w w'):=by
 refine Bq func261 ntmps261 ?_;refine Sa ?_;refine De λX w1 a1 a0 hX=>?_;replace hX:Blk w1 X (JD s (.slice rp rl rc) (.slice cp cl cc)) 79:=hX;replace hA:=hA.ext a0;refine Sa ?_;exact QW.body1 rfl rfl ⟨by simp,a0⟩
theorem JX(ss:List Bl)(sv:Value)(A:Nat)(x:List UInt8)(w:World)(h:Cz w sv ss)(hA:Blk w A [Av x] 9):AN prog 78 [sv,.func (.func 261) ⟨[]⟩ ⟨[.pointer (some ⟨A,0,none⟩)]⟩] w (λv w'=>v=.int .i64 (match KC ss x with | some i=>(i:Int) | none=>-1)∧Ah w w'):=by
 obtain⟨p,c,rfl⟩:=h.slice;have hl:=h.1;refine Bq func78 ntmps78 ?_;refine Sa ?_;refine CW.loop (ι:=Nat) (λk w'=>k≤ss.length∧Ah w w'∧∀i u,i<k→ss[i]?=some u→u.sheet≠x) (λk=>[(0,.slice p ss.length c),(1,.func (.func 261) ⟨[]⟩ ⟨[.pointer (some ⟨A,0,none⟩)]⟩),(7,.int .i64 ss.length),(8,.int .i64 k)]) (λk=>ss.length - k) 0 ⟨by omega,Chg.refl _ _,λi u h=>by omega⟩ Bx ?_;rintro k w1 ⟨hk,hx,a2⟩;replace h:=h.ext hx;replace hA:=hA.ext hx;refine Sa ?_;refine AB (λh2=>?_) λh2=>?_
 ·have h2:k<ss.length:=by simp at h2;omega
  obtain⟨s,hs⟩:∃s,ss[k]?=some s:=⟨_,B7 h2⟩;obtain⟨a,rp,rc,cp,cc,rfl,hr,hc,a1⟩:=h.at hs;have a0:∀j u,(JD s (.slice rp s.rows.to.length rc) (.slice cp s.cols.to.length cc))[j]?=some u→w1.cell? ((a.add (((k:Nat):Int).toNat*6)).add j)=some u:=λj u hj=>by rw[show((k:Nat):Int).toNat=k by omega];exact a1 j u hj
  refine Sa ?_;refine Lo ?_;refine LW.load_cells rfl a0 rfl rfl rfl rfl ?_;refine Sa ?_;refine LW.call (fs:=[]) (cs:=[.pointer (some ⟨A,0,none⟩)]) rfl rfl rfl (TA s _ _ _ _ _ _ A x w1 hA) ?_;rintro v w2 ⟨rfl,a3⟩;refine Sa ?_;refine AB (λh3=>?_) λh3=>?_
  ·have h3:s.sheet=x:=by simpa using h3
   refine Sa ?_;exact QW.body1 rfl rfl ⟨by rw[O7 hs h3 a2],hx.trans a3⟩
  ·have h3:s.sheet≠x:=by simpa using h3
   refine Sa ?_;refine QW.again (k+1) ⟨by omega,hx.trans a3,λi u hi hu=>?_⟩ Bx AdV;rcases Ach i k with h4 | h4
   ·exact a2 i u h4 hu
   ·obtain rfl:i=k:=by omega
    rw[hs] at hu;obtain rfl:=Ab9 hu;exact h3
 ·have h2:k=ss.length:=by simp at h2;omega
  subst h2;refine Sa ?_;refine QW.body1 rfl rfl ⟨?_,hx⟩;rw[O6 (λi s hi hs=>a2 i s hi hs)]
def ShV(w:World)(o:Option Bl)(v:Value):Prop:=match o with
 | none=>∃cs,v=.tuple #[.agg ⟨cs⟩,.bool false]∧cs=JD ⟨[],⟨[],0⟩,⟨[],0⟩,false⟩ (.slice none 0 0) (.slice none 0 0)
 | some s=>∃rp rc cp cc,v=.tuple #[.agg ⟨JD s (.slice rp s.rows.to.length rc) (.slice cp s.cols.to.length cc)⟩,.bool true]∧Be w (.slice rp s.rows.to.length rc) s.rows.to∧Be w (.slice cp s.cols.to.length cc) s.cols.to
theorem Wm(own:List UInt8)(ss:List Bl)(sv:Value)(x:List UInt8)(w:World)(h:Cz w sv ss):AN prog 216 [.agg ⟨[Av own,sv]⟩,Av x] w (λv w'=>ShV w' (En ss (if x=[] then own else x)) v∧Ah w w'):=by
 obtain⟨p,c,rfl⟩:=h.slice;have hl:=h.1;refine Bq func216 ntmps216 ?_;refine Sa ?_;refine De λM w1 ah ad hM=>?_;replace hM:Blk w1 M [Av own,.slice p ss.length c] 235:=hM;have ai:=ad.size;have ae:=hM.lt;refine Sa ?_;refine De λA w2 aj a9 hA=>?_;replace hA:Blk w2 A [Av x] 9:=hA;have af:=hA.lt;replace hM:=hM.ext a9;have ak:=a9.size;refine Sa ?_;refine Bt λR w3 al a8 hR=>?_;replace hM:=hM.ext a8;replace hA:=hA.ext a8;have am:=a8.size;have a6:=(ad.trans a9).trans a8;have ag:=hR.lt;refine Sa ?_;refine AB (λb1=>?_) λb1=>?_
 ·have b1:x=[]:=by simpa using b1
  refine Sa ?_;refine D9 λw4 aa hA=>?_;replace hA:Blk w4 A [Av own] 9:=hA;replace hM:=hM.chg aa AdY;replace hR:=hR.chg aa AdY;have a7:Ah w w4:=a6.step aa AdY;rw[if_pos b1];have ab:=h.ext a7;refine Sa ?_;refine Ar rfl rfl (JX ss _ A _ _ ab hA) ?_;rintro v w5 ⟨rfl,a3⟩;replace hM:=hM.ext a3;replace hR:=hR.ext a3;have a0:=a7.trans a3;rw[KD];refine Sa ?_
  cases hi:KC ss _ with
  | none=>
   refine Sa ?_;refine AM λw6 a4 hR=>?_;refine Sa ?_
   exact QW.body_ct rfl rfl hR rfl rfl rfl rfl ⟨⟨_,rfl,rfl⟩,a0.step a4 AdY⟩
  | some i=>
   have ac:i<ss.length:=by
    unfold KC at hi;exact(AbN.1 hi).1
   obtain⟨s,hs⟩:∃s,ss[i]?=some s:=⟨_,B7 ac⟩;obtain⟨a,rp,rc,cp,cc,rfl,hr,hc,a2⟩:=h.at hs;have a1:∀j u,(JD s (.slice rp s.rows.to.length rc) (.slice cp s.cols.to.length cc))[j]?=some u→w5.cell? ((a.add (((i:Nat):Int).toNat*6)).add j)=some u:=λj u hj=>by rw[show((i:Nat):Int).toNat=i by omega];exact AC a0 (a2 j u hj)
   simp only[Ac6,hs];refine Sa ?_;refine LW.know (t:=16) (c:=false) rfl (decide_eq_false AdV) ?_;refine Sa ?_;refine Lo ?_;refine LW.load_cells rfl a1 rfl rfl rfl rfl ?_;refine Sa ?_;refine AM λw6 a4 hR=>?_;have a5:=a0.step a4 AdY;refine Sa ?_;exact QW.body_ct rfl rfl hR rfl rfl rfl rfl ⟨⟨rp,rc,cp,cc,rfl,hr.ext a5,hc.ext a5⟩,a5⟩
 ·have b1:¬x=[]:=by simpa using b1
  have a7:=a6;rw[if_neg b1];have ab:=h.ext a7;refine Sa ?_;refine Ar rfl rfl (JX ss _ A _ _ ab hA) ?_;rintro v w5 ⟨rfl,a3⟩;replace hM:=hM.ext a3;replace hR:=hR.ext a3;have a0:=a7.trans a3;rw[KD];refine Sa ?_
  cases hi:KC ss _ with
  | none=>
   refine Sa ?_;refine AM λw6 a4 hR=>?_;refine Sa ?_
   exact QW.body_ct rfl rfl hR rfl rfl rfl rfl ⟨⟨_,rfl,rfl⟩,a0.step a4 AdY⟩
  | some i=>
   have ac:i<ss.length:=by
    unfold KC at hi;exact(AbN.1 hi).1
   obtain⟨s,hs⟩:∃s,ss[i]?=some s:=⟨_,B7 ac⟩;obtain⟨a,rp,rc,cp,cc,rfl,hr,hc,a2⟩:=h.at hs;have a1:∀j u,(JD s (.slice rp s.rows.to.length rc) (.slice cp s.cols.to.length cc))[j]?=some u→w5.cell? ((a.add (((i:Nat):Int).toNat*6)).add j)=some u:=λj u hj=>by rw[show((i:Nat):Int).toNat=i by omega];exact AC a0 (a2 j u hj)
   simp only[Ac6,hs];refine Sa ?_;refine LW.know (t:=16) (c:=false) rfl (decide_eq_false AdV) ?_;refine Sa ?_;refine Lo ?_;refine LW.load_cells rfl a1 rfl rfl rfl rfl ?_;refine Sa ?_;refine AM λw6 a4 hR=>?_;have a5:=a0.step a4 AdY;refine Sa ?_;exact QW.body_ct rfl rfl hR rfl rfl rfl rfl ⟨⟨rp,rc,cp,cc,rfl,hr.ext a5,hc.ext a5⟩,a5⟩
def MvV(n m:Ag)(kv v:Value):Prop:=∃kv',v=.agg ⟨Dk ⟨m,kv'⟩⟩∧(kv'=kv∧m.kids=n.kids∨kv'=.slice none 0 0∧m.kids=[])
theorem ZZ{go:Bl→Ag→Ag}{own:List UInt8}{ss:List Bl}{n:Ag}(h5:n.kind≠5)(h6:n.kind≠6):Bv go own ss n=n:=by rw[Bv,if_pos ⟨h5,h6⟩]
theorem AaU{go:Bl→Ag→Ag}{own:List UInt8}{ss:List Bl}{n:Ag}(h:n.kind=5∨n.kind=6):Bv go own ss n=match En ss (Tt own n) with | none=>n | some s=>go s n:=by
 unfold Bv
 (rw[if_neg AdV])<;>cases En ss (Tt own n)<;>rfl
theorem Nz{n:Ag}(hp:AH n=true)(h:n.kind=5∨n.kind=6):n.ref.row≤998∧n.ref.col≤701∧(BG n).row≤998∧(BG n).col≤701:=by
 rcases h with h | h
 ·obtain⟨h1,_⟩:=GN hp h;obtain⟨b1,b2,b3,b4,_⟩:=Cg h1;rw[BG,if_pos h];exact⟨b4,b2,b4,b2⟩
 ·obtain⟨h1,h2,_⟩:=Fa hp h;obtain⟨b1,b2,b3,b4,_⟩:=Cg h1;obtain⟨c1,c2,c3,c4,_⟩:=Cg h2;rw[BG,if_neg AdV];exact⟨b4,b2,c4,c2⟩
set_option maxHeartbeats 2000000 in
theorem XL(own:List UInt8)(ss:List Bl)(sv:Value)(n:Ag)(kp:Option Addr)(kl kc:Nat)(w:World)(h:Cz w sv ss)(hss:∀s∈ss,s.Fine)(hp:AH n=true):AN prog 171 [.agg ⟨[Av own,sv]⟩,.agg ⟨Dk ⟨n,.slice kp kl kc⟩⟩] w (λv w'=>MvV n (Bv DQ own ss n) (.slice kp kl kc) v∧Ah w w'):=by
 obtain⟨p,c,rfl⟩:=h.slice;have hl:=h.1;refine Bq func171 ntmps171 ?_;refine Sa ?_;refine De λM w1 bh b2 hM=>?_;replace hM:Blk w1 M [Av own,.slice p ss.length c] 235:=hM;have bi:=b2.size;refine Sa ?_;refine De λN w2 bj ay hN=>?_;replace hN:Blk w2 N (Dk ⟨n,.slice kp kl kc⟩) 189:=hN;have b3:=hN.lt;replace hM:=hM.ext ay;have bk:=ay.size;refine Sa ?_;refine Bt λR w3 bl aq hR=>?_;replace hM:=hM.ext aq;replace hN:=hN.ext aq;have bm:=aq.size;have af:=(b2.trans ay).trans aq;have b4:=hR.lt;apply LW.nil;apply QW.then_n;refine CW.seq_cut (ι:=Unit) (λ_ w'=>w'=w3∧(n.kind=5∨n.kind=6)) (λ_=>[(2,.pointer (some ⟨M,0,none⟩)),(3,.pointer (some ⟨N,0,none⟩)),(4,.pointer (some ⟨R,0,none⟩))]) ?_ ?_
 ·refine Sa ?_;by_cases h5:n.kind=5;rotate_left
  ·refine LW.know (t:=17) (c:=true) rfl (by simp[h5]) ?_;refine Sa ?_;refine AB (λh6=>?_) λh6=>?_
   ·have h6:n.kind≠6:=by simpa using h6
    rw[ZZ h5 h6];refine Sa ?_;refine AM λw4 b5 hR=>?_;replace hR:Blk w4 R (Dk ⟨n,.slice kp kl kc⟩) 189:=hR;refine Sa ?_;exact QW.body_c rfl rfl hR rfl rfl rfl ⟨⟨_,rfl,.inl ⟨rfl,rfl⟩⟩,af.step b5 AdY⟩
   have h6:n.kind=6:=by simpa using h6
   refine Sa ?_;exact QW.head () ⟨rfl,.inr h6⟩ CE
  refine LW.know (t:=17) (c:=false) rfl (by simp[h5]) ?_;refine Sa ?_;exact QW.head () ⟨rfl,.inl h5⟩ CE
 rintro⟨⟩ w3 ⟨rfl,hk⟩;show CW _ _ _ _ _ [(2,.pointer (some ⟨M,0,none⟩)),(3,.pointer (some ⟨N,0,none⟩)),(4,.pointer (some ⟨R,0,none⟩))] _;rw[AaU hk];obtain⟨s1,s2,s3,s4⟩:=Nz hp hk;refine Sa ?_;refine Ar rfl rfl (Wm own ss _ n.ref.sheet w3 (h.ext af)) ?_;rintro v w4 ⟨hv,au⟩;replace hN:=hN.ext au;replace hR:=hR.ext au;have bn:=au.size;have ag:=af.trans au;have b6:(if n.ref.sheet=[] then own else n.ref.sheet)=Tt own n:=rfl;rw[b6] at hv
 cases hf:En ss (Tt own n) with
 | none=>
  rw[hf] at hv;obtain⟨cs,rfl,rfl⟩:=hv;refine Sa ?_;refine Bt λS w5 b7 ad hS=>?_;replace hN:=hN.ext ad;replace hR:=hR.ext ad;have b8:=ad.size;have al:=ag.trans ad;refine Sa ?_;refine AM λw6 ah hS=>?_;replace hN:=hN.chg ah AdY;replace hR:=hR.chg ah AdY;have a2:=al.step ah AdY;refine Sa ?_;refine AM λw7 b9 hR=>?_;replace hR:Blk w7 R (Dk ⟨n,.slice kp kl kc⟩) 189:=hR;refine Sa ?_
  exact QW.body_c rfl rfl hR rfl rfl rfl ⟨⟨_,rfl,.inl ⟨rfl,rfl⟩⟩,a2.step b9 AdY⟩
 | some s=>
  rw[hf] at hv;obtain⟨rp,rc,cp,cc,rfl,hr,hc⟩:=hv;have av:=hss s (GA hf).1;refine Sa ?_;refine Bt λS w5 b7 ad hS=>?_;replace hN:=hN.ext ad;replace hR:=hR.ext ad;have b8:=ad.size;have al:=ag.trans ad;refine Sa ?_;refine AM λw6 ah hS=>?_;replace hS:Blk w6 S (JD s (.slice rp s.rows.to.length rc) (.slice cp s.cols.to.length cc)) 79:=hS;replace hN:=hN.chg ah AdY;replace hR:=hR.chg ah AdY;have ai:Ah w4 w6:=ad.step ah AdY;replace hr:=hr.ext ai;replace hc:=hc.ext ai;have a2:=ag.trans ai;have bo:=a2.size;have ba:=hS.lt;refine Sa ?_
  cases hg:s.gone with
  | true=>
   have eg:DQ s n=Cj:=by rw[DQ,if_pos hg]
   simp only[eg];have a5:=a2;refine Sa ?_;refine AM λw9 a1 hR=>?_;replace hR:Blk w9 R (Dk ⟨Cj,.slice none 0 0⟩) 189:=hR;refine Sa ?_
   exact QW.body_c rfl rfl hR rfl rfl rfl ⟨⟨_,rfl,.inr ⟨rfl,rfl⟩⟩,a5.step a1 AdY⟩
  | false=>
   have eg:DQ s n=if Dm s n then Cj else Kz s n:=by rw[DQ,if_neg (by rw[hg];simp)]
   simp only[eg];refine Sa ?_;refine LW.load_agg (cs:=Dg n.to) rfl hN rfl rfl rfl ⟨rfl,rfl,rfl,rfl,rfl,trivial⟩ rfl ?_;refine Sa ?_;refine Bt λL w7 bp am hL=>?_;replace hN:=hN.ext am;replace hR:=hR.ext am;replace hS:=hS.ext am;have az:=a2.trans am;have bq:=az.size;refine Sa ?_;refine AM λw8 aw hL=>?_;replace hL:Blk w8 L [Av n.to.sheet,.int .i64 n.to.col,.int .i64 n.to.row,.bool n.to.ac,.bool n.to.ar] 187:=hL;have aj:Ah w6 w8:=am.step aw AdY;have an:=a2.trans aj;replace hN:=hN.chg aw AdY;replace hR:=hR.chg aw AdY;replace hS:=hS.chg aw AdY;have br:=an.size;have bb:=hL.lt;rcases hP:B2 s.rows n.ref.row (BG n).row with ⟨x1,x2,x3⟩;rcases hQ:B2 s.cols n.ref.col (BG n).col with ⟨y1,y2,y3⟩;have ae:Dm s n↔(x3=false∨y3=false∨998<x2∨701<y2):=by unfold Dm;rw[hP,hQ]
   have ax:Kz s n={n with ref:={n.ref with row:=x1,col:=y1},to:=if n.kind=6 then {n.to with row:=x2,col:=y2} else n.to}:=by unfold Kz;rw[hP,hQ]
   refine Sa ?_;by_cases k5:n.kind=5
   ·have el:BG n=n.ref:=by rw[BG,if_pos k5]
    refine CW.yes rfl (decide_eq_true k5) ?_;refine Sa ?_;refine LW.load_agg (cs:=Dg n.ref) rfl hN rfl rfl rfl ⟨rfl,rfl,rfl,rfl,rfl,trivial⟩ rfl ?_;refine Sa ?_;refine AM λw9 a1 hL=>?_;replace hL:Blk w9 L [Av n.ref.sheet,.int .i64 n.ref.col,.int .i64 n.ref.row,.bool n.ref.ac,.bool n.ref.ar] 187:=hL;rw[←el] at hL;have a7:Ah w6 w9:=aj.step a1 AdY;have b0:=a2.trans a7;replace hN:=hN.chg a1 AdY;replace hR:=hR.chg a1 AdY;replace hS:=hS.chg a1 AdY;have k6:¬n.kind=6:=AdV
    rw[if_neg k6] at ax;refine Sa ?_;refine LW.load_agg (cs:=[.slice rp s.rows.to.length rc,.int .i64 s.rows.new]) rfl hS rfl rfl rfl ⟨rfl,rfl,trivial⟩ rfl ?_;refine Sa ?_;have a8:=JM s.rows av.1 _ n.ref.row (BG n).row AdV AdV _ ⟨_,rfl,hr.ext a7⟩;rw[hP] at a8;refine Ar rfl rfl a8 ?_;rintro v bc ⟨rfl,a0⟩;replace hN:=hN.ext a0;replace hR:=hR.ext a0;replace hS:=hS.ext a0;replace hL:=hL.ext a0;have a3:=a7.trans a0;refine Sa ?_;refine LW.load_agg (cs:=[.slice cp s.cols.to.length cc,.int .i64 s.cols.new]) rfl hS rfl rfl rfl ⟨rfl,rfl,trivial⟩ rfl ?_;refine Sa ?_;have a9:=JM s.cols av.2 _ n.ref.col (BG n).col AdV AdV _ ⟨_,rfl,hc.ext a3⟩;rw[hQ] at a9;refine Ar rfl rfl a9 ?_;rintro v bd ⟨rfl,a6⟩;replace hN:=hN.ext a6;replace hR:=hR.ext a6;have a5:=a2.trans (a3.trans a6);have b1:=a5.size
    cases x3 with
    | false=>
     rw[if_pos (ae.2 (.inl rfl))];refine Sa ?_;refine AM λw9 a1 hR=>?_;replace hR:Blk w9 R (Dk ⟨Cj,.slice none 0 0⟩) 189:=hR;refine Sa ?_
     exact QW.body_c rfl rfl hR rfl rfl rfl ⟨⟨_,rfl,.inr ⟨rfl,rfl⟩⟩,a5.step a1 AdY⟩
    | true=>
    cases y3 with
    | false=>
     rw[if_pos (ae.2 (.inr (.inl rfl)))];refine Sa ?_;refine AM λw9 a1 hR=>?_;replace hR:Blk w9 R (Dk ⟨Cj,.slice none 0 0⟩) 189:=hR;refine Sa ?_
     exact QW.body_c rfl rfl hR rfl rfl rfl ⟨⟨_,rfl,.inr ⟨rfl,rfl⟩⟩,a5.step a1 AdY⟩
    | true=>
    refine Sa ?_;by_cases m1:998<x2
    ·rw[if_pos (ae.2 (.inr (.inr (.inl m1))))];refine LW.know (t:=80) (c:=true) rfl (decide_eq_true m1) ?_;refine Sa ?_;refine AM λw9 a1 hR=>?_;replace hR:Blk w9 R (Dk ⟨Cj,.slice none 0 0⟩) 189:=hR;refine Sa ?_;exact QW.body_c rfl rfl hR rfl rfl rfl ⟨⟨_,rfl,.inr ⟨rfl,rfl⟩⟩,a5.step a1 AdY⟩
    refine LW.know (t:=80) (c:=false) rfl (decide_eq_false m1) ?_;refine Sa ?_;refine AB (λm2=>?_) λm2=>?_
    ·have m2:701<y2:=by simpa using m2
     rw[if_pos (ae.2 (.inr (.inr (.inr m2))))];refine Sa ?_;refine AM λw9 a1 hR=>?_;replace hR:Blk w9 R (Dk ⟨Cj,.slice none 0 0⟩) 189:=hR;refine Sa ?_;exact QW.body_c rfl rfl hR rfl rfl rfl ⟨⟨_,rfl,.inr ⟨rfl,rfl⟩⟩,a5.step a1 AdY⟩
    have m2:¬701<y2:=by simpa using m2
    rw[if_neg (by rw[ae];simp;omega),ax];refine Sa ?_;refine D9 λbe aa hN=>?_;refine Sa ?_;refine D9 λbf ab hN=>?_;have a4:=(a5.step aa AdY).step ab AdY;replace hR:=(hR.chg aa AdY).chg ab AdY;refine Sa ?_;refine CW.no rfl (decide_eq_false k6) ?_;refine Sa ?_;refine AM λbg ak hR=>?_;refine Sa ?_;exact QW.body_c rfl rfl hR rfl rfl rfl ⟨⟨_,rfl,.inl ⟨rfl,rfl⟩⟩,a4.step ak AdY⟩
   ·have k6:n.kind=6:=AdV
    have el:BG n=n.to:=by rw[BG,if_neg k5]
    refine CW.no rfl (decide_eq_false k5) ?_;rw[←el] at hL;have a7:=aj;have b0:=an;rw[if_pos k6] at ax;refine Sa ?_;refine LW.load_agg (cs:=[.slice rp s.rows.to.length rc,.int .i64 s.rows.new]) rfl hS rfl rfl rfl ⟨rfl,rfl,trivial⟩ rfl ?_;refine Sa ?_;have a8:=JM s.rows av.1 _ n.ref.row (BG n).row AdV AdV _ ⟨_,rfl,hr.ext a7⟩;rw[hP] at a8;refine Ar rfl rfl a8 ?_;rintro v bc ⟨rfl,a0⟩;replace hN:=hN.ext a0;replace hR:=hR.ext a0;replace hS:=hS.ext a0;replace hL:=hL.ext a0;have a3:=a7.trans a0;refine Sa ?_;refine LW.load_agg (cs:=[.slice cp s.cols.to.length cc,.int .i64 s.cols.new]) rfl hS rfl rfl rfl ⟨rfl,rfl,trivial⟩ rfl ?_;refine Sa ?_;have a9:=JM s.cols av.2 _ n.ref.col (BG n).col AdV AdV _ ⟨_,rfl,hc.ext a3⟩;rw[hQ] at a9;refine Ar rfl rfl a9 ?_;rintro v bd ⟨rfl,a6⟩;replace hN:=hN.ext a6;replace hR:=hR.ext a6;have a5:=a2.trans (a3.trans a6);have b1:=a5.size
    cases x3 with
    | false=>
     rw[if_pos (ae.2 (.inl rfl))];refine Sa ?_;refine AM λw9 a1 hR=>?_;replace hR:Blk w9 R (Dk ⟨Cj,.slice none 0 0⟩) 189:=hR;refine Sa ?_
     exact QW.body_c rfl rfl hR rfl rfl rfl ⟨⟨_,rfl,.inr ⟨rfl,rfl⟩⟩,a5.step a1 AdY⟩
    | true=>
    cases y3 with
    | false=>
     rw[if_pos (ae.2 (.inr (.inl rfl)))];refine Sa ?_;refine AM λw9 a1 hR=>?_;replace hR:Blk w9 R (Dk ⟨Cj,.slice none 0 0⟩) 189:=hR;refine Sa ?_
     exact QW.body_c rfl rfl hR rfl rfl rfl ⟨⟨_,rfl,.inr ⟨rfl,rfl⟩⟩,a5.step a1 AdY⟩
    | true=>
    refine Sa ?_;by_cases m1:998<x2
    ·rw[if_pos (ae.2 (.inr (.inr (.inl m1))))];refine LW.know (t:=80) (c:=true) rfl (decide_eq_true m1) ?_;refine Sa ?_;refine AM λw9 a1 hR=>?_;replace hR:Blk w9 R (Dk ⟨Cj,.slice none 0 0⟩) 189:=hR;refine Sa ?_;exact QW.body_c rfl rfl hR rfl rfl rfl ⟨⟨_,rfl,.inr ⟨rfl,rfl⟩⟩,a5.step a1 AdY⟩
    refine LW.know (t:=80) (c:=false) rfl (decide_eq_false m1) ?_;refine Sa ?_;refine AB (λm2=>?_) λm2=>?_
    ·have m2:701<y2:=by simpa using m2
     rw[if_pos (ae.2 (.inr (.inr (.inr m2))))];refine Sa ?_;refine AM λw9 a1 hR=>?_;replace hR:Blk w9 R (Dk ⟨Cj,.slice none 0 0⟩) 189:=hR;refine Sa ?_;exact QW.body_c rfl rfl hR rfl rfl rfl ⟨⟨_,rfl,.inr ⟨rfl,rfl⟩⟩,a5.step a1 AdY⟩
    have m2:¬701<y2:=by simpa using m2
    rw[if_neg (by rw[ae];simp;omega),ax];refine Sa ?_;refine D9 λbe aa hN=>?_;refine Sa ?_;refine D9 λbf ab hN=>?_;have a4:=(a5.step aa AdY).step ab AdY;replace hR:=(hR.chg aa AdY).chg ab AdY;refine Sa ?_;refine CW.yes rfl (decide_eq_true k6) ?_;refine Sa ?_;refine D9 λbs ao hN=>?_;refine Sa ?_;refine D9 λbt ap hN=>?_;have a4:=(a4.step ao AdY).step ap AdY;replace hR:=(hR.chg ao AdY).chg ap AdY;refine Sa ?_;refine AM λbg ak hR=>?_;refine Sa ?_;exact QW.body_c rfl rfl hR rfl rfl rfl ⟨⟨_,rfl,.inl ⟨rfl,rfl⟩⟩,a4.step ak AdY⟩
theorem KM(new:Int):∀(l:List Int) (last z:Int),Bw new last (l++[z])=(Bw new last l&&(decide (z=-1)||decide (l.foldl (λa y=>if y=-1 then a else y) last<z∧z<new)))
 | [],last,z=>by
  show(if z=-1 then true else if z≤last∨new≤z then false else true)=(true&&(decide (z=-1)||decide (last<z∧z<new)));by_cases h:z=-1
  ·simp[h]
  ·by_cases h2:z≤last∨new≤z
   ·have h3:¬(last<z∧z<new):=AdV
    rw[if_neg h,if_pos h2];simp[h,h3]
   ·have h3:last<z∧z<new:=AdV
    rw[if_neg h,if_neg h2]
    simp[h3]
 | y::r,last,z=>by
  show(if y=-1 then Bw new last (r++[z]) else if y≤last∨new≤y then false else Bw new y (r++[z]))=((if y=-1 then Bw new last r else if y≤last∨new≤y then false else Bw new y r)&&(decide (z=-1)||decide (r.foldl (λa y=>if y=-1 then a else y) (if y=-1 then last else y)<z∧z<new)));by_cases h:y=-1
  ·simp only[if_pos h];exact KM new r last z
  ·simp only[if_neg h];by_cases h2:y≤last∨new≤y
   ·simp only[if_pos h2];rfl
   ·simp only[if_neg h2];exact KM new r y z
def L2(l:List Int):Int:=l.foldl (λa y=>if y=-1 then a else y) (-1)
theorem SU(l:List Int)(z:Int):L2 (l++[z])=if z=-1 then L2 l else z:=by simp[L2]
theorem OU{m:Bg}{k:Nat}(h:k<m.to.length):Bw m.new (-1) (m.to.take (k+1))=(Bw m.new (-1) (m.to.take k)&&(decide (m.to.getD k 0=-1)||decide (L2 (m.to.take k)<m.to.getD k 0∧m.to.getD k 0<m.new)))∧L2 (m.to.take (k+1))=if m.to.getD k 0=-1 then L2 (m.to.take k) else m.to.getD k 0:=by
 have e:m.to.take (k+1)=m.to.take k++[m.to.getD k 0]:=by
  rw[AbU,B7 h];simp[B7 h]
 rw[e,KM,SU];exact⟨rfl,rfl⟩
theorem Yn{new last:Int}:∀{l:List Int} (k:Nat),Bw new last (l.take k)=false→Bw new last l=false:=by
 intro l
 induction l generalizing last with
 | nil=>intro k h;simpa using h
 | cons y r ih=>
  intro k h
  match k with
  | 0=>simp[Bw] at h
  | k+1=>
   simp only[List.take_succ_cons,Bw] at h ⊢
   split
   ·rename_i hy;rw[if_pos hy] at h;exact ih k h
   ·rename_i hy;rw[if_neg hy] at h
    split
    ·rfl
    ·rename_i h2;rw[if_neg h2] at h;exact ih k h
def noP(s:List UInt8):Bool:=s.all (λc=>decide (c≠40)&&decide (c≠41))
def AaK(nd:Ag):Prop:=nd.text.length≤10∧nd.ref.sheet.length≤10∧nd.to.sheet.length≤10∧nd.num≤255∧nd.kids.length≤100∧noP nd.text=true∧(nd.ref.sheet=[]∨nd.ref.sheet=[84])
def NP(w0 w:World)(l:List Ag)(outv stv:Value):Prop:=∃nvs:List NV,E.Own w w0.heap.size 189 14 outv nvs.length (nvs.flatMap Dk)∧nvs.map NV.node=l∧∀x∈nvs,C8 w x.kv x.node.kids∧∀b∈Ac x.kv,b∉Ac stv
theorem C8.chg{S:List Nat}{w w':World}{kv stv:Value}{ks:List Int}(h:C8 w kv ks)(hn:∀b∈Ac kv,b∉Ac stv)(hc:Chg S w w')(h2:∀b∈S,b∈Ac stv∨∃l T,Blk w b l T∧T≠3):C8 w' kv ks:=by
 rcases h with h | ⟨b,cap,sp,e,hb⟩
 ·exact .inl h
 ·refine .inr ⟨b,cap,sp,e,hb.chg hc (λhm=>?_)⟩;rcases h2 b hm with h2 | ⟨l,T,h3,h4⟩
  ·exact hn b (by rw[e];simp[Ac]) h2
  ·exact h4 (h3.inj hb)
theorem NP.chg{S:List Nat}{w0 w w':World}{l:List Ag}{outv stv:Value}(h:NP w0 w l outv stv)(hc:Chg S w w')(h1:∀b∈Ac outv,b∉S)(h2:∀b∈S,b∈Ac stv∨∃l T,Blk w b l T∧T≠3):NP w0 w' l outv stv:=by
 obtain⟨nvs,ho,hm,hk⟩:=h;exact⟨nvs,ho.chg hc h1,hm,λx hx=>⟨(hk x hx).1.chg (hk x hx).2 hc h2,(hk x hx).2⟩⟩
theorem NP.ext{w0 w w':World}{l:List Ag}{outv stv:Value}(h:NP w0 w l outv stv)(hx:Ah w w'):NP w0 w' l outv stv:=h.chg hx Aei Aei
def SV(w0 w:World)(v:Value)(s:List Int):Prop:=E.Own w w0.heap.size 3 1 v s.length (Ae s)∨∃p,v=.slice p s.length s.length∧(p=none∧s.length=0∨∃a,p=some a∧∀j u,(Ae s)[j]?=some u→w.cell? (a.add j)=some u)
structure CI(w0 w:World)(l:List Ag)(outv:Value)(X:Nat)(nd:Ag)(kv:Value)(s2:List Int)(stv:Value):Prop where
 ext:Ah w0 w
 np:NP w0 w l outv stv
 blk:Blk w X (Dk ⟨nd,kv⟩) 189
 kids:C8 w kv nd.kids
 apart:∀b∈Ac kv,b∉Ac stv
 sv:SV w0 w stv s2
 go:B5 0 [] (l++[nd])=some (s2++[(l.length:Int)])
 fine:AaK nd
 le:s2.length≤l.length
theorem UX(zs:List Int)(v:Value)(w:World)(h:Be w v zs)(hl:zs.length≤100000):AN prog 172 [v] w (λv' w'=>(∃p c,v'=.slice p zs.length c)∧C8 w' v' zs∧(∀b∈Ac v',w.heap.size≤b)∧Ah w w'):=by
 refine Bq func172 ntmps172 ?_;obtain⟨_,⟨rfl,rfl⟩ | ⟨a,cap,rfl,hc⟩⟩:=h
 ·refine Sa ?_;refine LW.eql_sn rfl rfl rfl rfl ?_;refine Sa ?_;exact QW.body1 rfl rfl ⟨⟨_,_,rfl⟩,.inl ⟨rfl,rfl⟩,by simp[Ac],Chg.refl _ _⟩
 ·refine Sa ?_;refine LW.eql_sn rfl rfl rfl rfl ?_;refine Sa ?_
  (apply LW.buildSlice0;exact rfl;exact rfl;exact rfl;exact rfl;intro B w5 a5 a1 hB)
  refine Sa ?_;refine LW.append_any (lo:=w.heap.size) (xs:=[]) (news:=Ae zs) rfl rfl rfl rfl rfl rfl (⟨rfl,.inr ⟨B,0,[],rfl,hB,by simp,by simp,by omega⟩⟩) (by have:=a1.size;omega) (by rw[AE];show _=_*1;omega) (.inr ⟨a,rfl,λj u hj=>by
   simp only[Ae,AbH] at hj
   cases hg:zs[j]? with
   | none=>rw[hg] at hj;cases hj
   | some y=>
    rw[hg] at hj;obtain rfl:=Ab9 hj;exact AC a1 (hc j y hg)⟩) (λu hu=>by
   simp only[Ae,AbJ] at hu;obtain⟨_,_,rfl⟩:=hu;rfl) (by show(0+_)*9≤_;omega) rfl ?_
  intro v' w6 a3 a0 a2;obtain⟨p',c',rfl⟩:=a0.slice;have a4:Ah w w6:=a1.step a3 (by simp[Ac];omega);have hm:0+zs.length=zs.length:=AdV
  rw[hm] at a0 a2 ⊢;simp only[AbR] at a0;refine Sa ?_;refine QW.body1 rfl rfl ⟨⟨_,_,rfl⟩,Ru a0,λb hb=>?_,a4⟩;rcases a2 b hb with h2 | h2
  ·simp[Ac] at h2;omega
  ·have:=a1.size;omega
set_option maxHeartbeats 1000000 in
theorem UC(l:List Ag)(v:Value)(own:List UInt8)(ss:List Bl)(sv:Value)(w:World)(g:CT w)(hN:Da w v l)(hs:Po l)(h:Cz w sv ss)(hss:∀s∈ss,s.Fine):AN prog 126 [v,Av own,sv] w (λv' w'=>(Da w' v' (C4 DQ own ss l)∧∀b∈Ac v',w.heap.size≤b)∧Ah w w'):=by
 obtain⟨p,c,rfl⟩:=hN.slice;have az:=hN.1;refine Bq func126 ntmps126 ?_;refine Sa ?_;refine Ar rfl rfl (Qz l _ w g hN hs) ?_;rintro v w1 ⟨rfl,ap⟩;refine Sa ?_
 cases ht:Cw l with
 | false=>
  refine Sa ?_
  exact QW.body1 rfl rfl ⟨⟨by rw[C4,if_neg (by rw[ht];simp)];exact MY _,by simp[Ac]⟩,ap⟩
 | true=>
 have b0:=JF ht;have aq:=NE ht;obtain⟨q,qc,rfl⟩:=h.slice;refine Sa ?_;refine CW.loop (ι:=Nat×Option Addr×Nat) (λx w'=>x.1≤l.length∧Ah w w'∧NP w w' ((l.take x.1).map (Bv DQ own ss)) (.slice x.2.1 x.1 x.2.2) (.slice none 0 0)) (λx=>[(7,.func (.func 171) ⟨[.agg ⟨[Av own,.slice q ss.length qc]⟩]⟩ ⟨[]⟩),(8,.slice x.2.1 x.1 x.2.2),(18,.slice p l.length c),(19,.int .i64 l.length),(20,.int .i64 (x.1:Int))]) (λx=>l.length - x.1) (0,none,0) ⟨by simp,ap,⟨[],Own.nil _ _ _ _,rfl,by simp⟩⟩ EP ?_;rintro⟨k,op,oc⟩ w2 ⟨hk,ae,hP⟩;dsimp only at hk hP;show CW _ _ _ _ _ [(7,.func (.func 171) ⟨[.agg ⟨[Av own,.slice q ss.length qc]⟩]⟩ ⟨[]⟩),(8,.slice op k oc),(18,.slice p l.length c),(19,.int .i64 l.length),(20,.int .i64 (k:Int))] _;have b8:=ae.size;refine Sa ?_;refine AB (λh2=>?_) λh2=>?_;rotate_left
 ·have h2:k=l.length:=by simp at h2;omega
  subst h2;obtain⟨nvs,a0,hm,hk⟩:=hP;rw[Ack] at hm;have ar:nvs.length=l.length:=by rw[←List.length_map (f:=NV.node),hm,Abr]
  have b1:Od w2 w.heap.size (.slice op l.length oc) (l.map (Bv DQ own ss)):=⟨nvs,a0,hm,λx hx=>(hk x hx).1⟩;have b2:∀n∈l.map (Bv DQ own ss),n.kids.length≤100000:=λn hn=>by
   obtain⟨m,h1,rfl⟩:=AbJ.1 hn;have h3:=aq m h1;unfold Bv
   split
   ·omega
   ·split
    ·omega
    ·unfold DQ
     split
     ·simp[Cj]
     ·split
      ·simp[Cj]
      ·show m.kids.length≤_;omega
  refine Sa ?_;exact QW.body1 rfl rfl ⟨⟨by rw[C4,if_pos ht];exact b1.row (by rw[Abr];exact az) b2,λb hb=>(a0.lt hb).1⟩,ae⟩
 have h2:k<l.length:=by simp at h2;omega
 obtain⟨nd,ag⟩:∃nd,l[k]?=some nd:=⟨_,B7 h2⟩;have a7:=Ab7 ag;obtain⟨a,kp,kc,rfl,ah,a8⟩:=hN.at ag;have a1:∀j u,(Dk ⟨nd,.slice kp nd.kids.length kc⟩)[j]?=some u→w2.cell? ((a.add (((k:Nat):Int).toNat*14)).add j)=some u:=λj u hj=>by rw[show((k:Nat):Int).toNat=k by omega];exact AC ae (a8 j u hj)
 refine Sa ?_;refine Lo ?_;refine LW.load_cells rfl a1 rfl rfl rfl rfl ?_;refine Sa ?_;refine Bt λX w3 b9 au hX=>?_;have a9:∀b∈Ac (Value.slice op k oc),b<w2.heap.size:=λb hb=>by
  obtain⟨nvs,ho,_⟩:=hP;exact(ho.lt hb).2
 replace hP:=hP.ext au;have ai:=ae.trans au;have av:=hX;refine Sa ?_;refine AM λw4 aj hX=>?_;replace hX:Blk w4 X (Dk ⟨nd,.slice kp nd.kids.length kc⟩) 189:=hX;replace hP:=hP.chg aj (λb hb=>by have:=a9 b hb;simp;omega) (λb hb=>by
  simp only[B3] at hb;subst hb;exact .inr ⟨_,_,av,by decide⟩)
 have a2:Ah w w4:=ai.step aj AdY;refine Sa ?_;refine Ar rfl rfl (UX nd.kids _ w4 (ah.ext a2) (by have:=aq nd a7;omega)) ?_;rintro v w5 ⟨⟨kp',kc',rfl⟩,hK,ba,ak⟩;replace hP:=hP.ext ak;replace hX:=hX.ext ak;have al:=a2.trans ak;have bb:=a2.size;have am:=hX;refine Sa ?_;refine D9 λw6 af hX=>?_;replace hX:Blk w6 X (Dk ⟨nd,.slice kp' nd.kids.length kc'⟩) 189:=hX;replace hP:=hP.chg af (λb hb=>by have:=a9 b hb;simp;omega) (λb hb=>by
  simp only[B3] at hb;subst hb;exact .inr ⟨_,_,am,by decide⟩)
 replace hK:C8 w6 (.slice kp' nd.kids.length kc') nd.kids:=hK.chg (stv:=.slice none 0 0) AeR af (λb hb=>by
  simp only[B3] at hb;subst hb;exact .inr ⟨_,_,am,by decide⟩)
 have aa:Ah w w6:=al.step af AdY;refine Sa ?_;refine LW.call (fs:=[.agg ⟨[Av own,.slice q ss.length qc]⟩]) (cs:=[]) rfl rfl rfl (XL own ss _ nd kp' nd.kids.length kc' w6 (h.ext aa) hss (b0 nd a7)) ?_;rintro v w7 ⟨⟨kv,rfl,aw⟩,an⟩;replace hP:=hP.ext an;replace hK:C8 w7 (.slice kp' nd.kids.length kc') nd.kids:=hK.chg (stv:=.slice none 0 0) AeR an Aei;have ab:=aa.trans an;have ax:C8 w7 kv (Bv DQ own ss nd).kids:=by
  rcases aw with ⟨rfl,e⟩ | ⟨rfl,e⟩
  ·rw[e];exact hK
  ·exact .inl ⟨rfl,e⟩
 clear hK aw hX am av af aj;refine Sa ?_;refine CF λC b3 bc a3 hC=>?_;replace hC:Blk b3 C (Dk ⟨Bv DQ own ss nd,kv⟩) 189:=hC;have ac:=ab.trans a3;have b4:=ac.size;have b5:(Dk ⟨Bv DQ own ss nd,kv⟩).all (·.oneCell')=true:=by
  simp only[Dk,List.all_cons,List.all_nil,ax.one];rfl
 obtain⟨nvs,a0,hm,a4⟩:=hP;have ar:nvs.length=k:=by rw[←List.length_map (f:=NV.node),hm,Abr,Abf];omega
 subst ar;refine Sa ?_;refine LW.append rfl rfl rfl rfl rfl rfl (a0.ext a3) AdV hC rfl b5 rfl Ae9 rfl ?_;intro v2 ay ao a5 b6;have e1:(nvs.flatMap Dk++Dk ⟨Bv DQ own ss nd,kv⟩)=(nvs++[(⟨Bv DQ own ss nd,kv⟩:NV)]).flatMap Dk:=Aei
 have e2:nvs.length+1=(nvs++[(⟨Bv DQ own ss nd,kv⟩:NV)]).length:=Aei
 rw[e1] at a5;obtain⟨p4,c4,rfl⟩:=a5.slice;have a6:Chg (Ac (.slice op nvs.length oc)) w7 ay:=by
  have:=Chg.trans a3 ao
  simpa using this
 have bd:∀b∈Ac (Value.slice op nvs.length oc),∀L T,Blk w7 b L T→T=189:=λb hb L T hL=>Own.type a0 hb hL;have hS:∀b∈Ac (Value.slice op nvs.length oc),b∈Ac (Value.slice none 0 0)∨∃l T,Blk w7 b l T∧T≠3:=λb hb=>by
  obtain⟨_,⟨e,_⟩ | ⟨g,cap,sp,e,hg,_⟩⟩:=a0
  ·rw[e] at hb;simp[Ac] at hb
  ·rw[e] at hb;simp[Ac] at hb;subst hb;exact .inr ⟨_,_,hg,by decide⟩
 have ad:Ah w ay:=ab.step a6 (λb hb=>(a0.lt hb).1);have b7:l.take (nvs.length+1)=l.take nvs.length++[nd]:=by rw[AbU,ag];rfl
 refine Sa ?_;refine QW.again (nvs.length+1,p4,c4) ⟨by show nvs.length+1≤_;omega,ad,?_⟩ ?_ (by show l.length - (nvs.length+1)<l.length - nvs.length;omega)
 ·dsimp only;rw[b7];refine⟨nvs++[⟨Bv DQ own ss nd,kv⟩],by rw[←e2];exact a5,by simp[hm],λx hx=>?_⟩;rcases AaC.1 hx with hx | hx
  ·exact⟨(a4 x hx).1.chg (a4 x hx).2 a6 hS,(a4 x hx).2⟩
  ·simp at hx;subst hx;exact⟨ax.chg (stv:=.slice none 0 0) AeR a6 hS,by simp[Ac]⟩
 ·exact EP
theorem UD(l:List Ag)(v:Value)(own:List UInt8)(ss:List Bl)(sv:Value)(w:World)(g:CT w)(hN:Da w v l)(hs:Po l)(h:Cz w sv ss)(hss:∀s∈ss,s.Fine):AN prog 126 [v,Av own,sv] w (λv' w'=>Da w' v' (C4 DQ own ss l)∧Ah w w'):=
 (UC l v own ss sv w g hN hs h hss).mono λ_ _ ⟨⟨h1,_⟩,h2⟩=>⟨h1,h2⟩
theorem U7{t:Tr false}(hf:t.Fit)(hn:t.Num):t.text≠[]:=(t.head hf hn).1
theorem PP(l:List Ag):AY []≠.ok l:=λh=>by
 obtain⟨_,h1,_,t,hf,hn,_,h2⟩:=Ip h;rw[h2] at h1;exact U7 hf hn (AbF AeH)
theorem SZ{l:List Ag}(hsh:E0 l)(hno:JK l)(hl:l.length≤100000)(ht:l=[]∨Cw l=true) :
  (BX l=[]↔l=[])∧(BX l).length≤400000000∧(∀e,AY (BX l)=.error e→l=[]∨300<(BX l).length∨e=6)∧∀m,AY (BX l)=.ok m→l=m:=by
 rcases ht with rfl | ht
 ·have hp:BX []=[]:=OP rfl;rw[hp];exact⟨by simp,by simp,λ_ _=>.inl rfl,λm h=>absurd h (PP m)⟩
 ·obtain⟨t,rfl,hf⟩:=Kx ht;have hn:=hno t hf rfl;have a0:=t.flat_len 0;have a1:=t.len_le 0 hf hn (λn hm=>(hsh n hm).1);simp only[cond_false] at a1;have a2:t.flat 0≠[]:=λh=>by
   have:=t.cnt_pos;rw[h] at a0;simp at a0;omega
  rw[F8 hf,EW t hf hn];refine⟨⟨λh=>absurd h (U7 hf hn),λh=>absurd h a2⟩,by omega,λe h=>?_,λm h=>?_⟩
  ·split at h
   ·rename_i h3;exact .inr (.inl h3)
   ·split at h
    ·cases h
    ·simp only[Except.error.injEq] at h;exact .inr (.inr h.symm)
  ·split at h
   ·cases h
   ·split at h
    ·simpa using h
    ·cases h
theorem May.fine{s:Bl}(h:s.May):s.Fine:=⟨OD h.1,OD h.2⟩
theorem VE{own:List UInt8}{ss:List Bl}(hss:∀s∈ss,s.May){l:List Ag}(hsh:E0 l)(hno:JK l)(hl:l.length≤100000)(hk:∀n∈l,n.kids.length≤100000) :
  E0 (C4 DQ own ss l)∧JK (C4 DQ own ss l)∧(∀n∈C4 DQ own ss l,n.kids.length≤100000)∧(BX (C4 DQ own ss l)).length≤400000000:=by
 obtain⟨h1,h2,h3,h4⟩:=Ri (own:=own) hss hsh hno 100000 hk;have ht:C4 DQ own ss l=[]∨Cw (C4 DQ own ss l)=true:=by
  by_cases h:Cw l=true
  ·obtain⟨t,rfl,hf⟩:=Kx h;obtain⟨e,a0⟩:=Hq (own:=own) hss hf;rw[e];exact .inr (Tr.tree _ a0)
  ·exact .inl (by rw[C4,if_neg h])
 exact⟨h1,h2,h3,(SZ h1 h2 AdV ht).2.1⟩
theorem Ih{own:List UInt8}{ss:List Bl}{s:List UInt8}{l:List Ag}(h1:Ai s 0=61)(h2:s≠[])(h3:Cs s=true)(h4:AY (s.drop 1)=.ok l):CP own ss s=if 300<(BX (C4 DQ own ss l)).length+1 then Aa8 else 61::BX (C4 DQ own ss l):=by
 rw[CP,if_pos ⟨h2,h1,h3⟩,h4];rfl
theorem EF{own:List UInt8}{ss:List Bl}{s:List UInt8}(h:s=[]∨Ai s 0≠61∨Cs s=false):CP own ss s=s:=by
 rw[CP,if_neg];rintro⟨h1,h2,h3⟩;rcases h with h | h | h
 ·exact h1 h
 ·exact h h2
 ·rw[h] at h3;cases h3
theorem Tc(s own:List UInt8)(ss:List Bl)(sv:Value)(hs:s.length≤9223372036854775807)(w:World)(g:CT w)(h:Cz w sv ss)(hss:∀s∈ss,s.May):AN prog 81 [Av s,Av own,sv] w (λv w'=>v=Av (CP own ss s)∧Ah w w'):=by
 refine Bq func81 ntmps81 ?_;refine Sa ?_;refine Ar rfl rfl (Qq s hs w g) ?_;rintro v w1 ⟨hv,hx⟩;rcases hv with ⟨l,nv,rfl,h1,h2,h3,h4,hN⟩ | ⟨rfl,a2⟩
 ·obtain⟨_,f1,f2,f3,f4⟩:=EX h4;have a3:PIs (s.drop 1) l 0:=.inl ⟨h4,rfl⟩;obtain⟨m1,m2,m3,m4⟩:=VE (own:=own) hss f2 a3.num AdV (λn hn=>by have:=f4 n hn;omega);refine Sa ?_;refine Ar rfl rfl (UD l nv own ss sv w1 (g.ext hx) hN f2.t (h.ext hx) (λs hs=>May.fine (hss s hs))) ?_;rintro v w2 ⟨a4,a5⟩;have a0:=hx.trans a5;refine Sa ?_;refine Ar rfl rfl (Of _ v w2 (g.ext a0) a4 m1 m2) ?_;rintro v w3 ⟨rfl,a6⟩;have a1:=a0.trans a6;rw[Ih h1 h2 h3 h4];refine Sa ?_;refine AB (λq1=>?_) λq1=>?_
  ·have q1:300<(BX (C4 DQ own ss l)).length+1:=by simp at q1;omega
   rw[if_pos q1];refine Sa ?_;exact QW.body1 rfl rfl ⟨rfl,a1⟩
  ·have q1:¬300<(BX (C4 DQ own ss l)).length+1:=by simp at q1;omega
   rw[if_neg q1];refine Sa ?_;exact QW.body1 rfl rfl ⟨rfl,a1⟩
 ·rw[EF a2];refine Sa ?_;exact QW.body1 rfl rfl ⟨rfl,hx⟩
def DU(k:Nat)(f:Nat→Int):List Int:=(List.range k).map f
theorem BC(k:Nat)(f:Nat→Int):(DU k f).length=k:=by simp[DU]
theorem H2{k:Nat}{f:Nat→Int}{j:Nat}(h:j<k):(DU k f).getD j 0=f j:=by
 simp[DU,h]
theorem R8(k:Nat)(f:Nat→Int):DU (k+1) f=DU k f++[f k]:=by simp[DU,Ace]
def BU(k:Nat):Bg:=⟨DU k λi=>i,k⟩
theorem Nv(new:Int):∀(l:List Int) (last:Int),(∀j,j<l.length→l.getD j 0=-1∨(last<l.getD j 0∧l.getD j 0<new∧∀i,i<j→l.getD i 0<l.getD j 0))→Bw new last l=true
 | [],_,_=>rfl
 | z::r,last,h=>by
  rw[Bw];have h0:=h 0 Aei;simp only[AcS] at h0;by_cases hz:z=-1
  ·rw[if_pos hz];refine Nv new r last λj hj=>?_;have:=h (j+1) AeG;simp only[AcE] at this;rcases this with h1 | ⟨h1,h2,h3⟩
   ·exact .inl h1
   ·exact .inr ⟨h1,h2,λi hi=>by have:=h3 (i+1) AdV;simpa using this⟩
  ·rw[if_neg hz,if_neg (by rcases h0 with h0 | ⟨h1,h2,_⟩<;>omega)];refine Nv new r z λj hj=>?_;have:=h (j+1) AeG;simp only[AcE] at this;rcases this with h1 | ⟨h1,h2,h3⟩
   ·exact .inl h1
   ·refine .inr ⟨?_,h2,λi hi=>by have:=h3 (i+1) AdV;simpa using this⟩;have:=h3 0 AdV
    simpa using this
theorem Mc{m:Bg}(h0:0≤m.new)(h1:m.new≤1048576)(h2:m.to.length≤1048576)(h:∀j,j<m.to.length→m.to.getD j 0=-1∨(0≤m.to.getD j 0∧m.to.getD j 0<m.new∧∀i,i<j→m.to.getD i 0<m.to.getD j 0)):Er m=true:=by
 rw[Er,decide_eq_true h0,decide_eq_true h1,decide_eq_true h2,Nv]
 ·rfl
 ·intro j hj;rcases h j hj with h | ⟨a,b,c⟩
  ·exact .inl h
  ·exact .inr ⟨by omega,b,c⟩
theorem N4{k:Nat}(h:k≤1000000):Er (BU k)=true:=by
 refine Mc (by simp[BU]) (by simp only[BU];omega) (by simp only[BU,BC];omega) λj hj=>?_;simp only[BU,BC] at hj ⊢;rw[H2 hj];exact .inr ⟨by omega,by omega,λi hi=>by rw[H2 AdV];omega⟩
theorem Own.ints{w:World}{lo:Nat}{v:Value}{zs:List Int}{n:Nat}(h:E.Own w lo 3 1 v n (Ae zs))(hn:zs.length=n)(hb:zs.length≤100000000):Be w v zs:=by
 refine⟨by omega,?_⟩;by_cases h0:n=0
 ·have hz:zs=[]:=AbF AdV;subst hz;obtain⟨_,⟨e,e2⟩ | ⟨g,cap,sp,e,hg,_⟩⟩:=h
  ·exact .inl ⟨e,rfl⟩
  ·exact .inr ⟨_,cap,by rw[e,h0];rfl,λi z hz=>by simp at hz⟩
 ·obtain⟨g,cap,sp,rfl,hB,_⟩:=h.get AdV;refine .inr ⟨_,cap,by rw[hn],λi z hz=>hB.getElem _ _ ?_⟩;have hi:i<zs.length:=(Abu.1 hz).1;rw[AbA (by rw[AE];exact hi)];exact Js hz
def Aaj(w0 w:World)(v:Value)(m:Bg):Prop:=∃tv,v=.agg ⟨[tv,.int .i64 m.new]⟩∧E.Own w w0.heap.size 3 1 tv m.to.length (Ae m.to)
theorem RN{k:Nat}{i:Nat}:Bj (BU k) (i:Int)=i:=by
 by_cases h:i<k
 ·rw[Hk (by simp only[BU,BC];exact h)];simp only[BU];rw[H2 h]
 ·rw[JY (by simp only[BU,BC];omega)];simp only[BU,BC];omega
theorem Yy{k:Nat}:∀j,j<(BU k).to.length→0≤(BU k).to.getD j 0:=λj hj=>by
 simp only[BU,BC] at hj ⊢;rw[H2 hj];omega
theorem IZ{k:Nat}(hk:k≤1000000){lo hi:Int}(h0:0≤lo)(h:lo≤hi):B2 (BU k) lo hi=(lo,hi,true):=by
 obtain⟨a,rfl⟩:=Acx h0;obtain⟨b,rfl⟩:=Acx (show 0≤hi by omega);obtain⟨h1,_,_,h4⟩:=BR (N4 hk);rw[Wv h4 h1 Yy AdV,RN,RN]
theorem Xx{s:Bl}{a b:Nat}(ha:a≤1000000)(hb:b≤1000000)(hr:s.rows=BU a)(hc:s.cols=BU b)(hg:s.gone=false){n:Ag}(hp:AH n=true)(hk:n.kind=5∨n.kind=6):DQ s n=n:=by
 have a0:B2 s.rows n.ref.row (BG n).row=(n.ref.row,(BG n).row,true):=by
  rw[hr];rcases hk with hk | hk
  ·obtain⟨h1,_⟩:=GN hp hk;obtain⟨b1,b2,b3,b4,_⟩:=Cg h1;rw[BG,if_pos hk];exact IZ ha b3 (Adi _)
  ·obtain⟨h1,_,h3,_⟩:=Fa hp hk;obtain⟨b1,b2,b3,b4,_⟩:=Cg h1;obtain⟨q1,q2,q3⟩:=Fz h3;rw[BG,if_neg AdV];exact IZ ha b3 q3
 have a1:B2 s.cols n.ref.col (BG n).col=(n.ref.col,(BG n).col,true):=by
  rw[hc];rcases hk with hk | hk
  ·obtain⟨h1,_⟩:=GN hp hk;obtain⟨b1,b2,b3,b4,_⟩:=Cg h1;rw[BG,if_pos hk];exact IZ hb b1 (Adi _)
  ·obtain⟨h1,_,h3,_⟩:=Fa hp hk;obtain⟨b1,b2,b3,b4,_⟩:=Cg h1;obtain⟨q1,q2,q3⟩:=Fz h3;rw[BG,if_neg AdV];exact IZ hb b1 q2
 obtain⟨_,_,s3,s4⟩:n.ref.row≤998∧n.ref.col≤701∧(BG n).row≤998∧(BG n).col≤701:=Nz hp hk;have a2:¬Dm s n:=by
  unfold Dm;rw[a0,a1];simp;omega
 rw[DQ,if_neg (by rw[hg];simp),if_neg a2];unfold Kz;rw[a0,a1];simp only;by_cases h6:n.kind=6
 ·rw[if_pos h6];have hl:BG n=n.to:=by rw[BG,if_neg AdV]
  rw[hl]
 ·rw[if_neg h6]
def Aai(ss:List Bl)(l:List Ag)(own:List UInt8):Prop:=∀n∈l,n.kind=5∨n.kind=6→∀s,En ss (Tt own n)=some s→DQ s n=n
theorem Vr{ss:List Bl}{l:List Ag}{own:List UInt8}(h:Aai ss l own)(ht:Cw l=true):C4 DQ own ss l=l:=by
 rw[C4,if_pos ht]
 conv=>rhs;rw[←List.map_id l]
 refine Acq λn hn=>?_;show Bv DQ own ss n=n;by_cases hk:n.kind=5∨n.kind=6
 ·rw[AaU hk]
  cases hf:En ss (Tt own n) with
  | none=>rfl
  | some s=>exact h n hn hk s hf
 ·exact ZZ AdV AdV
theorem SF{t:List UInt8}{l:List Ag}(hb:Ai t 0=61)(h0:t≠[])(hm:Cs t=true)(hp:AY (t.drop 1)=.ok l):61::BX l=t∧t.length≤300:=by
 unfold Cs at hm
 split at hm
 ·cases hm
 rename_i hl;rw[if_neg (by rintro(h | h);exact h0 h;omega)] at hm;rw[hp] at hm;simp only[decide_eq_true_eq] at hm;refine⟨?_,by omega⟩;rw[hm]
 cases t with
 | nil=>exact absurd rfl h0
 | cons c r=>
  have:Ai (c::r) 0=(c.toNat:Int):=rfl;rw[this] at hb;have hc:c=61:=by
   apply AdP.1;simp;omega
  rw[hc];rfl
theorem Rh{own:List UInt8}{ss:List Bl}{t:List UInt8}(hm:Cs t=true)(h:∀l,AY (t.drop 1)=.ok l→Aai ss l own):CP own ss t=t:=by
 by_cases hb:t≠[]∧Ai t 0=61
 ·cases hp:AY (t.drop 1) with
  | error e=>
   rw[CP,if_pos ⟨hb.1,hb.2,hm⟩,hp]
  | ok l=>
   obtain⟨_,ht,_⟩:=EX hp;obtain⟨h1,h2⟩:=SF hb.2 hb.1 hm hp;rw[Ih hb.2 hb.1 hm hp,Vr (h l hp) ht];have:t.length=(BX l).length+1:=by rw[←h1];rfl
   rw[if_neg AdV,h1]
 ·exact EF (by
   by_cases h0:t=[]
   ·exact .inl h0
   ·exact .inr (.inl (λh1=>hb ⟨h0,h1⟩)))
theorem Xe:Cs Aa8=true:=PJ (t:=.leaf Cj) Aev
theorem MS{own:List UInt8}{ss:List Bl}{s:List UInt8}(hss:∀x∈ss,x.May)(h:Cs s=true):Cs (CP own ss s)=true:=by
 unfold CP
 split
 ·cases hp:AY (s.drop 1) with
  | error e=>exact h
  | ok l=>
   simp only
   split
   ·exact Xe
   ·rename_i a0;obtain⟨a1,a5,a6,t,hf,hn,rfl,a4⟩:=Ip hp;have a2:t.need≤12:=by
     rw[a4,EW t hf hn] at a1
     split at a1
     ·cases a1
     ·split at a1
      ·assumption
      ·cases a1
    obtain⟨e,a3⟩:=Hq (own:=own) hss hf;rw[e,F8 a3] at a0 ⊢;exact RU a3 (Hu (IL hss) t hf hn) (by simp at a0;omega) (by rw[Ht];exact a2)
 ·exact h
end Go.Proofs.YtcjjcnecopnpcaaGreatDoor
