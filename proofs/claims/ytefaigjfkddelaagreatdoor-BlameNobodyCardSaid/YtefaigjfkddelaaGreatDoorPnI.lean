/-
  Joined by program out of the texts MapI MapS MovP MovT MovM Mov1 Mov2 Mov4 Mov5 Made Mov3 Mov6 MadeF Mov7 MovK MovS.
-/
import Derived.Test.YtefaigjfkddelaaGreatDoorPnD
import Derived.Test.YtefaigjfkddelaaGreatDoorPnE
import Derived.Test.YtefaigjfkddelaaGreatDoorPnC
import Derived.Test.YtefaigjfkddelaaGreatDoorPnG
import Derived.Test.YtefaigjfkddelaaGreatDoorPnH
import Derived.Test.YtefaigjfkddelaaGreatDoorPnF
import Derived.Test.YtefaigjfkddelaaGreatDoorPnB
namespace Go.Proofs.YtefaigjfkddelaaGreatDoor
open Tryz
open Go Go.E
structure C7 where
 to:List Int
 new:Int
def TD(w:World)(vs:List Value)(m:C7):Prop:=∃tv,vs=[tv,.int .i64 m.new]∧Bs w tv m.to
theorem TD.ext{w w':World}{vs:List Value}{m:C7}(h:TD w vs m)(x:Ae w w'):TD w' vs m:=by
 obtain⟨tv,e,h⟩:=h;exact⟨tv,e,h.ext x⟩
def AG(m:C7)(i:Int):Int:=if i<0 then -1 else if i<m.to.length then m.to.getD i.toNat 0 else i - m.to.length+m.new
def C7.Fine(m:C7):Prop:=m.to.length≤1000000000∧-1000000000≤m.new∧m.new≤1000000000
theorem FK(m:C7)(hm:m.Fine)(vs:List Value)(i:Int)(hi:i≤1000000000000)(w:World)(h:TD w vs m):AF prog 47 [.agg ⟨vs⟩,.int .i64 i] w (λv w'=>v=.int .i64 (AG m i)∧Ae w w'):=by
 obtain⟨tv,rfl,ht⟩:=h;obtain⟨p,c,rfl⟩:=ht.slice;obtain⟨m1,m2,m3⟩:=hm;refine AQ func47 ntmps47 ?_;refine Sa ?_;refine Dq λA w1 a0 hx hA=>?_;replace hA:Blk w1 A [.slice p m.to.length c,.int .i64 m.new] 71:=hA;replace ht:=ht.ext hx;refine Sa ?_;refine Av (λh1=>?_) λh1=>?_
 ·have h1:i<0:=by simpa using h1
  refine Sa ?_;exact QW.body1 rfl rfl ⟨by rw[AG,if_pos h1],hx⟩
 have h1:¬i<0:=by simpa using h1
 refine Sa ?_;refine Av (λh2=>?_) λh2=>?_
 ·have h2:i<m.to.length:=by simpa using h2
  obtain⟨a,rfl,hc⟩:=ht.at (i:=i.toNat) Aez;rw[show i.toNat=i.toNat*1 by omega] at hc;refine Sa ?_;refine Lo ?_;refine Lp hc ?_;refine Sa ?_;exact QW.body1 rfl rfl ⟨by rw[AG,if_neg h1,if_pos h2,AcX],hx⟩
 have h2:¬i<m.to.length:=by simpa using h2
 refine Sa ?_;exact QW.body1 rfl rfl ⟨by rw[AG,if_neg h1,if_neg h2],hx⟩
theorem Fa(m:C7)(hm:m.Fine)(vs:List Value)(i:Int)(hi:i≤1000000000000)(w:World)(h:TD w vs m):AF prog 145 [.agg ⟨vs⟩,.int .i64 i] w (λv w'=>v=.int .i64 (AG m i)∧Ae w w'):=by
 obtain⟨tv,rfl,ht⟩:=h;obtain⟨p,c,rfl⟩:=ht.slice;obtain⟨m1,m2,m3⟩:=hm;refine AQ func145 ntmps145 ?_;refine Sa ?_;refine Dq λA w1 a0 hx hA=>?_;replace hA:Blk w1 A [.slice p m.to.length c,.int .i64 m.new] 71:=hA;replace ht:=ht.ext hx;refine Sa ?_;refine Av (λh1=>?_) λh1=>?_
 ·have h1:i<0:=by simpa using h1
  refine Sa ?_;exact QW.body1 rfl rfl ⟨by rw[AG,if_pos h1],hx⟩
 have h1:¬i<0:=by simpa using h1
 refine Sa ?_;refine Av (λh2=>?_) λh2=>?_
 ·have h2:i<m.to.length:=by simpa using h2
  obtain⟨a,rfl,hc⟩:=ht.at (i:=i.toNat) Aez;rw[show i.toNat=i.toNat*1 by omega] at hc;refine Sa ?_;refine Lo ?_;refine Lp hc ?_;refine Sa ?_;exact QW.body1 rfl rfl ⟨by rw[AG,if_neg h1,if_pos h2,AcX],hx⟩
 have h2:¬i<m.to.length:=by simpa using h2
 refine Sa ?_;exact QW.body1 rfl rfl ⟨by rw[AG,if_neg h1,if_neg h2],hx⟩
def DU(a b:Int):Int:=if a<b then b else a
def Gw(a:Int):List Int→Int
 | []=>a
 | z::r=>Gw (if 0≤z∧a<0 then z else a) r
def LC(b:Int):List Int→Int
 | []=>b
 | z::r=>LC (DU b z) r
theorem FO(a:Int)(l:List Int)(z:Int):Gw a (l++[z])=if 0≤z∧Gw a l<0 then z else Gw a l:=by
 induction l generalizing a with
 | nil=>rfl
 | cons y r ih=>exact ih _
theorem Jd(b:Int)(l:List Int)(z:Int):LC b (l++[z])=DU (LC b l) z:=by
 induction l generalizing b with
 | nil=>rfl
 | cons y r ih=>exact ih _
def DO(m:C7)(lo k:Nat):List Int:=(m.to.take k).drop lo
def Bj(m:C7)(lo hi:Int):Int×Int×Bool:=
 if lo<0∨hi<lo then(0,0,false) else
  let k:=(min (hi+1) (DU lo m.to.length)).toNat
  let a0:=Gw (-1) (DO m lo.toNat k)
  let b:=if m.to.length≤hi then AG m hi else LC (-1) (DO m lo.toNat k)
  let a:=if m.to.length≤hi∧a0<0 then AG m (DU lo m.to.length) else a0
  if a<0 then(0,0,false) else(a,b,true)
theorem Gq{m:C7}{lo k:Nat}(h0:lo≤k)(h:k<m.to.length):DO m lo (k+1)=DO m lo k++[m.to.getD k 0]:=by
 unfold DO;rw[Aco,Aak h,AdU Ae0];simp[Aak h]
theorem MW(m:C7)(lo:Nat):DO m lo lo=[]:=by
 unfold DO;simp
set_option maxHeartbeats 1000000 in
theorem Ke(m:C7)(hm:m.Fine)(vs:List Value)(lo hi:Int)(hlo:lo≤1000000000)(hhi:hi≤1000000000)(w:World)(h:TD w vs m):AF prog 141 [.agg ⟨vs⟩,.int .i64 lo,.int .i64 hi] w (λv w'=>v=.tuple #[.int .i64 (Bj m lo hi).1,.int .i64 (Bj m lo hi).2.1,.bool (Bj m lo hi).2.2]∧Ae w w'):=by
 have hR:=h;obtain⟨tv,rfl,ht⟩:=h;obtain⟨p,c,rfl⟩:=ht.slice;have a9:=hm;obtain⟨m1,m2,m3⟩:=hm;refine AQ func141 ntmps141 ?_;refine Sa ?_;refine Dq λA w1 ad ab hA=>?_;replace hA:Blk w1 A [.slice p m.to.length c,.int .i64 m.new] 71:=hA;refine Sa ?_;by_cases a1:lo<0
 ·refine LW.know (t:=12) (c:=true) rfl (decide_eq_true a1) ?_;refine Sa ?_;exact QW.body3 rfl rfl rfl rfl ⟨by rw[Bj,if_pos (.inl a1)],ab⟩
 refine LW.know (t:=12) (c:=false) rfl (decide_eq_false a1) ?_;refine Sa ?_;refine Av (λa2=>?_) λa2=>?_
 ·have a2:hi<lo:=by simpa using a2
  refine Sa ?_;exact QW.body3 rfl rfl rfl rfl ⟨by rw[Bj,if_pos (.inr a2)],ab⟩
 have a2:¬hi<lo:=by simpa using a2
 obtain⟨L,rfl⟩:=AcI (show 0≤lo by omega);refine Sa ?_;refine CW.loop (ι:=Nat) (λk w'=>L≤k∧(k:Int)≤hi+1∧(k≤m.to.length∨k=L)∧Ae w w'∧Ae w1 w') (λk=>[(1,.int .i64 (L:Int)),(2,.int .i64 hi),(3,.pointer (some ⟨A,0,none⟩)),(6,.int .i64 (Gw (-1) (DO m L k))),(7,.int .i64 (LC (-1) (DO m L k))),(9,.int .i64 (k:Int))]) (λk=>(hi+1 - k).toNat) L ⟨by omega,by omega,.inr rfl,ab,Chg.refl _ _⟩ (by rw[MW];exact(Ai.cons rfl (Ai.cons rfl (Ai.cons rfl (Ai.cons rfl (Ai.cons rfl (Ai.cons rfl (Ai.nil)))))))) ?_;rintro k w2 ⟨k0,k1,k2,a3,a6⟩;replace hA:=hA.ext a6;replace ht:=ht.ext a3;replace hR:=hR.ext a3;have hK:Bj m (L:Int) hi=(if (if (m.to.length:Int)≤hi∧Gw (-1) (DO m L (min (hi+1) (DU L m.to.length)).toNat)<0 then AG m (DU L m.to.length) else Gw (-1) (DO m L (min (hi+1) (DU L m.to.length)).toNat))<0 then(0,0,false) else((if (m.to.length:Int)≤hi∧Gw (-1) (DO m L (min (hi+1) (DU L m.to.length)).toNat)<0 then AG m (DU L m.to.length) else Gw (-1) (DO m L (min (hi+1) (DU L m.to.length)).toNat)),(if (m.to.length:Int)≤hi then AG m hi else LC (-1) (DO m L (min (hi+1) (DU L m.to.length)).toNat)),true)):=by
  rw[Bj,if_neg Aez];rfl
 have aa:DU (L:Int) m.to.length=if (L:Int)<m.to.length then(m.to.length:Int) else L:=rfl;refine Sa ?_;by_cases b1:(k:Int)≤hi;rotate_left
 ·refine LW.know (t:=21) (c:=false) rfl (decide_eq_false b1) ?_;have hk:(min (hi+1) (DU (L:Int) m.to.length)).toNat=k:=by rw[aa];split<;>omega
  rw[hk] at hK;rw[hK];clear hK hk;generalize Gw (-1) (DO m L k)=a0;generalize LC (-1) (DO m L k)=b0;refine Sa ?_;refine Av (λd1=>?_) λd1=>?_
  ·have d1:(m.to.length:Int)≤hi:=by simpa using d1
   simp only[d1,true_and,if_true];refine Sa ?_;refine Ax rfl rfl (FK m a9 _ hi Aez w2 hR) ?_;rintro v w3 ⟨rfl,a7⟩;replace hA:=hA.ext a7;replace hR:=hR.ext a7;have a4:=a3.trans a7;refine Sa ?_;refine Av (λd2=>?_) λd2=>?_
   ·have d2:a0<0:=by simpa using d2
    simp only[d2,if_true];have hz:(if (L:Int)<m.to.length then(m.to.length:Int) else L)=DU L m.to.length:=rfl;refine Sa ?_;refine LW.max2 rfl rfl rfl ?_;rw[hz];refine Ax rfl rfl (FK m a9 _ (DU L m.to.length) (by rw[aa];split<;>omega) w3 hR) ?_;rintro v w4 ⟨rfl,ac⟩;have a5:=a4.trans ac;refine Sa ?_;refine Av (λd3=>?_) λd3=>?_
    ·have d3:AG m (DU L m.to.length)<0:=by simpa using d3
     refine Sa ?_;exact QW.body3 rfl rfl rfl rfl ⟨by rw[if_pos d3],a5⟩
    ·have d3:¬AG m (DU L m.to.length)<0:=by simpa using d3
     refine Sa ?_;exact QW.body3 rfl rfl rfl rfl ⟨by rw[if_neg d3],a5⟩
   ·have d2:¬a0<0:=by simpa using d2
    simp only[d2,if_false];refine Sa ?_;refine CW.no rfl (decide_eq_false d2) ?_;refine Sa ?_;exact QW.body3 rfl rfl rfl rfl ⟨rfl,a4⟩
  ·have d1:¬(m.to.length:Int)≤hi:=by simpa using d1
   simp only[d1,false_and,if_false];refine Sa ?_;refine Av (λd2=>?_) λd2=>?_
   ·have d2:a0<0:=by simpa using d2
    refine Sa ?_;exact QW.body3 rfl rfl rfl rfl ⟨by rw[if_pos d2],a3⟩
   ·have d2:¬a0<0:=by simpa using d2
    refine Sa ?_;exact QW.body3 rfl rfl rfl rfl ⟨by rw[if_neg d2],a3⟩
 refine LW.know (t:=21) (c:=true) rfl (decide_eq_true b1) ?_;refine Sa ?_;refine Av (λb2=>?_) λb2=>?_;rotate_left
 ·have b2:¬(k:Int)<m.to.length:=by simpa using b2
  have hk:(min (hi+1) (DU (L:Int) m.to.length)).toNat=k:=by rw[aa];split<;>omega
  rw[hk] at hK;rw[hK];clear hK hk;generalize Gw (-1) (DO m L k)=a0;generalize LC (-1) (DO m L k)=b0;refine Sa ?_;refine Av (λd1=>?_) λd1=>?_
  ·have d1:(m.to.length:Int)≤hi:=by simpa using d1
   simp only[d1,true_and,if_true];refine Sa ?_;refine Ax rfl rfl (FK m a9 _ hi Aez w2 hR) ?_;rintro v w3 ⟨rfl,a7⟩;replace hA:=hA.ext a7;replace hR:=hR.ext a7;have a4:=a3.trans a7;refine Sa ?_;refine Av (λd2=>?_) λd2=>?_
   ·have d2:a0<0:=by simpa using d2
    simp only[d2,if_true];have hz:(if (L:Int)<m.to.length then(m.to.length:Int) else L)=DU L m.to.length:=rfl;refine Sa ?_;refine LW.max2 rfl rfl rfl ?_;rw[hz];refine Ax rfl rfl (FK m a9 _ (DU L m.to.length) (by rw[aa];split<;>omega) w3 hR) ?_;rintro v w4 ⟨rfl,ac⟩;have a5:=a4.trans ac;refine Sa ?_;refine Av (λd3=>?_) λd3=>?_
    ·have d3:AG m (DU L m.to.length)<0:=by simpa using d3
     refine Sa ?_;exact QW.body3 rfl rfl rfl rfl ⟨by rw[if_pos d3],a5⟩
    ·have d3:¬AG m (DU L m.to.length)<0:=by simpa using d3
     refine Sa ?_;exact QW.body3 rfl rfl rfl rfl ⟨by rw[if_neg d3],a5⟩
   ·have d2:¬a0<0:=by simpa using d2
    simp only[d2,if_false];refine Sa ?_;refine CW.no rfl (decide_eq_false d2) ?_;refine Sa ?_;exact QW.body3 rfl rfl rfl rfl ⟨rfl,a4⟩
  ·have d1:¬(m.to.length:Int)≤hi:=by simpa using d1
   simp only[d1,false_and,if_false];refine Sa ?_;refine Av (λd2=>?_) λd2=>?_
   ·have d2:a0<0:=by simpa using d2
    refine Sa ?_;exact QW.body3 rfl rfl rfl rfl ⟨by rw[if_pos d2],a3⟩
   ·have d2:¬a0<0:=by simpa using d2
    refine Sa ?_;exact QW.body3 rfl rfl rfl rfl ⟨by rw[if_neg d2],a3⟩
 have b2:k<m.to.length:=by simp at b2;omega
 obtain⟨a,rfl,hc⟩:=ht.at b2;rw[show m.to.getD k 0=m.to.getD k 0 from rfl] at hc;have hs:=Gq k0 b2;generalize m.to.getD k 0=z at hc hs;have a8:w2.cell? (a.add (((k:Nat):Int).toNat*1))=some (.int .i64 z):=by
  rw[show((k:Nat):Int).toNat*1=k by omega];exact hc
 refine Sa ?_;refine Lo ?_;refine Lp a8 ?_;refine Sa ?_;have e2:LC (-1) (DO m L (k+1))=if LC (-1) (DO m L k)<z then z else LC (-1) (DO m L k):=by rw[hs,Jd];rfl
 by_cases b3:0≤z
 ·refine LW.know (t:=36) (c:=true) rfl (decide_eq_true b3) ?_;refine Sa ?_;refine Av (λb4=>?_) λb4=>?_
  ·have b4:Gw (-1) (DO m L k)<0:=by simpa using b4
   have e1:Gw (-1) (DO m L (k+1))=z:=by rw[hs,FO,if_pos ⟨b3,b4⟩]
   refine Sa ?_;refine Lo ?_;refine Lp a8 ?_;refine Sa ?_;refine Lo ?_;refine Lp a8 ?_;refine LW.max2 rfl rfl rfl ?_;rw[←e2];refine Sa ?_;refine QW.again (k+1) ⟨by omega,by omega,.inl b2,a3,a6⟩ AeJ Aez
  ·have b4:¬Gw (-1) (DO m L k)<0:=by simpa using b4
   have e1:Gw (-1) (DO m L (k+1))=Gw (-1) (DO m L k):=by rw[hs,FO,if_neg (λh=>b4 h.2)]
   refine Sa ?_;refine Lo ?_;refine Lp a8 ?_;refine LW.max2 rfl rfl rfl ?_;rw[←e2];refine Sa ?_;refine QW.again (k+1) ⟨by omega,by omega,.inl b2,a3,a6⟩ AeJ Aez
 ·refine LW.know (t:=36) (c:=false) rfl (decide_eq_false b3) ?_;have e1:Gw (-1) (DO m L (k+1))=Gw (-1) (DO m L k):=by rw[hs,FO,if_neg (λh=>b3 h.1)]
  refine Sa ?_;refine Lo ?_;refine Lp a8 ?_;refine LW.max2 rfl rfl rfl ?_;rw[←e2];refine Sa ?_;refine QW.again (k+1) ⟨by omega,by omega,.inl b2,a3,a6⟩ AeJ Aez
def CP(new:Int):Int→List Int→Bool
 | _,[]=>true
 | last,z::r=>if z=-1 then CP new last r else if z≤last∨new≤z then false else CP new z r
def Ij(m:C7):Bool:=decide (0≤m.new)&&decide (m.new≤1048576)&&decide (m.to.length≤1048576)&&CP m.new (-1) m.to
def ON(m:C7):Prop:=∀j,j<m.to.length→m.to.getD j 0=-1∨(0≤m.to.getD j 0∧m.to.getD j 0<m.new∧∀i,i<j→m.to.getD i 0<m.to.getD j 0)
theorem JW(new:Int):∀(l:List Int) (last:Int),-1≤last→CP new last l=true→∀j,j<l.length→l.getD j 0=-1∨(last<l.getD j 0∧l.getD j 0<new∧∀i,i<j→l.getD i 0<l.getD j 0)
 | [],_,_,_,j,hj=>by simp at hj
 | z::r,last,hl,h,j,hj=>by
  rw[CP] at h;by_cases hz:z=-1
  ·rw[if_pos hz] at h
   match j,hj with
   | 0,_=>exact .inl hz
   | j+1,hj=>
    have ih:=JW new r last hl h j AeT;simp only[Adp];rcases ih with ih | ⟨h1,h2,h3⟩
    ·exact .inl ih
    ·refine .inr ⟨h1,h2,λi hi=>?_⟩
     match i,hi with
     | 0,_=>simp only[Ad0];omega
     | i+1,hi=>simp only[Adp];exact h3 i Aez
  ·rw[if_neg hz] at h;by_cases hy:z≤last∨new≤z
   ·rw[if_pos hy] at h;cases h
   ·rw[if_neg hy] at h
    match j,hj with
    | 0,_=>exact .inr ⟨by simp only[Ad0];omega,by simp only[Ad0];omega,λi hi=>by omega⟩
    | j+1,hj=>
     have ih:=JW new r z Aez h j AeT;simp only[Adp];rcases ih with ih | ⟨h1,h2,h3⟩
     ·exact .inl ih
     ·refine .inr ⟨by omega,h2,λi hi=>?_⟩
      match i,hi with
      | 0,_=>simp only[Ad0];omega
      | i+1,hi=>simp only[Adp];exact h3 i Aez
theorem El{m:C7}(h:Ij m=true):0≤m.new∧m.new≤1048576∧m.to.length≤1048576∧ON m:=by
 simp only[Ij,Abf,decide_eq_true_eq] at h;obtain⟨⟨⟨h1,h2⟩,h3⟩,h4⟩:=h;refine⟨h1,h2,h3,λj hj=>?_⟩;rcases JW _ _ _ Aez h4 j hj with h | ⟨a,b,c⟩
 ·exact .inl h
 ·exact .inr ⟨by omega,b,c⟩
theorem Hq{m:C7}(h:Ij m=true):m.Fine:=by
 obtain⟨h1,h2,h3,_⟩:=El h;exact⟨by omega,by omega,by omega⟩
theorem MK{m:C7}{lo:Nat}:∀n,lo+n≤m.to.length→(∀j,lo≤j→j<lo+n→m.to.getD j 0<0)→Gw (-1) (DO m lo (lo+n))=-1
 | 0,_,_=>by rw[Adb,MW];rfl
 | n+1,h,hj=>by
  rw[←Nat.add_assoc,Gq Aez Aez,FO,MK n Aez (λj h1 h2=>hj j h1 Aez)];have:=hj (lo+n) Aez Aez;rw[if_neg Aez]
theorem Uf{m:C7}{lo a:Nat}(ha:lo≤a)(hd:∀j,lo≤j→j<a→m.to.getD j 0<0)(hz:0≤m.to.getD a 0):∀n,a+1+n≤m.to.length→Gw (-1) (DO m lo (a+1+n))=m.to.getD a 0
 | 0,h=>by
  have e:=MK (m:=m) (lo:=lo) (a - lo) Aez (λj h1 h2=>hd j h1 Aez);rw[show lo+(a - lo)=a by omega] at e
  rw[Adb,Gq ha Aez,FO,e,if_pos ⟨hz,by omega⟩]
 | n+1,h=>by
  rw[←Nat.add_assoc,Gq Aez Aez,FO,Uf ha hd hz n Aez,if_neg Aez]
theorem Y1{m:C7}{lo:Nat}{x:Int}(hx:-1<x):∀n,lo+n≤m.to.length→(∀j,lo≤j→j<lo+n→m.to.getD j 0<x)→LC (-1) (DO m lo (lo+n))<x
 | 0,_,_=>by rw[Adb,MW];exact hx
 | n+1,h,hj=>by
  have ih:=Y1 hx n Aez (λj h1 h2=>hj j h1 Aez);have:=hj (lo+n) Aez Aez;rw[←Nat.add_assoc,Gq Aez Aez,Jd,DU]
  split<;>omega
theorem Y0{m:C7}(hr:ON m){lo b:Nat}(hb:lo≤b)(hz:0≤m.to.getD b 0):∀n,b+1+n≤m.to.length→(∀j,b<j→j<b+1+n→m.to.getD j 0<0)→LC (-1) (DO m lo (b+1+n))=m.to.getD b 0
 | 0,h,_=>by
  have e:=Y1 (m:=m) (lo:=lo) (x:=m.to.getD b 0) Aez (b - lo) Aez (λj h1 h2=>by
   rcases hr b Aez with h3 | ⟨_,_,h3⟩
   ·omega
   ·exact h3 j Aez)
  rw[show lo+(b - lo)=b by omega] at e
  rw[Adb,Gq hb Aez,Jd,DU,if_pos e]
 | n+1,h,hj=>by
  have:=hj (b+1+n) Aez Aez;rw[←Nat.add_assoc,Gq Aez Aez,Jd,Y0 hr hb hz n Aez (λj h1 h2=>hj j h1 Aez),DU,if_neg Aez]
theorem HH{m:C7}{a:Nat}(h:a<m.to.length):AG m (a:Int)=m.to.getD a 0:=by
 rw[AG,if_neg Aez,if_pos Aez];rfl
theorem Kw{m:C7}{a:Nat}(h:m.to.length≤a):AG m (a:Int)=a - m.to.length+m.new:=by
 rw[AG,if_neg Aez,if_neg Aez]
theorem Gs{m:C7}(hr:ON m)(hn:0≤m.new){lo hi a b:Nat}(hlo:lo≤a)(hab:a≤b)(hb:b≤hi)(ha0:∀j,lo≤j→j<a→j<m.to.length∧m.to.getD j 0<0)(ha1:a<m.to.length→0≤m.to.getD a 0)
  (hb0:∀j,b<j→j≤hi→j<m.to.length∧m.to.getD j 0<0) (hb1:b<m.to.length→0≤m.to.getD b 0):Bj m lo hi=(AG m a,AG m b,true):=by
 rw[Bj,if_neg Aez];have a0:DU (lo:Int) m.to.length=if (lo:Int)<m.to.length then(m.to.length:Int) else lo:=rfl;by_cases h1:(m.to.length:Int)≤hi
 ·have a1:b=hi:=by
   rcases Ac0 b hi with h | h
   ·have:=(hb0 hi h (Ab9 _)).1;omega
   ·omega
  subst a1;simp only[h1,true_and,if_true];by_cases h2:a<m.to.length
  ·have hk:(min ((b:Int)+1) (DU lo m.to.length)).toNat=a+1+(m.to.length - a - 1):=by rw[a0];split<;>omega
   have e:=Uf hlo (λj h3 h4=>(ha0 j h3 h4).2) (ha1 h2) (m.to.length - a - 1) Aez;have:=ha1 h2;rw[hk,show((lo:Nat):Int).toNat=lo by omega,e,if_neg Aez,if_neg Aez,HH h2]
  ·have e:Gw (-1) (DO m lo (min ((b:Int)+1) (DU lo m.to.length)).toNat)=-1:=by
    rw[a0]
    split
    ·rename_i h3;have e:=MK (m:=m) (lo:=lo) (m.to.length - lo) Aez (λj h4 h5=>(ha0 j h4 Aez).2);rw[show(min ((b:Int)+1) (m.to.length:Int)).toNat=lo+(m.to.length - lo) by omega];exact e
    ·rw[show(min ((b:Int)+1) (lo:Int)).toNat=lo by omega,MW];rfl
   have ea:DU (lo:Int) m.to.length=a:=by
    rw[a0]
    split
    ·rename_i h3;have:¬m.to.length<a:=λh4=>by have:=(ha0 (m.to.length) Aez h4).1;omega
     omega
    ·have:¬lo<a:=λh4=>by have:=(ha0 lo Aez h4).1;omega
     omega
   rw[show((lo:Nat):Int).toNat=lo by omega,e,if_pos (show(-1:Int)<0 by omega),ea,Kw Aez,if_neg Aez]
 ·simp only[h1,false_and,if_false];have hk:(min ((hi:Int)+1) (DU lo m.to.length)).toNat=a+1+(hi - a):=by rw[a0];split<;>omega
  have a2:a+1+(hi - a)=b+1+(hi - b):=Aez
  have e:=Uf hlo (λj h3 h4=>(ha0 j h3 h4).2) (ha1 Aez) (hi - a) Aez;have e2:=Y0 hr (show lo≤b by omega) (hb1 Aez) (hi - b) Aez (λj h3 h4=>(hb0 j h3 Aez).2);have:=ha1 Aez;rw[hk,show((lo:Nat):Int).toNat=lo by omega,e,a2,e2,if_neg Aez,HH Aez,HH Aez]
theorem LS{m:C7}{lo hi:Nat}(h:∀j,lo≤j→j≤hi→j<m.to.length∧m.to.getD j 0<0)(hl:lo≤hi):Bj m lo hi=(0,0,false):=by
 have hh:=(h hi hl (Ab9 _)).1;have a0:DU (lo:Int) m.to.length=if (lo:Int)<m.to.length then(m.to.length:Int) else lo:=rfl;rw[Bj,if_neg Aez];have h1:¬(m.to.length:Int)≤hi:=Aez
 simp only[h1,false_and,if_false];have hk:(min ((hi:Int)+1) (DU lo m.to.length)).toNat=lo+(hi+1 - lo):=by rw[a0];split<;>omega
 have e:=MK (m:=m) (lo:=lo) (hi+1 - lo) Aez (λj h4 h5=>(h j h4 Aez).2);rw[hk,show((lo:Nat):Int).toNat=lo by omega,e,if_pos Aez]
theorem R4(P:Nat→Prop)[DecidablePred P](lo:Nat):∀n,(∀j,lo≤j→j<lo+n→¬P j)∨∃a,lo≤a∧a<lo+n∧P a∧∀j,lo≤j→j<a→¬P j
 | 0=>.inl λj h1 h2=>by omega
 | n+1=>by
  rcases R4 P lo n with h | ⟨a,h1,h2,h3,h4⟩
  ·by_cases hp:P (lo+n)
   ·exact .inr ⟨lo+n,by omega,by omega,hp,λj h1 h2=>h j h1 Aez⟩
   ·refine .inl λj h1 h2=>?_;rcases Ac0 j (lo+n) with h3 | h3
    ·exact h j h1 h3
    ·obtain rfl:j=lo+n:=by omega
     exact hp
  ·exact .inr ⟨a,h1,by omega,h3,h4⟩
theorem Vr(P:Nat→Prop)[DecidablePred P](lo:Nat):∀n,(∀j,lo≤j→j<lo+n→¬P j)∨∃b,lo≤b∧b<lo+n∧P b∧∀j,b<j→j<lo+n→¬P j
 | 0=>.inl λj h1 h2=>by omega
 | n+1=>by
  by_cases hp:P (lo+n)
  ·exact .inr ⟨lo+n,by omega,by omega,hp,λj h1 h2=>by omega⟩
  ·rcases Vr P lo n with h | ⟨b,h1,h2,h3,h4⟩
   ·refine .inl λj h1 h2=>?_;rcases Ac0 j (lo+n) with h3 | h3
    ·exact h j h1 h3
    ·obtain rfl:j=lo+n:=by omega
     exact hp
   ·refine .inr ⟨b,h1,by omega,h3,λj h5 h6=>?_⟩;rcases Ac0 j (lo+n) with h7 | h7
    ·exact h4 j h5 h7
    ·obtain rfl:j=lo+n:=by omega
     exact hp
theorem Yj{m:C7}(hr:ON m){a b:Nat}(h:a<b)(hb:b<m.to.length→0≤m.to.getD b 0)(ha:a<m.to.length→0≤m.to.getD a 0):AG m (a:Int)<AG m (b:Int):=by
 by_cases h1:b<m.to.length
 ·rw[HH h1,HH Aez];rcases hr b h1 with h2 | ⟨_,_,h2⟩
  ·have:=hb h1;omega
  ·exact h2 a h
 ·rw[Kw (show m.to.length≤b by omega)];by_cases h2:a<m.to.length
  ·rw[HH h2];rcases hr a h2 with h3 | ⟨_,h3,_⟩
   ·have:=ha h2;omega
   ·omega
  ·rw[Kw (show m.to.length≤a by omega)];omega
theorem AaL{m:C7}(hr:ON m){a b:Nat}(h:a≤b)(hb:b<m.to.length→0≤m.to.getD b 0)(ha:a<m.to.length→0≤m.to.getD a 0):AG m (a:Int)≤AG m (b:Int):=by
 rcases Ac0 a b with h1 | h1
 ·have:=Yj hr h1 hb ha;omega
 ·obtain rfl:a=b:=by omega
  omega
theorem Yi{m:C7}(hn:0≤m.new){a:Nat}(ha:a<m.to.length→0≤m.to.getD a 0):0≤AG m (a:Int):=by
 by_cases h1:a<m.to.length
 ·rw[HH h1];exact ha h1
 ·rw[Kw Aez];omega
theorem UQ{m:C7}(hr:ON m)(hn:0≤m.new){lo hi:Nat}(h:lo≤hi):Bj m lo hi=(0,0,false)∨∃a b:Nat,lo≤a∧a≤b∧b≤hi∧Bj m lo hi=(AG m a,AG m b,true)∧0≤AG m a∧AG m a≤AG m b:=by
 have hP:∀j,¬(m.to.length≤j∨0≤m.to.getD j 0)↔(j<m.to.length∧m.to.getD j 0<0):=λj=>by omega
 rcases R4 (λj=>m.to.length≤j∨0≤m.to.getD j 0) lo (hi+1 - lo) with h1 | ⟨a,h1,h2,h3,h4⟩
 ·exact .inl (LS (λj h2 h3=>(hP j).1 (h1 j h2 Aez)) h)
 ·rcases Vr (λj=>m.to.length≤j∨0≤m.to.getD j 0) lo (hi+1 - lo) with k1 | ⟨b,k1,k2,k3,k4⟩
  ·exact absurd h3 (k1 a h1 h2)
  ·have a0:a≤b:=by
    rcases Ac0 b a with h5 | h5
    ·exact absurd k3 (h4 b k1 h5)
    ·exact h5
   have a1:a<m.to.length→0≤m.to.getD a 0:=λh5=>by omega
   have a2:b<m.to.length→0≤m.to.getD b 0:=λh5=>by omega
   exact .inr ⟨a,b,h1,a0,by omega,Gs hr hn h1 a0 Aez (λj h5 h6=>(hP j).1 (h4 j h5 h6)) a1 (λj h5 h6=>(hP j).1 (k4 j h5 Aez)) a2,Yi hn a1,AaL hr a0 a2 a1⟩
theorem YX{m:C7}(hr:ON m)(hn:0≤m.new)(i:Nat):Bj m i i=if AG m i<0 then(0,0,false) else(AG m i,AG m i,true):=by
 by_cases h:i<m.to.length∧m.to.getD i 0<0
 ·rw[LS (λj h1 h2=>(show j=i by omega) ▸ h) (Ab9 _),HH h.1,if_pos h.2]
 ·have h1:i<m.to.length→0≤m.to.getD i 0:=λh2=>by omega
  have:=Yi hn h1;rw[Gs hr hn (Ab9 _) (Ab9 _) (Ab9 _) (λj h2 h3=>by omega) h1 (λj h2 h3=>by omega) h1,if_neg Aez]
theorem Xs{m:C7}(hr:ON m)(hn:0≤m.new)(ha:∀j,j<m.to.length→0≤m.to.getD j 0){lo hi:Nat}(h:lo≤hi):Bj m lo hi=(AG m lo,AG m hi,true):=
 Gs hr hn (Ab9 _) h (Ab9 _) (λj h2 h3=>by omega) (ha lo) (λj h2 h3=>by omega) (ha hi)
structure BP where
 sheet:List UInt8
 rows:C7
 cols:C7
 gone:Bool
def BP.May(s:BP):Prop:=Ij s.rows=true∧Ij s.cols=true
def BP.Fine(s:BP):Prop:=s.rows.Fine∧s.cols.Fine
def BB:Ah:={kind:=4}
def M9(own:List UInt8)(n:Ah):List UInt8:=if n.ref.sheet=[] then own else n.ref.sheet
def Hj(ss:List BP)(x:List UInt8):Option BP:=ss.find? (λs=>decide (s.sheet=x))
def BH(n:Ah):C3:=if n.kind=5 then n.ref else n.to
def Dt(s:BP)(n:Ah):Prop:=(Bj s.rows n.ref.row (BH n).row).2.2=false∨(Bj s.cols n.ref.col (BH n).col).2.2=false∨998<(Bj s.rows n.ref.row (BH n).row).2.1∨701<(Bj s.cols n.ref.col (BH n).col).2.1
instance (s : BP)(n : Ah) : Decidable (Dt s n) := by unfold Dt; infer_instance
def KX(s:BP)(n:Ah):Ah:=
 {n with ref:={n.ref with row:=(Bj s.rows n.ref.row (BH n).row).1,col:=(Bj s.cols n.ref.col (BH n).col).1},to:=if n.kind=6 then {n.to with row:=(Bj s.rows n.ref.row (BH n).row).2.1,col:=(Bj s.cols n.ref.col (BH n).col).2.1} else n.to}
def DZ(s:BP)(n:Ah):Ah:=if s.gone=true then BB else if Dt s n then BB else KX s n
def Ih(s:BP)(n:Ah):Ah:=
 if s.gone=true then BB
 else if n.kind=5 then(if AY {n.ref with row:=AG s.rows n.ref.row,col:=AG s.cols n.ref.col}=true then {n with ref:={n.ref with row:=AG s.rows n.ref.row,col:=AG s.cols n.ref.col}} else BB)
 else if (Bj s.rows n.ref.row n.to.row).2.2=true∧(Bj s.cols n.ref.col n.to.col).2.2=true∧AY {n.ref with row:=(Bj s.rows n.ref.row n.to.row).1,col:=(Bj s.cols n.ref.col n.to.col).1}=true∧AY {n.to with row:=(Bj s.rows n.ref.row n.to.row).2.1,col:=(Bj s.cols n.ref.col n.to.col).2.1}=true then
  {n with ref:={n.ref with row:=(Bj s.rows n.ref.row n.to.row).1,col:=(Bj s.cols n.ref.col n.to.col).1},to:={n.to with row:=(Bj s.rows n.ref.row n.to.row).2.1,col:=(Bj s.cols n.ref.col n.to.col).2.1}}
 else BB
def AK(go:BP→Ah→Ah)(own:List UInt8)(ss:List BP)(n:Ah):Ah:=
 if n.kind≠5∧n.kind≠6 then n else match Hj ss (M9 own n) with
  | none=>n
  | some s=>go s n
def BK(go:BP→Ah→Ah)(own:List UInt8)(ss:List BP)(l:List Ah):List Ah:=if BV l=true then l.map (AK go own ss) else[]
theorem Cv{x:C3}(h:AY x=true):0≤x.col∧x.col≤701∧0≤x.row∧x.row≤998∧∀r c,0≤r→r≤998→0≤c→c≤701→AY {x with row:=r,col:=c}=true:=by
 simp only[AY,Abf,decide_eq_true_eq] at h ⊢;obtain⟨⟨⟨⟨h0,h1⟩,h2⟩,h3⟩,h4⟩:=h;exact⟨h1,h2,h3,h4,λr c h5 h6 h7 h8=>⟨⟨⟨⟨h0,h7⟩,h8⟩,h5⟩,h6⟩⟩
theorem NQ{x:C3}(h:AY x=true)(r c:Int):AY {x with row:=r,col:=c}=true↔0≤r∧r≤998∧0≤c∧c≤701:=by
 obtain⟨_,_,_,_,h5⟩:=Cv h;refine⟨λhh=>?_,λ⟨h1,h2,h3,h4⟩=>h5 r c h1 h2 h3 h4⟩;obtain⟨a,b,c,d,_⟩:=Cv hh;exact⟨c,d,a,b⟩
theorem FU{n:Ah}(h:Ar n=true)(hk:n.kind=5):AY n.ref=true∧n.num=0∧n.text=[]∧n.to=A6:=by
 simp only[Ar,FE,AC,hk] at h;simp at h;exact⟨h.1,h.2.1,h.2.2.1,h.2.2.2⟩
theorem Ep{n:Ah}(h:Ar n=true)(hk:n.kind=6):AY n.ref=true∧AY n.to=true∧Bw n.ref n.to=true∧n.num=0∧n.text=[]:=by
 simp only[Ar,FE,AC,hk] at h;simp at h;exact⟨h.1.1,h.1.2.1,h.1.2.2,h.2.1,h.2.2⟩
theorem FF{a b:C3}(h:Bw a b=true):b.sheet=[]∧a.col≤b.col∧a.row≤b.row:=by
 simp only[Bw,Abf,decide_eq_true_eq] at h;exact⟨h.1.1,h.1.2,h.2⟩
theorem KU{m:C7}(hr:ON m)(hn:0≤m.new){lo hi:Int}(h0:0≤lo)(h:lo≤hi):Bj m lo hi=(0,0,false)∨∃a b:Nat,lo≤a∧a≤b∧b≤hi∧Bj m lo hi=(AG m a,AG m b,true)∧0≤AG m a∧AG m a≤AG m b:=by
 obtain⟨a,rfl⟩:=AcI h0;obtain⟨b,rfl⟩:=AcI (show 0≤hi by omega);rcases UQ hr hn (lo:=a) (hi:=b) Aez with h1 | ⟨x,y,h1,h2,h3,h4⟩
 ·exact .inl h1
 ·exact .inr ⟨x,y,by omega,h2,by omega,h4⟩
theorem KV{m:C7}(hr:ON m)(hn:0≤m.new){i:Int}(h:0≤i):Bj m i i=if AG m i<0 then(0,0,false) else(AG m i,AG m i,true):=by
 obtain⟨a,rfl⟩:=AcI h;exact YX hr hn a
theorem Vm{s:BP}(hm:s.May){n:Ah}(hp:Ar n=true)(hk:n.kind=5∨n.kind=6):DZ s n=Ih s n:=by
 obtain⟨r1,_,_,r4⟩:=El hm.1;obtain⟨c1,_,_,c4⟩:=El hm.2;unfold DZ Ih;by_cases hg:s.gone=true
 ·rw[if_pos hg,if_pos hg]
 rw[if_neg hg,if_neg hg];rcases hk with hk | hk
 ·obtain⟨h1,h2,h3,h4⟩:=FU hp hk;obtain⟨b1,b2,b3,b4,_⟩:=Cv h1;have a0:=NQ h1 (AG s.rows n.ref.row) (AG s.cols n.ref.col);have hl:BH n=n.ref:=by rw[BH,if_pos hk]
  have er:=KV r4 r1 b3;have ec:=KV c4 c1 b1;rw[if_pos hk];by_cases x1:AG s.rows n.ref.row<0
  ·have hg:Dt s n:=by unfold Dt;rw[hl,er,if_pos x1];exact .inl rfl
   rw[if_pos hg,if_neg Af8]
  by_cases x2:AG s.cols n.ref.col<0
  ·have hg:Dt s n:=by unfold Dt;rw[hl,ec,if_pos x2];exact .inr (.inl rfl)
   rw[if_pos hg,if_neg Af8]
  have hw:KX s n={n with ref:={n.ref with row:=AG s.rows n.ref.row,col:=AG s.cols n.ref.col}}:=by
   unfold KX;rw[hl,er,ec,if_neg x1,if_neg x2,if_neg (show ¬n.kind=6 by omega)]
  by_cases x3:998<AG s.rows n.ref.row∨701<AG s.cols n.ref.col
  ·have hg:Dt s n:=by unfold Dt;rw[hl,er,ec,if_neg x1,if_neg x2];exact .inr (.inr x3)
   rw[if_pos hg,if_neg Af8]
  ·have hg:¬Dt s n:=by unfold Dt;rw[hl,er,ec,if_neg x1,if_neg x2];simpa using x3
   rw[if_neg hg,hw,if_pos Af8]
 ·obtain⟨h1,h2,h3,h4,h5⟩:=Ep hp hk;obtain⟨b1,b2,b3,b4,_⟩:=Cv h1;obtain⟨q1,q2,q3⟩:=FF h3;have hl:BH n=n.to:=by rw[BH,if_neg Aez]
  rw[if_neg (show ¬n.kind=5 by omega)];rcases KU r4 r1 b3 q3 with er | ⟨x,y,_,_,_,er,er1,er2⟩
  ·have hg:Dt s n:=by unfold Dt;rw[hl,er];exact .inl rfl
   rw[if_pos hg,er,if_neg (λh=>by cases h.1)]
  rcases KU c4 c1 b1 q2 with ec | ⟨u,v,_,_,_,ec,ec1,ec2⟩
  ·have hg:Dt s n:=by unfold Dt;rw[hl,ec];exact .inr (.inl rfl)
   rw[if_pos hg,ec,if_neg (λh=>by cases h.2.1)]
  have i1:=NQ h1 (AG s.rows x) (AG s.cols u);have i2:=NQ h2 (AG s.rows y) (AG s.cols v);have hw:KX s n={n with ref:={n.ref with row:=AG s.rows x,col:=AG s.cols u},to:={n.to with row:=AG s.rows y,col:=AG s.cols v}}:=by
   unfold KX;rw[hl,er,ec,if_pos hk]
  by_cases x3:998<AG s.rows y∨701<AG s.cols v
  ·have hg:Dt s n:=by unfold Dt;rw[hl,er,ec];exact .inr (.inr x3)
   rw[if_pos hg,er,ec,if_neg (λh=>by have:=i2.1 h.2.2.2;omega)]
  ·have hg:¬Dt s n:=by unfold Dt;rw[hl,er,ec];simpa using x3
   rw[if_neg hg,hw,er,ec,if_pos ⟨rfl,rfl,i1.2 Aez,i2.2 Aez⟩]
theorem Hk{ss:List BP}{x:List UInt8}{s:BP}(h:Hj ss x=some s):s∈ss∧s.sheet=x:=by
 unfold Hj at h;have h1:=Aes h;exact⟨AdG h,by simpa using h1⟩
theorem Yf{s:BP}(hm:s.May){n:Ah}(hp:Ar n=true)(hk:n.kind=5∨n.kind=6):Ar (DZ s n)=true∧1≤(DZ s n).kind∧(DZ s n).kind≤6∧(DZ s n).num=0∧(DZ s n).text=[]∧(DZ s n).ref.sheet.length≤n.ref.sheet.length∧(DZ s n).to.sheet.length≤n.to.sheet.length∧((DZ s n).kids=n.kids∨DZ s n=BB):=by
 have hd:Ar BB=true∧1≤BB.kind∧BB.kind≤6∧BB.num=0∧BB.text=[]∧BB.ref.sheet.length≤n.ref.sheet.length∧BB.to.sheet.length≤n.to.sheet.length∧(BB.kids=n.kids∨BB=BB):=⟨rfl,by decide,by decide,rfl,rfl,by simp[BB,A6],by simp[BB,A6],.inr rfl⟩;obtain⟨r1,_,_,r4⟩:=El hm.1;obtain⟨c1,_,_,c4⟩:=El hm.2;rw[Vm hm hp hk];unfold Ih
 split
 ·exact hd
 split
 ·rename_i a0;obtain⟨h1,h2,h3,h4⟩:=FU hp a0
  split
  ·rename_i hb;refine⟨?_,by show 1≤n.kind;omega,by show n.kind≤6;omega,h2,h3,Ab9 _,Ab9 _,.inl rfl⟩;simp only[Ar,FE,AC,a0,hb,h2,h3,h4];simp
  ·exact hd
 ·rename_i a0;have a1:n.kind=6:=Aez
  obtain⟨h1,h2,h3,h4,h5⟩:=Ep hp a1;obtain⟨q1,q2,q3⟩:=FF h3;obtain⟨b1,b2,b3,b4,_⟩:=Cv h1
  split
  ·rename_i hb;obtain⟨e1,e2,e3,e4⟩:=hb;refine⟨?_,by show 1≤n.kind;omega,by show n.kind≤6;omega,h4,h5,Ab9 _,Ab9 _,.inl rfl⟩;rcases KU r4 r1 b3 q3 with er | ⟨x,y,_,_,_,er,er1,er2⟩
   ·rw[er] at e1;cases e1
   rcases KU c4 c1 b1 q2 with ec | ⟨u,v,_,_,_,ec,ec1,ec2⟩
   ·rw[ec] at e2;cases e2
   rw[er,ec] at e3 e4 ⊢;have a2:Bw {n.ref with row:=AG s.rows x,col:=AG s.cols u} {n.to with row:=AG s.rows y,col:=AG s.cols v}=true:=by
    simp only[Bw,Abf,decide_eq_true_eq];exact⟨⟨q1,ec2⟩,er2⟩
   simp only[Ar,FE,AC,a1,e3,e4,a2,h4,h5];simp
  ·exact hd
def Tr.mv(f:Ah→Ah):{b:Bool}→Tr b→Tr b
 | _,.leaf n=>.leaf (f n)
 | _,.neg a=>.neg (a.mv f)
 | _,.two k a b=>.two k (a.mv f) (b.mv f)
 | _,.call x ks=>.call x (ks.mv f)
 | _,.nil=>.nil
 | _,.snoc ks a=>.snoc (ks.mv f) (a.mv f)
structure UY(f:Ah→Ah):Prop where
 inner:∀n:Ah,7≤n.kind→f n=n
 leaf:∀n:Ah,1≤n.kind→n.kind≤6→n.kids=[]→Ar n=true→1≤(f n).kind∧(f n).kind≤6∧(f n).kids=[]∧Ar (f n)=true∧(f n=n∨(f n).num=0)
theorem Yu{n:Ah}{k:As}(h:k∈C9 n):k.num=n.num∨k.num=0:=by
 unfold C9 at h
 repeat' split at h
 all_goals simp only[Acf,Acn,or_false] at h
 all_goals first | (subst h;first | exact .inl rfl | exact .inr rfl) | (rcases h with rfl | rfl | rfl<;>exact .inr rfl)
theorem GR(f:Ah→Ah):∀{b:Bool} (t:Tr b),(t.mv f).cnt=t.cnt
 | _,.leaf _=>rfl
 | _,.neg a=>by simp only[Tr.mv,Tr.cnt,GR f a]
 | _,.two _ a b=>by simp only[Tr.mv,Tr.cnt,GR f a,GR f b]
 | _,.call _ ks=>by simp only[Tr.mv,Tr.cnt,GR f ks]
 | _,.nil=>rfl
 | _,.snoc ks a=>by simp only[Tr.mv,Tr.cnt,GR f ks,GR f a]
theorem V0(f:Ah→Ah)(o:Nat):∀{b:Bool} (t:Tr b),(t.mv f).kids o=t.kids o
 | _,.leaf _=>rfl
 | _,.neg _=>rfl
 | _,.two _ _ _=>rfl
 | _,.call _ _=>rfl
 | _,.nil=>rfl
 | _,.snoc ks a=>by simp only[Tr.mv,Tr.kids,V0 f o ks,GR]
theorem HL{f:Ah→Ah}(h:UY f):∀{b:Bool} (t:Tr b) (o:Nat),t.Fit→(t.mv f).flat o=(t.flat o).map f
 | _,.leaf _,_,_=>rfl
 | _,.neg a,o,hf=>by simp only[Tr.mv,Tr.flat,HL h a o hf,GR,Ac1,AcE,AcZ];rw[h.inner _ (by show(7:Int)≤8;omega)]
 | _,.two k a b,o,hf=>by
  simp only[Tr.mv,Tr.flat,HL h a o hf.2.2.1,HL h b (o+a.cnt) hf.2.2.2,GR,Ac1,AcE,AcZ]
  rw[h.inner _ (by have:=hf.1;show 7≤k;omega)]
 | _,.call x ks,o,hf=>by simp only[Tr.mv,Tr.flat,HL h ks o hf.2,V0,Ac1,AcE,AcZ];rw[h.inner _ (by show(7:Int)≤7;omega)]
 | _,.nil,_,_=>rfl
 | _,.snoc ks a,o,hf=>by simp only[Tr.mv,Tr.flat,HL h ks o hf.1,HL h a (o+ks.cnt) hf.2,GR,Ac1]
theorem JM{f:Ah→Ah}(h:UY f):∀{b:Bool} (t:Tr b),t.Fit→(t.mv f).Fit
 | _,.leaf n,hf=>by
  obtain⟨a,b,c,d,_⟩:=h.leaf n hf.1 hf.2.1 hf.2.2.1 hf.2.2.2
  exact⟨a,b,c,d⟩
 | _,.neg a,hf=>JM h a hf
 | _,.two k a b,hf=>⟨hf.1,hf.2.1,JM h a hf.2.2.1,JM h b hf.2.2.2⟩
 | _,.call x ks,hf=>⟨hf.1,JM h ks hf.2⟩
 | _,.nil,_=>trivial
 | _,.snoc ks a,hf=>⟨JM h ks hf.1,JM h a hf.2⟩
theorem V1(f:Ah→Ah):∀{b:Bool} (t:Tr b),(t.mv f).rank=t.rank
 | _,.leaf _=>rfl
 | _,.neg _=>rfl
 | _,.two _ _ _=>rfl
 | _,.call _ _=>rfl
 | _,.nil=>rfl
 | _,.snoc _ _=>rfl
theorem HM(f:Ah→Ah):∀{b:Bool} (t:Tr b),(t.mv f).need=t.need
 | _,.leaf _=>rfl
 | _,.neg a=>by simp only[Tr.mv,Tr.need,V1,HM f a]
 | _,.two _ a b=>by simp only[Tr.mv,Tr.need,V1,HM f a,HM f b]
 | _,.call _ ks=>by simp only[Tr.mv,Tr.need,HM f ks]
 | _,.nil=>rfl
 | _,.snoc ks a=>by simp only[Tr.mv,Tr.need,HM f ks,HM f a]
theorem HN{f:Ah→Ah}(h:UY f):∀{b:Bool} (t:Tr b),t.Fit→t.Num→(t.mv f).Num
 | _,.leaf n,hf,hn=>λk hk=>by
  obtain⟨_,_,_,_,e⟩:=h.leaf n hf.1 hf.2.1 hf.2.2.1 hf.2.2.2;have hk':k∈C9 (f n):=hk;rcases e with e | e
  ·rw[e] at hk';exact hn k hk'
  ·rcases Yu hk' with h1 | h1<;>omega
 | _,.neg a,hf,hn=>V6 (HN h a hf (λu hu=>hn u AeN))
 | _,.two o a b,hf,hn=>V7 (HN h a hf.2.2.1 (λu hu=>hn u AeI)) (HN h b hf.2.2.2 (λu hu=>hn u AeH))
 | _,.call x .nil,hf,hn=>hn
 | _,.call x (.snoc rs a),hf,hn=>St (HN h rs hf.2.1 (λu hu=>hn u Ae9)) (HN h a hf.2.2 (λu hu=>hn u Ae9))
 | _,.nil,_,hn=>hn
 | _,.snoc rs a,hf,hn=>Sy (HN h rs hf.1 (λu hu=>hn u Ae9)) (HN h a hf.2 (λu hu=>hn u Ae9))
theorem Je{own:List UInt8}{ss:List BP}(hss:∀s∈ss,s.May):UY (AK DZ own ss) where
 inner n hk:=by rw[AK,if_pos ⟨by omega,by omega⟩]
 leaf n h1 h2 h3 h4:=by
  unfold AK
  split
  ·exact⟨h1,h2,h3,h4,.inl rfl⟩
  ·rename_i hk
   split
   ·exact⟨h1,h2,h3,h4,.inl rfl⟩
   ·rename_i s e;obtain⟨a,b,c,d,_,_,_,x⟩:=Yf (hss s (Hk e).1) h4 Aez;refine⟨b,c,?_,a,.inr d⟩;rcases x with x | x
    ·rw[x,h3]
    ·rw[x];rfl
theorem HK{own:List UInt8}{ss:List BP}(hss:∀s∈ss,s.May){n:Ah}(hp:Ar n=true):(AK DZ own ss n).text.length≤n.text.length∧(AK DZ own ss n).ref.sheet.length≤n.ref.sheet.length∧(AK DZ own ss n).to.sheet.length≤n.to.sheet.length∧(AK DZ own ss n).kids.length≤n.kids.length:=by
 unfold AK
 split
 ·exact⟨Ab9 _,Ab9 _,Ab9 _,Ab9 _⟩
 ·split
  ·exact⟨Ab9 _,Ab9 _,Ab9 _,Ab9 _⟩
  ·rename_i s e;obtain⟨a,b,c,d,d2,h1,h2,x⟩:=Yf (hss s (Hk e).1) hp Aez;refine⟨by rw[d2];simp,h1,h2,?_⟩;rcases x with x | x
   ·rw[x];exact Ab9 _
   ·rw[x];simp[BB]
theorem ET:∀{b:Bool} (t:Tr b) (o:Nat),t.Fit→∀n∈t.flat o,Ar n=true
 | _,.leaf m,o,hf,n,hn=>by
  simp only[Tr.flat,Aaw] at hn;subst hn
  exact hf.2.2.2
 | _,.neg a,o,hf,n,hn=>by
  simp only[Tr.flat,AbB,Aaw] at hn;rcases hn with hn | rfl
  ·exact ET a o hf n hn
  ·exact rfl
 | _,.two k a b,o,hf,n,hn=>by
  simp only[Tr.flat,AbB,Aaw] at hn;rcases hn with (hn | hn) | rfl
  ·exact ET a o hf.2.2.1 n hn
  ·exact ET b _ hf.2.2.2 n hn
  ·exact(OI hf.1 hf.2.1 _ _).2
 | _,.call x ks,o,hf,n,hn=>by
  simp only[Tr.flat,AbB,Aaw] at hn;rcases hn with hn | rfl
  ·exact ET ks o hf.2 n hn
  ·exact(IX hf.1 _).2
 | _,.nil,_,_,n,hn=>by simp[Tr.flat] at hn
 | _,.snoc ks a,o,hf,n,hn=>by
  simp only[Tr.flat,AbB] at hn;rcases hn with hn | hn
  ·exact ET ks o hf.1 n hn
  ·exact ET a _ hf.2 n hn
theorem Gv{l:List Ah}(h:BV l=true):∀n∈l,Ar n=true:=by
 obtain⟨t,rfl,hf⟩:=Jt h;exact ET t 0 hf
theorem JL{own:List UInt8}{ss:List BP}(hss:∀s∈ss,s.May){t:Tr false}(hf:t.Fit):BK DZ own ss (t.flat 0)=(t.mv (AK DZ own ss)).flat 0∧(t.mv (AK DZ own ss)).Fit:=
 ⟨by rw[BK,if_pos (t.tree hf),HL (Je hss) t 0 hf],JM (Je hss) t hf⟩
theorem WI:J0 []:=Y8 Ae7
theorem Sj{own:List UInt8}{ss:List BP}(hss:∀s∈ss,s.May){l:List Ah}(hsh:DS l)(hno:J0 l)(N:Nat)(hk:∀n∈l,n.kids.length≤N) :
  DS (BK DZ own ss l)∧J0 (BK DZ own ss l)∧(∀n∈BK DZ own ss l,n.kids.length≤N)∧(BK DZ own ss l).length≤l.length:=by
 by_cases ht:BV l=true
 ·obtain⟨t,rfl,hf⟩:=Jt ht;have hp:=Gv ht;obtain⟨e,a0⟩:=JL (own:=own) hss hf;have hm:∀n∈BK DZ own ss (t.flat 0),∃m∈t.flat 0,n=AK DZ own ss m:=λn hn=>by
   rw[BK,if_pos ht] at hn;obtain⟨m,h1,h2⟩:=Acu.1 hn;exact⟨m,h1,h2.symm⟩
  refine⟨λn hn=>?_,λu hu eu=>?_,λn hn=>?_,?_⟩
  ·obtain⟨m,h1,rfl⟩:=hm n hn;obtain⟨a,b,c,_⟩:=HK (own:=own) hss (hp m h1);obtain⟨d1,d2,d3⟩:=hsh m h1;exact⟨by omega,by omega,by omega⟩
  ·have:=Tr.inj u _ hu a0 [] [] (by simpa using eu.trans e) (.inl rfl);rw[this.1];exact HN (Je hss) t hf (hno t hf rfl)
  ·obtain⟨m,h1,rfl⟩:=hm n hn;obtain⟨_,_,_,d⟩:=HK (own:=own) hss (hp m h1);have:=hk m h1;omega
  ·rw[BK,if_pos ht,Acg];exact Ab9 _
 ·rw[BK,if_neg ht];exact⟨λn hn=>(Acn hn).elim,WI,λn hn=>(Acn hn).elim,by simp⟩
theorem Sf{own:List UInt8}{ss:List BP}(hss:∀s∈ss,s.May)(l:List Ah):BK DZ own ss l=BK Ih own ss l:=by
 unfold BK
 split
 ·rename_i ht;refine AcQ λn hn=>?_;unfold AK
  split
  ·rfl
  ·split
   ·rfl
   ·rename_i s e;exact Vm (hss s (Hk e).1) (Gv ht n hn) Aez
 ·rfl
def AaY:List UInt8:=[61,35,82,69,70,33]
noncomputable def B3(own:List UInt8)(ss:List BP)(s:List UInt8):List UInt8:=
 if s≠[]∧Ab s 0=61∧Bt s=true then(match AH (s.drop 1) with
  | .ok l=>if 300<(61::BF (BK DZ own ss l)).length then AaY else 61::BF (BK DZ own ss l)
  | .error _=>s) else s
def KZ(s:BP)(rv cv:Value):List Value:=[Am s.sheet,rv,.int .i64 s.rows.new,cv,.int .i64 s.cols.new,.bool s.gone]
def Cp(w:World)(v:Value)(l:List BP):Prop:=
 l.length≤1000000∧(v=.slice none 0 0∧l=[]∨∃a cap,v=.slice (some a) l.length cap∧∀i s,l[i]?=some s→∃rv cv,Bs w rv s.rows.to∧Bs w cv s.cols.to∧∀j u,(KZ s rv cv)[j]?=some u→w.cell? ((a.add (i*6)).add j)=some u)
theorem Cp.ext{w w':World}{v:Value}{l:List BP}(h:Cp w v l)(x:Ae w w'):Cp w' v l:=by
 obtain⟨h0,h | ⟨a,cap,e,h⟩⟩:=h
 ·exact⟨h0,.inl h⟩
 ·exact⟨h0,.inr ⟨a,cap,e,λi s hi=>let ⟨rv,cv,h1,h2,hc⟩:=h i s hi;⟨rv,cv,h1.ext x,h2.ext x,λj u hj=>Aw x (hc j u hj)⟩⟩⟩
theorem Cp.slice{w:World}{v:Value}{l:List BP}(h:Cp w v l):∃p c,v=.slice p l.length c:=by
 obtain⟨h0,⟨rfl,rfl⟩ | ⟨a,cap,e,h⟩⟩:=h
 ·exact⟨_,_,rfl⟩
 ·exact⟨_,_,e⟩
theorem Cp.at{w:World}{p:Option Addr}{c:Nat}{l:List BP}(h:Cp w (.slice p l.length c) l){i:Nat}{s:BP}(hi:l[i]?=some s) :
  ∃a rp rc cp cc,p=some a∧Bs w (.slice rp s.rows.to.length rc) s.rows.to∧Bs w (.slice cp s.cols.to.length cc) s.cols.to∧∀j u,(KZ s (.slice rp s.rows.to.length rc) (.slice cp s.cols.to.length cc))[j]?=some u→w.cell? ((a.add (i*6)).add j)=some u:=by
 obtain⟨h0,⟨e,e2⟩ | ⟨a,cap,e,h⟩⟩:=h
 ·rw[e2] at hi;simp at hi
 ·simp only[Acj] at e;obtain⟨rv,cv,h1,h2,hc⟩:=h i s hi;obtain⟨rp,rc,rfl⟩:=h1.slice;obtain⟨cp,cc,rfl⟩:=h2.slice;exact⟨a,rp,rc,cp,cc,e.1,h1,h2,hc⟩
def NA(ss:List BP)(x:List UInt8):Option Nat:=ss.findIdx? (λs=>decide (s.sheet=x))
theorem Hn{ss:List BP}{x:List UInt8}:Hj ss x=(NA ss x).bind (ss[·]?):=by
 unfold Hj NA
 induction ss with
 | nil=>rfl
 | cons s r ih=>
  rw[List.find?_cons,Adq];by_cases h:s.sheet=x
  ·simp[h]
  ·simp only[h,decide_false,Acx,if_false];rw[ih];cases List.findIdx? (λs=>decide (s.sheet=x)) r<;>simp
theorem Pl{ss:List BP}{x:List UInt8}(h:∀i s,i<ss.length→ss[i]?=some s→s.sheet≠x):NA ss x=none:=by
 unfold NA;rw[Adu];intro s hs;obtain⟨i,hi,rfl⟩:=AdH hs;have:=h i _ hi (Aak hi)
 simpa using this
theorem L7{ss:List BP}{x:List UInt8}{k:Nat}{s:BP}(hk:ss[k]?=some s)(hs:s.sheet=x)(h:∀i u,i<k→ss[i]?=some u→u.sheet≠x):NA ss x=some k:=by
 unfold NA;rw[Ac9];obtain⟨a0,e⟩:=Aav.1 hk;refine⟨a0,by rw[e];simpa using hs,λj hj=>?_⟩;have:=h j _ hj (Aak Aez)
 simpa using this
theorem UO(s:BP)(rp cp:Option Addr)(rl rc cl cc A:Nat)(x:List UInt8)(w:World)(hA:Blk w A [Am x] 9):AF prog 189 [.agg ⟨KZ s (.slice rp rl rc) (.slice cp cl cc)⟩,.pointer (some ⟨A,0,none⟩)] w (λv w'=>v=.bool (decide (s.sheet=x))∧Ae w w'):=by
 refine AQ func189 ntmps189 ?_;refine Sa ?_;refine Dq λX w1 a1 a0 hX=>?_;replace hX:Blk w1 X (KZ s (.slice rp rl rc) (.slice cp cl cc)) 73:=hX;replace hA:=hA.ext a0;refine Sa ?_;exact QW.body1 rfl rfl ⟨by simp,a0⟩
theorem Kv(ss:List BP)(sv:Value)(A:Nat)(x:List UInt8)(w:World)(h:Cp w sv ss)(hA:Blk w A [Am x] 9):AF prog 188 [sv,.func (.func 189) ⟨[]⟩ ⟨[.pointer (some ⟨A,0,none⟩)]⟩] w (λv w'=>v=.int .i64 (match NA ss x with | some i=>(i:Int) | none=>-1)∧Ae w w'):=by
 obtain⟨p,c,rfl⟩:=h.slice;have hl:=h.1;refine AQ func188 ntmps188 ?_;refine Sa ?_;refine CW.loop (ι:=Nat) (λk w'=>k≤ss.length∧Ae w w'∧∀i u,i<k→ss[i]?=some u→u.sheet≠x) (λk=>[(0,.slice p ss.length c),(1,.func (.func 189) ⟨[]⟩ ⟨[.pointer (some ⟨A,0,none⟩)]⟩),(7,.int .i64 ss.length),(8,.int .i64 k)]) (λk=>ss.length - k) 0 ⟨by omega,Chg.refl _ _,λi u h=>by omega⟩ B9 ?_;rintro k w1 ⟨hk,hx,a2⟩;replace h:=h.ext hx;replace hA:=hA.ext hx;refine Sa ?_;refine Av (λh2=>?_) λh2=>?_
 ·have h2:k<ss.length:=by simp at h2;omega
  obtain⟨s,hs⟩:∃s,ss[k]?=some s:=⟨_,Aak h2⟩;obtain⟨a,rp,rc,cp,cc,rfl,hr,hc,a1⟩:=h.at hs;have a0:∀j u,(KZ s (.slice rp s.rows.to.length rc) (.slice cp s.cols.to.length cc))[j]?=some u→w1.cell? ((a.add (((k:Nat):Int).toNat*6)).add j)=some u:=λj u hj=>by rw[show((k:Nat):Int).toNat=k by omega];exact a1 j u hj
  refine Sa ?_;refine Lo ?_;refine LW.load_cells rfl a0 rfl rfl rfl rfl ?_;refine Sa ?_;refine LW.call (fs:=[]) (cs:=[.pointer (some ⟨A,0,none⟩)]) rfl rfl rfl (UO s _ _ _ _ _ _ A x w1 hA) ?_;rintro v w2 ⟨rfl,a3⟩;refine Sa ?_;refine Av (λh3=>?_) λh3=>?_
  ·have h3:s.sheet=x:=by simpa using h3
   refine Sa ?_;exact QW.body1 rfl rfl ⟨by rw[L7 hs h3 a2],hx.trans a3⟩
  ·have h3:s.sheet≠x:=by simpa using h3
   refine Sa ?_;refine QW.again (k+1) ⟨by omega,hx.trans a3,λi u hi hu=>?_⟩ B9 Aez;rcases Ac0 i k with h4 | h4
   ·exact a2 i u h4 hu
   ·obtain rfl:i=k:=by omega
    rw[hs] at hu;obtain rfl:=Aa5 hu;exact h3
 ·have h2:k=ss.length:=by simp at h2;omega
  subst h2;refine Sa ?_;refine QW.body1 rfl rfl ⟨?_,hx⟩;rw[Pl (λi s hi hs=>a2 i s hi hs)]
def ShV(w:World)(o:Option BP)(v:Value):Prop:=match o with
 | none=>∃cs,v=.tuple #[.agg ⟨cs⟩,.bool false]∧cs=KZ ⟨[],⟨[],0⟩,⟨[],0⟩,false⟩ (.slice none 0 0) (.slice none 0 0)
 | some s=>∃rp rc cp cc,v=.tuple #[.agg ⟨KZ s (.slice rp s.rows.to.length rc) (.slice cp s.cols.to.length cc)⟩,.bool true]∧Bs w (.slice rp s.rows.to.length rc) s.rows.to∧Bs w (.slice cp s.cols.to.length cc) s.cols.to
theorem Xn(own:List UInt8)(ss:List BP)(sv:Value)(x:List UInt8)(w:World)(h:Cp w sv ss):AF prog 140 [.agg ⟨[Am own,sv]⟩,Am x] w (λv w'=>ShV w' (Hj ss (if x=[] then own else x)) v∧Ae w w'):=by
 obtain⟨p,c,rfl⟩:=h.slice;have hl:=h.1;refine AQ func140 ntmps140 ?_;refine Sa ?_;refine Dq λM w1 ah ad hM=>?_;replace hM:Blk w1 M [Am own,.slice p ss.length c] 137:=hM;have ai:=ad.size;have ae:=hM.lt;refine Sa ?_;refine Dq λA w2 aj a9 hA=>?_;replace hA:Blk w2 A [Am x] 9:=hA;have af:=hA.lt;replace hM:=hM.ext a9;have ak:=a9.size;refine Sa ?_;refine BX λR w3 al a8 hR=>?_;replace hM:=hM.ext a8;replace hA:=hA.ext a8;have am:=a8.size;have a6:=(ad.trans a9).trans a8;have ag:=hR.lt;refine Sa ?_;refine Av (λb1=>?_) λb1=>?_
 ·have b1:x=[]:=by simpa using b1
  refine Sa ?_;refine BO λw4 aa hA=>?_;replace hA:Blk w4 A [Am own] 9:=hA;replace hM:=hM.chg aa Ae0;replace hR:=hR.chg aa Ae0;have a7:Ae w w4:=a6.step aa Ae0;rw[if_pos b1];have ab:=h.ext a7;refine Sa ?_;refine Ax rfl rfl (Kv ss _ A _ _ ab hA) ?_;rintro v w5 ⟨rfl,a3⟩;replace hM:=hM.ext a3;replace hR:=hR.ext a3;have a0:=a7.trans a3;rw[Hn];refine Sa ?_
  cases hi:NA ss _ with
  | none=>
   refine Sa ?_;refine AR λw6 a4 hR=>?_;refine Sa ?_
   exact QW.body_ct rfl rfl hR rfl rfl rfl rfl ⟨⟨_,rfl,rfl⟩,a0.step a4 Ae0⟩
  | some i=>
   have ac:i<ss.length:=by
    unfold NA at hi;exact(Ac9.1 hi).1
   obtain⟨s,hs⟩:∃s,ss[i]?=some s:=⟨_,Aak ac⟩;obtain⟨a,rp,rc,cp,cc,rfl,hr,hc,a2⟩:=h.at hs;have a1:∀j u,(KZ s (.slice rp s.rows.to.length rc) (.slice cp s.cols.to.length cc))[j]?=some u→w5.cell? ((a.add (((i:Nat):Int).toNat*6)).add j)=some u:=λj u hj=>by rw[show((i:Nat):Int).toNat=i by omega];exact Aw a0 (a2 j u hj)
   simp only[AcJ,hs];refine Sa ?_;refine LW.know (t:=16) (c:=false) rfl (decide_eq_false Aez) ?_;refine Sa ?_;refine Lo ?_;refine LW.load_cells rfl a1 rfl rfl rfl rfl ?_;refine Sa ?_;refine AR λw6 a4 hR=>?_;have a5:=a0.step a4 Ae0;refine Sa ?_;exact QW.body_ct rfl rfl hR rfl rfl rfl rfl ⟨⟨rp,rc,cp,cc,rfl,hr.ext a5,hc.ext a5⟩,a5⟩
 ·have b1:¬x=[]:=by simpa using b1
  have a7:=a6;rw[if_neg b1];have ab:=h.ext a7;refine Sa ?_;refine Ax rfl rfl (Kv ss _ A _ _ ab hA) ?_;rintro v w5 ⟨rfl,a3⟩;replace hM:=hM.ext a3;replace hR:=hR.ext a3;have a0:=a7.trans a3;rw[Hn];refine Sa ?_
  cases hi:NA ss _ with
  | none=>
   refine Sa ?_;refine AR λw6 a4 hR=>?_;refine Sa ?_
   exact QW.body_ct rfl rfl hR rfl rfl rfl rfl ⟨⟨_,rfl,rfl⟩,a0.step a4 Ae0⟩
  | some i=>
   have ac:i<ss.length:=by
    unfold NA at hi;exact(Ac9.1 hi).1
   obtain⟨s,hs⟩:∃s,ss[i]?=some s:=⟨_,Aak ac⟩;obtain⟨a,rp,rc,cp,cc,rfl,hr,hc,a2⟩:=h.at hs;have a1:∀j u,(KZ s (.slice rp s.rows.to.length rc) (.slice cp s.cols.to.length cc))[j]?=some u→w5.cell? ((a.add (((i:Nat):Int).toNat*6)).add j)=some u:=λj u hj=>by rw[show((i:Nat):Int).toNat=i by omega];exact Aw a0 (a2 j u hj)
   simp only[AcJ,hs];refine Sa ?_;refine LW.know (t:=16) (c:=false) rfl (decide_eq_false Aez) ?_;refine Sa ?_;refine Lo ?_;refine LW.load_cells rfl a1 rfl rfl rfl rfl ?_;refine Sa ?_;refine AR λw6 a4 hR=>?_;have a5:=a0.step a4 Ae0;refine Sa ?_;exact QW.body_ct rfl rfl hR rfl rfl rfl rfl ⟨⟨rp,rc,cp,cc,rfl,hr.ext a5,hc.ext a5⟩,a5⟩
def MvV(n m:Ah)(kv v:Value):Prop:=∃kv',v=.agg ⟨Bz ⟨m,kv'⟩⟩∧(kv'=kv∧m.kids=n.kids∨kv'=.slice none 0 0∧m.kids=[])
theorem V4{go:BP→Ah→Ah}{own:List UInt8}{ss:List BP}{n:Ah}(h5:n.kind≠5)(h6:n.kind≠6):AK go own ss n=n:=by rw[AK,if_pos ⟨h5,h6⟩]
theorem Ym{go:BP→Ah→Ah}{own:List UInt8}{ss:List BP}{n:Ah}(h:n.kind=5∨n.kind=6):AK go own ss n=match Hj ss (M9 own n) with | none=>n | some s=>go s n:=by
 unfold AK
 (rw[if_neg Aez])<;>cases Hj ss (M9 own n)<;>rfl
theorem JX{n:Ah}(hp:Ar n=true)(h:n.kind=5∨n.kind=6):n.ref.row≤998∧n.ref.col≤701∧(BH n).row≤998∧(BH n).col≤701:=by
 rcases h with h | h
 ·obtain⟨h1,_⟩:=FU hp h;obtain⟨b1,b2,b3,b4,_⟩:=Cv h1;rw[BH,if_pos h];exact⟨b4,b2,b4,b2⟩
 ·obtain⟨h1,h2,_⟩:=Ep hp h;obtain⟨b1,b2,b3,b4,_⟩:=Cv h1;obtain⟨c1,c2,c3,c4,_⟩:=Cv h2;rw[BH,if_neg Aez];exact⟨b4,b2,c4,c2⟩
set_option maxHeartbeats 2000000 in
theorem Y7(own:List UInt8)(ss:List BP)(sv:Value)(n:Ah)(kp:Option Addr)(kl kc:Nat)(w:World)(h:Cp w sv ss)(hss:∀s∈ss,s.Fine)(hp:Ar n=true):AF prog 97 [.agg ⟨[Am own,sv]⟩,.agg ⟨Bz ⟨n,.slice kp kl kc⟩⟩] w (λv w'=>MvV n (AK DZ own ss n) (.slice kp kl kc) v∧Ae w w'):=by
 obtain⟨p,c,rfl⟩:=h.slice;have hl:=h.1;refine AQ func97 ntmps97 ?_;refine Sa ?_;refine Dq λM w1 bh b2 hM=>?_;replace hM:Blk w1 M [Am own,.slice p ss.length c] 137:=hM;have bi:=b2.size;refine Sa ?_;refine Dq λN w2 bj ay hN=>?_;replace hN:Blk w2 N (Bz ⟨n,.slice kp kl kc⟩) 139:=hN;have b3:=hN.lt;replace hM:=hM.ext ay;have bk:=ay.size;refine Sa ?_;refine BX λR w3 bl aq hR=>?_;replace hM:=hM.ext aq;replace hN:=hN.ext aq;have bm:=aq.size;have af:=(b2.trans ay).trans aq;have b4:=hR.lt;apply LW.nil;apply QW.then_n;refine CW.seq_cut (ι:=Unit) (λ_ w'=>w'=w3∧(n.kind=5∨n.kind=6)) (λ_=>[(2,.pointer (some ⟨M,0,none⟩)),(3,.pointer (some ⟨N,0,none⟩)),(4,.pointer (some ⟨R,0,none⟩))]) ?_ ?_
 ·refine Sa ?_;by_cases h5:n.kind=5;rotate_left
  ·refine LW.know (t:=17) (c:=true) rfl (by simp[h5]) ?_;refine Sa ?_;refine Av (λh6=>?_) λh6=>?_
   ·have h6:n.kind≠6:=by simpa using h6
    rw[V4 h5 h6];refine Sa ?_;refine AR λw4 b5 hR=>?_;replace hR:Blk w4 R (Bz ⟨n,.slice kp kl kc⟩) 139:=hR;refine Sa ?_;exact QW.body_c rfl rfl hR rfl rfl rfl ⟨⟨_,rfl,.inl ⟨rfl,rfl⟩⟩,af.step b5 Ae0⟩
   have h6:n.kind=6:=by simpa using h6
   refine Sa ?_;exact QW.head () ⟨rfl,.inr h6⟩ Bh
  refine LW.know (t:=17) (c:=false) rfl (by simp[h5]) ?_;refine Sa ?_;exact QW.head () ⟨rfl,.inl h5⟩ Bh
 rintro⟨⟩ w3 ⟨rfl,hk⟩;show CW _ _ _ _ _ [(2,.pointer (some ⟨M,0,none⟩)),(3,.pointer (some ⟨N,0,none⟩)),(4,.pointer (some ⟨R,0,none⟩))] _;rw[Ym hk];obtain⟨s1,s2,s3,s4⟩:=JX hp hk;refine Sa ?_;refine Ax rfl rfl (Xn own ss _ n.ref.sheet w3 (h.ext af)) ?_;rintro v w4 ⟨hv,au⟩;replace hN:=hN.ext au;replace hR:=hR.ext au;have bn:=au.size;have ag:=af.trans au;have b6:(if n.ref.sheet=[] then own else n.ref.sheet)=M9 own n:=rfl;rw[b6] at hv
 cases hf:Hj ss (M9 own n) with
 | none=>
  rw[hf] at hv;obtain⟨cs,rfl,rfl⟩:=hv;refine Sa ?_;refine BX λS w5 b7 ad hS=>?_;replace hN:=hN.ext ad;replace hR:=hR.ext ad;have b8:=ad.size;have al:=ag.trans ad;refine Sa ?_;refine AR λw6 ah hS=>?_;replace hN:=hN.chg ah Ae0;replace hR:=hR.chg ah Ae0;have a2:=al.step ah Ae0;refine Sa ?_;refine AR λw7 b9 hR=>?_;replace hR:Blk w7 R (Bz ⟨n,.slice kp kl kc⟩) 139:=hR;refine Sa ?_
  exact QW.body_c rfl rfl hR rfl rfl rfl ⟨⟨_,rfl,.inl ⟨rfl,rfl⟩⟩,a2.step b9 Ae0⟩
 | some s=>
  rw[hf] at hv;obtain⟨rp,rc,cp,cc,rfl,hr,hc⟩:=hv;have av:=hss s (Hk hf).1;refine Sa ?_;refine BX λS w5 b7 ad hS=>?_;replace hN:=hN.ext ad;replace hR:=hR.ext ad;have b8:=ad.size;have al:=ag.trans ad;refine Sa ?_;refine AR λw6 ah hS=>?_;replace hS:Blk w6 S (KZ s (.slice rp s.rows.to.length rc) (.slice cp s.cols.to.length cc)) 73:=hS;replace hN:=hN.chg ah Ae0;replace hR:=hR.chg ah Ae0;have ai:Ae w4 w6:=ad.step ah Ae0;replace hr:=hr.ext ai;replace hc:=hc.ext ai;have a2:=ag.trans ai;have bo:=a2.size;have ba:=hS.lt;refine Sa ?_
  cases hg:s.gone with
  | true=>
   have eg:DZ s n=BB:=by rw[DZ,if_pos hg]
   simp only[eg];have a5:=a2;refine Sa ?_;refine AR λw9 a1 hR=>?_;replace hR:Blk w9 R (Bz ⟨BB,.slice none 0 0⟩) 139:=hR;refine Sa ?_
   exact QW.body_c rfl rfl hR rfl rfl rfl ⟨⟨_,rfl,.inr ⟨rfl,rfl⟩⟩,a5.step a1 Ae0⟩
  | false=>
   have eg:DZ s n=if Dt s n then BB else KX s n:=by rw[DZ,if_neg (by rw[hg];simp)]
   simp only[eg];refine Sa ?_;refine LW.load_agg (cs:=AZ n.to) rfl hN rfl rfl rfl ⟨rfl,rfl,rfl,rfl,rfl,trivial⟩ rfl ?_;refine Sa ?_;refine BX λL w7 bp am hL=>?_;replace hN:=hN.ext am;replace hR:=hR.ext am;replace hS:=hS.ext am;have az:=a2.trans am;have bq:=az.size;refine Sa ?_;refine AR λw8 aw hL=>?_;replace hL:Blk w8 L [Am n.to.sheet,.int .i64 n.to.col,.int .i64 n.to.row,.bool n.to.ac,.bool n.to.ar] 113:=hL;have aj:Ae w6 w8:=am.step aw Ae0;have an:=a2.trans aj;replace hN:=hN.chg aw Ae0;replace hR:=hR.chg aw Ae0;replace hS:=hS.chg aw Ae0;have br:=an.size;have bb:=hL.lt;rcases hP:Bj s.rows n.ref.row (BH n).row with ⟨x1,x2,x3⟩;rcases hQ:Bj s.cols n.ref.col (BH n).col with ⟨y1,y2,y3⟩;have ae:Dt s n↔(x3=false∨y3=false∨998<x2∨701<y2):=by unfold Dt;rw[hP,hQ]
   have ax:KX s n={n with ref:={n.ref with row:=x1,col:=y1},to:=if n.kind=6 then {n.to with row:=x2,col:=y2} else n.to}:=by unfold KX;rw[hP,hQ]
   refine Sa ?_;by_cases k5:n.kind=5
   ·have el:BH n=n.ref:=by rw[BH,if_pos k5]
    refine CW.yes rfl (decide_eq_true k5) ?_;refine Sa ?_;refine LW.load_agg (cs:=AZ n.ref) rfl hN rfl rfl rfl ⟨rfl,rfl,rfl,rfl,rfl,trivial⟩ rfl ?_;refine Sa ?_;refine AR λw9 a1 hL=>?_;replace hL:Blk w9 L [Am n.ref.sheet,.int .i64 n.ref.col,.int .i64 n.ref.row,.bool n.ref.ac,.bool n.ref.ar] 113:=hL;rw[←el] at hL;have a7:Ae w6 w9:=aj.step a1 Ae0;have b0:=a2.trans a7;replace hN:=hN.chg a1 Ae0;replace hR:=hR.chg a1 Ae0;replace hS:=hS.chg a1 Ae0;have k6:¬n.kind=6:=Aez
    rw[if_neg k6] at ax;refine Sa ?_;refine LW.load_agg (cs:=[.slice rp s.rows.to.length rc,.int .i64 s.rows.new]) rfl hS rfl rfl rfl ⟨rfl,rfl,trivial⟩ rfl ?_;refine Sa ?_;have a8:=Ke s.rows av.1 _ n.ref.row (BH n).row Aez Aez _ ⟨_,rfl,hr.ext a7⟩;rw[hP] at a8;refine Ax rfl rfl a8 ?_;rintro v bc ⟨rfl,a0⟩;replace hN:=hN.ext a0;replace hR:=hR.ext a0;replace hS:=hS.ext a0;replace hL:=hL.ext a0;have a3:=a7.trans a0;refine Sa ?_;refine LW.load_agg (cs:=[.slice cp s.cols.to.length cc,.int .i64 s.cols.new]) rfl hS rfl rfl rfl ⟨rfl,rfl,trivial⟩ rfl ?_;refine Sa ?_;have a9:=Ke s.cols av.2 _ n.ref.col (BH n).col Aez Aez _ ⟨_,rfl,hc.ext a3⟩;rw[hQ] at a9;refine Ax rfl rfl a9 ?_;rintro v bd ⟨rfl,a6⟩;replace hN:=hN.ext a6;replace hR:=hR.ext a6;have a5:=a2.trans (a3.trans a6);have b1:=a5.size
    cases x3 with
    | false=>
     rw[if_pos (ae.2 (.inl rfl))];refine Sa ?_;refine AR λw9 a1 hR=>?_;replace hR:Blk w9 R (Bz ⟨BB,.slice none 0 0⟩) 139:=hR;refine Sa ?_
     exact QW.body_c rfl rfl hR rfl rfl rfl ⟨⟨_,rfl,.inr ⟨rfl,rfl⟩⟩,a5.step a1 Ae0⟩
    | true=>
    cases y3 with
    | false=>
     rw[if_pos (ae.2 (.inr (.inl rfl)))];refine Sa ?_;refine AR λw9 a1 hR=>?_;replace hR:Blk w9 R (Bz ⟨BB,.slice none 0 0⟩) 139:=hR;refine Sa ?_
     exact QW.body_c rfl rfl hR rfl rfl rfl ⟨⟨_,rfl,.inr ⟨rfl,rfl⟩⟩,a5.step a1 Ae0⟩
    | true=>
    refine Sa ?_;by_cases m1:998<x2
    ·rw[if_pos (ae.2 (.inr (.inr (.inl m1))))];refine LW.know (t:=80) (c:=true) rfl (decide_eq_true m1) ?_;refine Sa ?_;refine AR λw9 a1 hR=>?_;replace hR:Blk w9 R (Bz ⟨BB,.slice none 0 0⟩) 139:=hR;refine Sa ?_;exact QW.body_c rfl rfl hR rfl rfl rfl ⟨⟨_,rfl,.inr ⟨rfl,rfl⟩⟩,a5.step a1 Ae0⟩
    refine LW.know (t:=80) (c:=false) rfl (decide_eq_false m1) ?_;refine Sa ?_;refine Av (λm2=>?_) λm2=>?_
    ·have m2:701<y2:=by simpa using m2
     rw[if_pos (ae.2 (.inr (.inr (.inr m2))))];refine Sa ?_;refine AR λw9 a1 hR=>?_;replace hR:Blk w9 R (Bz ⟨BB,.slice none 0 0⟩) 139:=hR;refine Sa ?_;exact QW.body_c rfl rfl hR rfl rfl rfl ⟨⟨_,rfl,.inr ⟨rfl,rfl⟩⟩,a5.step a1 Ae0⟩
    have m2:¬701<y2:=by simpa using m2
    rw[if_neg (by rw[ae];simp;omega),ax];refine Sa ?_;refine BO λbe aa hN=>?_;refine Sa ?_;refine BO λbf ab hN=>?_;have a4:=(a5.step aa Ae0).step ab Ae0;replace hR:=(hR.chg aa Ae0).chg ab Ae0;refine Sa ?_;refine CW.no rfl (decide_eq_false k6) ?_;refine Sa ?_;refine AR λbg ak hR=>?_;refine Sa ?_;exact QW.body_c rfl rfl hR rfl rfl rfl ⟨⟨_,rfl,.inl ⟨rfl,rfl⟩⟩,a4.step ak Ae0⟩
   ·have k6:n.kind=6:=Aez
    have el:BH n=n.to:=by rw[BH,if_neg k5]
    refine CW.no rfl (decide_eq_false k5) ?_;rw[←el] at hL;have a7:=aj;have b0:=an;rw[if_pos k6] at ax;refine Sa ?_;refine LW.load_agg (cs:=[.slice rp s.rows.to.length rc,.int .i64 s.rows.new]) rfl hS rfl rfl rfl ⟨rfl,rfl,trivial⟩ rfl ?_;refine Sa ?_;have a8:=Ke s.rows av.1 _ n.ref.row (BH n).row Aez Aez _ ⟨_,rfl,hr.ext a7⟩;rw[hP] at a8;refine Ax rfl rfl a8 ?_;rintro v bc ⟨rfl,a0⟩;replace hN:=hN.ext a0;replace hR:=hR.ext a0;replace hS:=hS.ext a0;replace hL:=hL.ext a0;have a3:=a7.trans a0;refine Sa ?_;refine LW.load_agg (cs:=[.slice cp s.cols.to.length cc,.int .i64 s.cols.new]) rfl hS rfl rfl rfl ⟨rfl,rfl,trivial⟩ rfl ?_;refine Sa ?_;have a9:=Ke s.cols av.2 _ n.ref.col (BH n).col Aez Aez _ ⟨_,rfl,hc.ext a3⟩;rw[hQ] at a9;refine Ax rfl rfl a9 ?_;rintro v bd ⟨rfl,a6⟩;replace hN:=hN.ext a6;replace hR:=hR.ext a6;have a5:=a2.trans (a3.trans a6);have b1:=a5.size
    cases x3 with
    | false=>
     rw[if_pos (ae.2 (.inl rfl))];refine Sa ?_;refine AR λw9 a1 hR=>?_;replace hR:Blk w9 R (Bz ⟨BB,.slice none 0 0⟩) 139:=hR;refine Sa ?_
     exact QW.body_c rfl rfl hR rfl rfl rfl ⟨⟨_,rfl,.inr ⟨rfl,rfl⟩⟩,a5.step a1 Ae0⟩
    | true=>
    cases y3 with
    | false=>
     rw[if_pos (ae.2 (.inr (.inl rfl)))];refine Sa ?_;refine AR λw9 a1 hR=>?_;replace hR:Blk w9 R (Bz ⟨BB,.slice none 0 0⟩) 139:=hR;refine Sa ?_
     exact QW.body_c rfl rfl hR rfl rfl rfl ⟨⟨_,rfl,.inr ⟨rfl,rfl⟩⟩,a5.step a1 Ae0⟩
    | true=>
    refine Sa ?_;by_cases m1:998<x2
    ·rw[if_pos (ae.2 (.inr (.inr (.inl m1))))];refine LW.know (t:=80) (c:=true) rfl (decide_eq_true m1) ?_;refine Sa ?_;refine AR λw9 a1 hR=>?_;replace hR:Blk w9 R (Bz ⟨BB,.slice none 0 0⟩) 139:=hR;refine Sa ?_;exact QW.body_c rfl rfl hR rfl rfl rfl ⟨⟨_,rfl,.inr ⟨rfl,rfl⟩⟩,a5.step a1 Ae0⟩
    refine LW.know (t:=80) (c:=false) rfl (decide_eq_false m1) ?_;refine Sa ?_;refine Av (λm2=>?_) λm2=>?_
    ·have m2:701<y2:=by simpa using m2
     rw[if_pos (ae.2 (.inr (.inr (.inr m2))))];refine Sa ?_;refine AR λw9 a1 hR=>?_;replace hR:Blk w9 R (Bz ⟨BB,.slice none 0 0⟩) 139:=hR;refine Sa ?_;exact QW.body_c rfl rfl hR rfl rfl rfl ⟨⟨_,rfl,.inr ⟨rfl,rfl⟩⟩,a5.step a1 Ae0⟩
    have m2:¬701<y2:=by simpa using m2
    rw[if_neg (by rw[ae];simp;omega),ax];refine Sa ?_;refine BO λbe aa hN=>?_;refine Sa ?_;refine BO λbf ab hN=>?_;have a4:=(a5.step aa Ae0).step ab Ae0;replace hR:=(hR.chg aa Ae0).chg ab Ae0;refine Sa ?_;refine CW.yes rfl (decide_eq_true k6) ?_;refine Sa ?_;refine BO λbs ao hN=>?_;refine Sa ?_;refine BO λbt ap hN=>?_;have a4:=(a4.step ao Ae0).step ap Ae0;replace hR:=(hR.chg ao Ae0).chg ap Ae0;refine Sa ?_;refine AR λbg ak hR=>?_;refine Sa ?_;exact QW.body_c rfl rfl hR rfl rfl rfl ⟨⟨_,rfl,.inl ⟨rfl,rfl⟩⟩,a4.step ak Ae0⟩
set_option maxHeartbeats 1000000 in
theorem P0(m:C7)(hm:Ij m=true)(vs:List Value)(lo hi:Int)(hlo:lo≤1000000000)(hhi:hi≤1000000000)(w:World)(h:TD w vs m):AF prog 147 [.agg ⟨vs⟩,.int .i64 lo,.int .i64 hi] w (λv w'=>v=.tuple #[.int .i64 (Bj m lo hi).1,.int .i64 (Bj m lo hi).2.1,.bool (Bj m lo hi).2.2]∧Ae w w'):=by
 have hR:=h;obtain⟨tv,rfl,ht⟩:=h;obtain⟨p,c,rfl⟩:=ht.slice;have ae:=Hq hm;obtain⟨n0,n1,n2,a6⟩:=El hm;refine AQ func147 ntmps147 ?_;refine Sa ?_;refine Dq λA w1 aq ag hA=>?_;replace hA:Blk w1 A [.slice p m.to.length c,.int .i64 m.new] 71:=hA;refine Sa ?_;by_cases a1:lo<0
 ·refine LW.know (t:=13) (c:=true) rfl (decide_eq_true a1) ?_;refine Sa ?_;exact QW.body3 rfl rfl rfl rfl ⟨by rw[Bj,if_pos (.inl a1)],ag⟩
 refine LW.know (t:=13) (c:=false) rfl (decide_eq_false a1) ?_;refine Sa ?_;refine Av (λa2=>?_) λa2=>?_
 ·have a2:hi<lo:=by simpa using a2
  refine Sa ?_;exact QW.body3 rfl rfl rfl rfl ⟨by rw[Bj,if_pos (.inr a2)],ag⟩
 have a2:¬hi<lo:=by simpa using a2
 obtain⟨L,rfl⟩:=AcI (show 0≤lo by omega);obtain⟨H,rfl⟩:=AcI (show 0≤hi by omega);refine Su ?_;refine CW.cutB (ι:=Nat) (λa w'=>L≤a∧a≤H+1∧Ae w w'∧Ae w1 w'∧(∀j,L≤j→j<a→j<m.to.length∧m.to.getD j 0<0)∧(a≤H→a<m.to.length→0≤m.to.getD a 0)) (λa=>[(2,.int .i64 (H:Int)),(3,.pointer (some ⟨A,0,none⟩)),(9,.int .i64 (a:Int))]) ?_ ?_
 ·refine CW.loop (ι:=Nat) (λa w'=>L≤a∧a≤H+1∧Ae w w'∧Ae w1 w'∧∀j,L≤j→j<a→j<m.to.length∧m.to.getD j 0<0) (λa=>[(2,.int .i64 (H:Int)),(3,.pointer (some ⟨A,0,none⟩)),(9,.int .i64 (a:Int))]) (λa=>H+1 - a) L ⟨by omega,by omega,ag,Chg.refl _ _,λj h1 h2=>by omega⟩ Bh ?_;rintro a w2 ⟨k0,k1,a7,a3,a0⟩;have al:=hA.ext a3;have aj:=ht.ext a7;refine Sa ?_;by_cases b1:(a:Int)≤(H:Int);rotate_left
  ·refine LW.know (t:=22) (c:=false) rfl (decide_eq_false b1) ?_;have a5:a≤H→a<m.to.length→0≤m.to.getD a 0:=λh1=>by omega
   refine Su ?_;exact QW.head a ⟨k0,k1,a7,a3,a0,a5⟩ Bh
  refine LW.know (t:=22) (c:=true) rfl (decide_eq_true b1) ?_;refine Sa ?_;by_cases b2:(a:Int)<(m.to.length:Int);rotate_left
  ·refine LW.know (t:=29) (c:=false) rfl (decide_eq_false b2) ?_;have a5:a≤H→a<m.to.length→0≤m.to.getD a 0:=λh1 h2=>by omega
   refine Su ?_;exact QW.head a ⟨k0,k1,a7,a3,a0,a5⟩ Bh
  refine LW.know (t:=29) (c:=true) rfl (decide_eq_true b2) ?_;obtain⟨aa,rfl,hc⟩:=aj.at (i:=a) Aez;have ah:w2.cell? (aa.add (((a:Nat):Int).toNat*1))=some (.int .i64 (m.to.getD a 0)):=by
   rw[show((a:Nat):Int).toNat*1=a by omega];exact hc
  refine Sa ?_;refine Lo ?_
  first | refine Lp ah ?_ | (refine Lb ?_;refine Lp ah ?_)
  refine Sa ?_;by_cases b3:m.to.getD a 0<0;rotate_left
  ·refine CW.no rfl (decide_eq_false b3) ?_;have a5:a≤H→a<m.to.length→0≤m.to.getD a 0:=λh1 h2=>by omega
   clear hc ah;refine Su ?_;exact QW.head a ⟨k0,k1,a7,a3,a0,a5⟩ Bh
  refine CW.yes rfl (decide_eq_true b3) ?_;refine Sa ?_;refine QW.again (a+1) ⟨by omega,by omega,a7,a3,λj h1 h2=>?_⟩ Bh Aez;rcases Ac0 j a with h3 | h3
  ·exact a0 j h1 h3
  ·obtain rfl:j=a:=by omega
   exact⟨by omega,b3⟩
 rintro a w2 ⟨k0,k1,a7,a3,a0,a5⟩;have aj:=ht.ext a7;have al:=hA.ext a3;refine Sa ?_;refine CW.loop (ι:=Nat) (λb w'=>b≤H∧(a≤H→a≤b)∧Ae w w'∧Ae w1 w'∧∀j,b<j→j≤H→j<m.to.length∧m.to.getD j 0<0) (λb=>[(3,.pointer (some ⟨A,0,none⟩)),(9,.int .i64 (a:Int)),(10,.int .i64 (b:Int))]) (λb=>b) H ⟨by omega,by omega,a7,a3,λj h1 h2=>by omega⟩ Bh ?_;rintro b w3 ⟨m0,m1,a9,ac,a4⟩;have ar:=hA.ext ac;have am:=ht.ext a9;have af:=hR.ext a9;refine Sa ?_;by_cases c1:(a:Int)≤(b:Int);rotate_left
 ·refine LW.know (t:=43) (c:=false) rfl (decide_eq_false Aez) ?_;have an:Bj m (L:Int) (H:Int)=(0,0,false):=LS (λj h1 h2=>a0 j h1 Aez) Aez;rw[an];refine Sa ?_;refine CW.yes rfl (decide_eq_true (show(b:Int)<(a:Int) by omega)) ?_;refine Sa ?_;exact QW.body3 rfl rfl rfl rfl ⟨rfl,a9⟩
 refine LW.know (t:=43) (c:=true) rfl (decide_eq_true c1) ?_;refine Sa ?_;by_cases c2:(b:Int)<(m.to.length:Int);rotate_left
 ·refine LW.know (t:=50) (c:=false) rfl (decide_eq_false c2) ?_;have a8:Bj m (L:Int) (H:Int)=(AG m a,AG m b,true):=Gs a6 n0 k0 Aez m0 a0 (a5 Aez) a4 (λh1=>by omega);rw[a8];refine Sa ?_;refine CW.no rfl (decide_eq_false (show ¬(b:Int)<(a:Int) by omega)) ?_;refine Sa ?_;refine HZ ?_;refine Sq ?_;refine QL.call0 (v:=.int .i64 (AG m a)) rfl rfl (λw' hw=>Fa m ae _ a Aez w' (af.ext hw)) ?_;refine Sq ?_;refine QL.call0 (v:=.int .i64 (AG m b)) rfl rfl (λw' hw=>Fa m ae _ b Aez w' (af.ext hw)) ?_;refine Sq ?_;refine QL.nil λw4 ai=>?_;refine Sa ?_;exact QW.body3 rfl rfl rfl rfl ⟨rfl,a9.trans ai⟩
 refine LW.know (t:=50) (c:=true) rfl (decide_eq_true c2) ?_;obtain⟨ab,ak,ao⟩:=am.at (i:=b) Aez;have ad:w3.cell? (ab.add (((b:Nat):Int).toNat*1))=some (.int .i64 (m.to.getD b 0)):=by
  rw[show((b:Nat):Int).toNat*1=b by omega];exact ao
 first | subst ak | obtain rfl:=Aa5 ak
 refine Sa ?_;refine Lo ?_
 first | refine Lp ad ?_ | (refine Lb ?_;refine Lp ad ?_)
 refine Sa ?_;by_cases c3:m.to.getD b 0<0;rotate_left
 ·refine CW.no rfl (decide_eq_false c3) ?_;have a8:Bj m (L:Int) (H:Int)=(AG m a,AG m b,true):=Gs a6 n0 k0 Aez m0 a0 (a5 Aez) a4 (λh1=>by omega);rw[a8];refine Sa ?_;refine CW.no rfl (decide_eq_false (show ¬(b:Int)<(a:Int) by omega)) ?_;refine Sa ?_;refine HZ ?_;refine Sq ?_;refine QL.call0 (v:=.int .i64 (AG m a)) rfl rfl (λw' hw=>Fa m ae _ a Aez w' (af.ext hw)) ?_;refine Sq ?_;refine QL.call0 (v:=.int .i64 (AG m b)) rfl rfl (λw' hw=>Fa m ae _ b Aez w' (af.ext hw)) ?_;refine Sq ?_;refine QL.nil λw4 ai=>?_;refine Sa ?_;exact QW.body3 rfl rfl rfl rfl ⟨rfl,a9.trans ai⟩
 refine CW.yes rfl (decide_eq_true c3) ?_;have au:a≠b:=λe=>by
  subst e;have:=a5 Aez Aez;omega
 refine Sa ?_;have ap:((b - 1:Nat):Int)=(b:Int) - 1:=Aez
 refine QW.again (b - 1) ⟨by omega,λh1=>by omega,a9,ac,λj h1 h2=>?_⟩ (by rw[ap];exact(Ai.cons rfl (Ai.cons rfl (Ai.cons rfl (Ai.nil))))) Aez;rcases Ac0 b j with h3 | h3
 ·exact a4 j h3 h2
 ·obtain rfl:j=b:=by omega
  exact⟨by omega,c3⟩
theorem JI{x:C3}(h:AY x=true):x.sheet.length≤1000000:=by have:=GE h;omega
set_option maxHeartbeats 2000000 in
theorem Pv(s:BP)(hm:s.May)(n:Ah)(hp:Ar n=true)(hk:n.kind=5∨n.kind=6)(kp:Option Addr)(kl kc:Nat)(rp cp:Option Addr)(rc cc:Nat)(w:World)(hr:Bs w (.slice rp s.rows.to.length rc) s.rows.to)(hc:Bs w (.slice cp s.cols.to.length cc) s.cols.to):AF prog 105 [.agg ⟨Bz ⟨n,.slice kp kl kc⟩⟩,.agg ⟨KZ s (.slice rp s.rows.to.length rc) (.slice cp s.cols.to.length cc)⟩] w (λv w'=>MvV n (Ih s n) (.slice kp kl kc) v∧Ae w w'):=by
 obtain⟨s1,s2,s3,s4⟩:=JX hp hk;have aq:=Hq hm.1;have ar:=Hq hm.2;refine AQ func105 ntmps105 ?_;refine Sa ?_;refine Dq λN w1 b0 al hN=>?_;replace hN:Blk w1 N (Bz ⟨n,.slice kp kl kc⟩) 139:=hN;have b1:=al.size;have au:=hN.lt;refine Sa ?_;refine Dq λS w2 b2 ae hS=>?_;replace hS:Blk w2 S (KZ s (.slice rp s.rows.to.length rc) (.slice cp s.cols.to.length cc)) 73:=hS;replace hN:=hN.ext ae;have b3:=ae.size;have av:=hS.lt;refine Sa ?_;refine BX λR w3 b4 ad hR=>?_;replace hN:=hN.ext ad;replace hS:=hS.ext ad;have b5:=ad.size;have a3:=(al.trans ae).trans ad;have aw:=hR.lt;refine Sa ?_
 cases hg:s.gone with
 | true=>
  have eg:Ih s n=BB:=by rw[Ih,if_pos hg]
  rw[eg];have a1:=a3;refine Sa ?_;refine AR λa2 a0 hR=>?_;replace hR:Blk a2 R (Bz ⟨BB,.slice none 0 0⟩) 139:=hR;refine Sa ?_
  exact QW.body_c rfl rfl hR rfl rfl rfl ⟨⟨_,rfl,.inr ⟨rfl,rfl⟩⟩,a1.step a0 Ae0⟩
 | false=>
 refine Sa ?_;by_cases k5:n.kind=5
 ·have eg:Ih s n=if AY {n.ref with row:=AG s.rows n.ref.row,col:=AG s.cols n.ref.col}=true then {n with ref:={n.ref with row:=AG s.rows n.ref.row,col:=AG s.cols n.ref.col}} else BB:=by rw[Ih,if_neg (by rw[hg];simp),if_pos k5]
  rw[eg];obtain⟨p1,p2,p3,p4⟩:=FU hp k5;refine CW.yes rfl (decide_eq_true k5) ?_;refine Sa ?_;refine LW.load_agg (cs:=[.slice rp s.rows.to.length rc,.int .i64 s.rows.new]) rfl hS rfl rfl rfl ⟨rfl,rfl,trivial⟩ rfl ?_;refine Sa ?_;refine Ax rfl rfl (Fa s.rows aq _ n.ref.row Aez w3 ⟨_,rfl,hr.ext a3⟩) ?_;rintro v w4 ⟨rfl,a4⟩;replace hN:=hN.ext a4;replace hS:=hS.ext a4;replace hR:=hR.ext a4;have a5:=a3.trans a4;have ax:=a4.size;generalize AG s.rows n.ref.row=x1;refine Sa ?_;refine BO λw5 af hN=>?_;replace hS:=hS.chg af Ae0;replace hR:=hR.chg af Ae0;have a6:Ae w w5:=a5.step af Ae0;refine Sa ?_;refine LW.load_agg (cs:=[.slice cp s.cols.to.length cc,.int .i64 s.cols.new]) rfl hS rfl rfl rfl ⟨rfl,rfl,trivial⟩ rfl ?_;refine Sa ?_;refine Ax rfl rfl (Fa s.cols ar _ n.ref.col Aez w5 ⟨_,rfl,hc.ext a6⟩) ?_;rintro v w6 ⟨rfl,ag⟩;replace hN:=hN.ext ag;replace hR:=hR.ext ag;have ah:=a6.trans ag;generalize AG s.cols n.ref.col=y1;refine Sa ?_;refine BO λw7 a9 hN=>?_;replace hN:Blk w7 N (Bz ⟨{n with ref:={n.ref with row:=x1,col:=y1}},.slice kp kl kc⟩) 139:=hN;replace hR:=hR.chg a9 Ae0;have ai:Ae w w7:=ah.step a9 Ae0;refine Sa ?_;refine LW.load_agg (cs:=AZ {n.ref with row:=x1,col:=y1}) rfl hN rfl rfl rfl ⟨rfl,rfl,rfl,rfl,rfl,trivial⟩ rfl ?_;refine Sa ?_;refine Ax rfl rfl (Fv {n.ref with row:=x1,col:=y1} (by show n.ref.sheet.length≤9223372036854775807;exact Acr (JI p1) Aez) w7) ?_;rintro v w8 ⟨rfl,aj⟩;replace hN:=hN.ext aj;replace hR:=hR.ext aj;have a1:=ai.trans aj;refine Sa ?_
  cases hb:AY {n.ref with row:=x1,col:=y1} with
  | false=>
   rw[if_neg Ae7];refine Sa ?_;refine AR λa2 a0 hR=>?_;replace hR:Blk a2 R (Bz ⟨BB,.slice none 0 0⟩) 139:=hR;refine Sa ?_
   exact QW.body_c rfl rfl hR rfl rfl rfl ⟨⟨_,rfl,.inr ⟨rfl,rfl⟩⟩,a1.step a0 Ae0⟩
  | true=>
   rw[if_pos rfl];refine Sa ?_;refine AR λa2 a0 hR=>?_;refine Sa ?_;exact QW.body_c rfl rfl hR rfl rfl rfl ⟨⟨_,rfl,.inl ⟨rfl,rfl⟩⟩,a1.step a0 Ae0⟩
 ·have k6:n.kind=6:=Aez
  have hl:BH n=n.to:=by rw[BH,if_neg k5]
  rw[hl] at s3 s4;obtain⟨p1,p2,p3,p4,p5⟩:=Ep hp k6;rcases hP:Bj s.rows n.ref.row n.to.row with ⟨x1,x2,x3⟩;rcases hQ:Bj s.cols n.ref.col n.to.col with ⟨y1,y2,y3⟩;have eg:Ih s n=if x3=true∧y3=true∧AY {n.ref with row:=x1,col:=y1}=true∧AY {n.to with row:=x2,col:=y2}=true then {n with ref:={n.ref with row:=x1,col:=y1},to:={n.to with row:=x2,col:=y2}} else BB:=by
   rw[Ih,if_neg (by rw[hg];simp),if_neg k5,hP,hQ]
  rw[eg];refine CW.no rfl (decide_eq_false k5) ?_;refine Sa ?_;refine LW.load_agg (cs:=[.slice rp s.rows.to.length rc,.int .i64 s.rows.new]) rfl hS rfl rfl rfl ⟨rfl,rfl,trivial⟩ rfl ?_;refine Sa ?_;have aa:=P0 s.rows hm.1 _ n.ref.row n.to.row Aez Aez w3 ⟨_,rfl,hr.ext a3⟩;rw[hP] at aa;refine Ax rfl rfl aa ?_;rintro v w4 ⟨rfl,a4⟩;replace hN:=hN.ext a4;replace hS:=hS.ext a4;replace hR:=hR.ext a4;have a5:=a3.trans a4;have ax:=a4.size;refine Sa ?_;refine LW.load_agg (cs:=[.slice cp s.cols.to.length cc,.int .i64 s.cols.new]) rfl hS rfl rfl rfl ⟨rfl,rfl,trivial⟩ rfl ?_;refine Sa ?_;have ab:=P0 s.cols hm.2 _ n.ref.col n.to.col Aez Aez w4 ⟨_,rfl,hc.ext a5⟩;rw[hQ] at ab;refine Ax rfl rfl ab ?_;rintro v w5 ⟨rfl,ak⟩;replace hN:=hN.ext ak;replace hR:=hR.ext ak;have a6:=a5.trans ak;refine Sa ?_;refine BO λw6 am hN=>?_;replace hR:=hR.chg am Ae0;refine Sa ?_;refine BO λw7 a9 hN=>?_;replace hR:=hR.chg a9 Ae0;refine Sa ?_;refine BO λw8 an hN=>?_;replace hR:=hR.chg an Ae0;refine Sa ?_;refine BO λw9 ao hN=>?_;replace hR:=hR.chg ao Ae0;have ap:Blk w9 N (Bz ⟨{n with ref:={n.ref with row:=x1,col:=y1},to:={n.to with row:=x2,col:=y2}},.slice kp kl kc⟩) 139:=hN;have a1:Ae w w9:=(((a6.step am Ae0).step a9 Ae0).step an Ae0).step ao Ae0;refine Sa ?_
  cases x3 with
  | false=>
   rw[if_neg (λh=>by cases h.1)];refine Sa ?_;refine AR λa2 a0 hR=>?_;replace hR:Blk a2 R (Bz ⟨BB,.slice none 0 0⟩) 139:=hR;refine Sa ?_
   exact QW.body_c rfl rfl hR rfl rfl rfl ⟨⟨_,rfl,.inr ⟨rfl,rfl⟩⟩,a1.step a0 Ae0⟩
  | true=>
  cases y3 with
  | false=>
   rw[if_neg (λh=>by cases h.2.1)];refine Sa ?_;refine AR λa2 a0 hR=>?_;replace hR:Blk a2 R (Bz ⟨BB,.slice none 0 0⟩) 139:=hR;refine Sa ?_
   exact QW.body_c rfl rfl hR rfl rfl rfl ⟨⟨_,rfl,.inr ⟨rfl,rfl⟩⟩,a1.step a0 Ae0⟩
  | true=>
  clear hN;refine Sa ?_;refine LW.load_agg (cs:=AZ {n.ref with row:=x1,col:=y1}) rfl ap rfl rfl rfl ⟨rfl,rfl,rfl,rfl,rfl,trivial⟩ rfl ?_;refine Sa ?_;refine Ax rfl rfl (Fv {n.ref with row:=x1,col:=y1} (by show n.ref.sheet.length≤9223372036854775807;exact Acr (JI p1) Aez) w9) ?_;rintro v ay ⟨rfl,a7⟩;have ac:=ap.ext a7;replace hR:=hR.ext a7;replace a1:=a1.trans a7
  cases b6:AY {n.ref with row:=x1,col:=y1} with
  | false=>
   rw[if_neg (λh=>by cases h.2.2.1)];refine Sa ?_;refine AR λa2 a0 hR=>?_;replace hR:Blk a2 R (Bz ⟨BB,.slice none 0 0⟩) 139:=hR;refine Sa ?_
   exact QW.body_c rfl rfl hR rfl rfl rfl ⟨⟨_,rfl,.inr ⟨rfl,rfl⟩⟩,a1.step a0 Ae0⟩
  | true=>
  refine Sa ?_;refine LW.load_agg (cs:=AZ {n.to with row:=x2,col:=y2}) rfl ac rfl rfl rfl ⟨rfl,rfl,rfl,rfl,rfl,trivial⟩ rfl ?_;refine Sa ?_;refine Ax rfl rfl (Fv {n.to with row:=x2,col:=y2} (by show n.to.sheet.length≤9223372036854775807;exact Acr (JI p2) Aez) ay) ?_;rintro v b7 ⟨rfl,a8⟩;have az:=ac.ext a8;replace hR:=hR.ext a8;replace a1:=a1.trans a8
  cases b8:AY {n.to with row:=x2,col:=y2} with
  | false=>
   rw[if_neg (λh=>by cases h.2.2.2)];refine Sa ?_;refine AR λa2 a0 hR=>?_;replace hR:Blk a2 R (Bz ⟨BB,.slice none 0 0⟩) 139:=hR;refine Sa ?_
   exact QW.body_c rfl rfl hR rfl rfl rfl ⟨⟨_,rfl,.inr ⟨rfl,rfl⟩⟩,a1.step a0 Ae0⟩
  | true=>
   rw[if_pos ⟨rfl,rfl,rfl,rfl⟩];refine Sa ?_;refine AR λa2 a0 hR=>?_;refine Sa ?_;exact QW.body_c rfl rfl hR rfl rfl rfl ⟨⟨_,rfl,.inl ⟨rfl,rfl⟩⟩,a1.step a0 Ae0⟩
def noP(s:List UInt8):Bool:=s.all (λc=>decide (c≠40)&&decide (c≠41))
def Abk(nd:Ah):Prop:=nd.text.length≤10∧nd.ref.sheet.length≤10∧nd.to.sheet.length≤10∧nd.num≤255∧nd.kids.length≤100∧noP nd.text=true∧(nd.ref.sheet=[]∨nd.ref.sheet=[84])
def NP(w0 w:World)(l:List Ah)(outv stv:Value):Prop:=∃nvs:List NV,A3 w w0.heap.size 139 14 outv nvs.length (nvs.flatMap Bz)∧nvs.map NV.node=l∧∀x∈nvs,Bm w x.kv x.node.kids∧∀b∈Ac x.kv,b∉Ac stv
theorem Bm.chg{S:List Nat}{w w':World}{kv stv:Value}{ks:List Int}(h:Bm w kv ks)(hn:∀b∈Ac kv,b∉Ac stv)(hc:Chg S w w')(h2:∀b∈S,b∈Ac stv∨∃l T,Blk w b l T∧T≠3):Bm w' kv ks:=by
 rcases h with h | ⟨b,cap,sp,e,hb⟩
 ·exact .inl h
 ·refine .inr ⟨b,cap,sp,e,hb.chg hc (λhm=>?_)⟩;rcases h2 b hm with h2 | ⟨l,T,h3,h4⟩
  ·exact hn b Af9 h2
  ·exact h4 (h3.inj hb)
theorem NP.chg{S:List Nat}{w0 w w':World}{l:List Ah}{outv stv:Value}(h:NP w0 w l outv stv)(hc:Chg S w w')(h1:∀b∈Ac outv,b∉S)(h2:∀b∈S,b∈Ac stv∨∃l T,Blk w b l T∧T≠3):NP w0 w' l outv stv:=by
 obtain⟨nvs,ho,hm,hk⟩:=h;exact⟨nvs,ho.chg hc h1,hm,λx hx=>⟨(hk x hx).1.chg (hk x hx).2 hc h2,(hk x hx).2⟩⟩
theorem NP.ext{w0 w w':World}{l:List Ah}{outv stv:Value}(h:NP w0 w l outv stv)(hx:Ae w w'):NP w0 w' l outv stv:=h.chg hx Ae7 Ae7
def SV(w0 w:World)(v:Value)(s:List Int):Prop:=A3 w w0.heap.size 3 1 v s.length (Ad s)∨∃p,v=.slice p s.length s.length∧(p=none∧s.length=0∨∃a,p=some a∧∀j u,(Ad s)[j]?=some u→w.cell? (a.add j)=some u)
structure CI(w0 w:World)(l:List Ah)(outv:Value)(X:Nat)(nd:Ah)(kv:Value)(s2:List Int)(stv:Value):Prop where
 ext:Ae w0 w
 np:NP w0 w l outv stv
 blk:Blk w X (Bz ⟨nd,kv⟩) 139
 kids:Bm w kv nd.kids
 apart:∀b∈Ac kv,b∉Ac stv
 sv:SV w0 w stv s2
 go:Bv 0 [] (l++[nd])=some (s2++[(l.length:Int)])
 fine:Abk nd
 le:s2.length≤l.length
theorem Wm(zs:List Int)(v:Value)(w:World)(h:Bs w v zs)(hl:zs.length≤100000):AF prog 98 [v] w (λv' w'=>(∃p c,v'=.slice p zs.length c)∧Bm w' v' zs∧(∀b∈Ac v',w.heap.size≤b)∧Ae w w'):=by
 refine AQ func98 ntmps98 ?_;obtain⟨_,⟨rfl,rfl⟩ | ⟨a,cap,rfl,hc⟩⟩:=h
 ·refine Sa ?_;refine LW.eql_sn rfl rfl rfl rfl ?_;refine Sa ?_;exact QW.body1 rfl rfl ⟨⟨_,_,rfl⟩,.inl ⟨rfl,rfl⟩,by simp[Ac],Chg.refl _ _⟩
 ·refine Sa ?_;refine LW.eql_sn rfl rfl rfl rfl ?_;refine Sa ?_
  (apply LW.buildSlice0;exact rfl;exact rfl;exact rfl;exact rfl;intro B w5 a5 a1 hB)
  refine Sa ?_;refine LW.append_any (lo:=w.heap.size) (xs:=[]) (news:=Ad zs) rfl rfl rfl rfl rfl rfl (⟨rfl,.inr ⟨B,0,[],rfl,hB,by simp,by simp,by omega⟩⟩) AfJ (by rw[AA];show _=_*1;omega) (.inr ⟨a,rfl,λj u hj=>by
   simp only[Ad,AbA] at hj
   cases hg:zs[j]? with
   | none=>rw[hg] at hj;cases hj
   | some y=>
    rw[hg] at hj;obtain rfl:=Aa5 hj;exact Aw a1 (hc j y hg)⟩) (λu hu=>by
   simp only[Ad,Acu] at hu;obtain⟨_,_,rfl⟩:=hu;rfl) (by show(0+_)*9≤_;omega) rfl ?_
  intro v' w6 a3 a0 a2;obtain⟨p',c',rfl⟩:=a0.slice;have a4:Ae w w6:=a1.step a3 AeC;have hm:0+zs.length=zs.length:=Aez
  rw[hm] at a0 a2 ⊢;simp only[Acb] at a0;refine Sa ?_;refine QW.body1 rfl rfl ⟨⟨_,_,rfl⟩,KA a0,λb hb=>?_,a4⟩;rcases a2 b hb with h2 | h2
  ·simp[Ac] at h2;omega
  ·have:=a1.size;omega
set_option maxHeartbeats 1000000 in
theorem VS(l:List Ah)(v:Value)(own:List UInt8)(ss:List BP)(sv:Value)(w:World)(g:Dg w)(hN:Cg w v l)(hs:Lr l)(h:Cp w sv ss)(hss:∀s∈ss,s.Fine):AF prog 69 [v,Am own,sv] w (λv' w'=>(Cg w' v' (BK DZ own ss l)∧∀b∈Ac v',w.heap.size≤b)∧Ae w w'):=by
 obtain⟨p,c,rfl⟩:=hN.slice;have az:=hN.1;refine AQ func69 ntmps69 ?_;refine Sa ?_;refine Ax rfl rfl (QZ l _ w g hN hs) ?_;rintro v w1 ⟨rfl,ap⟩;refine Sa ?_
 cases ht:BV l with
 | false=>
  refine Sa ?_
  exact QW.body1 rfl rfl ⟨⟨by rw[BK,if_neg (by rw[ht];simp)];exact JN _,by simp[Ac]⟩,ap⟩
 | true=>
 have b0:=Gv ht;have aq:=Kc ht;obtain⟨q,qc,rfl⟩:=h.slice;refine Sa ?_;refine CW.loop (ι:=Nat×Option Addr×Nat) (λx w'=>x.1≤l.length∧Ae w w'∧NP w w' ((l.take x.1).map (AK DZ own ss)) (.slice x.2.1 x.1 x.2.2) (.slice none 0 0)) (λx=>[(7,.func (.func 97) ⟨[.agg ⟨[Am own,.slice q ss.length qc]⟩]⟩ ⟨[]⟩),(8,.slice x.2.1 x.1 x.2.2),(18,.slice p l.length c),(19,.int .i64 l.length),(20,.int .i64 (x.1:Int))]) (λx=>l.length - x.1) (0,none,0) ⟨by simp,ap,⟨[],A3.nil _ _ _ _,rfl,by simp⟩⟩ Cu ?_;rintro⟨k,op,oc⟩ w2 ⟨hk,ae,hP⟩;dsimp only at hk hP;show CW _ _ _ _ _ [(7,.func (.func 97) ⟨[.agg ⟨[Am own,.slice q ss.length qc]⟩]⟩ ⟨[]⟩),(8,.slice op k oc),(18,.slice p l.length c),(19,.int .i64 l.length),(20,.int .i64 (k:Int))] _;have b8:=ae.size;refine Sa ?_;refine Av (λh2=>?_) λh2=>?_;rotate_left
 ·have h2:k=l.length:=by simp at h2;omega
  subst h2;obtain⟨nvs,a0,hm,hk⟩:=hP;rw[Acs] at hm;have ar:nvs.length=l.length:=by rw[←List.length_map (f:=NV.node),hm,Acg]
  have b1:Mc w2 w.heap.size (.slice op l.length oc) (l.map (AK DZ own ss)):=⟨nvs,a0,hm,λx hx=>(hk x hx).1⟩;have b2:∀n∈l.map (AK DZ own ss),n.kids.length≤100000:=λn hn=>by
   obtain⟨m,h1,rfl⟩:=Acu.1 hn;have h3:=aq m h1;unfold AK
   split
   ·omega
   ·split
    ·omega
    ·unfold DZ
     split
     ·simp[BB]
     ·split
      ·simp[BB]
      ·show m.kids.length≤_;omega
  refine Sa ?_;exact QW.body1 rfl rfl ⟨⟨by rw[BK,if_pos ht];exact b1.row (by rw[Acg];exact az) b2,λb hb=>(a0.lt hb).1⟩,ae⟩
 have h2:k<l.length:=by simp at h2;omega
 obtain⟨nd,ag⟩:∃nd,l[k]?=some nd:=⟨_,Aak h2⟩;have a7:=Aa9 ag;obtain⟨a,kp,kc,rfl,ah,a8⟩:=hN.at ag;have a1:∀j u,(Bz ⟨nd,.slice kp nd.kids.length kc⟩)[j]?=some u→w2.cell? ((a.add (((k:Nat):Int).toNat*14)).add j)=some u:=λj u hj=>by rw[show((k:Nat):Int).toNat=k by omega];exact Aw ae (a8 j u hj)
 refine Sa ?_;refine Lo ?_;refine LW.load_cells rfl a1 rfl rfl rfl rfl ?_;refine Sa ?_;refine BX λX w3 b9 au hX=>?_;have a9:∀b∈Ac (Value.slice op k oc),b<w2.heap.size:=λb hb=>by
  obtain⟨nvs,ho,_⟩:=hP;exact(ho.lt hb).2
 replace hP:=hP.ext au;have ai:=ae.trans au;have av:=hX;refine Sa ?_;refine AR λw4 aj hX=>?_;replace hX:Blk w4 X (Bz ⟨nd,.slice kp nd.kids.length kc⟩) 139:=hX;replace hP:=hP.chg aj (λb hb=>by have:=a9 b hb;simp;omega) (λb hb=>by
  simp only[Aaw] at hb;subst hb;exact .inr ⟨_,_,av,by decide⟩)
 have a2:Ae w w4:=ai.step aj Ae0;refine Sa ?_;refine Ax rfl rfl (Wm nd.kids _ w4 (ah.ext a2) (by have:=aq nd a7;omega)) ?_;rintro v w5 ⟨⟨kp',kc',rfl⟩,hK,ba,ak⟩;replace hP:=hP.ext ak;replace hX:=hX.ext ak;have al:=a2.trans ak;have bb:=a2.size;have am:=hX;refine Sa ?_;refine BO λw6 af hX=>?_;replace hX:Blk w6 X (Bz ⟨nd,.slice kp' nd.kids.length kc'⟩) 139:=hX;replace hP:=hP.chg af (λb hb=>by have:=a9 b hb;simp;omega) (λb hb=>by
  simp only[Aaw] at hb;subst hb;exact .inr ⟨_,_,am,by decide⟩)
 replace hK:Bm w6 (.slice kp' nd.kids.length kc') nd.kids:=hK.chg (stv:=.slice none 0 0) AeM af (λb hb=>by
  simp only[Aaw] at hb;subst hb;exact .inr ⟨_,_,am,by decide⟩)
 have aa:Ae w w6:=al.step af Ae0;refine Sa ?_;refine LW.call (fs:=[.agg ⟨[Am own,.slice q ss.length qc]⟩]) (cs:=[]) rfl rfl rfl (Y7 own ss _ nd kp' nd.kids.length kc' w6 (h.ext aa) hss (b0 nd a7)) ?_;rintro v w7 ⟨⟨kv,rfl,aw⟩,an⟩;replace hP:=hP.ext an;replace hK:Bm w7 (.slice kp' nd.kids.length kc') nd.kids:=hK.chg (stv:=.slice none 0 0) AeM an Ae7;have ab:=aa.trans an;have ax:Bm w7 kv (AK DZ own ss nd).kids:=by
  rcases aw with ⟨rfl,e⟩ | ⟨rfl,e⟩
  ·rw[e];exact hK
  ·exact .inl ⟨rfl,e⟩
 clear hK aw hX am av af aj;refine Sa ?_;refine Cx λC b3 bc a3 hC=>?_;replace hC:Blk b3 C (Bz ⟨AK DZ own ss nd,kv⟩) 139:=hC;have ac:=ab.trans a3;have b4:=ac.size;have b5:(Bz ⟨AK DZ own ss nd,kv⟩).all (·.oneCell')=true:=by
  simp only[Bz,Ad8,Aea,ax.one];rfl
 obtain⟨nvs,a0,hm,a4⟩:=hP;have ar:nvs.length=k:=by rw[←List.length_map (f:=NV.node),hm,Acg,Ac3];omega
 subst ar;refine Sa ?_;refine LW.append rfl rfl rfl rfl rfl rfl (a0.ext a3) Aez hC rfl b5 rfl AeU rfl ?_;intro v2 ay ao a5 b6;have e1:(nvs.flatMap Bz++Bz ⟨AK DZ own ss nd,kv⟩)=(nvs++[(⟨AK DZ own ss nd,kv⟩:NV)]).flatMap Bz:=Ae7
 have e2:nvs.length+1=(nvs++[(⟨AK DZ own ss nd,kv⟩:NV)]).length:=Ae7
 rw[e1] at a5;obtain⟨p4,c4,rfl⟩:=a5.slice;have a6:Chg (Ac (.slice op nvs.length oc)) w7 ay:=by
  have:=Chg.trans a3 ao
  simpa using this
 have bd:∀b∈Ac (Value.slice op nvs.length oc),∀L T,Blk w7 b L T→T=139:=λb hb L T hL=>A3.type a0 hb hL;have hS:∀b∈Ac (Value.slice op nvs.length oc),b∈Ac (Value.slice none 0 0)∨∃l T,Blk w7 b l T∧T≠3:=λb hb=>by
  obtain⟨_,⟨e,_⟩ | ⟨g,cap,sp,e,hg,_⟩⟩:=a0
  ·rw[e] at hb;simp[Ac] at hb
  ·rw[e] at hb;simp[Ac] at hb;subst hb;exact .inr ⟨_,_,hg,by decide⟩
 have ad:Ae w ay:=ab.step a6 (λb hb=>(a0.lt hb).1);have b7:l.take (nvs.length+1)=l.take nvs.length++[nd]:=by rw[Aco,ag];rfl
 refine Sa ?_;refine QW.again (nvs.length+1,p4,c4) ⟨by show nvs.length+1≤_;omega,ad,?_⟩ ?_ (by show l.length - (nvs.length+1)<l.length - nvs.length;omega)
 ·dsimp only;rw[b7];refine⟨nvs++[⟨AK DZ own ss nd,kv⟩],by rw[←e2];exact a5,by simp[hm],λx hx=>?_⟩;rcases AbB.1 hx with hx | hx
  ·exact⟨(a4 x hx).1.chg (a4 x hx).2 a6 hS,(a4 x hx).2⟩
  ·simp at hx;subst hx;exact⟨ax.chg (stv:=.slice none 0 0) AeM a6 hS,by simp[Ac]⟩
 ·exact Cu
theorem VT(l:List Ah)(v:Value)(own:List UInt8)(ss:List BP)(sv:Value)(w:World)(g:Dg w)(hN:Cg w v l)(hs:Lr l)(h:Cp w sv ss)(hss:∀s∈ss,s.Fine):AF prog 69 [v,Am own,sv] w (λv' w'=>Cg w' v' (BK DZ own ss l)∧Ae w w'):=
 (VS l v own ss sv w g hN hs h hss).mono λ_ _ ⟨⟨h1,_⟩,h2⟩=>⟨h1,h2⟩
set_option maxHeartbeats 4000000 in
theorem UC(l:List Ah)(v:Value)(own:List UInt8)(ss:List BP)(sv:Value)(w:World)(hN:Cg w v l)(hs:Lr l)(hkl:∀n∈l,n.kids.length≤1000000)(h:Cp w sv ss)(hss:∀s∈ss,s.May):AF prog 73 [v,Am own,sv] w (λv' w'=>Cg w' v' (BK Ih own ss l)∧Ae w w'):=by
 obtain⟨p,c,rfl⟩:=hN.slice;have bu:=hN.1;refine AQ func73 ntmps73 ?_;refine Sa ?_;refine Ax rfl rfl (P1 l _ w hN hs hkl) ?_;rintro v w1 ⟨rfl,bj⟩;refine Sa ?_
 cases ht:BV l with
 | false=>
  refine Sa ?_
  exact QW.body1 rfl rfl ⟨by rw[BK,if_neg (by rw[ht];simp)];exact JN _,bj⟩
 | true=>
 have bk:=Gv ht;have bb:=Kc ht;obtain⟨q,qc,rfl⟩:=h.slice;have c8:=h.1;refine Sa ?_;refine CW.loop (ι:=Nat×Option Addr×Nat) (λx w'=>x.1≤l.length∧Ae w w'∧NP w w' ((l.take x.1).map (AK Ih own ss)) (.slice x.2.1 x.1 x.2.2) (.slice none 0 0)) (λx=>[(0,.slice p l.length c),(1,Am own),(2,.slice q ss.length qc),(7,.slice x.2.1 x.1 x.2.2),(8,.int .i64 (x.1:Int))]) (λx=>l.length - x.1) (0,none,0) ⟨by simp,bj,⟨[],A3.nil _ _ _ _,rfl,by simp⟩⟩ Cu ?_;rintro⟨k,op,oc⟩ w2 ⟨hk,b8,hP⟩;dsimp only at hk hP;show CW _ _ _ _ _ [(0,.slice p l.length c),(1,Am own),(2,.slice q ss.length qc),(7,.slice op k oc),(8,.int .i64 (k:Int))] _;have c9:=b8.size;refine Sa ?_;refine Av (λh2=>?_) λh2=>?_;rotate_left
 ·have h2:k=l.length:=by simp at h2;omega
  subst h2;obtain⟨nvs,au,hm,hk⟩:=hP;rw[Acs] at hm;have bl:nvs.length=l.length:=by rw[←List.length_map (f:=NV.node),hm,Acg]
  have bv:Mc w2 w.heap.size (.slice op l.length oc) (l.map (AK Ih own ss)):=⟨nvs,au,hm,λx hx=>(hk x hx).1⟩;have bw:∀n∈l.map (AK Ih own ss),n.kids.length≤100000:=λn hn=>by
   obtain⟨m,h1,rfl⟩:=Acu.1 hn;have h3:=bb m h1;have e:l.map (AK Ih own ss)=l.map (AK DZ own ss):=by
    have:=Sf (own:=own) hss l;rw[BK,BK,if_pos ht,if_pos ht] at this;exact this.symm
   rw[e] at hn;obtain⟨m',bm,e'⟩:=Acu.1 hn;have ca:=bb m' bm;rw[←e'];have:=(HK (own:=own) hss (bk m' bm)).2.2.2;omega
  refine Sa ?_;exact QW.body1 rfl rfl ⟨by rw[BK,if_pos ht];exact bv.row (by rw[Acg];exact bu) bw,b8⟩
 have h2:k<l.length:=by simp at h2;omega
 obtain⟨nd,bc⟩:∃nd,l[k]?=some nd:=⟨_,Aak h2⟩;have av:=Aa9 bc;obtain⟨a,kp,kc,rfl,bd,aw⟩:=hN.at bc;have af:∀j u,(Bz ⟨nd,.slice kp nd.kids.length kc⟩)[j]?=some u→w2.cell? ((a.add (((k:Nat):Int).toNat*14)).add j)=some u:=λj u hj=>by rw[show((k:Nat):Int).toNat=k by omega];exact Aw b8 (aw j u hj)
 have bn:=bk nd av;have cb:=bb nd av;refine Sa ?_;refine Lo ?_;refine LW.load_cells rfl af rfl rfl rfl rfl ?_;refine Sa ?_;refine BX λX w3 cd bo hX=>?_;have ad:∀b∈Ac (Value.slice op k oc),b<w2.heap.size:=λb hb=>by
  obtain⟨nvs,ho,_⟩:=hP;exact(ho.lt hb).2
 replace hP:=hP.ext bo;have be:=b8.trans bo;have bp:=hX;refine Sa ?_;refine AR λw4 bf hX=>?_;replace hX:Blk w4 X (Bz ⟨nd,.slice kp nd.kids.length kc⟩) 139:=hX;replace hP:=hP.chg bf (λb hb=>by have:=ad b hb;simp;omega) (λb hb=>by
  simp only[Aaw] at hb;subst hb;exact .inr ⟨_,_,bp,by decide⟩)
 have ae:Ae w w4:=be.step bf Ae0;have bx:=hX.lt;refine Sa ?_
 (apply LW.buildSlice0;exact rfl;exact rfl;exact rfl;exact rfl;intro B w5 ce b9 hB)
 have bz:=hX.ext b9;refine Sa ?_;refine LW.append_any (lo:=w.heap.size) (xs:=[]) (news:=Ad nd.kids) rfl rfl rfl rfl rfl rfl (⟨rfl,.inr ⟨B,0,[],rfl,hB,by simp,by simp,by have:=ae.size;omega⟩⟩) (by have:=b9.size;have:=ae.size;omega) (by rw[AA];show _=_*1;omega) (by
  have c0:=(bd.ext ae).ext b9;obtain⟨_,⟨e,e2⟩ | ⟨a',cap,e,hc⟩⟩:=c0
  ·simp only[Acj] at e;exact .inl ⟨e.1,by simp[e2]⟩
  ·simp only[Acj] at e;refine .inr ⟨a',e.1,λj u hj=>?_⟩;simp only[Ad,AbA] at hj
   cases hg:nd.kids[j]? with
   | none=>rw[hg] at hj;cases hj
   | some y=>
    rw[hg] at hj;obtain rfl:=Aa5 hj;exact hc j y hg) (λu hu=>by
  simp only[Ad,Acu] at hu;obtain⟨_,_,rfl⟩:=hu;rfl) (by show(0+_)*9≤_;omega) rfl ?_
 intro v' w6 bq a5 br;obtain⟨kp',kc',rfl⟩:=a5.slice;have ag:Ae w4 w6:=b9.step bq AeC;have c1:0+nd.kids.length=nd.kids.length:=Aez
 rw[c1] at a5 br ⊢;simp only[Acb] at a5;have hK:Bm w6 (.slice kp' nd.kids.length kc') nd.kids:=KA a5;replace hX:=hX.ext ag;replace hP:=hP.ext ag;have bg:=ae.trans ag;clear a5 br bq hB bz;have a8:=hX;refine Sa ?_;refine BO λw7 ba hX=>?_;replace hX:Blk w7 X (Bz ⟨nd,.slice kp' nd.kids.length kc'⟩) 139:=hX;replace hP:=hP.chg ba (λb hb=>by have:=ad b hb;simp;omega) (λb hb=>by
  simp only[Aaw] at hb;subst hb;exact .inr ⟨_,_,a8,by decide⟩)
 replace hK:Bm w7 (.slice kp' nd.kids.length kc') nd.kids:=hK.chg (stv:=.slice none 0 0) AeM ba (λb hb=>by
  simp only[Aaw] at hb;subst hb;exact .inr ⟨_,_,a8,by decide⟩)
 have bh:Ae w w7:=bg.step ba Ae0;clear a8 bp ba bf;obtain⟨nm,ax⟩:∃nm,nm=M9 own nd:=⟨_,rfl⟩;refine Sa ?_;refine CW.cut (ι:=Unit) (λ_ w'=>w'=w7) (λ_=>[(0,.slice (some a) l.length c),(1,Am own),(2,.slice q ss.length qc),(7,.slice op k oc),(8,.int .i64 (k:Int)),(9,.pointer (some ⟨X,0,none⟩)),(10,Am nm)]) ?_ ?_
 ·refine Av (λb1=>?_) λb1=>?_
  ·have b1:nd.ref.sheet=[]:=by simpa using b1
   have en:own=nm:=by rw[ax,M9,if_pos b1]
   refine Sa ?_;exact QW.head () rfl (Ai.cons rfl (Ai.cons rfl (Ai.cons rfl (Ai.cons rfl (Ai.cons rfl (Ai.cons rfl (Ai.cons (by rw[←en];rfl) Ai.nil)))))))
  ·have b1:¬nd.ref.sheet=[]:=by simpa using b1
   have en:nd.ref.sheet=nm:=by rw[ax,M9,if_neg b1]
   refine Sa ?_;exact QW.head () rfl (Ai.cons rfl (Ai.cons rfl (Ai.cons rfl (Ai.cons rfl (Ai.cons rfl (Ai.cons rfl (Ai.cons (by rw[←en];rfl) Ai.nil)))))))
 rintro⟨⟩ w7 rfl;show CW _ _ _ _ _ [(0,.slice (some a) l.length c),(1,Am own),(2,.slice q ss.length qc),(7,.slice op k oc),(8,.int .i64 (k:Int)),(9,.pointer (some ⟨X,0,none⟩)),(10,Am nm)] _;refine Su ?_;refine CW.cutB (ι:=Value) (λkv w'=>Ae w w'∧NP w w' ((l.take k).map (AK Ih own ss)) (.slice op k oc) (.slice none 0 0)∧Bm w' kv (AK Ih own ss nd).kids∧Blk w' X (Bz ⟨AK Ih own ss nd,kv⟩) 139) (λ_=>[(0,.slice (some a) l.length c),(1,Am own),(2,.slice q ss.length qc),(7,.slice op k oc),(8,.int .i64 (k:Int)),(9,.pointer (some ⟨X,0,none⟩))]) ?_ ?_
 ·refine CW.loop (ι:=Nat) (λj w'=>j≤ss.length∧Ae w7 w'∧∀i u,i<j→ss[i]?=some u→u.sheet≠nm) (λj=>[(0,.slice (some a) l.length c),(1,Am own),(2,.slice q ss.length qc),(7,.slice op k oc),(8,.int .i64 (k:Int)),(9,.pointer (some ⟨X,0,none⟩)),(10,Am nm),(11,.int .i64 (j:Int))]) (λj=>ss.length - j) 0 ⟨by omega,Chg.refl _ _,λi u h=>by omega⟩ HA ?_;rintro j w8 ⟨hj,a7,ay⟩;have a3:=bh.trans a7;replace hX:=hX.ext a7;replace hP:=hP.ext a7;replace hK:Bm w8 (.slice kp' nd.kids.length kc') nd.kids:=hK.chg (stv:=.slice none 0 0) AeM a7 Ae7;refine Sa ?_;by_cases b2:(j:Int)<(ss.length:Int);rotate_left
  ·refine LW.know (t:=40) (c:=false) rfl (decide_eq_false b2) ?_;have hm:AK Ih own ss nd=nd:=by
    by_cases ah:nd.kind=5∨nd.kind=6
    ·rw[Ym ah,←ax,Hn,Pl (λi s hi hs=>ay i s Aez hs)];rfl
    ·exact V4 Aez Aez
   have a0:=a3;obtain⟨kv,a9⟩:∃kv,kv=Value.slice kp' nd.kids.length kc':=⟨_,rfl⟩;rw[←a9] at hX hK;rw[←hm] at hX hK;clear a9;refine Su ?_;exact QW.head kv ⟨a0,hP,hK,hX⟩ DL
  refine LW.know (t:=40) (c:=true) rfl (decide_eq_true b2) ?_;refine Sa ?_;by_cases b3:nd.kind=5
  ·refine LW.know (t:=44) (c:=true) rfl (decide_eq_true b3) ?_;have ah:nd.kind=5∨nd.kind=6:=.inl b3;obtain⟨s,aa⟩:∃s,ss[j]?=some s:=⟨_,Aak Aez⟩;obtain⟨sa,rp,rc,cp,cc,hq,hr,hc,a2⟩:=h.at aa;subst hq;have ai:=hss s (Aa9 aa);have aj:w8.cell? ((sa.add (((j:Nat):Int).toNat*6)).add 0)=some (Am s.sheet):=by
    rw[show((j:Nat):Int).toNat=j by omega];exact Aw a3 (a2 0 _ rfl)
   have ak:∀w',Ae w w'→∀i u,(KZ s (.slice rp s.rows.to.length rc) (.slice cp s.cols.to.length cc))[i]?=some u→w'.cell? ((sa.add (((j:Nat):Int).toNat*6)).add i)=some u:=λw' hw i u hi=>by
    rw[show((j:Nat):Int).toNat=j by omega];exact Aw hw (a2 i u hi)
   refine Sa ?_;refine Lo ?_;refine Ln ?_;refine Lp aj ?_;refine Sa ?_;refine Av (λb5=>?_) λb5=>?_;rotate_left
   ·have b5:s.sheet≠nm:=by simpa using b5
    refine Sa ?_;refine QW.again (j+1) ⟨by omega,a7,λi u hi hu=>?_⟩ HA Aez;rcases Ac0 i j with h4 | h4
    ·exact ay i u h4 hu
    ·obtain rfl:i=j:=by omega
     rw[aa] at hu;obtain rfl:=Aa5 hu;exact b5
   have b5:s.sheet=nm:=by simpa using b5
   have ab:Hj ss (M9 own nd)=some s:=by
    rw[←ax,Hn,L7 aa b5 ay];exact aa
   have hm:AK Ih own ss nd=Ih s nd:=by rw[Ym ah,ab]
   refine Sa ?_;refine CW.drawHeld (λw'=>Ae w w') (λw' h=>a3.trans h) Ae1 λw9 al=>?_;refine HW.take 1 rfl rfl rfl rfl (λw _=>Y.pure rfl) rfl Ae1 Ae1 Ae1 (λ_ _ _ h=>h) ?_;refine HW.take 2 rfl rfl rfl rfl (λw _=>Y.pure rfl) rfl Ae1 Ae1 Ae1 (λ_ _ _ h=>h) ?_;refine HW.take 3 rfl rfl rfl rfl (λw _=>Y.idx_addr rfl rfl rfl rfl rfl Aez Aez) rfl Ae1 Ae1 Ae1 (λ_ _ _ h=>h) ?_;refine HW.take 4 rfl rfl rfl rfl (λw' hw=>Y.load_cells (cs:=KZ s (.slice rp s.rows.to.length rc) (.slice cp s.cols.to.length cc)) rfl (ak w' hw) rfl rfl rfl) rfl Ae1 Ae1 Ae1 (λ_ _ _ h=>h) ?_;refine HW.one 0 Ae1 rfl rfl (λhS=>?_);replace hX:=hX.ext al;have a6:=a3.trans al;refine Lg ?_;apply LW.nil;refine QW.held a6 ?_;refine HW.one 5 Ae1 rfl rfl (λhS=>?_);refine Ax rfl rfl (Pv s ai nd bn ah kp' nd.kids.length kc' rp cp rc cc w9 (hr.ext a6) (hc.ext a6)) ?_;rintro v az ⟨⟨kv,rfl,b0⟩,ac⟩;replace hX:=hX.ext ac;have a1:=al.trans ac;have a0:=a3.trans a1;replace hP:=hP.ext a1;replace hK:Bm az (.slice kp' nd.kids.length kc') nd.kids:=hK.chg (stv:=.slice none 0 0) AeM a1 Ae7;replace hK:Bm az kv (Ih s nd).kids:=by
    rcases b0 with ⟨rfl,e⟩ | ⟨rfl,e⟩
    ·rw[e];exact hK
    ·exact .inl ⟨rfl,e⟩
   have am:kv.oneCell'=true:=hK.one;apply LW.nil;refine QW.held a0 ?_;refine HW.one 6 Ae1 rfl rfl (λhS=>?_);have a8:=hX;refine LW.store_all rfl rfl (by simp only[Bz,Ad8,Aea,am];rfl) hX rfl rfl rfl ?_;intro an a4 hX;replace hX:Blk an X (Bz ⟨Ih s nd,kv⟩) 139:=hX;replace hP:=hP.chg a4 (λb hb=>by have:=ad b hb;simp;omega) (λb hb=>by
    simp only[Aaw] at hb;subst hb;exact .inr ⟨_,_,a8,by decide⟩)
   replace hK:Bm an kv (Ih s nd).kids:=hK.chg (stv:=.slice none 0 0) AeM a4 (λb hb=>by
    simp only[Aaw] at hb;subst hb;exact .inr ⟨_,_,a8,by decide⟩)
   have a0:Ae w an:=a0.step a4 Ae0;apply LW.nil;refine QW.held a0 ?_;refine HW.done Ae1 ?_;rw[←hm] at hX hK;clear a4 a8 b0;refine Su ?_;exact QW.head kv ⟨a0,hP,hK,hX⟩ DL
  refine LW.know (t:=44) (c:=false) rfl (decide_eq_false b3) ?_;refine Sa ?_;refine Av (λb4=>?_) λb4=>?_;rotate_left
  ·have b4:nd.kind≠6:=by simpa using b4
   have hm:AK Ih own ss nd=nd:=V4 b3 b4;have a0:=a3;obtain⟨kv,a9⟩:∃kv,kv=Value.slice kp' nd.kids.length kc':=⟨_,rfl⟩;rw[←a9] at hX hK;rw[←hm] at hX hK;clear a9;refine Su ?_;exact QW.head kv ⟨a0,hP,hK,hX⟩ DL
  have b4:nd.kind=6:=by simpa using b4
  have ah:nd.kind=5∨nd.kind=6:=.inr b4;obtain⟨s,aa⟩:∃s,ss[j]?=some s:=⟨_,Aak Aez⟩;obtain⟨sa,rp,rc,cp,cc,hq,hr,hc,a2⟩:=h.at aa;subst hq;have ai:=hss s (Aa9 aa);have aj:w8.cell? ((sa.add (((j:Nat):Int).toNat*6)).add 0)=some (Am s.sheet):=by
   rw[show((j:Nat):Int).toNat=j by omega];exact Aw a3 (a2 0 _ rfl)
  have ak:∀w',Ae w w'→∀i u,(KZ s (.slice rp s.rows.to.length rc) (.slice cp s.cols.to.length cc))[i]?=some u→w'.cell? ((sa.add (((j:Nat):Int).toNat*6)).add i)=some u:=λw' hw i u hi=>by
   rw[show((j:Nat):Int).toNat=j by omega];exact Aw hw (a2 i u hi)
  refine Sa ?_;refine Lo ?_;refine Ln ?_;refine Lp aj ?_;refine Sa ?_;refine Av (λb5=>?_) λb5=>?_;rotate_left
  ·have b5:s.sheet≠nm:=by simpa using b5
   refine Sa ?_;refine QW.again (j+1) ⟨by omega,a7,λi u hi hu=>?_⟩ HA Aez;rcases Ac0 i j with h4 | h4
   ·exact ay i u h4 hu
   ·obtain rfl:i=j:=by omega
    rw[aa] at hu;obtain rfl:=Aa5 hu;exact b5
  have b5:s.sheet=nm:=by simpa using b5
  have ab:Hj ss (M9 own nd)=some s:=by
   rw[←ax,Hn,L7 aa b5 ay];exact aa
  have hm:AK Ih own ss nd=Ih s nd:=by rw[Ym ah,ab]
  refine Sa ?_;refine CW.drawHeld (λw'=>Ae w w') (λw' h=>a3.trans h) Ae1 λw9 al=>?_;refine HW.take 1 rfl rfl rfl rfl (λw _=>Y.pure rfl) rfl Ae1 Ae1 Ae1 (λ_ _ _ h=>h) ?_;refine HW.take 2 rfl rfl rfl rfl (λw _=>Y.pure rfl) rfl Ae1 Ae1 Ae1 (λ_ _ _ h=>h) ?_;refine HW.take 3 rfl rfl rfl rfl (λw _=>Y.idx_addr rfl rfl rfl rfl rfl Aez Aez) rfl Ae1 Ae1 Ae1 (λ_ _ _ h=>h) ?_;refine HW.take 4 rfl rfl rfl rfl (λw' hw=>Y.load_cells (cs:=KZ s (.slice rp s.rows.to.length rc) (.slice cp s.cols.to.length cc)) rfl (ak w' hw) rfl rfl rfl) rfl Ae1 Ae1 Ae1 (λ_ _ _ h=>h) ?_;refine HW.one 0 Ae1 rfl rfl (λhS=>?_);replace hX:=hX.ext al;have a6:=a3.trans al;refine Lg ?_;apply LW.nil;refine QW.held a6 ?_;refine HW.one 5 Ae1 rfl rfl (λhS=>?_);refine Ax rfl rfl (Pv s ai nd bn ah kp' nd.kids.length kc' rp cp rc cc w9 (hr.ext a6) (hc.ext a6)) ?_;rintro v az ⟨⟨kv,rfl,b0⟩,ac⟩;replace hX:=hX.ext ac;have a1:=al.trans ac;have a0:=a3.trans a1;replace hP:=hP.ext a1;replace hK:Bm az (.slice kp' nd.kids.length kc') nd.kids:=hK.chg (stv:=.slice none 0 0) AeM a1 Ae7;replace hK:Bm az kv (Ih s nd).kids:=by
   rcases b0 with ⟨rfl,e⟩ | ⟨rfl,e⟩
   ·rw[e];exact hK
   ·exact .inl ⟨rfl,e⟩
  have am:kv.oneCell'=true:=hK.one;apply LW.nil;refine QW.held a0 ?_;refine HW.one 6 Ae1 rfl rfl (λhS=>?_);have a8:=hX;refine LW.store_all rfl rfl (by simp only[Bz,Ad8,Aea,am];rfl) hX rfl rfl rfl ?_;intro an a4 hX;replace hX:Blk an X (Bz ⟨Ih s nd,kv⟩) 139:=hX;replace hP:=hP.chg a4 (λb hb=>by have:=ad b hb;simp;omega) (λb hb=>by
   simp only[Aaw] at hb;subst hb;exact .inr ⟨_,_,a8,by decide⟩)
  replace hK:Bm an kv (Ih s nd).kids:=hK.chg (stv:=.slice none 0 0) AeM a4 (λb hb=>by
   simp only[Aaw] at hb;subst hb;exact .inr ⟨_,_,a8,by decide⟩)
  have a0:Ae w an:=a0.step a4 Ae0;apply LW.nil;refine QW.held a0 ?_;refine HW.done Ae1 ?_;rw[←hm] at hX hK;clear a4 a8 b0;refine Su ?_;exact QW.head kv ⟨a0,hP,hK,hX⟩ DL
 rintro kv w9 ⟨a0,hP,hK,hX⟩;show CW _ _ _ _ _ [(0,.slice (some a) l.length c),(1,Am own),(2,.slice q ss.length qc),(7,.slice op k oc),(8,.int .i64 (k:Int)),(9,.pointer (some ⟨X,0,none⟩))] _;refine Sa ?_;refine Cx λC c2 cf ao hC=>?_;replace hC:Blk c2 C (Bz ⟨AK Ih own ss nd,kv⟩) 139:=hC;have b6:=a0.trans ao;have c3:=b6.size;have c5:(Bz ⟨AK Ih own ss nd,kv⟩).all (·.oneCell')=true:=by
  simp only[Bz,Ad8,Aea,hK.one];rfl
 obtain⟨nvs,au,bs,ap⟩:=hP;have bl:nvs.length=k:=by rw[←List.length_map (f:=NV.node),bs,Acg,Ac3];omega
 subst bl;refine Sa ?_;refine LW.append rfl rfl rfl rfl rfl rfl (au.ext ao) Aez hC rfl c5 rfl AeU rfl ?_;intro v2 bt bi aq c6;have e1:(nvs.flatMap Bz++Bz ⟨AK Ih own ss nd,kv⟩)=(nvs++[(⟨AK Ih own ss nd,kv⟩:NV)]).flatMap Bz:=Ae7
 have e2:nvs.length+1=(nvs++[(⟨AK Ih own ss nd,kv⟩:NV)]).length:=Ae7
 rw[e1] at aq;obtain⟨p4,c4,rfl⟩:=aq.slice;have ar:Chg (Ac (.slice op nvs.length oc)) _ bt:=Chg.trans ao bi;have hS:∀b∈Ac (Value.slice op nvs.length oc),b∈Ac (Value.slice none 0 0)∨∃l T,Blk _ b l T∧T≠3:=λb hb=>by
  obtain⟨_,⟨e,_⟩ | ⟨g,cap,sp,e,hg,_⟩⟩:=au
  ·rw[e] at hb;simp[Ac] at hb
  ·rw[e] at hb;simp[Ac] at hb;subst hb;exact .inr ⟨_,_,hg,by decide⟩
 have b7:Ae w bt:=a0.step ar (λb hb=>(au.lt hb).1);have c7:l.take (nvs.length+1)=l.take nvs.length++[nd]:=by rw[Aco,bc];rfl
 refine Sa ?_;refine QW.again (nvs.length+1,p4,c4) ⟨by show nvs.length+1≤_;omega,b7,?_⟩ ?_ (by show l.length - (nvs.length+1)<l.length - nvs.length;omega)
 ·dsimp only;rw[c7];refine⟨nvs++[⟨AK Ih own ss nd,kv⟩],by rw[←e2];exact aq,by simp[bs],λx hx=>?_⟩;rcases AbB.1 hx with hx | hx
  ·exact⟨(ap x hx).1.chg (ap x hx).2 ar hS,(ap x hx).2⟩
  ·simp at hx;subst hx;exact⟨hK.chg (stv:=.slice none 0 0) AeM ar hS,by simp[Ac]⟩
 ·exact Cu
theorem VM{t:Tr false}(hf:t.Fit)(hn:t.Num):t.text≠[]:=(t.head hf hn).1
theorem Q5(l:List Ah):AH []≠.ok l:=λh=>by
 obtain⟨_,h1,_,t,hf,hn,_,h2⟩:=GA h;rw[h2] at h1;exact VM hf hn (AbX Aft)
theorem Uw{l:List Ah}(hsh:DS l)(hno:J0 l)(hl:l.length≤100000)(ht:l=[]∨BV l=true) :
  (BF l=[]↔l=[])∧(BF l).length≤400000000∧(∀e,AH (BF l)=.error e→l=[]∨300<(BF l).length∨e=6)∧∀m,AH (BF l)=.ok m→l=m:=by
 rcases ht with rfl | ht
 ·have hp:BF []=[]:=LM rfl;rw[hp];exact⟨by simp,by simp,λ_ _=>.inl rfl,λm h=>absurd h (Q5 m)⟩
 ·obtain⟨t,rfl,hf⟩:=Jt ht;have hn:=hno t hf rfl;have a0:=t.flat_len 0;have a1:=t.len_le 0 hf hn (λn hm=>(hsh n hm).1);simp only[cond_false] at a1;have a2:t.flat 0≠[]:=λh=>by
   have:=t.cnt_pos;rw[h] at a0;simp at a0;omega
  rw[FT hf,G9 t hf hn];refine⟨⟨λh=>absurd h (VM hf hn),λh=>absurd h a2⟩,by omega,λe h=>?_,λm h=>?_⟩
  ·split at h
   ·rename_i h3;exact .inr (.inl h3)
   ·split at h
    ·cases h
    ·simp only[Except.error.injEq] at h;exact .inr (.inr h.symm)
  ·split at h
   ·cases h
   ·split at h
    ·simpa using h
    ·cases h
theorem May.fine{s:BP}(h:s.May):s.Fine:=⟨Hq h.1,Hq h.2⟩
theorem Pu{own:List UInt8}{ss:List BP}(hss:∀s∈ss,s.May){l:List Ah}(hsh:DS l)(hno:J0 l)(hl:l.length≤100000)(hk:∀n∈l,n.kids.length≤100000) :
  DS (BK DZ own ss l)∧J0 (BK DZ own ss l)∧(∀n∈BK DZ own ss l,n.kids.length≤100000)∧(BF (BK DZ own ss l)).length≤400000000:=by
 obtain⟨h1,h2,h3,h4⟩:=Sj (own:=own) hss hsh hno 100000 hk;have ht:BK DZ own ss l=[]∨BV (BK DZ own ss l)=true:=by
  by_cases h:BV l=true
  ·obtain⟨t,rfl,hf⟩:=Jt h;obtain⟨e,a0⟩:=JL (own:=own) hss hf;rw[e];exact .inr (Tr.tree _ a0)
  ·exact .inl (by rw[BK,if_neg h])
 exact⟨h1,h2,h3,(Uw h1 h2 Aez ht).2.1⟩
theorem I4{own:List UInt8}{ss:List BP}{s:List UInt8}{l:List Ah}(h1:Ab s 0=61)(h2:s≠[])(h3:Bt s=true)(h4:AH (s.drop 1)=.ok l):B3 own ss s=if 300<(BF (BK DZ own ss l)).length+1 then AaY else 61::BF (BK DZ own ss l):=by
 rw[B3,if_pos ⟨h2,h1,h3⟩,h4];rfl
theorem JK{own:List UInt8}{ss:List BP}{s:List UInt8}(h:s=[]∨Ab s 0≠61∨Bt s=false):B3 own ss s=s:=by
 rw[B3,if_neg];rintro⟨h1,h2,h3⟩;rcases h with h | h | h
 ·exact h1 h
 ·exact h h2
 ·rw[h] at h3;cases h3
theorem Uz(s own:List UInt8)(ss:List BP)(sv:Value)(hs:s.length≤9223372036854775807)(w:World)(g:Dg w)(h:Cp w sv ss)(hss:∀s∈ss,s.May):AF prog 48 [Am s,Am own,sv] w (λv w'=>v=Am (B3 own ss s)∧Ae w w'):=by
 refine AQ func48 ntmps48 ?_;refine Sa ?_;refine Ax rfl rfl (QP s hs w g) ?_;rintro v w1 ⟨hv,hx⟩;rcases hv with ⟨l,nv,rfl,h1,h2,h3,h4,hN⟩ | ⟨rfl,a2⟩
 ·obtain⟨_,f1,f2,f3,f4⟩:=Df h4;have a3:PIs (s.drop 1) l 0:=.inl ⟨h4,rfl⟩;obtain⟨m1,m2,m3,m4⟩:=Pu (own:=own) hss f2 a3.num Aez (λn hn=>by have:=f4 n hn;omega);refine Sa ?_;refine Ax rfl rfl (VT l nv own ss sv w1 (g.ext hx) hN f2.t (h.ext hx) (λs hs=>May.fine (hss s hs))) ?_;rintro v w2 ⟨a4,a5⟩;have a0:=hx.trans a5;refine Sa ?_;refine Ax rfl rfl (OY _ v w2 (g.ext a0) a4 m1 m2) ?_;rintro v w3 ⟨rfl,a6⟩;have a1:=a0.trans a6;rw[I4 h1 h2 h3 h4];refine Sa ?_;refine Av (λq1=>?_) λq1=>?_
  ·have q1:300<(BF (BK DZ own ss l)).length+1:=by simp at q1;omega
   rw[if_pos q1];refine Sa ?_;exact QW.body1 rfl rfl ⟨rfl,a1⟩
  ·have q1:¬300<(BF (BK DZ own ss l)).length+1:=by simp at q1;omega
   rw[if_neg q1];refine Sa ?_;exact QW.body1 rfl rfl ⟨rfl,a1⟩
 ·rw[JK a2];refine Sa ?_;exact QW.body1 rfl rfl ⟨rfl,hx⟩
theorem SK(s own:List UInt8)(ss:List BP)(sv:Value)(hs:s.length≤9223372036854775807)(w:World)(h:Cp w sv ss)(hss:∀s∈ss,s.May):AF prog 51 [Am s,Am own,sv] w (λv w'=>v=Am (B3 own ss s)∧Ae w w'):=by
 refine AQ func51 ntmps51 ?_;refine Sa ?_;refine Ax rfl rfl (Q7 s hs w) ?_;rintro v w1 ⟨hv,hx⟩;rcases hv with ⟨l,nv,rfl,h1,h2,h3,h4,hN⟩ | ⟨rfl,a2⟩
 ·obtain⟨_,f1,f2,f3,f4⟩:=Df h4;have a3:PIs (s.drop 1) l 0:=.inl ⟨h4,rfl⟩;obtain⟨m1,m2,m3,m4⟩:=Pu (own:=own) hss f2 a3.num Aez (λn hn=>by have:=f4 n hn;omega);refine Sa ?_;refine Ax rfl rfl (UC l nv own ss sv w1 hN f2.t (λn hn=>by have:=f4 n hn;omega) (h.ext hx) hss) ?_;rw[←Sf hss l];rintro v w2 ⟨a4,a5⟩;have a1:=hx.trans a5;refine Sa ?_;refine Ax rfl rfl (O0 _ v w2 a4 m1 (λn hn=>by have:=m3 n hn;omega) m2) ?_;rintro v w3 ⟨rfl,a6⟩;have a0:=a1.trans a6;rw[I4 h1 h2 h3 h4];refine Sa ?_;refine Av (λq1=>?_) λq1=>?_
  ·have q1:300<(BF (BK DZ own ss l)).length+1:=by simp at q1;omega
   rw[if_pos q1];refine Sa ?_;exact QW.body1 rfl rfl ⟨rfl,a0⟩
  ·have q1:¬300<(BF (BK DZ own ss l)).length+1:=by simp at q1;omega
   rw[if_neg q1];refine Sa ?_;exact QW.body1 rfl rfl ⟨rfl,a0⟩
 ·rw[JK a2];refine Sa ?_;exact QW.body1 rfl rfl ⟨rfl,hx⟩
def AN(k:Nat)(f:Nat→Int):List Int:=(List.range k).map f
theorem A8(k:Nat)(f:Nat→Int):(AN k f).length=k:=by simp[AN]
theorem D9{k:Nat}{f:Nat→Int}{j:Nat}(h:j<k):(AN k f).getD j 0=f j:=by
 simp[AN,h]
theorem SF(k:Nat)(f:Nat→Int):AN (k+1) f=AN k f++[f k]:=by simp[AN,AcL]
theorem UD{k:Nat}{f g:Nat→Int}{j:Nat}(hg:∀i,i<k→g i=if i=j then g j else f i):(Ad (AN k f)).set j (.int .i64 (g j))=Ad (AN k g):=by
 apply Ack;intro i;rw[AbS];simp only[Ad,AbA,AN,Acg,AdC];by_cases hi:i<k
 ·have:=hg i hi;by_cases hj:j=i
  ·subst hj;simp[hi]
  ·rw[if_neg (λh=>hj h.symm)] at this;simp[hj,hi,this]
 ·by_cases hj:j=i
  ·subst hj;simp[hi]
  ·simp[hj,hi]
def Cs(k:Nat):C7:=⟨AN k λi=>i,k⟩
def R8(a:Nat)(i:Nat):Int:=if i<a then i else i+1
def R9(k a:Nat):C7:=⟨AN k (R8 a),k+1⟩
def PT(a:Nat)(i:Nat):Int:=if i<a then i else if i=a then -1 else i - 1
def Rx(k a:Nat):C7:=⟨AN k (PT a),k - 1⟩
theorem O5(new:Int):∀(l:List Int) (last:Int),(∀j,j<l.length→l.getD j 0=-1∨(last<l.getD j 0∧l.getD j 0<new∧∀i,i<j→l.getD i 0<l.getD j 0))→CP new last l=true
 | [],_,_=>rfl
 | z::r,last,h=>by
  rw[CP];have h0:=h 0 Ae7;simp only[Ad0] at h0;by_cases hz:z=-1
  ·rw[if_pos hz];refine O5 new r last λj hj=>?_;have:=h (j+1) AeT;simp only[Adp] at this;rcases this with h1 | ⟨h1,h2,h3⟩
   ·exact .inl h1
   ·exact .inr ⟨h1,h2,λi hi=>by have:=h3 (i+1) Aez;simpa using this⟩
  ·rw[if_neg hz,if_neg (by rcases h0 with h0 | ⟨h1,h2,_⟩<;>omega)];refine O5 new r z λj hj=>?_;have:=h (j+1) AeT;simp only[Adp] at this;rcases this with h1 | ⟨h1,h2,h3⟩
   ·exact .inl h1
   ·refine .inr ⟨?_,h2,λi hi=>by have:=h3 (i+1) Aez;simpa using this⟩;have:=h3 0 Aez
    simpa using this
theorem Qz{m:C7}(h0:0≤m.new)(h1:m.new≤1048576)(h2:m.to.length≤1048576)(h:∀j,j<m.to.length→m.to.getD j 0=-1∨(0≤m.to.getD j 0∧m.to.getD j 0<m.new∧∀i,i<j→m.to.getD i 0<m.to.getD j 0)):Ij m=true:=by
 rw[Ij,decide_eq_true h0,decide_eq_true h1,decide_eq_true h2,O5]
 ·rfl
 ·intro j hj;rcases h j hj with h | ⟨a,b,c⟩
  ·exact .inl h
  ·exact .inr ⟨by omega,b,c⟩
theorem Gn{k:Nat}(h:k≤1000000):Ij (Cs k)=true:=by
 refine Qz (by simp[Cs]) (by simp only[Cs];omega) (by simp only[Cs,A8];omega) λj hj=>?_;simp only[Cs,A8] at hj ⊢;rw[D9 hj];exact .inr ⟨by omega,by omega,λi hi=>by rw[D9 Aez];omega⟩
theorem ZI{k a:Nat}(h:k≤1000000):Ij (R9 k a)=true:=by
 refine Qz (by simp only[R9];omega) (by simp only[R9];omega) (by simp only[R9,A8];omega) λj hj=>?_;simp only[R9,A8] at hj ⊢;rw[D9 hj];refine .inr ⟨by unfold R8;split<;>omega,by unfold R8;split<;>omega,λi hi=>?_⟩;rw[D9 Aez];unfold R8
 split<;>split<;>omega
theorem Z7{k a:Nat}(h:k≤1000000)(ha:a<k):Ij (Rx k a)=true:=by
 refine Qz (by simp only[Rx];omega) (by simp only[Rx];omega) (by simp only[Rx,A8];omega) λj hj=>?_;simp only[Rx,A8] at hj ⊢;rw[D9 hj];by_cases a0:j=a
 ·left
  unfold PT;rw[if_neg Aez,if_pos a0]
 ·refine .inr ⟨by unfold PT;split<;>(try split)<;>omega,by unfold PT;split<;>(try split)<;>omega,λi hi=>?_⟩;rw[D9 Aez];unfold PT
  (repeat' split)<;>omega
def L8(k a:Nat):C7:=if a≤k then R9 k a else Cs k
def L1(k a:Nat):C7:=if a<k then Rx k a else Cs k
theorem RA{k a:Nat}(h:k≤1000000):Ij (L8 k a)=true:=by
 unfold L8;split
 ·exact ZI h
 ·exact Gn h
theorem Ry{k a:Nat}(h:k≤1000000):Ij (L1 k a)=true:=by
 unfold L1;split
 ·exact Z7 h AeE
 ·exact Gn h
theorem A3.ints{w:World}{lo:Nat}{v:Value}{zs:List Int}{n:Nat}(h:A3 w lo 3 1 v n (Ad zs))(hn:zs.length=n)(hb:zs.length≤100000000):Bs w v zs:=by
 refine⟨by omega,?_⟩;by_cases h0:n=0
 ·have hz:zs=[]:=AbX Aez;subst hz;obtain⟨_,⟨e,e2⟩ | ⟨g,cap,sp,e,hg,_⟩⟩:=h
  ·exact .inl ⟨e,rfl⟩
  ·exact .inr ⟨_,cap,by rw[e,h0];rfl,λi z hz=>by simp at hz⟩
 ·obtain⟨g,cap,sp,rfl,hB,_⟩:=h.get Aez;refine .inr ⟨_,cap,by rw[hn],λi z hz=>hB.getElem _ _ ?_⟩;have hi:i<zs.length:=(Aav.1 hz).1;rw[Abg (by rw[AA];exact hi)];exact HG hz
def AaG(w0 w:World)(v:Value)(m:C7):Prop:=∃tv,v=.agg ⟨[tv,.int .i64 m.new]⟩∧A3 w w0.heap.size 3 1 tv m.to.length (Ad m.to)
theorem FZ(n:Nat)(hn:n≤1000000)(w:World):AF prog 150 [.int .i64 (n:Int)] w (λv w'=>AaG w w' v (Cs n)∧Ae w w'):=by
 refine AQ func150 ntmps150 ?_;refine Sa ?_;refine BX λR w1 ap aa hR=>?_;have ah:=aa.size;have ai:=hR.lt;refine Sa ?_;refine LW.min2 rfl rfl rfl ?_;rw[show(if (1048576:Int)<(n:Int) then(1048576:Int) else(n:Int))=(n:Int) by rw[if_neg Aez]];refine Sa ?_;refine LW.max2 rfl rfl rfl ?_;rw[show(if (0:Int)<(n:Int) then(n:Int) else 0)=(n:Int) by split<;>omega];refine Sa ?_;refine BX λM w2 aq a3 hM=>?_;replace hR:=hR.ext a3;have aj:=a3.size;refine Sa ?_;refine AR λw3 a4 hM=>?_;replace hM:Blk w3 M [.slice none 0 0,.int .i64 (n:Int)] 71:=hM;replace hR:Blk w3 R [.slice none 0 0,.int .i64 0] 71:=hR.chg a4 Ae0;have ab:Ae w w3:=(aa.trans a3).step a4 Ae0;have ak:R≠M:=Aez
 refine Sa ?_;refine CW.loop (ι:=Nat×Option Addr×Nat) (λx w'=>x.1≤n∧Ae w w'∧Blk w' R [.slice none 0 0,.int .i64 0] 71∧Blk w' M [.slice x.2.1 x.1 x.2.2,.int .i64 (n:Int)] 71∧A3 w' w.heap.size 3 1 (.slice x.2.1 x.1 x.2.2) x.1 (Ad (AN x.1 λi=>(i:Int)))) (λx=>[(2,.pointer (some ⟨R,0,none⟩)),(3,.int .i64 (n:Int)),(4,.pointer (some ⟨M,0,none⟩)),(5,.int .i64 (x.1:Int))]) (λx=>n - x.1) (0,none,0) ⟨by simp,ab,hR,hM,A3.nil _ _ _ _⟩ B9 ?_;clear hR hM ab a4 ah aj;rintro⟨i,p,c⟩ w4 ⟨hi,a5,ac,ad,ho⟩;dsimp only at hi ad ho;show CW _ _ _ _ _ [(2,.pointer (some ⟨R,0,none⟩)),(3,.int .i64 (n:Int)),(4,.pointer (some ⟨M,0,none⟩)),(5,.int .i64 (i:Int))] _;have ar:=a5.size;refine Sa ?_;refine Av (λb=>?_) λb=>?_;rotate_left
 ·have b:i=n:=by simp at b;omega
  subst b;refine Sa ?_;refine AR λw5 ae a1=>?_;refine Sa ?_;refine QW.body_c rfl rfl a1 rfl rfl rfl ⟨⟨_,rfl,?_⟩,a5.step ae Ae0⟩;show A3 _ _ _ _ _ (AN i _).length _;rw[A8];exact ho.chg ae (λb hb hm=>absurd (by simp at hm;subst hm;exact A3.type ho hb ac) Ae2)
 have b:i<n:=by simp at b;omega
 refine Sa ?_;refine Cx λB w5 au a0 hB=>?_;replace hB:Blk w5 B [.int .i64 (i:Int)] 3:=hB;have af:=ad.ext a0;have a1:=ac.ext a0;have a2:=ho.ext a0;have av:=a0.size;refine Sa ?_;refine LW.append rfl rfl rfl rfl rfl rfl a2 Aez hB rfl rfl rfl (by show(i+1)*9≤140737488355328;omega) rfl ?_;intro v' w6 a6 a7 aw;obtain⟨p',c',rfl⟩:=a7.slice;have al:=af.chg a6 (λhm=>absurd (A3.type a2 hm af) Ae2);have am:=a1.chg a6 (λhm=>absurd (A3.type a2 hm a1) Ae2);have an:Ae w w6:=(a5.trans a0).step a6 (λb hb=>(a2.lt hb).1);refine Sa ?_;refine BO λw7 a8 a9=>?_;replace a9:Blk w7 M [.slice p' (i+1) c',.int .i64 (n:Int)] 71:=a9;have ao:=am.chg a8 (by simpa using ak);have ag:=a7.chg a8 (λb hb hm=>absurd (by simp at hm;subst hm;exact A3.type a7 hb al) Ae2);have e:Ad (AN (i+1) λi=>(i:Int))=Ad (AN i λi=>(i:Int))++[.int .i64 (i:Int)]:=by rw[SF];simp[Ad]
 rw[←e] at ag;refine Sa ?_;exact QW.again (i+1,p',c') ⟨b,an.step a8 Ae0,ao,a9,ag⟩ B9 (by show n - (i+1)<n - i;omega)
theorem A3.cells1{w:World}{lo e n:Nat}{v:Value}{xs:List Value}(h:A3 w lo e 1 v n xs)(hn:0<n):∃g cap sp,v=.slice (some ⟨g,0,none⟩) n cap∧Blk w g (xs++sp) e∧lo≤g∧∀w' ys,ys.length=xs.length→Blk w' g (ys++sp) e→A3 w' lo e 1 v n ys:=by
 obtain⟨hl,⟨rfl,rfl⟩ | ⟨g,cap,sp,rfl,hB,h1,h2,h3⟩⟩:=h
 ·omega
 ·exact⟨g,cap,sp,rfl,hB,h3,λw' ys hy a0=>⟨by omega,.inr ⟨g,cap,sp,rfl,a0,h1,h2,h3⟩⟩⟩
theorem Aa8{k:Nat}{f:Nat→Int}{sp:List Value}{j:Nat}(h:j<k):(Ad (AN k f)++sp)[j]?=some (.int .i64 (f j)):=by
 rw[Abg (by rw[AA,A8];exact h)];simp[Ad,AN,h]
theorem UI{k:Nat}{f:Nat→Int}{sp:List Value}{j:Nat}(h:j<k):Nat.blt j (Ad (AN k f)++sp).length=true:=by
 rw[Nat.blt_eq,Aax,AA,A8];omega
theorem UJ{k:Nat}{f g:Nat→Int}{sp:List Value}{j:Nat}(h:j<k)(hg:∀i,i<k→g i=if i=j then g j else f i):(Ad (AN k f)++sp).set j (.int .i64 (g j))=Ad (AN k g)++sp:=by
 rw[AcT _ _ (by rw[AA,A8];exact h),UD hg]
theorem QD{k:Nat}{f g:Nat→Int}(h:∀i,i<k→f i=g i):AN k f=AN k g:=AcQ λi hi=>h i Afk
set_option maxHeartbeats 1000000 in
theorem UX(n a:Nat)(hn:n≤1000000)(w:World):AF prog 151 [.int .i64 (n:Int),.int .i64 (a:Int)] w (λv w'=>AaG w w' v (L8 n a)∧Ae w w'):=by
 refine AQ func151 ntmps151 ?_;refine Sa ?_;refine BX λR w1 ap ac hR=>?_;replace hR:Blk w1 R [.slice none 0 0,.int .i64 0] 71:=hR;have aj:=ac.size;have ak:=hR.lt;refine Sa ?_;refine Ax rfl rfl (FZ n hn w1) ?_;rintro v w2 ⟨⟨tv,rfl,ho⟩,a6⟩;replace ho:A3 w2 w1.heap.size 3 1 tv n (Ad (AN n λi=>(i:Int))):=by
  have h:A3 _ _ _ _ _ (AN n _).length _:=ho
  rwa [A8] at h
 replace ho:=ho.low aj;obtain⟨p,c,rfl⟩:=ho.slice;have a2:∀b∈Ac (Value.slice p n c),b<w2.heap.size:=λb hb=>(ho.lt hb).2;replace hR:=hR.ext a6;have aq:=a6.size;refine Sa ?_;refine BX λM w3 ar a7 hM=>?_;replace hR:=hR.ext a7;replace ho:=ho.ext a7;refine Sa ?_;refine AR λw4 a8 hM=>?_;replace hM:Blk w4 M [.slice p n c,.int .i64 (n:Int)] 71:=hM;replace hR:=hR.chg a8 Ae0;replace ho:=ho.chg a8 (λb hb hm=>by have:=a2 b hb;simp at hm;omega);have ad:Ae w w4:=((ac.trans a6).trans a7).step a8 Ae0;have al:R≠M:=Aez
 have au:w.heap.size≤M:=Aez
 refine Sa ?_;refine Av (λb=>?_) λb=>?_
 ·have b:n<a:=by simp at b;omega
  have e:L8 n a=Cs n:=by rw[L8,if_neg Aez]
  rw[e];refine Sa ?_;refine AR λw5 a0 a4=>?_;refine Sa ?_;refine QW.body_c rfl rfl a4 rfl rfl rfl ⟨⟨_,rfl,?_⟩,ad.step a0 Ae0⟩;show A3 _ _ _ _ _ (AN n _).length _;rw[A8];exact ho.chg a0 (λb hb hm=>absurd (by simp at hm;subst hm;exact A3.type ho hb hR) Ae2)
 have b:a≤n:=by simp at b;omega
 have e:L8 n a=R9 n a:=by rw[L8,if_pos b]
 rw[e];clear e;refine Sa ?_;refine BO λw5 a0 a5=>?_;replace a5:Blk w5 M [.slice p n c,.int .i64 ((n:Int)+1)] 71:=a5;have a4:=hR.chg a0 (by simpa using al);have ae:=ho.chg a0 (λb hb hm=>absurd (by simp at hm;subst hm;exact A3.type ho hb hM) Ae2);have af:=ad.step a0 Ae0;clear hR hM ho a2;refine Sa ?_;refine CW.loop (ι:=Nat) (λj w'=>a≤j∧j≤n∧Ae w w'∧Blk w' R [.slice none 0 0,.int .i64 0] 71∧Blk w' M [.slice p n c,.int .i64 ((n:Int)+1)] 71∧A3 w' w.heap.size 3 1 (.slice p n c) n (Ad (AN n λi=>if a≤i∧i<j then(i:Int)+1 else(i:Int)))) (λj=>[(4,.pointer (some ⟨R,0,none⟩)),(5,.pointer (some ⟨M,0,none⟩)),(6,.int .i64 (j:Int))]) (λj=>n - j) (a) ⟨by omega,by omega,af,a4,a5,by rw[QD (g:=λi=>(i:Int)) (λi hi=>if_neg Aez)];exact ae⟩ Bh ?_;clear af a4 a5 ae;rintro j w6 ⟨j0,j1,ag,a9,ah,aa⟩;refine Sa ?_;refine Av (λb1=>?_) λb1=>?_;rotate_left
 ·have b1:j=n:=by simp at b1;omega
  subst b1;refine Sa ?_;refine AR λw7 a1 ab=>?_;refine Sa ?_;refine QW.body_c rfl rfl ab rfl rfl rfl ⟨⟨_,rfl,?_⟩,ag.step a1 Ae0⟩;show A3 _ _ _ _ _ (AN j (R8 a)).length (Ad (AN j (R8 a)));rw[A8,QD (f:=R8 a) (g:=λi=>if a≤i∧i<j then(i:Int)+1 else(i:Int)) (λi hi=>by unfold R8;split<;>(try split)<;>(try split)<;>omega)];exact aa.chg a1 (λb hb hm=>absurd (by simp at hm;subst hm;exact A3.type aa hb a9) Ae2)
 have b1:j<n:=by simp at b1;omega
 obtain⟨g,cap,sp,hv,hB,am,a3⟩:=A3.cells1 aa Aez;simp only[Acj] at hv;obtain⟨rfl,_,rfl⟩:=hv;have hl:(Ad (AN n λi=>if a≤i∧i<j then(i:Int)+1 else(i:Int))++sp)[j]?=some (.int .i64 (j:Int)):=(Aa8 b1).trans (by congr 2;exact if_neg Aez);refine Sa ?_;refine LW.idx_slice (j:=j) rfl rfl rfl rfl rfl Aez Aez Afn rfl ?_;refine LW.load rfl hB hl rfl rfl rfl ?_;refine Sa ?_;refine LW.idx_slice (j:=j) rfl rfl rfl rfl rfl Aez Aez Afn rfl ?_;refine LW.store (i:=j) rfl rfl rfl hB (UI b1) rfl rfl ?_;intro w7 a1 ai;have es:(Ad (AN n λi=>if a≤i∧i<j then(i:Int)+1 else(i:Int))++sp).set j (.int .i64 ((j:Int)+1))=Ad (AN n λi=>if a≤i∧i<j+1 then(i:Int)+1 else(i:Int))++sp:=(congrArg (λz=>(Ad (AN n λi=>if a≤i∧i<j then(i:Int)+1 else(i:Int))++sp).set j (Value.int .i64 z)) ((if_pos (show a≤j∧j<j+1 by omega)).symm)).trans (UJ (g:=λi=>if a≤i∧i<j+1 then(i:Int)+1 else(i:Int)) b1 (λi hi=>by
  try dsimp only
  (repeat' split)<;>omega))
 rw[es] at ai;have an:=a3 w7 _ (by rw[AA,AA,A8,A8]) ai;have ab:=a9.chg a1 (λhm=>by simp at hm;subst hm;exact absurd (a9.inj hB) Ae2);have ao:=ah.chg a1 (λhm=>by simp at hm;subst hm;exact absurd (ah.inj hB) Ae2);refine Sa ?_;exact QW.again (j+1) ⟨by omega,by omega,ag.step a1 (by simpa using am),ab,ao,an⟩ Bh Aez
set_option maxHeartbeats 1000000 in
theorem UW(n a:Nat)(hn:n≤1000000)(w:World):AF prog 152 [.int .i64 (n:Int),.int .i64 (a:Int)] w (λv w'=>AaG w w' v (L1 n a)∧Ae w w'):=by
 refine AQ func152 ntmps152 ?_;refine Sa ?_;refine BX λR w1 az aj hR=>?_;replace hR:Blk w1 R [.slice none 0 0,.int .i64 0] 71:=hR;have ap:=aj.size;have aq:=hR.lt;refine Sa ?_;refine Ax rfl rfl (FZ n hn w1) ?_;rintro v w2 ⟨⟨tv,rfl,ho⟩,ac⟩;replace ho:A3 w2 w1.heap.size 3 1 tv n (Ad (AN n λi=>(i:Int))):=by
  have h:A3 _ _ _ _ _ (AN n _).length _:=ho
  rwa [A8] at h
 replace ho:=ho.low ap;obtain⟨p,c,rfl⟩:=ho.slice;have a7:∀b∈Ac (Value.slice p n c),b<w2.heap.size:=λb hb=>(ho.lt hb).2;replace hR:=hR.ext ac;have b0:=ac.size;refine Sa ?_;refine BX λM w3 b2 ad hM=>?_;replace hR:=hR.ext ad;replace ho:=ho.ext ad;refine Sa ?_;refine AR λw4 ae hM=>?_;replace hM:Blk w4 M [.slice p n c,.int .i64 (n:Int)] 71:=hM;replace hR:=hR.chg ae Ae0;replace ho:=ho.chg ae (λb hb hm=>by have:=a7 b hb;simp at hm;omega);have ak:Ae w w4:=((aj.trans ac).trans ad).step ae Ae0;have ar:R≠M:=Aez
 have b3:w.heap.size≤M:=Aez
 refine Sa ?_;refine Av (λb=>?_) λb=>?_
 ·have b:n≤a:=by simp at b;omega
  have e:L1 n a=Cs n:=by rw[L1,if_neg Aez]
  rw[e];refine Sa ?_;refine AR λw5 a5 a2=>?_;refine Sa ?_;refine QW.body_c rfl rfl a2 rfl rfl rfl ⟨⟨_,rfl,?_⟩,ak.step a5 Ae0⟩;show A3 _ _ _ _ _ (AN n _).length _;rw[A8];exact ho.chg a5 (λb hb hm=>absurd (by simp at hm;subst hm;exact A3.type ho hb hR) Ae2)
 have b:a<n:=by simp at b;omega
 have e:L1 n a=Rx n a:=by rw[L1,if_pos b]
 rw[e];clear e;refine Sa ?_;refine BO λw5 a5 a3=>?_;replace a3:Blk w5 M [.slice p n c,.int .i64 ((n:Int) - 1)] 71:=a3;have a2:=hR.chg a5 (by simpa using ar);have a9:=ho.chg a5 (λb hb hm=>absurd (by simp at hm;subst hm;exact A3.type ho hb hM) Ae2);have aa:=ak.step a5 Ae0;clear hR hM ho a7;obtain⟨g0,cap0,sp0,al,ab,af,a0⟩:=A3.cells1 a9 Aez;simp only[Acj] at al;obtain⟨rfl,_,rfl⟩:=al;refine Sa ?_;refine LW.idx_slice (j:=a) rfl rfl rfl rfl rfl Aez Aez (by show 0+((a:Nat):Int).toNat*1=a;omega) rfl ?_;refine LW.store (i:=a) rfl rfl rfl ab (UI b) rfl rfl ?_;intro au a1 a4;have es0:(Ad (AN n λi=>(i:Int))++sp0).set a (.int .i64 (-1))=Ad (AN n λi=>if i=a then(-1:Int) else(i:Int))++sp0:=(congrArg (λz=>(Ad (AN n λi=>(i:Int))++sp0).set a (Value.int .i64 z)) (if_pos (rfl:a=a)).symm).trans (UJ (f:=λi=>(i:Int)) (g:=λi=>if i=a then(-1:Int) else(i:Int)) b (λi hi=>by
  try dsimp only
  split<;>simp))
 rw[es0] at a4;replace a9:=a0 au _ (by rw[AA,AA,A8,A8]) a4;replace a2:=a2.chg a1 (λhm=>by simp at hm;subst hm;exact absurd (a2.inj ab) Ae2);replace a3:=a3.chg a1 (λhm=>by simp at hm;subst hm;exact absurd (a3.inj ab) Ae2);replace aa:=aa.step a1 (by simpa using af);clear a1 a4 ab a0 es0;refine Sa ?_;refine CW.loop (ι:=Nat) (λj w'=>a+1≤j∧j≤n∧Ae w w'∧Blk w' R [.slice none 0 0,.int .i64 0] 71∧Blk w' M [.slice (some ⟨g0,0,none⟩) n c,.int .i64 ((n:Int) - 1)] 71∧A3 w' w.heap.size 3 1 (.slice (some ⟨g0,0,none⟩) n c) n (Ad (AN n λi=>if i=a then(-1:Int) else if a<i∧i<j then(i:Int) - 1 else(i:Int)))) (λj=>[(4,.pointer (some ⟨R,0,none⟩)),(5,.pointer (some ⟨M,0,none⟩)),(6,.int .i64 (j:Int))]) (λj=>n - j) (a+1) ⟨by omega,by omega,aa,a2,a3,by rw[QD (g:=λi=>if i=a then(-1:Int) else(i:Int)) (λi hi=>by(try dsimp only);split<;>(try split)<;>omega)];exact a9⟩ Bh ?_;clear aa a2 a3 a9;rintro j w6 ⟨j0,j1,am,ag,an,ah⟩;refine Sa ?_;refine Av (λb1=>?_) λb1=>?_;rotate_left
 ·have b1:j=n:=by simp at b1;omega
  subst b1;refine Sa ?_;refine AR λw7 a6 ai=>?_;refine Sa ?_;refine QW.body_c rfl rfl ai rfl rfl rfl ⟨⟨_,rfl,?_⟩,am.step a6 Ae0⟩;show A3 _ _ _ _ _ (AN j (PT a)).length (Ad (AN j (PT a)));rw[A8,QD (f:=PT a) (g:=λi=>if i=a then(-1:Int) else if a<i∧i<j then(i:Int) - 1 else(i:Int)) (λi hi=>by unfold PT;split<;>(try split)<;>(try split)<;>omega)];exact ah.chg a6 (λb hb hm=>absurd (by simp at hm;subst hm;exact A3.type ah hb ag) Ae2)
 have b1:j<n:=by simp at b1;omega
 obtain⟨g,cap,sp,hv,hB,av,a8⟩:=A3.cells1 ah Aez;simp only[Acj] at hv;obtain⟨aw,_,rfl⟩:=hv;obtain rfl:g0=g:=by simpa using aw
 have hl:(Ad (AN n λi=>if i=a then(-1:Int) else if a<i∧i<j then(i:Int) - 1 else(i:Int))++sp)[j]?=some (.int .i64 (j:Int)):=(Aa8 b1).trans (by congr 2;(try dsimp only);rw[if_neg Aez,if_neg Aez]);refine Sa ?_;refine LW.idx_slice (j:=j) rfl rfl rfl rfl rfl Aez Aez Afn rfl ?_;refine LW.load rfl hB hl rfl rfl rfl ?_;refine Sa ?_;refine LW.idx_slice (j:=j) rfl rfl rfl rfl rfl Aez Aez Afn rfl ?_;refine LW.store (i:=j) rfl rfl rfl hB (UI b1) rfl rfl ?_;intro w7 a6 ao;have es:(Ad (AN n λi=>if i=a then(-1:Int) else if a<i∧i<j then(i:Int) - 1 else(i:Int))++sp).set j (.int .i64 ((j:Int) - 1))=Ad (AN n λi=>if i=a then(-1:Int) else if a<i∧i<j+1 then(i:Int) - 1 else(i:Int))++sp:=(congrArg (λz=>(Ad (AN n λi=>if i=a then(-1:Int) else if a<i∧i<j then(i:Int) - 1 else(i:Int))++sp).set j (Value.int .i64 z)) (((if_neg (show ¬j=a by omega)).trans (if_pos (show a<j∧j<j+1 by omega))).symm)).trans (UJ (g:=λi=>if i=a then(-1:Int) else if a<i∧i<j+1 then(i:Int) - 1 else(i:Int)) b1 (λi hi=>by
  try dsimp only
  (repeat' split)<;>omega))
 rw[es] at ao;have ax:=a8 w7 _ (by rw[AA,AA,A8,A8]) ao;have ai:=ag.chg a6 (λhm=>by simp at hm;subst hm;exact absurd (ag.inj hB) Ae2);have ay:=an.chg a6 (λhm=>by simp at hm;subst hm;exact absurd (an.inj hB) Ae2);refine Sa ?_;exact QW.again (j+1) ⟨by omega,by omega,am.step a6 (by simpa using av),ai,ay,ax⟩ Bh Aez
theorem KL{k:Nat}{i:Nat}:AG (Cs k) (i:Int)=i:=by
 by_cases h:i<k
 ·rw[HH (by simp only[Cs,A8];exact h)];simp only[Cs];rw[D9 h]
 ·rw[Kw (by simp only[Cs,A8];omega)];simp only[Cs,A8];omega
theorem YP{k:Nat}:∀j,j<(Cs k).to.length→0≤(Cs k).to.getD j 0:=λj hj=>by
 simp only[Cs,A8] at hj ⊢;rw[D9 hj];omega
theorem Jn{k:Nat}(hk:k≤1000000){lo hi:Int}(h0:0≤lo)(h:lo≤hi):Bj (Cs k) lo hi=(lo,hi,true):=by
 obtain⟨a,rfl⟩:=AcI h0;obtain⟨b,rfl⟩:=AcI (show 0≤hi by omega);obtain⟨h1,_,_,h4⟩:=El (Gn hk);rw[Xs h4 h1 YP Aez,KL,KL]
theorem Yg{s:BP}{a b:Nat}(ha:a≤1000000)(hb:b≤1000000)(hr:s.rows=Cs a)(hc:s.cols=Cs b)(hg:s.gone=false){n:Ah}(hp:Ar n=true)(hk:n.kind=5∨n.kind=6):DZ s n=n:=by
 have a0:Bj s.rows n.ref.row (BH n).row=(n.ref.row,(BH n).row,true):=by
  rw[hr];rcases hk with hk | hk
  ·obtain⟨h1,_⟩:=FU hp hk;obtain⟨b1,b2,b3,b4,_⟩:=Cv h1;rw[BH,if_pos hk];exact Jn ha b3 (AdL _)
  ·obtain⟨h1,_,h3,_⟩:=Ep hp hk;obtain⟨b1,b2,b3,b4,_⟩:=Cv h1;obtain⟨q1,q2,q3⟩:=FF h3;rw[BH,if_neg Aez];exact Jn ha b3 q3
 have a1:Bj s.cols n.ref.col (BH n).col=(n.ref.col,(BH n).col,true):=by
  rw[hc];rcases hk with hk | hk
  ·obtain⟨h1,_⟩:=FU hp hk;obtain⟨b1,b2,b3,b4,_⟩:=Cv h1;rw[BH,if_pos hk];exact Jn hb b1 (AdL _)
  ·obtain⟨h1,_,h3,_⟩:=Ep hp hk;obtain⟨b1,b2,b3,b4,_⟩:=Cv h1;obtain⟨q1,q2,q3⟩:=FF h3;rw[BH,if_neg Aez];exact Jn hb b1 q2
 obtain⟨_,_,s3,s4⟩:n.ref.row≤998∧n.ref.col≤701∧(BH n).row≤998∧(BH n).col≤701:=JX hp hk;have a2:¬Dt s n:=by
  unfold Dt;rw[a0,a1];simp;omega
 rw[DZ,if_neg (by rw[hg];simp),if_neg a2];unfold KX;rw[a0,a1];simp only;by_cases h6:n.kind=6
 ·rw[if_pos h6];have hl:BH n=n.to:=by rw[BH,if_neg Aez]
  rw[hl]
 ·rw[if_neg h6]
def AaF(ss:List BP)(l:List Ah)(own:List UInt8):Prop:=∀n∈l,n.kind=5∨n.kind=6→∀s,Hj ss (M9 own n)=some s→DZ s n=n
theorem Wz{ss:List BP}{l:List Ah}{own:List UInt8}(h:AaF ss l own)(ht:BV l=true):BK DZ own ss l=l:=by
 rw[BK,if_pos ht]
 conv=>rhs;rw[←List.map_id l]
 refine AcQ λn hn=>?_;show AK DZ own ss n=n;by_cases hk:n.kind=5∨n.kind=6
 ·rw[Ym hk]
  cases hf:Hj ss (M9 own n) with
  | none=>rfl
  | some s=>exact h n hn hk s hf
 ·exact V4 Aez Aez
theorem Ue{t:List UInt8}{l:List Ah}(hb:Ab t 0=61)(h0:t≠[])(hm:Bt t=true)(hp:AH (t.drop 1)=.ok l):61::BF l=t∧t.length≤300:=by
 unfold Bt at hm
 split at hm
 ·cases hm
 rename_i hl;rw[if_neg (by rintro(h | h);exact h0 h;omega)] at hm;rw[hp] at hm;simp only[decide_eq_true_eq] at hm;refine⟨?_,by omega⟩;rw[hm]
 cases t with
 | nil=>exact absurd rfl h0
 | cons c r=>
  have:Ab (c::r) 0=(c.toNat:Int):=rfl;rw[this] at hb;have hc:c=61:=by
   apply AdI.1;simp;omega
  rw[hc];rfl
theorem Si{own:List UInt8}{ss:List BP}{t:List UInt8}(hm:Bt t=true)(h:∀l,AH (t.drop 1)=.ok l→AaF ss l own):B3 own ss t=t:=by
 by_cases hb:t≠[]∧Ab t 0=61
 ·cases hp:AH (t.drop 1) with
  | error e=>
   rw[B3,if_pos ⟨hb.1,hb.2,hm⟩,hp]
  | ok l=>
   obtain⟨_,ht,_⟩:=Df hp;obtain⟨h1,h2⟩:=Ue hb.2 hb.1 hm hp;rw[I4 hb.2 hb.1 hm hp,Wz (h l hp) ht];have:t.length=(BF l).length+1:=by rw[←h1];rfl
   rw[if_neg Aez,h1]
 ·exact JK (by
   by_cases h0:t=[]
   ·exact .inl h0
   ·exact .inr (.inl (λh1=>hb ⟨h0,h1⟩)))
end Go.Proofs.YtefaigjfkddelaaGreatDoor
