/-
  Joined by program out of the texts Cell CellM CellF CellP DigA NumP RCell RForm TextP.
-/
import Derived.Test.YtcjjcnecopnpcaaGreatDoorMxF
import Derived.Test.YtcjjcnecopnpcaaGreatDoorMxE
import Derived.Test.YtcjjcnecopnpcaaGreatDoorMxD
namespace Go.Proofs.YtcjjcnecopnpcaaGreatDoor
open Tryz
open Go Go.E
def PW(s:List UInt8):Nat:=if s≠[]∧Aj s 0=45 then 1 else 0
def F1(s:List UInt8):Bool:=decide (∀j,j<s.length→PW s≤j→A6 (Aj s j)=true)
def CZ(s:List UInt8):Option Int:=if F1 s then(match Lib.atoiAll s with
 | .ok n=>some n
 | _=>none) else none
theorem Q3(s:List UInt8)(hs:s.length≤1000000)(w:World)(g:CQ w):AF prog 100 [Ao s] w (λv w'=>(∃z,v=.tuple #[.int .i64 z,.bool (CZ s).isSome]∧∀n,CZ s=some n→z=n)∧Ai w w'):=by
 refine Bj func100 ntmps100 ?_;refine Sa ?_;by_cases h0:s=[]
 ·refine LW.know (t:=10) (c:=false) rfl (by simp[h0]) ?_;refine Sa ?_;have a3:PW s=0:=by simp[PW,h0]
  refine CW.loop (ι:=Nat) (λk w'=>PW s≤k∧(k≤s.length∨s.length≤k)∧k≤s.length+1∧Ai w w'∧∀j,j<k→j<s.length→PW s≤j→A6 (Aj s j)=true) (λk=>[(0,Ao s),(5,.int .i64 (k:Int))]) (λk=>s.length+1 - k) (PW s) ⟨Abi _,by omega,by rw[a3];omega,Chg.refl _ _,λj h1 h2 h3=>by omega⟩ Aen ?_;rintro k w1 ⟨k0,_,k1,hx,a0⟩;refine Sa ?_;refine A8 (λb1=>?_) λb1=>?_
  ·have b1:k<s.length:=by simp at b1;omega
   refine Sa ?_;refine ES (λb2=>?_) λb2=>?_
   ·have b2:Aj s k<48:=by simpa using b2
    refine Sa ?_;refine QW.body2 rfl rfl rfl ⟨⟨0,?_,λn hn=>?_⟩,hx⟩<;>
    ·have:F1 s=false:=by
      simp only[F1,decide_eq_false_iff_not];intro hh;have:=hh k b1 k0;simp[A6] at this;omega
     first | rw[CZ,this];rfl | (rw[CZ,this] at hn;cases hn)
   have b2:¬Aj s k<48:=by simpa using b2
   refine Sa ?_;refine A8 (λb3=>?_) λb3=>?_
   ·have b3:57<Aj s k:=by simpa using b3
    refine Sa ?_;refine QW.body2 rfl rfl rfl ⟨⟨0,?_,λn hn=>?_⟩,hx⟩<;>
    ·have:F1 s=false:=by
      simp only[F1,decide_eq_false_iff_not];intro hh;have:=hh k b1 k0;simp[A6] at this;omega
     first | rw[CZ,this];rfl | (rw[CZ,this] at hn;cases hn)
   have b3:¬57<Aj s k:=by simpa using b3
   refine Sa ?_;refine QW.again (k+1) ⟨by omega,by omega,by omega,hx,λj h1 h2 h3=>?_⟩ LN AdE;by_cases e:j=k
   ·subst e;simp[A6];omega
   ·exact a0 j AdE h2 h3
  have b1:s.length≤k:=by simp at b1;omega
  have hD:F1 s=true:=by
   simp only[F1,decide_eq_true_eq];exact λj h1 h2=>a0 j AdE h1 h2
  refine Sa ?_;refine Ay rfl rfl (HF s hs w1 (g.ext hx)) ?_;rintro v w2 ⟨hv,a2⟩;unfold IW at hv
  cases ha:Lib.atoiAll s with
  | ok n=>
   have hn:CZ s=some n:=by rw[CZ,hD,ha];rfl
   rw[ha] at hv;subst hv;refine Sa ?_;refine LU ?_;refine Sq ?_;refine QL.yields rfl rfl rfl (λw' _=>Y.eql_nil_nil rfl rfl rfl _) ?_;refine Sq ?_;refine QL.nil λw3 a1=>?_;refine Sa ?_
   refine QW.body2 rfl rfl rfl ⟨⟨n,by rw[hn];rfl,λm hm=>by rw[hn] at hm;exact Abm hm⟩,(hx.trans a2).trans a1⟩
  | range=>
   have hn:CZ s=none:=by rw[CZ,hD,ha];rfl
   rw[ha] at hv;obtain⟨z,t,x,rfl⟩:=hv;refine Sa ?_;refine LU ?_;refine Sq ?_;refine QL.yields rfl rfl rfl (λw' _=>Y.eql_nil rfl rfl rfl _) ?_;refine Sq ?_;refine QL.nil λw3 a1=>?_;refine Sa ?_
   refine QW.body2 rfl rfl rfl ⟨⟨z,by rw[hn];rfl,λm hm=>by rw[hn] at hm;cases hm⟩,(hx.trans a2).trans a1⟩
  | _=>
   have hn:CZ s=none:=by rw[CZ,hD,ha];rfl
   rw[ha] at hv;obtain⟨z,t,x,rfl⟩:=hv;refine Sa ?_;refine LU ?_;refine Sq ?_;refine QL.yields rfl rfl rfl (λw' _=>Y.eql_nil rfl rfl rfl _) ?_;refine Sq ?_;refine QL.nil λw3 a1=>?_;refine Sa ?_;refine QW.body2 rfl rfl rfl ⟨⟨z,by rw[hn];rfl,λm hm=>by rw[hn] at hm;cases hm⟩,(hx.trans a2).trans a1⟩
 ·have hl:0<s.length:=Ab8.2 h0;refine LW.know (t:=10) (c:=true) rfl (by simp[h0]) ?_;refine Sa ?_;refine A8 (λh1=>?_) λh1=>?_
  ·have h1:Aj s 0=45:=by simpa using h1
   have a3:PW s=1:=by simp[PW,h0,h1]
   refine Sa ?_;refine CW.loop (ι:=Nat) (λk w'=>PW s≤k∧(k≤s.length∨s.length≤k)∧k≤s.length+1∧Ai w w'∧∀j,j<k→j<s.length→PW s≤j→A6 (Aj s j)=true) (λk=>[(0,Ao s),(5,.int .i64 (k:Int))]) (λk=>s.length+1 - k) (PW s) ⟨Abi _,by omega,by rw[a3];omega,Chg.refl _ _,λj h1 h2 h3=>by omega⟩ Aen ?_;rintro k w1 ⟨k0,_,k1,hx,a0⟩;refine Sa ?_;refine A8 (λb1=>?_) λb1=>?_
   ·have b1:k<s.length:=by simp at b1;omega
    refine Sa ?_;refine ES (λb2=>?_) λb2=>?_
    ·have b2:Aj s k<48:=by simpa using b2
     refine Sa ?_;refine QW.body2 rfl rfl rfl ⟨⟨0,?_,λn hn=>?_⟩,hx⟩<;>
     ·have:F1 s=false:=by
       simp only[F1,decide_eq_false_iff_not];intro hh;have:=hh k b1 k0;simp[A6] at this;omega
      first | rw[CZ,this];rfl | (rw[CZ,this] at hn;cases hn)
    have b2:¬Aj s k<48:=by simpa using b2
    refine Sa ?_;refine A8 (λb3=>?_) λb3=>?_
    ·have b3:57<Aj s k:=by simpa using b3
     refine Sa ?_;refine QW.body2 rfl rfl rfl ⟨⟨0,?_,λn hn=>?_⟩,hx⟩<;>
     ·have:F1 s=false:=by
       simp only[F1,decide_eq_false_iff_not];intro hh;have:=hh k b1 k0;simp[A6] at this;omega
      first | rw[CZ,this];rfl | (rw[CZ,this] at hn;cases hn)
    have b3:¬57<Aj s k:=by simpa using b3
    refine Sa ?_;refine QW.again (k+1) ⟨by omega,by omega,by omega,hx,λj h1 h2 h3=>?_⟩ LN AdE;by_cases e:j=k
    ·subst e;simp[A6];omega
    ·exact a0 j AdE h2 h3
   have b1:s.length≤k:=by simp at b1;omega
   have hD:F1 s=true:=by
    simp only[F1,decide_eq_true_eq];exact λj h1 h2=>a0 j AdE h1 h2
   refine Sa ?_;refine Ay rfl rfl (HF s hs w1 (g.ext hx)) ?_;rintro v w2 ⟨hv,a2⟩;unfold IW at hv
   cases ha:Lib.atoiAll s with
   | ok n=>
    have hn:CZ s=some n:=by rw[CZ,hD,ha];rfl
    rw[ha] at hv;subst hv;refine Sa ?_;refine LU ?_;refine Sq ?_;refine QL.yields rfl rfl rfl (λw' _=>Y.eql_nil_nil rfl rfl rfl _) ?_;refine Sq ?_;refine QL.nil λw3 a1=>?_;refine Sa ?_
    refine QW.body2 rfl rfl rfl ⟨⟨n,by rw[hn];rfl,λm hm=>by rw[hn] at hm;exact Abm hm⟩,(hx.trans a2).trans a1⟩
   | range=>
    have hn:CZ s=none:=by rw[CZ,hD,ha];rfl
    rw[ha] at hv;obtain⟨z,t,x,rfl⟩:=hv;refine Sa ?_;refine LU ?_;refine Sq ?_;refine QL.yields rfl rfl rfl (λw' _=>Y.eql_nil rfl rfl rfl _) ?_;refine Sq ?_;refine QL.nil λw3 a1=>?_;refine Sa ?_
    refine QW.body2 rfl rfl rfl ⟨⟨z,by rw[hn];rfl,λm hm=>by rw[hn] at hm;cases hm⟩,(hx.trans a2).trans a1⟩
   | _=>
    have hn:CZ s=none:=by rw[CZ,hD,ha];rfl
    rw[ha] at hv;obtain⟨z,t,x,rfl⟩:=hv;refine Sa ?_;refine LU ?_;refine Sq ?_;refine QL.yields rfl rfl rfl (λw' _=>Y.eql_nil rfl rfl rfl _) ?_;refine Sq ?_;refine QL.nil λw3 a1=>?_;refine Sa ?_;refine QW.body2 rfl rfl rfl ⟨⟨z,by rw[hn];rfl,λm hm=>by rw[hn] at hm;cases hm⟩,(hx.trans a2).trans a1⟩
  ·have h1:Aj s 0≠45:=by simpa using h1
   have a3:PW s=0:=by simp[PW,h1]
   refine Sa ?_;refine CW.loop (ι:=Nat) (λk w'=>PW s≤k∧(k≤s.length∨s.length≤k)∧k≤s.length+1∧Ai w w'∧∀j,j<k→j<s.length→PW s≤j→A6 (Aj s j)=true) (λk=>[(0,Ao s),(5,.int .i64 (k:Int))]) (λk=>s.length+1 - k) (PW s) ⟨Abi _,by omega,by rw[a3];omega,Chg.refl _ _,λj h1 h2 h3=>by omega⟩ Aen ?_;rintro k w1 ⟨k0,_,k1,hx,a0⟩;refine Sa ?_;refine A8 (λb1=>?_) λb1=>?_
   ·have b1:k<s.length:=by simp at b1;omega
    refine Sa ?_;refine ES (λb2=>?_) λb2=>?_
    ·have b2:Aj s k<48:=by simpa using b2
     refine Sa ?_;refine QW.body2 rfl rfl rfl ⟨⟨0,?_,λn hn=>?_⟩,hx⟩<;>
     ·have:F1 s=false:=by
       simp only[F1,decide_eq_false_iff_not];intro hh;have:=hh k b1 k0;simp[A6] at this;omega
      first | rw[CZ,this];rfl | (rw[CZ,this] at hn;cases hn)
    have b2:¬Aj s k<48:=by simpa using b2
    refine Sa ?_;refine A8 (λb3=>?_) λb3=>?_
    ·have b3:57<Aj s k:=by simpa using b3
     refine Sa ?_;refine QW.body2 rfl rfl rfl ⟨⟨0,?_,λn hn=>?_⟩,hx⟩<;>
     ·have:F1 s=false:=by
       simp only[F1,decide_eq_false_iff_not];intro hh;have:=hh k b1 k0;simp[A6] at this;omega
      first | rw[CZ,this];rfl | (rw[CZ,this] at hn;cases hn)
    have b3:¬57<Aj s k:=by simpa using b3
    refine Sa ?_;refine QW.again (k+1) ⟨by omega,by omega,by omega,hx,λj h1 h2 h3=>?_⟩ LN AdE;by_cases e:j=k
    ·subst e;simp[A6];omega
    ·exact a0 j AdE h2 h3
   have b1:s.length≤k:=by simp at b1;omega
   have hD:F1 s=true:=by
    simp only[F1,decide_eq_true_eq];exact λj h1 h2=>a0 j AdE h1 h2
   refine Sa ?_;refine Ay rfl rfl (HF s hs w1 (g.ext hx)) ?_;rintro v w2 ⟨hv,a2⟩;unfold IW at hv
   cases ha:Lib.atoiAll s with
   | ok n=>
    have hn:CZ s=some n:=by rw[CZ,hD,ha];rfl
    rw[ha] at hv;subst hv;refine Sa ?_;refine LU ?_;refine Sq ?_;refine QL.yields rfl rfl rfl (λw' _=>Y.eql_nil_nil rfl rfl rfl _) ?_;refine Sq ?_;refine QL.nil λw3 a1=>?_;refine Sa ?_
    refine QW.body2 rfl rfl rfl ⟨⟨n,by rw[hn];rfl,λm hm=>by rw[hn] at hm;exact Abm hm⟩,(hx.trans a2).trans a1⟩
   | range=>
    have hn:CZ s=none:=by rw[CZ,hD,ha];rfl
    rw[ha] at hv;obtain⟨z,t,x,rfl⟩:=hv;refine Sa ?_;refine LU ?_;refine Sq ?_;refine QL.yields rfl rfl rfl (λw' _=>Y.eql_nil rfl rfl rfl _) ?_;refine Sq ?_;refine QL.nil λw3 a1=>?_;refine Sa ?_
    refine QW.body2 rfl rfl rfl ⟨⟨z,by rw[hn];rfl,λm hm=>by rw[hn] at hm;cases hm⟩,(hx.trans a2).trans a1⟩
   | _=>
    have hn:CZ s=none:=by rw[CZ,hD,ha];rfl
    rw[ha] at hv;obtain⟨z,t,x,rfl⟩:=hv;refine Sa ?_;refine LU ?_;refine Sq ?_;refine QL.yields rfl rfl rfl (λw' _=>Y.eql_nil rfl rfl rfl _) ?_;refine Sq ?_;refine QL.nil λw3 a1=>?_;refine Sa ?_;refine QW.body2 rfl rfl rfl ⟨⟨z,by rw[hn];rfl,λm hm=>by rw[hn] at hm;cases hm⟩,(hx.trans a2).trans a1⟩
theorem S4{s:List UInt8}{n:Int}(h:Lib.atoiAll s=.ok n):-9223372036854775808≤n∧n≤9223372036854775807:=by
 unfold Lib.atoiAll at h
 split at h
 ·cases h
 ·simp only at h
  split at h
  ·cases h
  ·cases h
  ·split at h
   ·cases h
   ·split at h
    ·cases h
    ·simp only[Lib.NumEnd.ok.injEq] at h;subst h
     split<;>omega
theorem Tt{s:List UInt8}{n:Int}(h:CZ s=some n):-9223372036854775808≤n∧n≤9223372036854775807:=by
 unfold CZ at h
 split at h
 ·split at h
  ·rename_i m e;obtain rfl:=Abm h;exact S4 e
  ·cases h
 ·cases h
noncomputable def BN(s:List UInt8):Bool:=
 if 300<s.length then false else if s=[]∨Aj s 0=39 then true else if Aj s 0=61 then(match AU (s.drop 1) with
  | .error _=>false
  | .ok l=>decide (BO l=s.drop 1))
 else match CZ s with
  | some n=>decide (Lib.itoa n=s)
  | none=>false
theorem Q0(s:List UInt8)(hs:s.length≤9223372036854775807)(w:World)(g:CQ w):AF prog 69 [Ao s] w (λv w'=>v=.bool (BN s)∧Ai w w'):=by
 refine Bj func69 ntmps69 ?_;refine Sa ?_;refine A8 (λh1=>?_) λh1=>?_
 ·have h1:300<s.length:=by simp at h1;omega
  refine Sa ?_;exact QW.body1 rfl rfl ⟨by rw[BN,if_pos h1],Chg.refl _ _⟩
 have h1:s.length≤300:=by simp at h1;omega
 have n1:¬300<s.length:=AdE
 refine Sa ?_;by_cases h2:s=[]
 ·refine LW.know (t:=14) (c:=true) rfl (by simp[h2]) ?_;refine Sa ?_;exact QW.body1 rfl rfl ⟨by rw[BN,if_neg n1,if_pos (.inl h2)],Chg.refl _ _⟩
 have hl:0<s.length:=Ab8.2 h2;refine LW.know (t:=14) (c:=false) rfl (by simp[h2]) ?_;refine Sa ?_;refine A8 (λh3=>?_) λh3=>?_
 ·have h3:Aj s 0=39:=by simpa using h3
  refine Sa ?_;exact QW.body1 rfl rfl ⟨by rw[BN,if_neg n1,if_pos (.inr h3)],Chg.refl _ _⟩
 have h3:Aj s 0≠39:=by simpa using h3
 have n3:¬(s=[]∨Aj s 0=39):=by simp[h2,h3]
 refine Sa ?_;refine A8 (λh4=>?_) λh4=>?_
 ·have h4:Aj s 0=61:=by simpa using h4
  have ec:cut s (1:Int).toNat ((s.length:Nat):Int).toNat=s.drop 1:=Gv s 1;have a4:(s.drop 1).length≤300:=AdG
  refine Sz ?_;refine Ay rfl rfl (Oa (cut s (1:Int).toNat ((s.length:Nat):Int).toNat) (by rw[ec];omega) w g) ?_;rintro v w1 ⟨hv,hx⟩;obtain⟨l,e,sv,rfl,hN,hp⟩:=hv.both;rw[ec] at hp;obtain⟨a1,_⟩:=hp.facts;refine Sa ?_;refine LU ?_;refine Sq ?_;by_cases h5:e=0
  ·have a2:AU (s.drop 1)=.ok l:=by
    rcases hp with ⟨h,_⟩ | ⟨_,_,h⟩
    ·exact h
    ·omega
   refine QL.know (t:=31) (c:=true) rfl (by simp[h5]) ?_;refine Sq ?_;refine QL.call0 (v:=Ao (BO l)) rfl rfl (λw' hw=>Ob l sv w' (g.ext (hx.trans hw)) (hN.ext hw) a1 hp.num) ?_;refine Sqz ?_;refine QL.nil λw2 a0=>?_;refine Sa ?_;exact QW.body1 rfl rfl ⟨by rw[BN,if_neg n1,if_neg n3,if_pos h4,a2,ec],hx.trans a0⟩
  ·have a3:AU (s.drop 1)=.error e:=by
    rcases hp with ⟨_,h⟩ | ⟨h,_,_⟩
    ·exact absurd h h5
    ·exact h
   refine QL.know (t:=31) (c:=false) rfl (by simp[h5]) ?_;refine Sqz ?_;refine QL.nil λw2 a0=>?_;refine Sa ?_;exact QW.body1 rfl rfl ⟨by rw[BN,if_neg n1,if_neg n3,if_pos h4,a3],hx.trans a0⟩
 have h4:Aj s 0≠61:=by simpa using h4
 refine Sa ?_;refine Ay rfl rfl (Q3 s AdE w g) ?_;rintro v w1 ⟨⟨z,rfl,hz⟩,hx⟩
 cases hn:CZ s with
 | some n=>
  obtain rfl:=hz n hn;obtain⟨b0,b1⟩:=Tt hn;refine Sa ?_;refine Ay rfl rfl (Mj z b0 b1 w1 (g.ext hx)) ?_;rintro v w2 ⟨rfl,a0⟩;refine Sa ?_
  exact QW.body1 rfl rfl ⟨by rw[BN,if_neg n1,if_neg n3,if_neg h4,hn],hx.trans a0⟩
 | none=>
  refine Sa ?_;exact QW.body1 rfl rfl ⟨by rw[BN,if_neg n1,if_neg n3,if_neg h4,hn],hx⟩
def Aav(s:List UInt8)(v:Value)(w:World):Prop:=
 (∃l sv,v=.tuple #[sv,.bool true]∧Aj s 0=61∧s≠[]∧BN s=true∧AU (s.drop 1)=.ok l∧CS w sv l)∨(v=.tuple #[.slice none 0 0,.bool false]∧(s=[]∨Aj s 0≠61∨BN s=false))
theorem PY(s:List UInt8)(hs:s.length≤9223372036854775807)(w:World)(g:CQ w):AF prog 125 [Ao s] w (λv w'=>Aav s v w'∧Ai w w'):=by
 refine Bj func125 ntmps125 ?_;refine Sa ?_;by_cases h2:s=[]
 ·refine LW.know (t:=8) (c:=true) rfl (by simp[h2]) ?_;refine Sa ?_;exact QW.body2 rfl rfl rfl ⟨.inr ⟨rfl,.inl h2⟩,Chg.refl _ _⟩
 have hl:0<s.length:=Ab8.2 h2;refine LW.know (t:=8) (c:=false) rfl (by simp[h2]) ?_;refine Sa ?_;by_cases h3:Aj s 0=61;rotate_left
 ·refine LW.know (t:=13) (c:=true) rfl (by simp[h3]) ?_;refine Sa ?_;exact QW.body2 rfl rfl rfl ⟨.inr ⟨rfl,.inr (.inl h3)⟩,Chg.refl _ _⟩
 refine LW.know (t:=13) (c:=false) rfl (by simp[h3]) ?_;refine Sa ?_;refine Ay rfl rfl (Q0 s hs w g) ?_;rintro v w1 ⟨rfl,hx⟩;refine Sa ?_;refine A8 (λh4=>?_) λh4=>?_
 ·have h4:BN s=false:=by simpa using h4
  refine Sa ?_;exact QW.body2 rfl rfl rfl ⟨.inr ⟨rfl,.inr (.inr h4)⟩,hx⟩
 have h4:BN s=true:=by simpa using h4
 have ec:cut s (1:Int).toNat ((s.length:Nat):Int).toNat=s.drop 1:=Gv s 1;have a2:(s.drop 1).length≤s.length:=AdM
 refine Sz ?_;refine Ay rfl rfl (Oa (cut s (1:Int).toNat ((s.length:Nat):Int).toNat) (by rw[ec];omega) w1 (g.ext hx)) ?_;rintro v w2 ⟨hv,a0⟩;obtain⟨l,e,sv,rfl,hN,hp⟩:=hv.both;rw[ec] at hp;have a1:AU (s.drop 1)=.ok l:=by
  rcases hp with ⟨h,_⟩ | ⟨h,_,_⟩
  ·exact h
  ·exfalso;have:BN s=false:=by
    unfold BN
    split
    ·rfl
    ·rw[if_neg (by rintro(hh | hh);exact h2 hh;omega)];rw[h]
   rw[this] at h4;cases h4
 refine Sa ?_;exact QW.body2 rfl rfl rfl ⟨.inl ⟨l,sv,rfl,h3,h2,h4,a1,hN⟩,hx.trans a0⟩
theorem Ux:∀(r:List UInt8) (x:Int),0≤x→(∀c∈r,A6 (c.toNat:Int)=true)→x≤Cq x r
 | [],x,_,_=>by simp[Cq]
 | c::r,x,hx,hd=>by
  have hc:=hd c AdM;simp only[A6,AaY,decide_eq_true_eq] at hc;have ih:=Ux r (10*x+((c.toNat:Int) - 48)) AdE (λd h=>hd d (by simp[h]));have e:Cq x (c::r)=Cq (10*x+((c.toNat:Int) - 48)) r:=rfl;rw[e];omega
theorem UH:∀(l:List UInt8) (acc:Nat),(∀c∈l,A6 (c.toNat:Int)=true)→Cq (acc:Int) l≤9223372036854775808→Lib.parseUint10 acc l=.ok (Cq (acc:Int) l).toNat
 | [],acc,_,_=>by simp[Lib.parseUint10,Cq]
 | c::r,acc,hd,hb=>by
  have hc:=hd c AdM;simp only[A6,AaY,decide_eq_true_eq] at hc;have hdr:∀d∈r,A6 (d.toNat:Int)=true:=λd h=>hd d (by simp[h]);have e:Cq (acc:Int) (c::r)=Cq (((acc*10+(c.toNat - 48):Nat)):Int) r:=by
   have e1:Cq (acc:Int) (c::r)=Cq (10*(acc:Int)+((c.toNat:Int) - 48)) r:=rfl;rw[e1]
   congr 1
   omega
  rw[e] at hb ⊢;have a0:=Ux r (((acc*10+(c.toNat - 48):Nat)):Int) AdE hdr;rw[Lib.parseUint10,if_pos AdE,if_neg AdE,if_neg AdE];exact UH r _ hdr hb
theorem X4{u:Nat}(h:u≤9223372036854775808):Lib.parseMag (Lib.decDigits u)=.ok u:=by
 obtain⟨d1,d2,d3,_⟩:=Ft u u (Abi _);rw[Lib.parseMag,if_neg d2,UH _ 0 d1 (by rw[show((0:Nat):Int)=0 from rfl,d3];omega),show((0:Nat):Int)=0 from rfl,d3];simp
theorem K6{l:List UInt8}(h:∀c∈l,A6 (c.toNat:Int)=true){j:Nat}(hj:j<l.length):A6 (Aj l j)=true:=by
 rw[DW hj];exact h _ (AbL hj)
theorem IB{n:Int}(h0:-9223372036854775808≤n)(h1:n≤9223372036854775807):CZ (Lib.itoa n)=some n∧Lib.itoa n≠[]∧(Aj (Lib.itoa n) 0=45∨48≤Aj (Lib.itoa n) 0∧Aj (Lib.itoa n) 0≤57):=by
 by_cases hn:0≤n
 ·obtain⟨d1,d2,d3,_⟩:=Ft n.toNat n.toNat (Abi _);rw[Gz hn];have hl:=Ab8.2 d2;have hb:=K6 d1 hl;have a0:=hb;simp only[A6,AaY,decide_eq_true_eq] at a0;have hD:F1 (Lib.decDigits n.toNat)=true:=by
   simp only[F1,decide_eq_true_eq];exact λj hj _=>K6 d1 hj
  refine⟨?_,d2,.inr a0⟩;have hm:=X4 (u:=n.toNat) AdE;have ha:Lib.atoiAll (Lib.decDigits n.toNat)=.ok n:=by
   cases hd:Lib.decDigits n.toNat with
   | nil=>exact absurd hd d2
   | cons c r=>
    rw[hd] at hm a0;have hc:Aj (c::r) 0=(c.toNat:Int):=rfl;rw[hc] at a0;simp only[Lib.atoiAll];rw[if_neg AdE,hm];have a1:¬c.toNat=45:=AdE
    simp only[a1,not_false_eq_true,true_and,false_and,if_false];rw[if_neg AdE]
    congr 1
    omega
  rw[CZ,hD,ha];rfl
 ·have e:Lib.itoa n=45::Lib.decDigits (-n).toNat:=by
   unfold Lib.itoa;rw[if_pos AdE,show n.natAbs=(-n).toNat by omega]
  obtain⟨d1,d2,d3,_⟩:=Ft (-n).toNat (-n).toNat (Abi _);have hb:Aj (45::Lib.decDigits (-n).toNat) 0=45:=rfl;have a2:PW (45::Lib.decDigits (-n).toNat)=1:=by unfold PW;rw[hb];simp
  have hD:F1 (45::Lib.decDigits (-n).toNat)=true:=by
   simp only[F1,decide_eq_true_eq];intro j hj h1;rw[a2] at h1
   match j,h1 with
   | j+1,_=>exact K6 d1 (j:=j) Ael
  have hm:=X4 (u:=(-n).toNat) AdE;have ha:Lib.atoiAll (45::Lib.decDigits (-n).toNat)=.ok n:=by
   simp only[Lib.atoiAll];rw[if_pos AdH,hm];simp only;rw[if_neg AdM,if_neg (by intro h;omega),if_pos AdH]
   congr 1
   omega
  rw[e];refine⟨?_,by simp,.inl hb⟩;rw[CZ,hD,ha];rfl
theorem Sn(m:Nat)(h0:1≤m)(h1:m≤9223372036854775808)(w:World):AF prog 24 [.int .i64 (-(m:Int))] w (λv w'=>v=Ao (45::Lib.decDigits m)∧Ai w w'):=by
 have a1:(Lib.decDigits m).length≤21:=by
  have:=Lib.itoa_length_le (-(m:Int)) AdE AdE;unfold Lib.itoa at this;rw[if_pos AdE,show(-(m:Int)).natAbs=m by omega] at this;simp at this;omega
 refine Bj func24 ntmps24 ?_;refine Sa ?_;refine LW.conv (z:=18446744073709551616 - (m:Int)) rfl rfl rfl rfl rfl (by simp[IntKind.wrap,IntKind.bits,IntKind.signed];omega) rfl ?_;refine Sa ?_;refine CW.yes rfl (decide_eq_true (show -(m:Int)<0 by omega)) ?_;refine Sa ?_;refine LW.neg (z:=(m:Int)) rfl (by simp[IntKind.wrap,IntKind.bits,IntKind.signed];omega) rfl ?_;refine Sa ?_;refine CW.loop (ι:=Nat×List UInt8) (λi w'=>i.1≤m∧Ai w w'∧Lib.decDigits m=Lib.decDigits i.1++i.2) (λi=>[(0,.int .i64 (-(m:Int))),(3,.int .u64 (i.1:Int)),(4,Ao i.2)]) (λi=>i.1) (m,[]) ⟨by simp,Chg.refl _ _,by simp⟩ CF ?_;rintro⟨u,acc⟩ w1 ⟨hu,hx,hd⟩;simp only at hu hd;have a2:acc.length≤21:=by
  have:=congrArg List.length hd;rw[Aaq] at this;omega
 refine Sa ?_;refine A8 (λh2=>?_) λh2=>?_
 ·have h2:10≤u:=by simp at h2;omega
  refine Sa ?_;refine Dt λb w2 hb a0 hB=>?_;replace hB:Blk w2 b [.int .u8 (48+(u:Int) % 10)] 5:=hB;replace hx:=hx.trans a0;refine Sa ?_;refine QW.again (u / 10,[ch (48+(u:Int) % 10)]++acc) ⟨?_,hx,?_⟩ CF ?_
  ·simp only;omega
  ·simp only;rw[hd,Jd h2];simp
  ·simp only;omega
 ·have h2:u<10:=by simp at h2;omega
  refine Sa ?_;refine Dt λb w2 hb a0 hB=>?_;replace hB:Blk w2 b [.int .u8 (48+(u:Int))] 5:=hB;replace hx:=hx.trans a0;refine Sa ?_;refine CW.yes rfl (decide_eq_true (show -(m:Int)<0 by omega)) ?_;refine Sa ?_;refine QW.body1 rfl rfl ⟨?_,hx⟩;rw[hd,Hz h2];rfl
theorem Xr(m:Nat)(h0:1≤m):Lib.itoa (-(m:Int))=45::Lib.decDigits m:=by
 unfold Lib.itoa;rw[if_pos AdE,show(-(m:Int)).natAbs=m by omega]
theorem GI(n:Int)(h0:-9223372036854775808≤n)(h1:n≤9223372036854775807)(w:World):AF prog 24 [.int .i64 n] w (λv w'=>v=Ao (Lib.itoa n)∧Ai w w'):=by
 by_cases hn:0≤n
 ·exact So n hn h1 w
 ·obtain⟨m,rfl⟩:∃m:Nat,n=-(m:Int):=⟨n.natAbs,by omega⟩;rw[Xr m AdE];exact Sn m AdE AdE w
def Tr.fitB:{b:Bool}→Tr b→Bool
 | _,.leaf n=>decide (1≤n.kind)&&decide (n.kind≤6)&&decide (n.kids=[])&&AB n
 | _,.neg a=>a.fitB
 | _,.two k a b=>decide (9≤k)&&decide (k≤19)&&a.fitB&&b.fitB
 | _,.call x ks=>CP x&&ks.fitB
 | _,.nil=>true
 | _,.snoc ks a=>ks.fitB&&a.fitB
theorem Tr.fit_of:∀{b:Bool} (t:Tr b),t.fitB=true→t.Fit
 | _,.leaf n,h=>by
  simp only[Tr.fitB,AaY,decide_eq_true_eq] at h
  exact⟨h.1.1.1,h.1.1.2,h.1.2,h.2⟩
 | _,.neg a,h=>Tr.fit_of a h
 | _,.two k a b,h=>by
  simp only[Tr.fitB,AaY,decide_eq_true_eq] at h
  exact⟨h.1.1.1,h.1.1.2,Tr.fit_of a h.1.2,Tr.fit_of b h.2⟩
 | _,.call x ks,h=>by
  simp only[Tr.fitB,AaY] at h
  exact⟨h.1,Tr.fit_of ks h.2⟩
 | _,.nil,_=>trivial
 | _,.snoc ks a,h=>by
  simp only[Tr.fitB,AaY] at h;exact⟨Tr.fit_of ks h.1,Tr.fit_of a h.2⟩
def Tr.numB{b:Bool}(t:Tr b):Bool:=t.toks.all λk=>decide (k.num≤9223372036854775807)
theorem Tr.num_of'{b:Bool}{t:Tr b}(h:t.numB=true):t.Num:=λk hk=>by
 have:=Ac1.1 h k hk
 simpa using this
def Tr.okB(t:Tr false):Bool:=t.fitB&&t.numB&&decide (t.text.length<300)&&decide (t.need≤12)
theorem Se{t:Tr false}(hf:t.Fit)(hn:t.Num)(hl:t.text.length<300)(hd:t.need≤12):BN (61::t.text)=true:=by
 have hp:AU t.text=.ok (t.flat 0):=by rw[FW t hf hn,if_neg AdE,if_pos hd]
 rw[BN,if_neg AdG,if_neg (by simp[Aj]),if_pos (by simp[Aj])];show(match AU t.text with | .error _=>false | .ok l=>decide (BO l=t.text))=true;rw[hp];simp only;rw[G9 hf];simp
theorem YX{t:Tr false}(h:t.okB=true):BN (61::t.text)=true:=by
 simp only[Tr.okB,AaY,decide_eq_true_eq] at h;exact Se (t.fit_of h.1.1.1) (Tr.num_of' h.1.1.2) h.1.2 h.2
theorem MN(n:Int)(b0:-9223372036854775808≤n)(b1:n≤9223372036854775807):BN (Lib.itoa n)=true:=by
 obtain⟨c1,c2,c3⟩:=IB b0 b1;have a0:=Lib.itoa_length_le n b0 b1;have n39:¬(Lib.itoa n=[]∨Aj (Lib.itoa n) 0=39):=by
  rintro(h | h)
  ·exact c2 h
  ·omega
 rw[BN,if_neg AdE,if_neg n39,if_neg AdE,c1];simp
end Go.Proofs.YtcjjcnecopnpcaaGreatDoor
