/-
  Joined by program out of the texts Cell CellM CellF CellP DigA NumP RCell RForm.
-/
import Derived.Test.YtefaigjfkddelaaGreatDoorPnF
import Derived.Test.YtefaigjfkddelaaGreatDoorPnE
import Derived.Test.YtefaigjfkddelaaGreatDoorPnD
namespace Go.Proofs.YtefaigjfkddelaaGreatDoor
open Tryz
open Go Go.E
def Nm(s:List UInt8):Nat:=if s≠[]∧Ab s 0=45 then 1 else 0
def F2(s:List UInt8):Bool:=decide (∀j,j<s.length→Nm s≤j→Aq (Ab s j)=true)
def Cn(s:List UInt8):Option Int:=if F2 s then(match Lib.atoiAll s with
 | .ok n=>some n
 | _=>none) else none
theorem Rs(s:List UInt8)(hs:s.length≤1000000)(w:World)(g:Dg w):AF prog 87 [Am s] w (λv w'=>(∃z,v=.tuple #[.int .i64 z,.bool (Cn s).isSome]∧∀n,Cn s=some n→z=n)∧Ae w w'):=by
 refine AQ func87 ntmps87 ?_;refine Sa ?_;by_cases h0:s=[]
 ·refine LW.know (t:=10) (c:=false) rfl (by simp[h0]) ?_;refine Sa ?_;have a3:Nm s=0:=by simp[Nm,h0]
  refine CW.loop (ι:=Nat) (λk w'=>Nm s≤k∧(k≤s.length∨s.length≤k)∧k≤s.length+1∧Ae w w'∧∀j,j<k→j<s.length→Nm s≤j→Aq (Ab s j)=true) (λk=>[(0,Am s),(5,.int .i64 (k:Int))]) (λk=>s.length+1 - k) (Nm s) ⟨Ab9 _,by omega,by rw[a3];omega,Chg.refl _ _,λj h1 h2 h3=>by omega⟩ Afq ?_;rintro k w1 ⟨k0,_,k1,hx,a0⟩;refine Sa ?_;refine Av (λb1=>?_) λb1=>?_
  ·have b1:k<s.length:=by simp at b1;omega
   refine Sa ?_;refine B6 (λb2=>?_) λb2=>?_
   ·have b2:Ab s k<48:=by simpa using b2
    refine Sa ?_;refine QW.body2 rfl rfl rfl ⟨⟨0,?_,λn hn=>?_⟩,hx⟩<;>
    ·have:F2 s=false:=by
      simp only[F2,decide_eq_false_iff_not];intro hh;have:=hh k b1 k0;simp[Aq] at this;omega
     first | rw[Cn,this];rfl | (rw[Cn,this] at hn;cases hn)
   have b2:¬Ab s k<48:=by simpa using b2
   refine Sa ?_;refine Av (λb3=>?_) λb3=>?_
   ·have b3:57<Ab s k:=by simpa using b3
    refine Sa ?_;refine QW.body2 rfl rfl rfl ⟨⟨0,?_,λn hn=>?_⟩,hx⟩<;>
    ·have:F2 s=false:=by
      simp only[F2,decide_eq_false_iff_not];intro hh;have:=hh k b1 k0;simp[Aq] at this;omega
     first | rw[Cn,this];rfl | (rw[Cn,this] at hn;cases hn)
   have b3:¬57<Ab s k:=by simpa using b3
   refine Sa ?_;refine QW.again (k+1) ⟨by omega,by omega,by omega,hx,λj h1 h2 h3=>?_⟩ EH Aez;by_cases e:j=k
   ·subst e;simp[Aq];omega
   ·exact a0 j Aez h2 h3
  have b1:s.length≤k:=by simp at b1;omega
  have hD:F2 s=true:=by
   simp only[F2,decide_eq_true_eq];exact λj h1 h2=>a0 j Aez h1 h2
  refine Sa ?_;refine Ax rfl rfl (Im s hs w1 (g.ext hx)) ?_;rintro v w2 ⟨hv,a2⟩;unfold Jv at hv
  cases ha:Lib.atoiAll s with
  | ok n=>
   have hn:Cn s=some n:=by rw[Cn,hD,ha];rfl
   rw[ha] at hv;subst hv;refine Sa ?_;refine HZ ?_;refine Sq ?_;refine QL.yields rfl rfl rfl (λw' _=>Y.eql_nil_nil rfl rfl rfl _) ?_;refine Sq ?_;refine QL.nil λw3 a1=>?_;refine Sa ?_
   refine QW.body2 rfl rfl rfl ⟨⟨n,by rw[hn];rfl,λm hm=>by rw[hn] at hm;exact Aa5 hm⟩,(hx.trans a2).trans a1⟩
  | range=>
   have hn:Cn s=none:=by rw[Cn,hD,ha];rfl
   rw[ha] at hv;obtain⟨z,t,x,rfl⟩:=hv;refine Sa ?_;refine HZ ?_;refine Sq ?_;refine QL.yields rfl rfl rfl (λw' _=>Y.eql_nil rfl rfl rfl _) ?_;refine Sq ?_;refine QL.nil λw3 a1=>?_;refine Sa ?_
   refine QW.body2 rfl rfl rfl ⟨⟨z,by rw[hn];rfl,λm hm=>by rw[hn] at hm;cases hm⟩,(hx.trans a2).trans a1⟩
  | _=>
   have hn:Cn s=none:=by rw[Cn,hD,ha];rfl
   rw[ha] at hv;obtain⟨z,t,x,rfl⟩:=hv;refine Sa ?_;refine HZ ?_;refine Sq ?_;refine QL.yields rfl rfl rfl (λw' _=>Y.eql_nil rfl rfl rfl _) ?_;refine Sq ?_;refine QL.nil λw3 a1=>?_;refine Sa ?_;refine QW.body2 rfl rfl rfl ⟨⟨z,by rw[hn];rfl,λm hm=>by rw[hn] at hm;cases hm⟩,(hx.trans a2).trans a1⟩
 ·have hl:0<s.length:=AbY.2 h0;refine LW.know (t:=10) (c:=true) rfl (by simp[h0]) ?_;refine Sa ?_;refine Av (λh1=>?_) λh1=>?_
  ·have h1:Ab s 0=45:=by simpa using h1
   have a3:Nm s=1:=by simp[Nm,h0,h1]
   refine Sa ?_;refine CW.loop (ι:=Nat) (λk w'=>Nm s≤k∧(k≤s.length∨s.length≤k)∧k≤s.length+1∧Ae w w'∧∀j,j<k→j<s.length→Nm s≤j→Aq (Ab s j)=true) (λk=>[(0,Am s),(5,.int .i64 (k:Int))]) (λk=>s.length+1 - k) (Nm s) ⟨Ab9 _,by omega,by rw[a3];omega,Chg.refl _ _,λj h1 h2 h3=>by omega⟩ Afq ?_;rintro k w1 ⟨k0,_,k1,hx,a0⟩;refine Sa ?_;refine Av (λb1=>?_) λb1=>?_
   ·have b1:k<s.length:=by simp at b1;omega
    refine Sa ?_;refine B6 (λb2=>?_) λb2=>?_
    ·have b2:Ab s k<48:=by simpa using b2
     refine Sa ?_;refine QW.body2 rfl rfl rfl ⟨⟨0,?_,λn hn=>?_⟩,hx⟩<;>
     ·have:F2 s=false:=by
       simp only[F2,decide_eq_false_iff_not];intro hh;have:=hh k b1 k0;simp[Aq] at this;omega
      first | rw[Cn,this];rfl | (rw[Cn,this] at hn;cases hn)
    have b2:¬Ab s k<48:=by simpa using b2
    refine Sa ?_;refine Av (λb3=>?_) λb3=>?_
    ·have b3:57<Ab s k:=by simpa using b3
     refine Sa ?_;refine QW.body2 rfl rfl rfl ⟨⟨0,?_,λn hn=>?_⟩,hx⟩<;>
     ·have:F2 s=false:=by
       simp only[F2,decide_eq_false_iff_not];intro hh;have:=hh k b1 k0;simp[Aq] at this;omega
      first | rw[Cn,this];rfl | (rw[Cn,this] at hn;cases hn)
    have b3:¬57<Ab s k:=by simpa using b3
    refine Sa ?_;refine QW.again (k+1) ⟨by omega,by omega,by omega,hx,λj h1 h2 h3=>?_⟩ EH Aez;by_cases e:j=k
    ·subst e;simp[Aq];omega
    ·exact a0 j Aez h2 h3
   have b1:s.length≤k:=by simp at b1;omega
   have hD:F2 s=true:=by
    simp only[F2,decide_eq_true_eq];exact λj h1 h2=>a0 j Aez h1 h2
   refine Sa ?_;refine Ax rfl rfl (Im s hs w1 (g.ext hx)) ?_;rintro v w2 ⟨hv,a2⟩;unfold Jv at hv
   cases ha:Lib.atoiAll s with
   | ok n=>
    have hn:Cn s=some n:=by rw[Cn,hD,ha];rfl
    rw[ha] at hv;subst hv;refine Sa ?_;refine HZ ?_;refine Sq ?_;refine QL.yields rfl rfl rfl (λw' _=>Y.eql_nil_nil rfl rfl rfl _) ?_;refine Sq ?_;refine QL.nil λw3 a1=>?_;refine Sa ?_
    refine QW.body2 rfl rfl rfl ⟨⟨n,by rw[hn];rfl,λm hm=>by rw[hn] at hm;exact Aa5 hm⟩,(hx.trans a2).trans a1⟩
   | range=>
    have hn:Cn s=none:=by rw[Cn,hD,ha];rfl
    rw[ha] at hv;obtain⟨z,t,x,rfl⟩:=hv;refine Sa ?_;refine HZ ?_;refine Sq ?_;refine QL.yields rfl rfl rfl (λw' _=>Y.eql_nil rfl rfl rfl _) ?_;refine Sq ?_;refine QL.nil λw3 a1=>?_;refine Sa ?_
    refine QW.body2 rfl rfl rfl ⟨⟨z,by rw[hn];rfl,λm hm=>by rw[hn] at hm;cases hm⟩,(hx.trans a2).trans a1⟩
   | _=>
    have hn:Cn s=none:=by rw[Cn,hD,ha];rfl
    rw[ha] at hv;obtain⟨z,t,x,rfl⟩:=hv;refine Sa ?_;refine HZ ?_;refine Sq ?_;refine QL.yields rfl rfl rfl (λw' _=>Y.eql_nil rfl rfl rfl _) ?_;refine Sq ?_;refine QL.nil λw3 a1=>?_;refine Sa ?_;refine QW.body2 rfl rfl rfl ⟨⟨z,by rw[hn];rfl,λm hm=>by rw[hn] at hm;cases hm⟩,(hx.trans a2).trans a1⟩
  ·have h1:Ab s 0≠45:=by simpa using h1
   have a3:Nm s=0:=by simp[Nm,h1]
   refine Sa ?_;refine CW.loop (ι:=Nat) (λk w'=>Nm s≤k∧(k≤s.length∨s.length≤k)∧k≤s.length+1∧Ae w w'∧∀j,j<k→j<s.length→Nm s≤j→Aq (Ab s j)=true) (λk=>[(0,Am s),(5,.int .i64 (k:Int))]) (λk=>s.length+1 - k) (Nm s) ⟨Ab9 _,by omega,by rw[a3];omega,Chg.refl _ _,λj h1 h2 h3=>by omega⟩ Afq ?_;rintro k w1 ⟨k0,_,k1,hx,a0⟩;refine Sa ?_;refine Av (λb1=>?_) λb1=>?_
   ·have b1:k<s.length:=by simp at b1;omega
    refine Sa ?_;refine B6 (λb2=>?_) λb2=>?_
    ·have b2:Ab s k<48:=by simpa using b2
     refine Sa ?_;refine QW.body2 rfl rfl rfl ⟨⟨0,?_,λn hn=>?_⟩,hx⟩<;>
     ·have:F2 s=false:=by
       simp only[F2,decide_eq_false_iff_not];intro hh;have:=hh k b1 k0;simp[Aq] at this;omega
      first | rw[Cn,this];rfl | (rw[Cn,this] at hn;cases hn)
    have b2:¬Ab s k<48:=by simpa using b2
    refine Sa ?_;refine Av (λb3=>?_) λb3=>?_
    ·have b3:57<Ab s k:=by simpa using b3
     refine Sa ?_;refine QW.body2 rfl rfl rfl ⟨⟨0,?_,λn hn=>?_⟩,hx⟩<;>
     ·have:F2 s=false:=by
       simp only[F2,decide_eq_false_iff_not];intro hh;have:=hh k b1 k0;simp[Aq] at this;omega
      first | rw[Cn,this];rfl | (rw[Cn,this] at hn;cases hn)
    have b3:¬57<Ab s k:=by simpa using b3
    refine Sa ?_;refine QW.again (k+1) ⟨by omega,by omega,by omega,hx,λj h1 h2 h3=>?_⟩ EH Aez;by_cases e:j=k
    ·subst e;simp[Aq];omega
    ·exact a0 j Aez h2 h3
   have b1:s.length≤k:=by simp at b1;omega
   have hD:F2 s=true:=by
    simp only[F2,decide_eq_true_eq];exact λj h1 h2=>a0 j Aez h1 h2
   refine Sa ?_;refine Ax rfl rfl (Im s hs w1 (g.ext hx)) ?_;rintro v w2 ⟨hv,a2⟩;unfold Jv at hv
   cases ha:Lib.atoiAll s with
   | ok n=>
    have hn:Cn s=some n:=by rw[Cn,hD,ha];rfl
    rw[ha] at hv;subst hv;refine Sa ?_;refine HZ ?_;refine Sq ?_;refine QL.yields rfl rfl rfl (λw' _=>Y.eql_nil_nil rfl rfl rfl _) ?_;refine Sq ?_;refine QL.nil λw3 a1=>?_;refine Sa ?_
    refine QW.body2 rfl rfl rfl ⟨⟨n,by rw[hn];rfl,λm hm=>by rw[hn] at hm;exact Aa5 hm⟩,(hx.trans a2).trans a1⟩
   | range=>
    have hn:Cn s=none:=by rw[Cn,hD,ha];rfl
    rw[ha] at hv;obtain⟨z,t,x,rfl⟩:=hv;refine Sa ?_;refine HZ ?_;refine Sq ?_;refine QL.yields rfl rfl rfl (λw' _=>Y.eql_nil rfl rfl rfl _) ?_;refine Sq ?_;refine QL.nil λw3 a1=>?_;refine Sa ?_
    refine QW.body2 rfl rfl rfl ⟨⟨z,by rw[hn];rfl,λm hm=>by rw[hn] at hm;cases hm⟩,(hx.trans a2).trans a1⟩
   | _=>
    have hn:Cn s=none:=by rw[Cn,hD,ha];rfl
    rw[ha] at hv;obtain⟨z,t,x,rfl⟩:=hv;refine Sa ?_;refine HZ ?_;refine Sq ?_;refine QL.yields rfl rfl rfl (λw' _=>Y.eql_nil rfl rfl rfl _) ?_;refine Sq ?_;refine QL.nil λw3 a1=>?_;refine Sa ?_;refine QW.body2 rfl rfl rfl ⟨⟨z,by rw[hn];rfl,λm hm=>by rw[hn] at hm;cases hm⟩,(hx.trans a2).trans a1⟩
theorem TJ{s:List UInt8}{n:Int}(h:Lib.atoiAll s=.ok n):-9223372036854775808≤n∧n≤9223372036854775807:=by
 unfold Lib.atoiAll at h
 split at h
 ·cases h
 ·simp only at h
  split at h
  ·cases h
  ·cases h
  ·split at h
   ·cases h
   ·split at h
    ·cases h
    ·simp only[Lib.NumEnd.ok.injEq] at h;subst h
     split<;>omega
theorem Og{s:List UInt8}{n:Int}(h:Cn s=some n):-9223372036854775808≤n∧n≤9223372036854775807:=by
 unfold Cn at h
 split at h
 ·split at h
  ·rename_i m e;obtain rfl:=Aa5 h;exact TJ e
  ·cases h
 ·cases h
noncomputable def Bt(s:List UInt8):Bool:=
 if 300<s.length then false else if s=[]∨Ab s 0=39 then true else if Ab s 0=61 then(match AH (s.drop 1) with
  | .error _=>false
  | .ok l=>decide (BF l=s.drop 1))
 else match Cn s with
  | some n=>decide (Lib.itoa n=s)
  | none=>false
theorem Rp(s:List UInt8)(hs:s.length≤9223372036854775807)(w:World)(g:Dg w):AF prog 61 [Am s] w (λv w'=>v=.bool (Bt s)∧Ae w w'):=by
 refine AQ func61 ntmps61 ?_;refine Sa ?_;refine Av (λh1=>?_) λh1=>?_
 ·have h1:300<s.length:=by simp at h1;omega
  refine Sa ?_;exact QW.body1 rfl rfl ⟨by rw[Bt,if_pos h1],Chg.refl _ _⟩
 have h1:s.length≤300:=by simp at h1;omega
 have n1:¬300<s.length:=Aez
 refine Sa ?_;by_cases h2:s=[]
 ·refine LW.know (t:=14) (c:=true) rfl Af3 ?_;refine Sa ?_;exact QW.body1 rfl rfl ⟨by rw[Bt,if_neg n1,if_pos (.inl h2)],Chg.refl _ _⟩
 have hl:0<s.length:=AbY.2 h2;refine LW.know (t:=14) (c:=false) rfl Af3 ?_;refine Sa ?_;refine Av (λh3=>?_) λh3=>?_
 ·have h3:Ab s 0=39:=by simpa using h3
  refine Sa ?_;exact QW.body1 rfl rfl ⟨by rw[Bt,if_neg n1,if_pos (.inr h3)],Chg.refl _ _⟩
 have h3:Ab s 0≠39:=by simpa using h3
 have n3:¬(s=[]∨Ab s 0=39):=by simp[h2,h3]
 refine Sa ?_;refine Av (λh4=>?_) λh4=>?_
 ·have h4:Ab s 0=61:=by simpa using h4
  have ec:cut s (1:Int).toNat ((s.length:Nat):Int).toNat=s.drop 1:=E3 s 1;have a4:(s.drop 1).length≤300:=Ae0
  refine Sz ?_;refine Ax rfl rfl (OX (cut s (1:Int).toNat ((s.length:Nat):Int).toNat) (by rw[ec];omega) w g) ?_;rintro v w1 ⟨hv,hx⟩;obtain⟨l,e,sv,rfl,hN,hp⟩:=hv.both;rw[ec] at hp;obtain⟨a1,_⟩:=hp.facts;refine Sa ?_;refine HZ ?_;refine Sq ?_;by_cases h5:e=0
  ·have a2:AH (s.drop 1)=.ok l:=by
    rcases hp with ⟨h,_⟩ | ⟨_,_,h⟩
    ·exact h
    ·omega
   refine QL.know (t:=31) (c:=true) rfl (by simp[h5]) ?_;refine Sq ?_;refine QL.call0 (v:=Am (BF l)) rfl rfl (λw' hw=>OY l sv w' (g.ext (hx.trans hw)) (hN.ext hw) a1 hp.num) ?_;refine Zw ?_;refine QL.nil λw2 a0=>?_;refine Sa ?_;exact QW.body1 rfl rfl ⟨by rw[Bt,if_neg n1,if_neg n3,if_pos h4,a2,ec],hx.trans a0⟩
  ·have a3:AH (s.drop 1)=.error e:=by
    rcases hp with ⟨_,h⟩ | ⟨h,_,_⟩
    ·exact absurd h h5
    ·exact h
   refine QL.know (t:=31) (c:=false) rfl (by simp[h5]) ?_;refine Zw ?_;refine QL.nil λw2 a0=>?_;refine Sa ?_;exact QW.body1 rfl rfl ⟨by rw[Bt,if_neg n1,if_neg n3,if_pos h4,a3],hx.trans a0⟩
 have h4:Ab s 0≠61:=by simpa using h4
 refine Sa ?_;refine Ax rfl rfl (Rs s Aez w g) ?_;rintro v w1 ⟨⟨z,rfl,hz⟩,hx⟩
 cases hn:Cn s with
 | some n=>
  obtain rfl:=hz n hn;obtain⟨b0,b1⟩:=Og hn;refine Sa ?_;refine Ax rfl rfl (MZ z b0 b1 w1 (g.ext hx)) ?_;rintro v w2 ⟨rfl,a0⟩;refine Sa ?_
  exact QW.body1 rfl rfl ⟨by rw[Bt,if_neg n1,if_neg n3,if_neg h4,hn],hx.trans a0⟩
 | none=>
  refine Sa ?_;exact QW.body1 rfl rfl ⟨by rw[Bt,if_neg n1,if_neg n3,if_neg h4,hn],hx⟩
def Aau(s:List UInt8)(v:Value)(w:World):Prop:=
 (∃l sv,v=.tuple #[sv,.bool true]∧Ab s 0=61∧s≠[]∧Bt s=true∧AH (s.drop 1)=.ok l∧Cg w sv l)∨(v=.tuple #[.slice none 0 0,.bool false]∧(s=[]∨Ab s 0≠61∨Bt s=false))
theorem QP(s:List UInt8)(hs:s.length≤9223372036854775807)(w:World)(g:Dg w):AF prog 67 [Am s] w (λv w'=>Aau s v w'∧Ae w w'):=by
 refine AQ func67 ntmps67 ?_;refine Sa ?_;by_cases h2:s=[]
 ·refine LW.know (t:=8) (c:=true) rfl Af3 ?_;refine Sa ?_;exact QW.body2 rfl rfl rfl ⟨.inr ⟨rfl,.inl h2⟩,Chg.refl _ _⟩
 have hl:0<s.length:=AbY.2 h2;refine LW.know (t:=8) (c:=false) rfl Af3 ?_;refine Sa ?_;by_cases h3:Ab s 0=61;rotate_left
 ·refine LW.know (t:=13) (c:=true) rfl (by simp[h3]) ?_;refine Sa ?_;exact QW.body2 rfl rfl rfl ⟨.inr ⟨rfl,.inr (.inl h3)⟩,Chg.refl _ _⟩
 refine LW.know (t:=13) (c:=false) rfl (by simp[h3]) ?_;refine Sa ?_;refine Ax rfl rfl (Rp s hs w g) ?_;rintro v w1 ⟨rfl,hx⟩;refine Sa ?_;refine Av (λh4=>?_) λh4=>?_
 ·have h4:Bt s=false:=by simpa using h4
  refine Sa ?_;exact QW.body2 rfl rfl rfl ⟨.inr ⟨rfl,.inr (.inr h4)⟩,hx⟩
 have h4:Bt s=true:=by simpa using h4
 have ec:cut s (1:Int).toNat ((s.length:Nat):Int).toNat=s.drop 1:=E3 s 1;have a2:(s.drop 1).length≤s.length:=Ae7
 refine Sz ?_;refine Ax rfl rfl (OX (cut s (1:Int).toNat ((s.length:Nat):Int).toNat) (by rw[ec];omega) w1 (g.ext hx)) ?_;rintro v w2 ⟨hv,a0⟩;obtain⟨l,e,sv,rfl,hN,hp⟩:=hv.both;rw[ec] at hp;have a1:AH (s.drop 1)=.ok l:=by
  rcases hp with ⟨h,_⟩ | ⟨h,_,_⟩
  ·exact h
  ·exfalso;have:Bt s=false:=by
    unfold Bt
    split
    ·rfl
    ·rw[if_neg (by rintro(hh | hh);exact h2 hh;omega)];rw[h]
   rw[this] at h4;cases h4
 refine Sa ?_;exact QW.body2 rfl rfl rfl ⟨.inl ⟨l,sv,rfl,h3,h2,h4,a1,hN⟩,hx.trans a0⟩
theorem MQ:∀(r:List UInt8) (x:Int),0≤x→(∀c∈r,Aq (c.toNat:Int)=true)→x≤A1 x r
 | [],x,_,_=>by simp[A1]
 | c::r,x,hx,hd=>by
  have hc:=hd c Ae7;simp only[Aq,Abf,decide_eq_true_eq] at hc;have ih:=MQ r (10*x+((c.toNat:Int) - 48)) Aez (λd h=>hd d (by simp[h]));have e:A1 x (c::r)=A1 (10*x+((c.toNat:Int) - 48)) r:=rfl;rw[e];omega
theorem MX:∀(l:List UInt8) (acc:Nat),(∀c∈l,Aq (c.toNat:Int)=true)→A1 (acc:Int) l≤9223372036854775808→Lib.parseUint10 acc l=.ok (A1 (acc:Int) l).toNat
 | [],acc,_,_=>by simp[Lib.parseUint10,A1]
 | c::r,acc,hd,hb=>by
  have hc:=hd c Ae7;simp only[Aq,Abf,decide_eq_true_eq] at hc;have hdr:∀d∈r,Aq (d.toNat:Int)=true:=λd h=>hd d (by simp[h]);have e:A1 (acc:Int) (c::r)=A1 (((acc*10+(c.toNat - 48):Nat)):Int) r:=by
   have e1:A1 (acc:Int) (c::r)=A1 (10*(acc:Int)+((c.toNat:Int) - 48)) r:=rfl;rw[e1]
   congr 1
   omega
  rw[e] at hb ⊢;have a0:=MQ r (((acc*10+(c.toNat - 48):Nat)):Int) Aez hdr;rw[Lib.parseUint10,if_pos Aez,if_neg Aez,if_neg Aez];exact MX r _ hdr hb
theorem Yz{u:Nat}(h:u≤9223372036854775808):Lib.parseMag (Lib.decDigits u)=.ok u:=by
 obtain⟨d1,d2,d3,_⟩:=FN u u (Ab9 _);rw[Lib.parseMag,if_neg d2,MX _ 0 d1 (by rw[show((0:Nat):Int)=0 from rfl,d3];omega),show((0:Nat):Int)=0 from rfl,d3];simp
theorem L2{l:List UInt8}(h:∀c∈l,Aq (c.toNat:Int)=true){j:Nat}(hj:j<l.length):Aq (Ab l j)=true:=by
 rw[BA hj];exact h _ (AcF hj)
theorem WH{n:Int}(h0:-9223372036854775808≤n)(h1:n≤9223372036854775807):Cn (Lib.itoa n)=some n∧Lib.itoa n≠[]∧(Ab (Lib.itoa n) 0=45∨48≤Ab (Lib.itoa n) 0∧Ab (Lib.itoa n) 0≤57):=by
 by_cases hn:0≤n
 ·obtain⟨d1,d2,d3,_⟩:=FN n.toNat n.toNat (Ab9 _);rw[Ho hn];have hl:=AbY.2 d2;have hb:=L2 d1 hl;have a0:=hb;simp only[Aq,Abf,decide_eq_true_eq] at a0;have hD:F2 (Lib.decDigits n.toNat)=true:=by
   simp only[F2,decide_eq_true_eq];exact λj hj _=>L2 d1 hj
  refine⟨?_,d2,.inr a0⟩;have hm:=Yz (u:=n.toNat) Aez;have ha:Lib.atoiAll (Lib.decDigits n.toNat)=.ok n:=by
   cases hd:Lib.decDigits n.toNat with
   | nil=>exact absurd hd d2
   | cons c r=>
    rw[hd] at hm a0;have hc:Ab (c::r) 0=(c.toNat:Int):=rfl;rw[hc] at a0;simp only[Lib.atoiAll];rw[if_neg Aez,hm];have a1:¬c.toNat=45:=Aez
    simp only[a1,not_false_eq_true,true_and,false_and,if_false];rw[if_neg Aez]
    congr 1
    omega
  rw[Cn,hD,ha];rfl
 ·have e:Lib.itoa n=45::Lib.decDigits (-n).toNat:=by
   unfold Lib.itoa;rw[if_pos Aez,show n.natAbs=(-n).toNat by omega]
  obtain⟨d1,d2,d3,_⟩:=FN (-n).toNat (-n).toNat (Ab9 _);have hb:Ab (45::Lib.decDigits (-n).toNat) 0=45:=rfl;have a2:Nm (45::Lib.decDigits (-n).toNat)=1:=by unfold Nm;rw[hb];simp
  have hD:F2 (45::Lib.decDigits (-n).toNat)=true:=by
   simp only[F2,decide_eq_true_eq];intro j hj h1;rw[a2] at h1
   match j,h1 with
   | j+1,_=>exact L2 d1 (j:=j) AeT
  have hm:=Yz (u:=(-n).toNat) Aez;have ha:Lib.atoiAll (45::Lib.decDigits (-n).toNat)=.ok n:=by
   simp only[Lib.atoiAll];rw[if_pos Ae2,hm];simp only;rw[if_neg Ae7,if_neg (by intro h;omega),if_pos Ae2]
   congr 1
   omega
  rw[e];refine⟨?_,by simp,.inl hb⟩;rw[Cn,hD,ha];rfl
theorem T9(m:Nat)(h0:1≤m)(h1:m≤9223372036854775808)(w:World):AF prog 16 [.int .i64 (-(m:Int))] w (λv w'=>v=Am (45::Lib.decDigits m)∧Ae w w'):=by
 have a1:(Lib.decDigits m).length≤21:=by
  have:=Lib.itoa_length_le (-(m:Int)) Aez Aez;unfold Lib.itoa at this;rw[if_pos Aez,show(-(m:Int)).natAbs=m by omega] at this;simp at this;omega
 refine AQ func16 ntmps16 ?_;refine Sa ?_;refine LW.conv (z:=18446744073709551616 - (m:Int)) rfl rfl rfl rfl rfl (by simp[IntKind.wrap,IntKind.bits,IntKind.signed];omega) rfl ?_;refine Sa ?_;refine CW.yes rfl (decide_eq_true (show -(m:Int)<0 by omega)) ?_;refine Sa ?_;refine LW.neg (z:=(m:Int)) rfl (by simp[IntKind.wrap,IntKind.bits,IntKind.signed];omega) rfl ?_;refine Sa ?_;refine CW.loop (ι:=Nat×List UInt8) (λi w'=>i.1≤m∧Ae w w'∧Lib.decDigits m=Lib.decDigits i.1++i.2) (λi=>[(0,.int .i64 (-(m:Int))),(3,.int .u64 (i.1:Int)),(4,Am i.2)]) (λi=>i.1) (m,[]) ⟨by simp,Chg.refl _ _,by simp⟩ Bh ?_;rintro⟨u,acc⟩ w1 ⟨hu,hx,hd⟩;simp only at hu hd;have a2:acc.length≤21:=by
  have:=congrArg List.length hd;rw[Aax] at this;omega
 refine Sa ?_;refine Av (λh2=>?_) λh2=>?_
 ·have h2:10≤u:=by simp at h2;omega
  refine Sa ?_;refine Cx λb w2 hb a0 hB=>?_;replace hB:Blk w2 b [.int .u8 (48+(u:Int) % 10)] 5:=hB;replace hx:=hx.trans a0;refine Sa ?_;refine QW.again (u / 10,[ch (48+(u:Int) % 10)]++acc) ⟨?_,hx,?_⟩ Bh ?_
  ·simp only;omega
  ·simp only;rw[hd,J2 h2];simp
  ·simp only;omega
 ·have h2:u<10:=by simp at h2;omega
  refine Sa ?_;refine Cx λb w2 hb a0 hB=>?_;replace hB:Blk w2 b [.int .u8 (48+(u:Int))] 5:=hB;replace hx:=hx.trans a0;refine Sa ?_;refine CW.yes rfl (decide_eq_true (show -(m:Int)<0 by omega)) ?_;refine Sa ?_;refine QW.body1 rfl rfl ⟨?_,hx⟩;rw[hd,Ia h2];rfl
theorem Yo(m:Nat)(h0:1≤m):Lib.itoa (-(m:Int))=45::Lib.decDigits m:=by
 unfold Lib.itoa;rw[if_pos Aez,show(-(m:Int)).natAbs=m by omega]
theorem Dv(n:Int)(h0:-9223372036854775808≤n)(h1:n≤9223372036854775807)(w:World):AF prog 16 [.int .i64 n] w (λv w'=>v=Am (Lib.itoa n)∧Ae w w'):=by
 by_cases hn:0≤n
 ·exact H9 n hn h1 w
 ·obtain⟨m,rfl⟩:∃m:Nat,n=-(m:Int):=⟨n.natAbs,by omega⟩;rw[Yo m Aez];exact T9 m Aez Aez w
theorem WJ(acc:Nat)(c:UInt8)(r:List UInt8)(hc:Aq (c.toNat:Int)=true):A1 (acc:Int) (c::r)=A1 (((acc*10+(c.toNat - 48):Nat)):Int) r:=by
 simp only[Aq,Abf,decide_eq_true_eq] at hc;have e1:A1 (acc:Int) (c::r)=A1 (10*(acc:Int)+((c.toNat:Int) - 48)) r:=rfl;rw[e1]
 congr 1
 omega
theorem Tz:∀(l:List UInt8) (acc u:Nat),(∀c∈l,Aq (c.toNat:Int)=true)→Lib.parseUint10 acc l=.ok u→A1 (acc:Int) l=u
 | [],acc,u,_,h=>by
  simp only[Lib.parseUint10,Lib.NumEnd.ok.injEq] at h
  simp[A1,h]
 | c::r,acc,u,hd,h=>by
  have hc:=hd c Ae7;have hc':=hc;simp only[Aq,Abf,decide_eq_true_eq] at hc;rw[Lib.parseUint10,if_pos Aez] at h
  split at h
  ·cases h
  split at h
  ·cases h
  rw[WJ acc c r hc'];exact Tz r _ u (λd h=>hd d (by simp[h])) h
def I7(s:List UInt8):Bool:=decide (s≠[]∧Ab s 0=45)
def BT(s:List UInt8):List UInt8:=if I7 s then s.drop 1 else s
def F6(l:List UInt8):Bool:=l.all λc=>Aq (c.toNat:Int)
theorem Hh{l:List UInt8}:F6 l=true↔∀c∈l,Aq (c.toNat:Int)=true:=Ac2
theorem XE(s:List UInt8):F2 s=F6 (BT s):=by
 have key:(∀j,j<s.length→Nm s≤j→Aq (Ab s j)=true)↔∀c∈BT s,Aq (c.toNat:Int)=true:=by
  by_cases hn:s≠[]∧Ab s 0=45
  ·have e1:Nm s=1:=by rw[Nm,if_pos hn]
   have e2:BT s=s.drop 1:=by rw[BT,I7,decide_eq_true hn];rfl
   rw[e1,e2];constructor
   ·intro h c hc;obtain⟨j,hj,rfl⟩:=AdH hc;have a0:j+1<s.length:=by simp at hj;omega
    have:=h (j+1) a0 Aez;rw[BA a0] at this
    simpa[Nat.add_comm] using this
   ·intro h j hj h1;rw[BA hj];refine h _ ?_;rw[List.mem_iff_getElem?];refine⟨j - 1,?_⟩;rw[AcH,show 1+(j - 1)=j by omega,Aak hj]
  ·have e1:Nm s=0:=by rw[Nm,if_neg hn]
   have e2:BT s=s:=by rw[BT,I7,decide_eq_false hn];rfl
   rw[e1,e2];constructor
   ·intro h c hc;obtain⟨j,hj,rfl⟩:=AdH hc;have:=h j hj Aez
    rwa [BA hj] at this
   ·intro h j hj _;rw[BA hj];exact h _ (AcF hj)
 rw[Ad6,Hh,F2,decide_eq_true_eq];exact key
theorem Jf(s:List UInt8):Cn s=if F6 (BT s)=true∧BT s≠[]∧A1 0 (BT s)≤9223372036854775808∧(I7 s=false→A1 0 (BT s)≠9223372036854775808) then some (if I7 s=true then -A1 0 (BT s) else A1 0 (BT s)) else none:=by
 rw[Cn,XE];by_cases hd:F6 (BT s)=true;rotate_left
 ·rw[if_neg hd,if_neg (λh=>hd h.1)]
 rw[if_pos hd];have a0:=Hh.1 hd;by_cases he:BT s=[]
 ·rw[if_neg (λh=>h.2.1 he)];unfold BT at he
  cases s with
  | nil=>rfl
  | cons c r=>
   split at he
   ·rename_i hn;simp at he;subst he;simp only[I7,decide_eq_true_eq] at hn;have a1:(c.toNat:Int)=45:=hn.2;simp only[Lib.atoiAll];rw[if_pos Aez];rfl
   ·cases he
 ·have hl:Lib.parseMag (BT s)=Lib.parseUint10 0 (BT s):=by rw[Lib.parseMag,if_neg he]
  have hv:(∃u:Nat,Lib.parseUint10 0 (BT s)=.ok u∧A1 0 (BT s)=u)∨(∀u,Lib.parseUint10 0 (BT s)≠.ok u)∧9223372036854775808<A1 0 (BT s):=by
   cases hp:Lib.parseUint10 0 (BT s) with
   | ok u=>exact .inl ⟨u,rfl,by have:=Tz _ _ _ a0 hp;simpa using this⟩
   | range=>
    refine .inr ⟨λu h=>(by cases h),?_⟩;rcases Int.lt_or_le 9223372036854775808 (A1 0 (BT s)) with h | h
    ·exact h
    ·have:=MX (BT s) 0 a0 Afa
     rw[this] at hp;cases hp
   | _=>
    refine .inr ⟨λu h=>(by cases h),?_⟩;rcases Int.lt_or_le 9223372036854775808 (A1 0 (BT s)) with h | h
    ·exact h
    ·have:=MX (BT s) 0 a0 Afa;rw[this] at hp;cases hp
  cases s with
  | nil=>exact absurd rfl he
  | cons c r=>
   by_cases hn:c.toNat=45
   ·have en:I7 (c::r)=true:=by
     have:Ab (c::r) 0=(c.toNat:Int):=rfl;simp only[I7,this,decide_eq_true_eq];exact⟨by simp,by omega⟩
    have eb:BT (c::r)=r:=by rw[BT,en];rfl
    rw[eb] at hl hv he ⊢;rw[en];simp only[Lib.atoiAll];rw[if_pos (.inr hn),hl];rcases hv with ⟨u,hp,hu⟩ | ⟨hp,hu⟩
    ·rw[hp,hu];by_cases hb:9223372036854775808<u
     ·simp only;rw[if_neg (by simp[hn]),if_pos ⟨hn,hb⟩,if_neg (by intro h;omega)]
     ·have hR:F6 r=true∧r≠[]∧(u:Int)≤9223372036854775808∧(true=false→(u:Int)≠9223372036854775808):=⟨by rw[eb] at hd;exact hd,he,by omega,by simp⟩;rw[if_pos hR];simp only[hn];rw[if_neg Ae7,if_neg Aez]
      first | done | simp
    ·rw[if_neg (by intro h;omega)]
     cases hq:Lib.parseUint10 0 r with
     | ok u=>exact absurd hq (hp u)
     | range=>rfl
     | _=>rfl
   ·have en:I7 (c::r)=false:=by
     have:Ab (c::r) 0=(c.toNat:Int):=rfl;simp only[I7,this,decide_eq_false_iff_not];intro h;omega
    have eb:BT (c::r)=c::r:=by rw[BT,en];rfl
    rw[eb] at hl hv he a0 ⊢;rw[en];have hc:=a0 c Ae7;simp only[Aq,Abf,decide_eq_true_eq] at hc;simp only[Lib.atoiAll];rw[if_neg Aez,hl];rcases hv with ⟨u,hp,hu⟩ | ⟨hp,hu⟩
    ·rw[hp,hu];by_cases hb:9223372036854775808≤u
     ·simp only;rw[if_pos ⟨hn,hb⟩,if_neg (by intro h;have:=h.2.2.2 (by trivial);omega)]
     ·have hR:F6 (c::r)=true∧c::r≠[]∧(u:Int)≤9223372036854775808∧(True→(u:Int)≠9223372036854775808):=⟨by rw[eb] at hd;exact hd,he,by omega,λ_=>by omega⟩;rw[if_pos hR];simp only[hn];rw[if_neg Aez,if_neg Ae7]
      first | done | simp
    ·rw[if_neg (by intro h;omega)]
     cases hq:Lib.parseUint10 0 (c::r) with
     | ok u=>exact absurd hq (hp u)
     | range=>rfl
     | _=>rfl
theorem WK{d:List UInt8}{i:Nat}(h:∀c∈d,Aq (c.toNat:Int)=true):0≤A1 0 (d.take i)∧A1 0 (d.take i)≤A1 0 d:=by
 have h1:∀c∈d.take i,Aq (c.toNat:Int)=true:=λc hc=>h c (Ac5 hc);have h2:∀c∈d.drop i,Aq (c.toNat:Int)=true:=λc hc=>h c (AcM hc);have h0:=MQ (d.take i) 0 Aez h1;refine⟨h0,?_⟩;have:=MQ (d.drop i) (A1 0 (d.take i)) h0 h2;have e:A1 0 (d.take i++d.drop i)=A1 (A1 0 (d.take i)) (d.drop i):=by simp only[A1,AcN]
 rw[AdS] at e;rw[e];exact this
theorem T6{z:Int}:∃q:Int,IntKind.i64.wrap z=z+18446744073709551616*q∧-9223372036854775808≤IntKind.i64.wrap z∧IntKind.i64.wrap z≤9223372036854775807:=by
 have e:IntKind.i64.wrap z=if 9223372036854775808≤z % 18446744073709551616 then z % 18446744073709551616 - 18446744073709551616 else z % 18446744073709551616:=by
  simp[IntKind.wrap,IntKind.bits,IntKind.signed]
 rw[e]
 split
 ·exact⟨-(z / 18446744073709551616) - 1,by omega,by omega,by omega⟩
 ·exact⟨-(z / 18446744073709551616),by omega,by omega,by omega⟩
theorem Abb{z:Int}:(0≤z→z.tdiv 10=z / 10)∧(z≤0→z.tdiv 10=-((-z) / 10)):=by
 refine⟨λh=>Ads h,λh=>?_⟩;have:z.tdiv 10=-((-z).tdiv 10):=by rw[Int.neg_tdiv,Int.neg_neg]
 rw[this,Ads Aez]
theorem LZ(m:Int)(h0:-9223372036854775808≤m)(h1:m≤0)(w:World):AF prog 82 [.int .i64 m,.int .i64 10] w (λv w'=>(∃z,v=.tuple #[.int .i64 z,.bool (decide (-9223372036854775808≤m*10))]∧(-9223372036854775808≤m*10→z=m*10)∧-9223372036854775808≤z∧z≤9223372036854775807)∧Ae w w'):=by
 refine AQ func82 ntmps82 ?_;refine Sa ?_;by_cases a1:m=0
 ·refine LW.know (t:=9) (c:=true) rfl (decide_eq_true a1) ?_;refine Sa ?_;exact QW.body2 rfl rfl rfl ⟨⟨0,by rw[decide_eq_true Aez],λ_=>by omega,by omega,by omega⟩,Chg.refl _ _⟩
 refine LW.know (t:=9) (c:=false) rfl (decide_eq_false a1) ?_;refine Sa ?_;obtain⟨q,hq,a0,a3⟩:=T6 (z:=m*10);generalize hz:IntKind.i64.wrap (m*10)=z at hq a0 a3;refine LW.arith (op:=.mul) (r:=z) rfl rfl hz rfl rfl ?_;refine Sa ?_;have hd:=Abb (z:=z);obtain⟨y,hy,a5⟩:∃y,z.tdiv 10=y∧((0≤z→y=z / 10)∧(z≤0→y=-((-z) / 10))):=⟨_,rfl,hd⟩;refine LW.tquo (q:=10) (z:=y) rfl rfl Ae2 (by rw[hy,DX Aez Aez]) rfl ?_;refine Sa ?_;by_cases a2:-9223372036854775808≤m*10
 ·have a4:z=m*10:=Aez
  refine LW.know (t:=22) (c:=true) rfl (decide_eq_true Aez) ?_;refine Sa ?_;exact QW.body2 rfl rfl rfl ⟨⟨z,by rw[decide_eq_true a2];rfl,λ_=>a4,a0,a3⟩,Chg.refl _ _⟩
 ·refine LW.know (t:=22) (c:=false) rfl (decide_eq_false Aez) ?_;refine Sa ?_;exact QW.body2 rfl rfl rfl ⟨⟨z,by rw[decide_eq_false a2],λh=>absurd h a2,a0,a3⟩,Chg.refl _ _⟩
theorem Ov(m k:Int)(h0:-9223372036854775808≤m)(h1:m≤9223372036854775807)(k0:-9≤k)(k1:k≤0)(w:World):AF prog 83 [.int .i64 m,.int .i64 k] w (λv w'=>(∃z b,v=.tuple #[.int .i64 z,.bool b]∧(m≤0→b=decide (-9223372036854775808≤m+k)∧(-9223372036854775808≤m+k→z=m+k)))∧Ae w w'):=by
 refine AQ func83 ntmps83 ?_;refine Sa ?_;obtain⟨q,hq,a0,a1⟩:=T6 (z:=m+k);generalize hz:IntKind.i64.wrap (m+k)=z at hq a0 a1;refine LW.arith (op:=.add) (r:=z) rfl rfl hz rfl rfl ?_;refine Sa ?_;refine QW.body2 rfl rfl rfl ⟨⟨z,_,rfl,λhm=>⟨?_,λh=>by omega⟩⟩,Chg.refl _ _⟩;by_cases a2:-9223372036854775808≤m+k
 ·rw[decide_eq_true a2,decide_eq_true_eq];by_cases a3:k=0
  ·rw[decide_eq_true (show m≤z by omega),decide_eq_true (show 0≤k by omega)]
  ·rw[decide_eq_false (show ¬m≤z by omega),decide_eq_false (show ¬0≤k by omega)]
 ·rw[decide_eq_false a2,decide_eq_false_iff_not,decide_eq_true (show m≤z by omega),decide_eq_false (show ¬0≤k by omega)];simp
theorem Of{s:List UInt8}(h:F6 (BT s)=false):Cn s=none:=by
 rw[Jf,if_neg];rintro⟨h1,_⟩;rw[h] at h1;cases h1
theorem Oh{s:List UInt8}(h:BT s=[]):Cn s=none:=by
 rw[Jf,if_neg];rintro⟨_,h1,_⟩;exact h1 h
theorem Ht{s:List UInt8}{i:Nat}(h:9223372036854775808<A1 0 ((BT s).take i)):Cn s=none:=by
 rw[Jf,if_neg];rintro⟨h1,_,h2,_⟩;have:=(WK (i:=i) (Hh.1 h1)).2;omega
theorem LH{d:List UInt8}{k:Nat}(h:k<d.length):A1 0 (d.take (k+1))=10*A1 0 (d.take k)+(Ab d k - 48):=by
 rw[Aco,Aak h,Option.toList_some,FP,BA h]
theorem L3{d:List UInt8}{k:Nat}(h:k<d.length):F6 (d.take (k+1))=(F6 (d.take k)&&Aq (Ab d k)):=by
 have e:d.take (k+1)=d.take k++[d[k]]:=by rw[Aco,Aak h];rfl
 rw[e,BA h];simp only[F6,List.all_append,Ad8,Aea,Bool.and_true]
def Zk(s:List UInt8):Int:=match Cn s with
 | some n=>n
 | none=>0
def Lw(s:List UInt8)(v:Value):Prop:=v=.tuple #[.int .i64 (Zk s),.bool (Cn s).isSome]
theorem Ba{s:List UInt8}(h:Cn s=none):Lw s (.tuple #[.int .i64 0,.bool false]):=by
 unfold Lw Zk;rw[h];rfl
theorem Er{s:List UInt8}{n:Int}(h:Cn s=some n):Lw s (.tuple #[.int .i64 n,.bool true]):=by
 unfold Lw Zk;rw[h];rfl
set_option maxHeartbeats 2000000 in
theorem X1(s:List UInt8)(hs:s.length≤1000000)(w:World):AF prog 58 [Am s] w (λv w'=>Lw s v∧Ae w w'):=by
 obtain⟨d,hd⟩:∃d,d=BT s:=⟨_,rfl⟩;have ae:d.length≤s.length:=by
  rw[hd,BT]
  split<;>simp
 refine AQ func58 ntmps58 ?_;refine Sa ?_;obtain⟨ng,a5⟩:∃ng,ng=I7 s:=⟨_,rfl⟩;by_cases h0:s=[]
 ·refine LW.know (t:=15) (c:=false) rfl (by simp[h0]) ?_;have hn:I7 s=false:=by simp[I7,h0]
  have ed:s=d:=by rw[hd,BT,hn];rfl
  refine Sa ?_;refine CW.loop (ι:=Nat) (λk w'=>k≤d.length∧A1 0 (d.take k)≤9223372036854775808∧0≤A1 0 (d.take k)∧F6 (d.take k)=true∧Ae w w') (λk=>[(4,.bool ng),(5,Am d),(6,.int .i64 (-A1 0 (d.take k))),(7,.int .i64 (k:Int))]) (λk=>d.length - k) 0 ⟨by omega,by simp[A1],by simp[A1],rfl,Chg.refl _ _⟩ (Ai.cons AeF (Ai.cons Afz (Ai.cons rfl (Ai.cons rfl Ai.nil)))) ?_;clear hn ed;rintro k w1 ⟨k0,k1,k2,k3,hx⟩;refine Sa ?_;refine Av (λb1=>?_) λb1=>?_;rotate_left
  ·have b1:k=d.length:=by simp at b1;omega
   rw[b1,Acs] at k1 k2 k3;rw[b1,Acs];refine Sa ?_;have a0:=Jf s;rw[←hd,←a5] at a0;by_cases e0:d=[]
   ·refine LW.know (t:=67) (c:=true) rfl (by simp[e0]) ?_;refine Sa ?_;exact QW.body2 rfl rfl rfl ⟨Ba (Oh (by rw[←hd];exact e0)),hx⟩
   have e1:0<d.length:=AbY.2 e0;refine LW.know (t:=67) (c:=false) rfl (decide_eq_false Aez) ?_
   cases ng with
   | true=>
    rw[if_pos ⟨k3,e0,k1,by simp⟩,if_pos rfl] at a0;refine Sa ?_
    exact QW.body2 rfl rfl rfl ⟨Er a0,hx⟩
   | false=>
    refine Sa ?_;refine Av (λb7=>?_) λb7=>?_
    ·have b7:-A1 0 d=-9223372036854775808:=by simpa using b7
     rw[if_neg (λh=>h.2.2.2 rfl Aez)] at a0;refine Sa ?_;exact QW.body2 rfl rfl rfl ⟨Ba a0,hx⟩
    have b7:¬-A1 0 d=-9223372036854775808:=by simpa using b7
    rw[if_pos ⟨k3,e0,k1,λ_=>by omega⟩,if_neg Ae7] at a0;refine Sa ?_;refine LW.neg (z:=A1 0 d) rfl Af1 rfl ?_;refine Sa ?_;exact QW.body2 rfl rfl rfl ⟨Er a0,hx⟩
  have b1:k<d.length:=by simp at b1;omega
  have a6:=LH b1;have ad:=CQ d k;have a4:=L3 b1;have a2:Aq (Ab d k)=false→Cn s=none:=λh=>by
   refine Of ?_;rw[←hd]
   cases hh:F6 d with
   | false=>rfl
   | true=>
    have:=Hh.1 hh d[k] (AcF b1);rw[←BA b1,h] at this;cases this
  refine Sa ?_;by_cases b2:Ab d k<48
  ·refine LW.know (t:=34) (c:=true) rfl (decide_eq_true b2) ?_;refine Sa ?_;exact QW.body2 rfl rfl rfl ⟨Ba (a2 AfA),hx⟩
  refine LW.know (t:=34) (c:=false) rfl (decide_eq_false b2) ?_;refine Sa ?_;refine Av (λb3=>?_) λb3=>?_
  ·have b3:57<Ab d k:=by simpa using b3
   refine Sa ?_;exact QW.body2 rfl rfl rfl ⟨Ba (a2 AfA),hx⟩
  have b3:¬57<Ab d k:=by simpa using b3
  have a3:Aq (Ab d k)=true:=by simp[Aq];omega
  rw[k3,a3] at a4;refine Sa ?_;refine Ax rfl rfl (LZ (-A1 0 (d.take k)) Aez Aez w1) ?_;rintro v w2 ⟨⟨z,rfl,hz,a7,a8⟩,a9⟩;refine Sa ?_;refine LW.neg (z:=-(Ab d k - 48)) rfl AeR rfl ?_;refine Sa ?_;refine Ax rfl rfl (Ov z (-(Ab d k - 48)) a7 a8 Aez Aez w2) ?_;rintro v w3 ⟨⟨y,b,rfl,hy⟩,aa⟩;have a1:=(hx.trans a9).trans aa;refine Sa ?_;by_cases o1:-9223372036854775808≤-A1 0 (d.take k)*10;rotate_left
  ·refine LW.know (t:=58) (c:=true) rfl AfM ?_;refine Sa ?_;exact QW.body2 rfl rfl rfl ⟨Ba (Ht (i:=k+1) AfF),a1⟩
  obtain rfl:=hz o1;obtain⟨rfl,ab⟩:=hy Aez;refine LW.know (t:=58) (c:=false) rfl AfS ?_;refine Sa ?_;refine Av (λb5=>?_) λb5=>?_
  ·have b5:¬-9223372036854775808≤-A1 0 (d.take k)*10+-(Ab d k - 48):=by simpa using b5
   refine Sa ?_;exact QW.body2 rfl rfl rfl ⟨Ba (Ht (i:=k+1) AfF),a1⟩
  have b5:-9223372036854775808≤-A1 0 (d.take k)*10+-(Ab d k - 48):=by simpa using b5
  have ac:y=-A1 0 (d.take (k+1)):=by rw[ab b5,a6];omega
  refine Sa ?_;exact QW.again (k+1) ⟨by omega,by omega,by omega,a4,a1⟩ AeS Aez
 have hl:0<s.length:=AbY.2 h0;refine LW.know (t:=15) (c:=true) rfl (decide_eq_true Aez) ?_;refine Sa ?_;by_cases h1:Ab s 0=45
 ·have hn:I7 s=true:=by simp[I7,h0,h1]
  have ec:cut s (1:Int).toNat ((s.length:Nat):Int).toNat=s.drop 1:=E3 s 1;have ed:s.drop 1=d:=by rw[hd,BT,hn];rfl
  refine CW.yes rfl (decide_eq_true h1) ?_;refine Sz ?_;refine CW.loop (ι:=Nat) (λk w'=>k≤d.length∧A1 0 (d.take k)≤9223372036854775808∧0≤A1 0 (d.take k)∧F6 (d.take k)=true∧Ae w w') (λk=>[(4,.bool ng),(5,Am d),(6,.int .i64 (-A1 0 (d.take k))),(7,.int .i64 (k:Int))]) (λk=>d.length - k) 0 ⟨by omega,by simp[A1],by simp[A1],rfl,Chg.refl _ _⟩ (Ai.cons AeF (Ai.cons Afz (Ai.cons rfl (Ai.cons rfl Ai.nil)))) ?_;clear hn ed;rintro k w1 ⟨k0,k1,k2,k3,hx⟩;refine Sa ?_;refine Av (λb1=>?_) λb1=>?_;rotate_left
  ·have b1:k=d.length:=by simp at b1;omega
   rw[b1,Acs] at k1 k2 k3;rw[b1,Acs];refine Sa ?_;have a0:=Jf s;rw[←hd,←a5] at a0;by_cases e0:d=[]
   ·refine LW.know (t:=67) (c:=true) rfl (by simp[e0]) ?_;refine Sa ?_;exact QW.body2 rfl rfl rfl ⟨Ba (Oh (by rw[←hd];exact e0)),hx⟩
   have e1:0<d.length:=AbY.2 e0;refine LW.know (t:=67) (c:=false) rfl (decide_eq_false Aez) ?_
   cases ng with
   | true=>
    rw[if_pos ⟨k3,e0,k1,by simp⟩,if_pos rfl] at a0;refine Sa ?_
    exact QW.body2 rfl rfl rfl ⟨Er a0,hx⟩
   | false=>
    refine Sa ?_;refine Av (λb7=>?_) λb7=>?_
    ·have b7:-A1 0 d=-9223372036854775808:=by simpa using b7
     rw[if_neg (λh=>h.2.2.2 rfl Aez)] at a0;refine Sa ?_;exact QW.body2 rfl rfl rfl ⟨Ba a0,hx⟩
    have b7:¬-A1 0 d=-9223372036854775808:=by simpa using b7
    rw[if_pos ⟨k3,e0,k1,λ_=>by omega⟩,if_neg Ae7] at a0;refine Sa ?_;refine LW.neg (z:=A1 0 d) rfl Af1 rfl ?_;refine Sa ?_;exact QW.body2 rfl rfl rfl ⟨Er a0,hx⟩
  have b1:k<d.length:=by simp at b1;omega
  have a6:=LH b1;have ad:=CQ d k;have a4:=L3 b1;have a2:Aq (Ab d k)=false→Cn s=none:=λh=>by
   refine Of ?_;rw[←hd]
   cases hh:F6 d with
   | false=>rfl
   | true=>
    have:=Hh.1 hh d[k] (AcF b1);rw[←BA b1,h] at this;cases this
  refine Sa ?_;by_cases b2:Ab d k<48
  ·refine LW.know (t:=34) (c:=true) rfl (decide_eq_true b2) ?_;refine Sa ?_;exact QW.body2 rfl rfl rfl ⟨Ba (a2 AfA),hx⟩
  refine LW.know (t:=34) (c:=false) rfl (decide_eq_false b2) ?_;refine Sa ?_;refine Av (λb3=>?_) λb3=>?_
  ·have b3:57<Ab d k:=by simpa using b3
   refine Sa ?_;exact QW.body2 rfl rfl rfl ⟨Ba (a2 AfA),hx⟩
  have b3:¬57<Ab d k:=by simpa using b3
  have a3:Aq (Ab d k)=true:=by simp[Aq];omega
  rw[k3,a3] at a4;refine Sa ?_;refine Ax rfl rfl (LZ (-A1 0 (d.take k)) Aez Aez w1) ?_;rintro v w2 ⟨⟨z,rfl,hz,a7,a8⟩,a9⟩;refine Sa ?_;refine LW.neg (z:=-(Ab d k - 48)) rfl AeR rfl ?_;refine Sa ?_;refine Ax rfl rfl (Ov z (-(Ab d k - 48)) a7 a8 Aez Aez w2) ?_;rintro v w3 ⟨⟨y,b,rfl,hy⟩,aa⟩;have a1:=(hx.trans a9).trans aa;refine Sa ?_;by_cases o1:-9223372036854775808≤-A1 0 (d.take k)*10;rotate_left
  ·refine LW.know (t:=58) (c:=true) rfl AfM ?_;refine Sa ?_;exact QW.body2 rfl rfl rfl ⟨Ba (Ht (i:=k+1) AfF),a1⟩
  obtain rfl:=hz o1;obtain⟨rfl,ab⟩:=hy Aez;refine LW.know (t:=58) (c:=false) rfl AfS ?_;refine Sa ?_;refine Av (λb5=>?_) λb5=>?_
  ·have b5:¬-9223372036854775808≤-A1 0 (d.take k)*10+-(Ab d k - 48):=by simpa using b5
   refine Sa ?_;exact QW.body2 rfl rfl rfl ⟨Ba (Ht (i:=k+1) AfF),a1⟩
  have b5:-9223372036854775808≤-A1 0 (d.take k)*10+-(Ab d k - 48):=by simpa using b5
  have ac:y=-A1 0 (d.take (k+1)):=by rw[ab b5,a6];omega
  refine Sa ?_;exact QW.again (k+1) ⟨by omega,by omega,by omega,a4,a1⟩ AeS Aez
 ·have hn:I7 s=false:=by simp[I7,h1]
  have ed:s=d:=by rw[hd,BT,hn];rfl
  refine CW.no rfl (decide_eq_false h1) ?_;refine Sa ?_;refine CW.loop (ι:=Nat) (λk w'=>k≤d.length∧A1 0 (d.take k)≤9223372036854775808∧0≤A1 0 (d.take k)∧F6 (d.take k)=true∧Ae w w') (λk=>[(4,.bool ng),(5,Am d),(6,.int .i64 (-A1 0 (d.take k))),(7,.int .i64 (k:Int))]) (λk=>d.length - k) 0 ⟨by omega,by simp[A1],by simp[A1],rfl,Chg.refl _ _⟩ (Ai.cons AeF (Ai.cons Afz (Ai.cons rfl (Ai.cons rfl Ai.nil)))) ?_;clear hn ed;rintro k w1 ⟨k0,k1,k2,k3,hx⟩;refine Sa ?_;refine Av (λb1=>?_) λb1=>?_;rotate_left
  ·have b1:k=d.length:=by simp at b1;omega
   rw[b1,Acs] at k1 k2 k3;rw[b1,Acs];refine Sa ?_;have a0:=Jf s;rw[←hd,←a5] at a0;by_cases e0:d=[]
   ·refine LW.know (t:=67) (c:=true) rfl (by simp[e0]) ?_;refine Sa ?_;exact QW.body2 rfl rfl rfl ⟨Ba (Oh (by rw[←hd];exact e0)),hx⟩
   have e1:0<d.length:=AbY.2 e0;refine LW.know (t:=67) (c:=false) rfl (decide_eq_false Aez) ?_
   cases ng with
   | true=>
    rw[if_pos ⟨k3,e0,k1,by simp⟩,if_pos rfl] at a0;refine Sa ?_
    exact QW.body2 rfl rfl rfl ⟨Er a0,hx⟩
   | false=>
    refine Sa ?_;refine Av (λb7=>?_) λb7=>?_
    ·have b7:-A1 0 d=-9223372036854775808:=by simpa using b7
     rw[if_neg (λh=>h.2.2.2 rfl Aez)] at a0;refine Sa ?_;exact QW.body2 rfl rfl rfl ⟨Ba a0,hx⟩
    have b7:¬-A1 0 d=-9223372036854775808:=by simpa using b7
    rw[if_pos ⟨k3,e0,k1,λ_=>by omega⟩,if_neg Ae7] at a0;refine Sa ?_;refine LW.neg (z:=A1 0 d) rfl Af1 rfl ?_;refine Sa ?_;exact QW.body2 rfl rfl rfl ⟨Er a0,hx⟩
  have b1:k<d.length:=by simp at b1;omega
  have a6:=LH b1;have ad:=CQ d k;have a4:=L3 b1;have a2:Aq (Ab d k)=false→Cn s=none:=λh=>by
   refine Of ?_;rw[←hd]
   cases hh:F6 d with
   | false=>rfl
   | true=>
    have:=Hh.1 hh d[k] (AcF b1);rw[←BA b1,h] at this;cases this
  refine Sa ?_;by_cases b2:Ab d k<48
  ·refine LW.know (t:=34) (c:=true) rfl (decide_eq_true b2) ?_;refine Sa ?_;exact QW.body2 rfl rfl rfl ⟨Ba (a2 AfA),hx⟩
  refine LW.know (t:=34) (c:=false) rfl (decide_eq_false b2) ?_;refine Sa ?_;refine Av (λb3=>?_) λb3=>?_
  ·have b3:57<Ab d k:=by simpa using b3
   refine Sa ?_;exact QW.body2 rfl rfl rfl ⟨Ba (a2 AfA),hx⟩
  have b3:¬57<Ab d k:=by simpa using b3
  have a3:Aq (Ab d k)=true:=by simp[Aq];omega
  rw[k3,a3] at a4;refine Sa ?_;refine Ax rfl rfl (LZ (-A1 0 (d.take k)) Aez Aez w1) ?_;rintro v w2 ⟨⟨z,rfl,hz,a7,a8⟩,a9⟩;refine Sa ?_;refine LW.neg (z:=-(Ab d k - 48)) rfl AeR rfl ?_;refine Sa ?_;refine Ax rfl rfl (Ov z (-(Ab d k - 48)) a7 a8 Aez Aez w2) ?_;rintro v w3 ⟨⟨y,b,rfl,hy⟩,aa⟩;have a1:=(hx.trans a9).trans aa;refine Sa ?_;by_cases o1:-9223372036854775808≤-A1 0 (d.take k)*10;rotate_left
  ·refine LW.know (t:=58) (c:=true) rfl AfM ?_;refine Sa ?_;exact QW.body2 rfl rfl rfl ⟨Ba (Ht (i:=k+1) AfF),a1⟩
  obtain rfl:=hz o1;obtain⟨rfl,ab⟩:=hy Aez;refine LW.know (t:=58) (c:=false) rfl AfS ?_;refine Sa ?_;refine Av (λb5=>?_) λb5=>?_
  ·have b5:¬-9223372036854775808≤-A1 0 (d.take k)*10+-(Ab d k - 48):=by simpa using b5
   refine Sa ?_;exact QW.body2 rfl rfl rfl ⟨Ba (Ht (i:=k+1) AfF),a1⟩
  have b5:-9223372036854775808≤-A1 0 (d.take k)*10+-(Ab d k - 48):=by simpa using b5
  have ac:y=-A1 0 (d.take (k+1)):=by rw[ab b5,a6];omega
  refine Sa ?_;exact QW.again (k+1) ⟨by omega,by omega,by omega,a4,a1⟩ AeS Aez
theorem X0{s:List UInt8}{n:Int}(h:Cn s=some n):Zk s=n:=by
 unfold Zk;rw[h]
set_option maxHeartbeats 1000000 in
theorem HR(s:List UInt8)(hs:s.length≤9223372036854775807)(w:World):AF prog 41 [Am s] w (λv w'=>v=.bool (Bt s)∧Ae w w'):=by
 refine AQ func41 ntmps41 ?_;refine Sa ?_;refine Av (λh1=>?_) λh1=>?_
 ·have h1:300<s.length:=by simp at h1;omega
  refine Sa ?_;exact QW.body1 rfl rfl ⟨by rw[Bt,if_pos h1],Chg.refl _ _⟩
 have h1:s.length≤300:=by simp at h1;omega
 have n1:¬300<s.length:=Aez
 refine Sa ?_;by_cases h2:s=[]
 ·refine LW.know (t:=11) (c:=true) rfl Af3 ?_;refine Sa ?_;exact QW.body1 rfl rfl ⟨by rw[Bt,if_neg n1,if_pos (.inl h2)],Chg.refl _ _⟩
 have hl:0<s.length:=AbY.2 h2;refine LW.know (t:=11) (c:=false) rfl Af3 ?_;refine Sa ?_;refine Av (λh3=>?_) λh3=>?_
 ·have h3:Ab s 0=39:=by simpa using h3
  refine Sa ?_;exact QW.body1 rfl rfl ⟨by rw[Bt,if_neg n1,if_pos (.inr h3)],Chg.refl _ _⟩
 have h3:Ab s 0≠39:=by simpa using h3
 have n3:¬(s=[]∨Ab s 0=39):=by simp[h2,h3]
 refine Sa ?_;refine Av (λh4=>?_) λh4=>?_
 ·have h4:Ab s 0=61:=by simpa using h4
  have ec:cut s (1:Int).toNat ((s.length:Nat):Int).toNat=s.drop 1:=E3 s 1;have ab:(s.drop 1).length≤300:=Ae0
  refine Sz ?_;refine Ax rfl rfl (OZ (cut s (1:Int).toNat ((s.length:Nat):Int).toNat) (by rw[ec];omega) w) ?_;rw[ec];rintro v w1 ⟨⟨hv,he⟩,a3⟩
  cases a0:AH (s.drop 1) with
  | error e=>
   rw[a0] at hv;obtain rfl:=hv;have a7:=he e a0;refine Sa ?_;refine BX λA w2 a8 a1 hA=>?_;refine Sa ?_;refine AR λw3 a4 hA=>?_;have a5:=(a3.trans a1).step a4 (by have:=a3.size;simp;omega);refine Sa ?_;refine LW.know (t:=25) (c:=false) rfl (decide_eq_false a7) ?_;refine Sa ?_
   exact QW.body1 rfl rfl ⟨by rw[Bt,if_neg n1,if_neg n3,if_pos h4,a0],a5⟩
  | ok l=>
   rw[a0] at hv;obtain⟨sv,rfl,hN⟩:=hv;obtain⟨_,f1,f2,f3,f4⟩:=Df a0;have a6:Cg w1 sv l:=hN.row Aez (λn hm=>by have:=f4 n hm;omega);obtain⟨p,c,rfl⟩:=a6.slice;have a9:PIs (s.drop 1) l 0:=.inl ⟨a0,rfl⟩;refine Sa ?_;refine BX λA w2 a8 a1 hA=>?_;have ac:=a3.size;refine Sa ?_;refine AR λw3 a4 hA=>?_;have a2:Ae w1 w3:=a1.step a4 Ae0;have a5:=a3.trans a2;refine Sa ?_;refine Ax rfl rfl (O0 l _ w3 (a6.ext a2) f2 (λn hn=>by have:=f4 n hn;omega) a9.num) ?_;rintro v w4 ⟨rfl,aa⟩;have ad:=(GA a0).2.1;refine Sa ?_;refine QW.body1 rfl rfl ⟨?_,a5.trans aa⟩;rw[Bt,if_neg n1,if_neg n3,if_pos h4,a0];simp only;have es:s=61::s.drop 1:=by
    cases s with
    | nil=>exact absurd rfl h2
    | cons c r=>
     have:Ab (c::r) 0=(c.toNat:Int):=rfl;rw[this] at h4;have hc:c=61:=by
      apply AdI.1;simp;omega
     rw[hc];rfl
   congr 1
   by_cases hq:BF l=s.drop 1
   ·rw[decide_eq_true hq,decide_eq_true];rw[hq];exact es.symm
   ·rw[decide_eq_false hq,decide_eq_false];intro hh;rw[es] at hh;simp at hh;exact hq (by simpa using hh)
 have h4:Ab s 0≠61:=by simpa using h4
 refine Sa ?_;refine Ax rfl rfl (X1 s Aez w) ?_;rintro v w1 ⟨hv,hx⟩;unfold Lw at hv;subst hv
 cases hn:Cn s with
 | some n=>
  obtain⟨b0,b1⟩:=Og hn;rw[X0 hn];refine Sa ?_;refine Ax rfl rfl (Dv n b0 b1 w1) ?_;rintro v w2 ⟨rfl,a1⟩;refine Sa ?_
  exact QW.body1 rfl rfl ⟨by rw[Bt,if_neg n1,if_neg n3,if_neg h4,hn],hx.trans a1⟩
 | none=>
  refine Sa ?_;exact QW.body1 rfl rfl ⟨by rw[Bt,if_neg n1,if_neg n3,if_neg h4,hn],hx⟩
theorem Q7(s:List UInt8)(hs:s.length≤9223372036854775807)(w:World):AF prog 72 [Am s] w (λv w'=>Aau s v w'∧Ae w w'):=by
 refine AQ func72 ntmps72 ?_;refine Sa ?_;by_cases h2:s=[]
 ·refine LW.know (t:=6) (c:=true) rfl Af3 ?_;refine Sa ?_;exact QW.body2 rfl rfl rfl ⟨.inr ⟨rfl,.inl h2⟩,Chg.refl _ _⟩
 have hl:0<s.length:=AbY.2 h2;refine LW.know (t:=6) (c:=false) rfl Af3 ?_;refine Sa ?_;by_cases h3:Ab s 0=61;rotate_left
 ·refine LW.know (t:=11) (c:=true) rfl (by simp[h3]) ?_;refine Sa ?_;exact QW.body2 rfl rfl rfl ⟨.inr ⟨rfl,.inr (.inl h3)⟩,Chg.refl _ _⟩
 refine LW.know (t:=11) (c:=false) rfl (by simp[h3]) ?_;refine Sa ?_;refine Ax rfl rfl (HR s hs w) ?_;rintro v w1 ⟨rfl,hx⟩;refine Sa ?_;refine Av (λh4=>?_) λh4=>?_
 ·have h4:Bt s=false:=by simpa using h4
  refine Sa ?_;exact QW.body2 rfl rfl rfl ⟨.inr ⟨rfl,.inr (.inr h4)⟩,hx⟩
 have h4:Bt s=true:=by simpa using h4
 have ec:cut s (1:Int).toNat ((s.length:Nat):Int).toNat=s.drop 1:=E3 s 1;have a3:(s.drop 1).length≤s.length:=Ae7
 refine Sz ?_;refine Ax rfl rfl (OZ (cut s (1:Int).toNat ((s.length:Nat):Int).toNat) (by rw[ec];omega) w1) ?_;rw[ec];rintro v w2 ⟨⟨hv,he⟩,a1⟩
 cases a0:AH (s.drop 1) with
 | error e=>
  exfalso;have:Bt s=false:=by
   unfold Bt
   split
   ·rfl
   ·rw[if_neg (by rintro(hh | hh);exact h2 hh;omega)];rw[a0]
  rw[this] at h4
  cases h4
 | ok l=>
  rw[a0] at hv;obtain⟨sv,rfl,hN⟩:=hv;obtain⟨_,f1,f2,f3,f4⟩:=Df a0;have a2:Cg w2 sv l:=hN.row Aez (λn hm=>by have:=f4 n hm;omega);refine Sa ?_;refine LW.field1 (v:=sv) rfl rfl rfl rfl rfl rfl rfl rfl ?_;refine Sa ?_;exact QW.body2 rfl rfl rfl ⟨.inl ⟨l,sv,rfl,h3,h2,h4,a0,a2⟩,hx.trans a1⟩
end Go.Proofs.YtefaigjfkddelaaGreatDoor
