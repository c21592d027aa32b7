/-
  Joined by program out of the texts Cell CellM CellF CellP DigA NumP RCell RForm TextP.
-/
import Derived.Test.YtcjjcnecopnpcaaGreatDoorMyF
import Derived.Test.YtcjjcnecopnpcaaGreatDoorMyE
import Derived.Test.YtcjjcnecopnpcaaGreatDoorMyD
namespace Go.Proofs.YtcjjcnecopnpcaaGreatDoor
open Tryz
open Go Go.E
def MT(s:List UInt8):Nat:=if s≠[]∧Ab s 0=45 then 1 else 0
def Ft(s:List UInt8):Bool:=decide (∀j,j<s.length→MT s≤j→Ar (Ab s j)=true)
def Cj(s:List UInt8):Option Int:=if Ft s then(match Lib.atoiAll s with
 | .ok n=>some n
 | _=>none) else none
theorem Rb(s:List UInt8)(hs:s.length≤1000000)(w:World)(g:Dq w):A9 prog 100 [Aq s] w (λv w'=>(∃z,v=.tuple #[.int .i64 z,.bool (Cj s).isSome]∧∀n,Cj s=some n→z=n)∧Ah w w'):=by
 refine AG func100 ntmps100 ?_;refine Sa ?_;by_cases h0:s=[]
 ·refine LW.know (t:=10) (c:=false) rfl (by simp[h0]) ?_;refine Sa ?_;have a3:MT s=0:=by simp[MT,h0]
  refine CW.loop (ι:=Nat) (λk w'=>MT s≤k∧(k≤s.length∨s.length≤k)∧k≤s.length+1∧Ah w w'∧∀j,j<k→j<s.length→MT s≤j→Ar (Ab s j)=true) (λk=>[(0,Aq s),(5,.int .i64 (k:Int))]) (λk=>s.length+1 - k) (MT s) ⟨Ab2 _,by omega,by rw[a3];omega,Chg.refl _ _,λj h1 h2 h3=>by omega⟩ AeO ?_;rintro k w1 ⟨k0,_,k1,hx,a0⟩;refine Sa ?_;refine Av (λb1=>?_) λb1=>?_
  ·have b1:k<s.length:=by simp at b1;omega
   refine Sa ?_;refine B8 (λb2=>?_) λb2=>?_
   ·have b2:Ab s k<48:=by simpa using b2
    refine Sa ?_;refine QW.body2 rfl rfl rfl ⟨⟨0,?_,λn hn=>?_⟩,hx⟩<;>
    ·have:Ft s=false:=by
      simp only[Ft,decide_eq_false_iff_not];intro hh;have:=hh k b1 k0;simp[Ar] at this;omega
     first | rw[Cj,this];rfl | (rw[Cj,this] at hn;cases hn)
   have b2:¬Ab s k<48:=by simpa using b2
   refine Sa ?_;refine Av (λb3=>?_) λb3=>?_
   ·have b3:57<Ab s k:=by simpa using b3
    refine Sa ?_;refine QW.body2 rfl rfl rfl ⟨⟨0,?_,λn hn=>?_⟩,hx⟩<;>
    ·have:Ft s=false:=by
      simp only[Ft,decide_eq_false_iff_not];intro hh;have:=hh k b1 k0;simp[Ar] at this;omega
     first | rw[Cj,this];rfl | (rw[Cj,this] at hn;cases hn)
   have b3:¬57<Ab s k:=by simpa using b3
   refine Sa ?_;refine QW.again (k+1) ⟨by omega,by omega,by omega,hx,λj h1 h2 h3=>?_⟩ DT Aeb;by_cases e:j=k
   ·subst e;simp[Ar];omega
   ·exact a0 j Aeb h2 h3
  have b1:s.length≤k:=by simp at b1;omega
  have hD:Ft s=true:=by
   simp only[Ft,decide_eq_true_eq];exact λj h1 h2=>a0 j Aeb h1 h2
  refine Sa ?_;refine Ap rfl rfl (Ih s hs w1 (g.ext hx)) ?_;rintro v w2 ⟨hv,a2⟩;unfold Jz at hv
  cases ha:Lib.atoiAll s with
  | ok n=>
   have hn:Cj s=some n:=by rw[Cj,hD,ha];rfl
   rw[ha] at hv;subst hv;refine Sa ?_;refine Ig ?_;refine Sq ?_;refine QL.yields rfl rfl rfl (λw' _=>Y.eql_nil_nil rfl rfl rfl _) ?_;refine Sq ?_;refine QL.nil λw3 a1=>?_;refine Sa ?_
   refine QW.body2 rfl rfl rfl ⟨⟨n,by rw[hn];rfl,λm hm=>by rw[hn] at hm;exact Ab9 hm⟩,(hx.trans a2).trans a1⟩
  | range=>
   have hn:Cj s=none:=by rw[Cj,hD,ha];rfl
   rw[ha] at hv;obtain⟨z,t,x,rfl⟩:=hv;refine Sa ?_;refine Ig ?_;refine Sq ?_;refine QL.yields rfl rfl rfl (λw' _=>Y.eql_nil rfl rfl rfl _) ?_;refine Sq ?_;refine QL.nil λw3 a1=>?_;refine Sa ?_
   refine QW.body2 rfl rfl rfl ⟨⟨z,by rw[hn];rfl,λm hm=>by rw[hn] at hm;cases hm⟩,(hx.trans a2).trans a1⟩
  | _=>
   have hn:Cj s=none:=by rw[Cj,hD,ha];rfl
   rw[ha] at hv;obtain⟨z,t,x,rfl⟩:=hv;refine Sa ?_;refine Ig ?_;refine Sq ?_;refine QL.yields rfl rfl rfl (λw' _=>Y.eql_nil rfl rfl rfl _) ?_;refine Sq ?_;refine QL.nil λw3 a1=>?_;refine Sa ?_;refine QW.body2 rfl rfl rfl ⟨⟨z,by rw[hn];rfl,λm hm=>by rw[hn] at hm;cases hm⟩,(hx.trans a2).trans a1⟩
 ·have hl:0<s.length:=AbB.2 h0;refine LW.know (t:=10) (c:=true) rfl (by simp[h0]) ?_;refine Sa ?_;refine Av (λh1=>?_) λh1=>?_
  ·have h1:Ab s 0=45:=by simpa using h1
   have a3:MT s=1:=by simp[MT,h0,h1]
   refine Sa ?_;refine CW.loop (ι:=Nat) (λk w'=>MT s≤k∧(k≤s.length∨s.length≤k)∧k≤s.length+1∧Ah w w'∧∀j,j<k→j<s.length→MT s≤j→Ar (Ab s j)=true) (λk=>[(0,Aq s),(5,.int .i64 (k:Int))]) (λk=>s.length+1 - k) (MT s) ⟨Ab2 _,by omega,by rw[a3];omega,Chg.refl _ _,λj h1 h2 h3=>by omega⟩ AeO ?_;rintro k w1 ⟨k0,_,k1,hx,a0⟩;refine Sa ?_;refine Av (λb1=>?_) λb1=>?_
   ·have b1:k<s.length:=by simp at b1;omega
    refine Sa ?_;refine B8 (λb2=>?_) λb2=>?_
    ·have b2:Ab s k<48:=by simpa using b2
     refine Sa ?_;refine QW.body2 rfl rfl rfl ⟨⟨0,?_,λn hn=>?_⟩,hx⟩<;>
     ·have:Ft s=false:=by
       simp only[Ft,decide_eq_false_iff_not];intro hh;have:=hh k b1 k0;simp[Ar] at this;omega
      first | rw[Cj,this];rfl | (rw[Cj,this] at hn;cases hn)
    have b2:¬Ab s k<48:=by simpa using b2
    refine Sa ?_;refine Av (λb3=>?_) λb3=>?_
    ·have b3:57<Ab s k:=by simpa using b3
     refine Sa ?_;refine QW.body2 rfl rfl rfl ⟨⟨0,?_,λn hn=>?_⟩,hx⟩<;>
     ·have:Ft s=false:=by
       simp only[Ft,decide_eq_false_iff_not];intro hh;have:=hh k b1 k0;simp[Ar] at this;omega
      first | rw[Cj,this];rfl | (rw[Cj,this] at hn;cases hn)
    have b3:¬57<Ab s k:=by simpa using b3
    refine Sa ?_;refine QW.again (k+1) ⟨by omega,by omega,by omega,hx,λj h1 h2 h3=>?_⟩ DT Aeb;by_cases e:j=k
    ·subst e;simp[Ar];omega
    ·exact a0 j Aeb h2 h3
   have b1:s.length≤k:=by simp at b1;omega
   have hD:Ft s=true:=by
    simp only[Ft,decide_eq_true_eq];exact λj h1 h2=>a0 j Aeb h1 h2
   refine Sa ?_;refine Ap rfl rfl (Ih s hs w1 (g.ext hx)) ?_;rintro v w2 ⟨hv,a2⟩;unfold Jz at hv
   cases ha:Lib.atoiAll s with
   | ok n=>
    have hn:Cj s=some n:=by rw[Cj,hD,ha];rfl
    rw[ha] at hv;subst hv;refine Sa ?_;refine Ig ?_;refine Sq ?_;refine QL.yields rfl rfl rfl (λw' _=>Y.eql_nil_nil rfl rfl rfl _) ?_;refine Sq ?_;refine QL.nil λw3 a1=>?_;refine Sa ?_
    refine QW.body2 rfl rfl rfl ⟨⟨n,by rw[hn];rfl,λm hm=>by rw[hn] at hm;exact Ab9 hm⟩,(hx.trans a2).trans a1⟩
   | range=>
    have hn:Cj s=none:=by rw[Cj,hD,ha];rfl
    rw[ha] at hv;obtain⟨z,t,x,rfl⟩:=hv;refine Sa ?_;refine Ig ?_;refine Sq ?_;refine QL.yields rfl rfl rfl (λw' _=>Y.eql_nil rfl rfl rfl _) ?_;refine Sq ?_;refine QL.nil λw3 a1=>?_;refine Sa ?_
    refine QW.body2 rfl rfl rfl ⟨⟨z,by rw[hn];rfl,λm hm=>by rw[hn] at hm;cases hm⟩,(hx.trans a2).trans a1⟩
   | _=>
    have hn:Cj s=none:=by rw[Cj,hD,ha];rfl
    rw[ha] at hv;obtain⟨z,t,x,rfl⟩:=hv;refine Sa ?_;refine Ig ?_;refine Sq ?_;refine QL.yields rfl rfl rfl (λw' _=>Y.eql_nil rfl rfl rfl _) ?_;refine Sq ?_;refine QL.nil λw3 a1=>?_;refine Sa ?_;refine QW.body2 rfl rfl rfl ⟨⟨z,by rw[hn];rfl,λm hm=>by rw[hn] at hm;cases hm⟩,(hx.trans a2).trans a1⟩
  ·have h1:Ab s 0≠45:=by simpa using h1
   have a3:MT s=0:=by simp[MT,h1]
   refine Sa ?_;refine CW.loop (ι:=Nat) (λk w'=>MT s≤k∧(k≤s.length∨s.length≤k)∧k≤s.length+1∧Ah w w'∧∀j,j<k→j<s.length→MT s≤j→Ar (Ab s j)=true) (λk=>[(0,Aq s),(5,.int .i64 (k:Int))]) (λk=>s.length+1 - k) (MT s) ⟨Ab2 _,by omega,by rw[a3];omega,Chg.refl _ _,λj h1 h2 h3=>by omega⟩ AeO ?_;rintro k w1 ⟨k0,_,k1,hx,a0⟩;refine Sa ?_;refine Av (λb1=>?_) λb1=>?_
   ·have b1:k<s.length:=by simp at b1;omega
    refine Sa ?_;refine B8 (λb2=>?_) λb2=>?_
    ·have b2:Ab s k<48:=by simpa using b2
     refine Sa ?_;refine QW.body2 rfl rfl rfl ⟨⟨0,?_,λn hn=>?_⟩,hx⟩<;>
     ·have:Ft s=false:=by
       simp only[Ft,decide_eq_false_iff_not];intro hh;have:=hh k b1 k0;simp[Ar] at this;omega
      first | rw[Cj,this];rfl | (rw[Cj,this] at hn;cases hn)
    have b2:¬Ab s k<48:=by simpa using b2
    refine Sa ?_;refine Av (λb3=>?_) λb3=>?_
    ·have b3:57<Ab s k:=by simpa using b3
     refine Sa ?_;refine QW.body2 rfl rfl rfl ⟨⟨0,?_,λn hn=>?_⟩,hx⟩<;>
     ·have:Ft s=false:=by
       simp only[Ft,decide_eq_false_iff_not];intro hh;have:=hh k b1 k0;simp[Ar] at this;omega
      first | rw[Cj,this];rfl | (rw[Cj,this] at hn;cases hn)
    have b3:¬57<Ab s k:=by simpa using b3
    refine Sa ?_;refine QW.again (k+1) ⟨by omega,by omega,by omega,hx,λj h1 h2 h3=>?_⟩ DT Aeb;by_cases e:j=k
    ·subst e;simp[Ar];omega
    ·exact a0 j Aeb h2 h3
   have b1:s.length≤k:=by simp at b1;omega
   have hD:Ft s=true:=by
    simp only[Ft,decide_eq_true_eq];exact λj h1 h2=>a0 j Aeb h1 h2
   refine Sa ?_;refine Ap rfl rfl (Ih s hs w1 (g.ext hx)) ?_;rintro v w2 ⟨hv,a2⟩;unfold Jz at hv
   cases ha:Lib.atoiAll s with
   | ok n=>
    have hn:Cj s=some n:=by rw[Cj,hD,ha];rfl
    rw[ha] at hv;subst hv;refine Sa ?_;refine Ig ?_;refine Sq ?_;refine QL.yields rfl rfl rfl (λw' _=>Y.eql_nil_nil rfl rfl rfl _) ?_;refine Sq ?_;refine QL.nil λw3 a1=>?_;refine Sa ?_
    refine QW.body2 rfl rfl rfl ⟨⟨n,by rw[hn];rfl,λm hm=>by rw[hn] at hm;exact Ab9 hm⟩,(hx.trans a2).trans a1⟩
   | range=>
    have hn:Cj s=none:=by rw[Cj,hD,ha];rfl
    rw[ha] at hv;obtain⟨z,t,x,rfl⟩:=hv;refine Sa ?_;refine Ig ?_;refine Sq ?_;refine QL.yields rfl rfl rfl (λw' _=>Y.eql_nil rfl rfl rfl _) ?_;refine Sq ?_;refine QL.nil λw3 a1=>?_;refine Sa ?_
    refine QW.body2 rfl rfl rfl ⟨⟨z,by rw[hn];rfl,λm hm=>by rw[hn] at hm;cases hm⟩,(hx.trans a2).trans a1⟩
   | _=>
    have hn:Cj s=none:=by rw[Cj,hD,ha];rfl
    rw[ha] at hv;obtain⟨z,t,x,rfl⟩:=hv;refine Sa ?_;refine Ig ?_;refine Sq ?_;refine QL.yields rfl rfl rfl (λw' _=>Y.eql_nil rfl rfl rfl _) ?_;refine Sq ?_;refine QL.nil λw3 a1=>?_;refine Sa ?_;refine QW.body2 rfl rfl rfl ⟨⟨z,by rw[hn];rfl,λm hm=>by rw[hn] at hm;cases hm⟩,(hx.trans a2).trans a1⟩
theorem T3{s:List UInt8}{n:Int}(h:Lib.atoiAll s=.ok n):-9223372036854775808≤n∧n≤9223372036854775807:=by
 unfold Lib.atoiAll at h
 split at h
 ·cases h
 ·simp only at h
  split at h
  ·cases h
  ·cases h
  ·split at h
   ·cases h
   ·split at h
    ·cases h
    ·simp only[Lib.NumEnd.ok.injEq] at h;subst h
     split<;>omega
theorem NH{s:List UInt8}{n:Int}(h:Cj s=some n):-9223372036854775808≤n∧n≤9223372036854775807:=by
 unfold Cj at h
 split at h
 ·split at h
  ·rename_i m e;obtain rfl:=Ab9 h;exact T3 e
  ·cases h
 ·cases h
noncomputable def Ci(s:List UInt8):Bool:=
 if 300<s.length then false else if s=[]∨Ab s 0=39 then true else if Ab s 0=61 then(match AE (s.drop 1) with
  | .error _=>false
  | .ok l=>decide (BN l=s.drop 1))
 else match Cj s with
  | some n=>decide (Lib.itoa n=s)
  | none=>false
theorem QY(s:List UInt8)(hs:s.length≤9223372036854775807)(w:World)(g:Dq w):A9 prog 69 [Aq s] w (λv w'=>v=.bool (Ci s)∧Ah w w'):=by
 refine AG func69 ntmps69 ?_;refine Sa ?_;refine Av (λh1=>?_) λh1=>?_
 ·have h1:300<s.length:=by simp at h1;omega
  refine Sa ?_;exact QW.body1 rfl rfl ⟨by rw[Ci,if_pos h1],Chg.refl _ _⟩
 have h1:s.length≤300:=by simp at h1;omega
 have n1:¬300<s.length:=Aeb
 refine Sa ?_;by_cases h2:s=[]
 ·refine LW.know (t:=14) (c:=true) rfl Afy ?_;refine Sa ?_;exact QW.body1 rfl rfl ⟨by rw[Ci,if_neg n1,if_pos (.inl h2)],Chg.refl _ _⟩
 have hl:0<s.length:=AbB.2 h2;refine LW.know (t:=14) (c:=false) rfl Afy ?_;refine Sa ?_;refine Av (λh3=>?_) λh3=>?_
 ·have h3:Ab s 0=39:=by simpa using h3
  refine Sa ?_;exact QW.body1 rfl rfl ⟨by rw[Ci,if_neg n1,if_pos (.inr h3)],Chg.refl _ _⟩
 have h3:Ab s 0≠39:=by simpa using h3
 have n3:¬(s=[]∨Ab s 0=39):=by simp[h2,h3]
 refine Sa ?_;refine Av (λh4=>?_) λh4=>?_
 ·have h4:Ab s 0=61:=by simpa using h4
  have ec:cut s (1:Int).toNat ((s.length:Nat):Int).toNat=s.drop 1:=EZ s 1;have a4:(s.drop 1).length≤300:=Aee
  refine Sz ?_;refine Ap rfl rfl (OJ (cut s (1:Int).toNat ((s.length:Nat):Int).toNat) (by rw[ec];omega) w g) ?_;rintro v w1 ⟨hv,hx⟩;obtain⟨l,e,sv,rfl,hN,hp⟩:=hv.both;rw[ec] at hp;obtain⟨a1,_⟩:=hp.facts;refine Sa ?_;refine Ig ?_;refine Sq ?_;by_cases h5:e=0
  ·have a2:AE (s.drop 1)=.ok l:=by
    rcases hp with ⟨h,_⟩ | ⟨_,_,h⟩
    ·exact h
    ·omega
   refine QL.know (t:=31) (c:=true) rfl (by simp[h5]) ?_;refine Sq ?_;refine QL.call0 (v:=Aq (BN l)) rfl rfl (λw' hw=>OK l sv w' (g.ext (hx.trans hw)) (hN.ext hw) a1 hp.num) ?_;refine Zd ?_;refine QL.nil λw2 a0=>?_;refine Sa ?_;exact QW.body1 rfl rfl ⟨by rw[Ci,if_neg n1,if_neg n3,if_pos h4,a2,ec],hx.trans a0⟩
  ·have a3:AE (s.drop 1)=.error e:=by
    rcases hp with ⟨_,h⟩ | ⟨h,_,_⟩
    ·exact absurd h h5
    ·exact h
   refine QL.know (t:=31) (c:=false) rfl (by simp[h5]) ?_;refine Zd ?_;refine QL.nil λw2 a0=>?_;refine Sa ?_;exact QW.body1 rfl rfl ⟨by rw[Ci,if_neg n1,if_neg n3,if_pos h4,a3],hx.trans a0⟩
 have h4:Ab s 0≠61:=by simpa using h4
 refine Sa ?_;refine Ap rfl rfl (Rb s Aeb w g) ?_;rintro v w1 ⟨⟨z,rfl,hz⟩,hx⟩
 cases hn:Cj s with
 | some n=>
  obtain rfl:=hz n hn;obtain⟨b0,b1⟩:=NH hn;refine Sa ?_;refine Ap rfl rfl (MI z b0 b1 w1 (g.ext hx)) ?_;rintro v w2 ⟨rfl,a0⟩;refine Sa ?_
  exact QW.body1 rfl rfl ⟨by rw[Ci,if_neg n1,if_neg n3,if_neg h4,hn],hx.trans a0⟩
 | none=>
  refine Sa ?_;exact QW.body1 rfl rfl ⟨by rw[Ci,if_neg n1,if_neg n3,if_neg h4,hn],hx⟩
def AaE(s:List UInt8)(v:Value)(w:World):Prop:=
 (∃l sv,v=.tuple #[sv,.bool true]∧Ab s 0=61∧s≠[]∧Ci s=true∧AE (s.drop 1)=.ok l∧Cv w sv l)∨(v=.tuple #[.slice none 0 0,.bool false]∧(s=[]∨Ab s 0≠61∨Ci s=false))
theorem QH(s:List UInt8)(hs:s.length≤9223372036854775807)(w:World)(g:Dq w):A9 prog 125 [Aq s] w (λv w'=>AaE s v w'∧Ah w w'):=by
 refine AG func125 ntmps125 ?_;refine Sa ?_;by_cases h2:s=[]
 ·refine LW.know (t:=8) (c:=true) rfl Afy ?_;refine Sa ?_;exact QW.body2 rfl rfl rfl ⟨.inr ⟨rfl,.inl h2⟩,Chg.refl _ _⟩
 have hl:0<s.length:=AbB.2 h2;refine LW.know (t:=8) (c:=false) rfl Afy ?_;refine Sa ?_;by_cases h3:Ab s 0=61;rotate_left
 ·refine LW.know (t:=13) (c:=true) rfl (by simp[h3]) ?_;refine Sa ?_;exact QW.body2 rfl rfl rfl ⟨.inr ⟨rfl,.inr (.inl h3)⟩,Chg.refl _ _⟩
 refine LW.know (t:=13) (c:=false) rfl (by simp[h3]) ?_;refine Sa ?_;refine Ap rfl rfl (QY s hs w g) ?_;rintro v w1 ⟨rfl,hx⟩;refine Sa ?_;refine Av (λh4=>?_) λh4=>?_
 ·have h4:Ci s=false:=by simpa using h4
  refine Sa ?_;exact QW.body2 rfl rfl rfl ⟨.inr ⟨rfl,.inr (.inr h4)⟩,hx⟩
 have h4:Ci s=true:=by simpa using h4
 have ec:cut s (1:Int).toNat ((s.length:Nat):Int).toNat=s.drop 1:=EZ s 1;have a2:(s.drop 1).length≤s.length:=Aej
 refine Sz ?_;refine Ap rfl rfl (OJ (cut s (1:Int).toNat ((s.length:Nat):Int).toNat) (by rw[ec];omega) w1 (g.ext hx)) ?_;rintro v w2 ⟨hv,a0⟩;obtain⟨l,e,sv,rfl,hN,hp⟩:=hv.both;rw[ec] at hp;have a1:AE (s.drop 1)=.ok l:=by
  rcases hp with ⟨h,_⟩ | ⟨h,_,_⟩
  ·exact h
  ·exfalso;have:Ci s=false:=by
    unfold Ci
    split
    ·rfl
    ·rw[if_neg (by rintro(hh | hh);exact h2 hh;omega)];rw[h]
   rw[this] at h4;cases h4
 refine Sa ?_;exact QW.body2 rfl rfl rfl ⟨.inl ⟨l,sv,rfl,h3,h2,h4,a1,hN⟩,hx.trans a0⟩
theorem MA:∀(r:List UInt8) (x:Int),0≤x→(∀c∈r,Ar (c.toNat:Int)=true)→x≤A1 x r
 | [],x,_,_=>by simp[A1]
 | c::r,x,hx,hd=>by
  have hc:=hd c Aej;simp only[Ar,Abr,decide_eq_true_eq] at hc;have ih:=MA r (10*x+((c.toNat:Int) - 48)) Aeb (λd h=>hd d (by simp[h]));have e:A1 x (c::r)=A1 (10*x+((c.toNat:Int) - 48)) r:=rfl;rw[e];omega
theorem MG:∀(l:List UInt8) (acc:Nat),(∀c∈l,Ar (c.toNat:Int)=true)→A1 (acc:Int) l≤9223372036854775808→Lib.parseUint10 acc l=.ok (A1 (acc:Int) l).toNat
 | [],acc,_,_=>by simp[Lib.parseUint10,A1]
 | c::r,acc,hd,hb=>by
  have hc:=hd c Aej;simp only[Ar,Abr,decide_eq_true_eq] at hc;have hdr:∀d∈r,Ar (d.toNat:Int)=true:=λd h=>hd d (by simp[h]);have e:A1 (acc:Int) (c::r)=A1 (((acc*10+(c.toNat - 48):Nat)):Int) r:=by
   have e1:A1 (acc:Int) (c::r)=A1 (10*(acc:Int)+((c.toNat:Int) - 48)) r:=rfl;rw[e1]
   congr 1
   omega
  rw[e] at hb ⊢;have a0:=MA r (((acc*10+(c.toNat - 48):Nat)):Int) Aeb hdr;rw[Lib.parseUint10,if_pos Aeb,if_neg Aeb,if_neg Aeb];exact MG r _ hdr hb
theorem Yh{u:Nat}(h:u≤9223372036854775808):Lib.parseMag (Lib.decDigits u)=.ok u:=by
 obtain⟨d1,d2,d3,_⟩:=FH u u (Ab2 _);rw[Lib.parseMag,if_neg d2,MG _ 0 d1 (by rw[show((0:Nat):Int)=0 from rfl,d3];omega),show((0:Nat):Int)=0 from rfl,d3];simp
theorem KU{l:List UInt8}(h:∀c∈l,Ar (c.toNat:Int)=true){j:Nat}(hj:j<l.length):Ar (Ab l j)=true:=by
 rw[B2 hj];exact h _ (AbY hj)
theorem Wo{n:Int}(h0:-9223372036854775808≤n)(h1:n≤9223372036854775807):Cj (Lib.itoa n)=some n∧Lib.itoa n≠[]∧(Ab (Lib.itoa n) 0=45∨48≤Ab (Lib.itoa n) 0∧Ab (Lib.itoa n) 0≤57):=by
 by_cases hn:0≤n
 ·obtain⟨d1,d2,d3,_⟩:=FH n.toNat n.toNat (Ab2 _);rw[GR hn];have hl:=AbB.2 d2;have hb:=KU d1 hl;have a0:=hb;simp only[Ar,Abr,decide_eq_true_eq] at a0;have hD:Ft (Lib.decDigits n.toNat)=true:=by
   simp only[Ft,decide_eq_true_eq];exact λj hj _=>KU d1 hj
  refine⟨?_,d2,.inr a0⟩;have hm:=Yh (u:=n.toNat) Aeb;have ha:Lib.atoiAll (Lib.decDigits n.toNat)=.ok n:=by
   cases hd:Lib.decDigits n.toNat with
   | nil=>exact absurd hd d2
   | cons c r=>
    rw[hd] at hm a0;have hc:Ab (c::r) 0=(c.toNat:Int):=rfl;rw[hc] at a0;simp only[Lib.atoiAll];rw[if_neg Aeb,hm];have a1:¬c.toNat=45:=Aeb
    simp only[a1,not_false_eq_true,true_and,false_and,if_false];rw[if_neg Aeb]
    congr 1
    omega
  rw[Cj,hD,ha];rfl
 ·have e:Lib.itoa n=45::Lib.decDigits (-n).toNat:=by
   unfold Lib.itoa;rw[if_pos Aeb,show n.natAbs=(-n).toNat by omega]
  obtain⟨d1,d2,d3,_⟩:=FH (-n).toNat (-n).toNat (Ab2 _);have hb:Ab (45::Lib.decDigits (-n).toNat) 0=45:=rfl;have a2:MT (45::Lib.decDigits (-n).toNat)=1:=by unfold MT;rw[hb];simp
  have hD:Ft (45::Lib.decDigits (-n).toNat)=true:=by
   simp only[Ft,decide_eq_true_eq];intro j hj h1;rw[a2] at h1
   match j,h1 with
   | j+1,_=>exact KU d1 (j:=j) AeN
  have hm:=Yh (u:=(-n).toNat) Aeb;have ha:Lib.atoiAll (45::Lib.decDigits (-n).toNat)=.ok n:=by
   simp only[Lib.atoiAll];rw[if_pos Aef,hm];simp only;rw[if_neg Aej,if_neg (by intro h;omega),if_pos Aef]
   congr 1
   omega
  rw[e];refine⟨?_,by simp,.inl hb⟩;rw[Cj,hD,ha];rfl
theorem Ts(m:Nat)(h0:1≤m)(h1:m≤9223372036854775808)(w:World):A9 prog 24 [.int .i64 (-(m:Int))] w (λv w'=>v=Aq (45::Lib.decDigits m)∧Ah w w'):=by
 have a1:(Lib.decDigits m).length≤21:=by
  have:=Lib.itoa_length_le (-(m:Int)) Aeb Aeb;unfold Lib.itoa at this;rw[if_pos Aeb,show(-(m:Int)).natAbs=m by omega] at this;simp at this;omega
 refine AG func24 ntmps24 ?_;refine Sa ?_;refine LW.conv (z:=18446744073709551616 - (m:Int)) rfl rfl rfl rfl rfl (by simp[IntKind.wrap,IntKind.bits,IntKind.signed];omega) rfl ?_;refine Sa ?_;refine CW.yes rfl (decide_eq_true (show -(m:Int)<0 by omega)) ?_;refine Sa ?_;refine LW.neg (z:=(m:Int)) rfl (by simp[IntKind.wrap,IntKind.bits,IntKind.signed];omega) rfl ?_;refine Sa ?_;refine CW.loop (ι:=Nat×List UInt8) (λi w'=>i.1≤m∧Ah w w'∧Lib.decDigits m=Lib.decDigits i.1++i.2) (λi=>[(0,.int .i64 (-(m:Int))),(3,.int .u64 (i.1:Int)),(4,Aq i.2)]) (λi=>i.1) (m,[]) ⟨by simp,Chg.refl _ _,by simp⟩ Bp ?_;rintro⟨u,acc⟩ w1 ⟨hu,hx,hd⟩;simp only at hu hd;have a2:acc.length≤21:=by
  have:=congrArg List.length hd;rw[Aa9] at this;omega
 refine Sa ?_;refine Av (λh2=>?_) λh2=>?_
 ·have h2:10≤u:=by simp at h2;omega
  refine Sa ?_;refine CR λb w2 hb a0 hB=>?_;replace hB:Blk w2 b [.int .u8 (48+(u:Int) % 10)] 5:=hB;replace hx:=hx.trans a0;refine Sa ?_;refine QW.again (u / 10,[ch (48+(u:Int) % 10)]++acc) ⟨?_,hx,?_⟩ Bp ?_
  ·simp only;omega
  ·simp only;rw[hd,J4 h2];simp
  ·simp only;omega
 ·have h2:u<10:=by simp at h2;omega
  refine Sa ?_;refine CR λb w2 hb a0 hB=>?_;replace hB:Blk w2 b [.int .u8 (48+(u:Int))] 5:=hB;replace hx:=hx.trans a0;refine Sa ?_;refine CW.yes rfl (decide_eq_true (show -(m:Int)<0 by omega)) ?_;refine Sa ?_;refine QW.body1 rfl rfl ⟨?_,hx⟩;rw[hd,HR h2];rfl
theorem XW(m:Nat)(h0:1≤m):Lib.itoa (-(m:Int))=45::Lib.decDigits m:=by
 unfold Lib.itoa;rw[if_pos Aeb,show(-(m:Int)).natAbs=m by omega]
theorem Tq(n:Int)(h0:-9223372036854775808≤n)(h1:n≤9223372036854775807)(w:World):A9 prog 24 [.int .i64 n] w (λv w'=>v=Aq (Lib.itoa n)∧Ah w w'):=by
 by_cases hn:0≤n
 ·exact Ht n hn h1 w
 ·obtain⟨m,rfl⟩:∃m:Nat,n=-(m:Int):=⟨n.natAbs,by omega⟩;rw[XW m Aeb];exact Ts m Aeb Aeb w
theorem Wq(acc:Nat)(c:UInt8)(r:List UInt8)(hc:Ar (c.toNat:Int)=true):A1 (acc:Int) (c::r)=A1 (((acc*10+(c.toNat - 48):Nat)):Int) r:=by
 simp only[Ar,Abr,decide_eq_true_eq] at hc;have e1:A1 (acc:Int) (c::r)=A1 (10*(acc:Int)+((c.toNat:Int) - 48)) r:=rfl;rw[e1]
 congr 1
 omega
theorem Th:∀(l:List UInt8) (acc u:Nat),(∀c∈l,Ar (c.toNat:Int)=true)→Lib.parseUint10 acc l=.ok u→A1 (acc:Int) l=u
 | [],acc,u,_,h=>by
  simp only[Lib.parseUint10,Lib.NumEnd.ok.injEq] at h
  simp[A1,h]
 | c::r,acc,u,hd,h=>by
  have hc:=hd c Aej;have hc':=hc;simp only[Ar,Abr,decide_eq_true_eq] at hc;rw[Lib.parseUint10,if_pos Aeb] at h
  split at h
  ·cases h
  split at h
  ·cases h
  rw[Wq acc c r hc'];exact Th r _ u (λd h=>hd d (by simp[h])) h
def I1(s:List UInt8):Bool:=decide (s≠[]∧Ab s 0=45)
def BJ(s:List UInt8):List UInt8:=if I1 s then s.drop 1 else s
def F0(l:List UInt8):Bool:=l.all λc=>Ar (c.toNat:Int)
theorem GN{l:List UInt8}:F0 l=true↔∀c∈l,Ar (c.toNat:Int)=true:=Ac5
theorem Xw(s:List UInt8):Ft s=F0 (BJ s):=by
 have key:(∀j,j<s.length→MT s≤j→Ar (Ab s j)=true)↔∀c∈BJ s,Ar (c.toNat:Int)=true:=by
  by_cases hn:s≠[]∧Ab s 0=45
  ·have e1:MT s=1:=by rw[MT,if_pos hn]
   have e2:BJ s=s.drop 1:=by rw[BJ,I1,decide_eq_true hn];rfl
   rw[e1,e2];constructor
   ·intro h c hc;obtain⟨j,hj,rfl⟩:=AcS hc;have a0:j+1<s.length:=by simp at hj;omega
    have:=h (j+1) a0 Aeb;rw[B2 a0] at this
    simpa[Nat.add_comm] using this
   ·intro h j hj h1;rw[B2 hj];refine h _ ?_;rw[List.mem_iff_getElem?];refine⟨j - 1,?_⟩;rw[AcB,show 1+(j - 1)=j by omega,Aav hj]
  ·have e1:MT s=0:=by rw[MT,if_neg hn]
   have e2:BJ s=s:=by rw[BJ,I1,decide_eq_false hn];rfl
   rw[e1,e2];constructor
   ·intro h c hc;obtain⟨j,hj,rfl⟩:=AcS hc;have:=h j hj Aeb
    rwa [B2 hj] at this
   ·intro h j hj _;rw[B2 hj];exact h _ (AbY hj)
 rw[AcL,GN,Ft,decide_eq_true_eq];exact key
theorem Ji(s:List UInt8):Cj s=if F0 (BJ s)=true∧BJ s≠[]∧A1 0 (BJ s)≤9223372036854775808∧(I1 s=false→A1 0 (BJ s)≠9223372036854775808) then some (if I1 s=true then -A1 0 (BJ s) else A1 0 (BJ s)) else none:=by
 rw[Cj,Xw];by_cases hd:F0 (BJ s)=true;rotate_left
 ·rw[if_neg hd,if_neg (λh=>hd h.1)]
 rw[if_pos hd];have a0:=GN.1 hd;by_cases he:BJ s=[]
 ·rw[if_neg (λh=>h.2.1 he)];unfold BJ at he
  cases s with
  | nil=>rfl
  | cons c r=>
   split at he
   ·rename_i hn;simp at he;subst he;simp only[I1,decide_eq_true_eq] at hn;have a1:(c.toNat:Int)=45:=hn.2;simp only[Lib.atoiAll];rw[if_pos Aeb];rfl
   ·cases he
 ·have hl:Lib.parseMag (BJ s)=Lib.parseUint10 0 (BJ s):=by rw[Lib.parseMag,if_neg he]
  have hv:(∃u:Nat,Lib.parseUint10 0 (BJ s)=.ok u∧A1 0 (BJ s)=u)∨(∀u,Lib.parseUint10 0 (BJ s)≠.ok u)∧9223372036854775808<A1 0 (BJ s):=by
   cases hp:Lib.parseUint10 0 (BJ s) with
   | ok u=>exact .inl ⟨u,rfl,by have:=Th _ _ _ a0 hp;simpa using this⟩
   | range=>
    refine .inr ⟨λu h=>Ae0,?_⟩;rcases Int.lt_or_le 9223372036854775808 (A1 0 (BJ s)) with h | h
    ·exact h
    ·have:=MG (BJ s) 0 a0 AeQ
     rw[this] at hp;cases hp
   | _=>
    refine .inr ⟨λu h=>Ae0,?_⟩;rcases Int.lt_or_le 9223372036854775808 (A1 0 (BJ s)) with h | h
    ·exact h
    ·have:=MG (BJ s) 0 a0 AeQ;rw[this] at hp;cases hp
  cases s with
  | nil=>exact absurd rfl he
  | cons c r=>
   by_cases hn:c.toNat=45
   ·have en:I1 (c::r)=true:=by
     have:Ab (c::r) 0=(c.toNat:Int):=rfl;simp only[I1,this,decide_eq_true_eq];exact⟨by simp,by omega⟩
    have eb:BJ (c::r)=r:=by rw[BJ,en];rfl
    rw[eb] at hl hv he ⊢;rw[en];simp only[Lib.atoiAll];rw[if_pos (.inr hn),hl];rcases hv with ⟨u,hp,hu⟩ | ⟨hp,hu⟩
    ·rw[hp,hu];by_cases hb:9223372036854775808<u
     ·simp only;rw[if_neg (by simp[hn]),if_pos ⟨hn,hb⟩,if_neg (by intro h;omega)]
     ·have hR:F0 r=true∧r≠[]∧(u:Int)≤9223372036854775808∧(true=false→(u:Int)≠9223372036854775808):=⟨by rw[eb] at hd;exact hd,he,by omega,by simp⟩;rw[if_pos hR];simp only[hn];rw[if_neg Aej,if_neg Aeb]
      first | done | simp
    ·rw[if_neg (by intro h;omega)]
     cases hq:Lib.parseUint10 0 r with
     | ok u=>exact absurd hq (hp u)
     | range=>rfl
     | _=>rfl
   ·have en:I1 (c::r)=false:=by
     have:Ab (c::r) 0=(c.toNat:Int):=rfl;simp only[I1,this,decide_eq_false_iff_not];intro h;omega
    have eb:BJ (c::r)=c::r:=by rw[BJ,en];rfl
    rw[eb] at hl hv he a0 ⊢;rw[en];have hc:=a0 c Aej;simp only[Ar,Abr,decide_eq_true_eq] at hc;simp only[Lib.atoiAll];rw[if_neg Aeb,hl];rcases hv with ⟨u,hp,hu⟩ | ⟨hp,hu⟩
    ·rw[hp,hu];by_cases hb:9223372036854775808≤u
     ·simp only;rw[if_pos ⟨hn,hb⟩,if_neg (by intro h;have:=h.2.2.2 (by trivial);omega)]
     ·have hR:F0 (c::r)=true∧c::r≠[]∧(u:Int)≤9223372036854775808∧(True→(u:Int)≠9223372036854775808):=⟨by rw[eb] at hd;exact hd,he,by omega,λ_=>by omega⟩;rw[if_pos hR];simp only[hn];rw[if_neg Aeb,if_neg Aej]
      first | done | simp
    ·rw[if_neg (by intro h;omega)]
     cases hq:Lib.parseUint10 0 (c::r) with
     | ok u=>exact absurd hq (hp u)
     | range=>rfl
     | _=>rfl
theorem Wr{d:List UInt8}{i:Nat}(h:∀c∈d,Ar (c.toNat:Int)=true):0≤A1 0 (d.take i)∧A1 0 (d.take i)≤A1 0 d:=by
 have h1:∀c∈d.take i,Ar (c.toNat:Int)=true:=λc hc=>h c (Ad7 hc);have h2:∀c∈d.drop i,Ar (c.toNat:Int)=true:=λc hc=>h c (List.mem_of_mem_drop hc);have h0:=MA (d.take i) 0 Aeb h1;refine⟨h0,?_⟩;have:=MA (d.drop i) (A1 0 (d.take i)) h0 h2;have e:A1 0 (d.take i++d.drop i)=A1 (A1 0 (d.take i)) (d.drop i):=by simp only[A1,Adw]
 rw[Ad0] at e;rw[e];exact this
theorem Tk{z:Int}:∃q:Int,IntKind.i64.wrap z=z+18446744073709551616*q∧-9223372036854775808≤IntKind.i64.wrap z∧IntKind.i64.wrap z≤9223372036854775807:=by
 have e:IntKind.i64.wrap z=if 9223372036854775808≤z % 18446744073709551616 then z % 18446744073709551616 - 18446744073709551616 else z % 18446744073709551616:=by
  simp[IntKind.wrap,IntKind.bits,IntKind.signed]
 rw[e]
 split
 ·exact⟨-(z / 18446744073709551616) - 1,by omega,by omega,by omega⟩
 ·exact⟨-(z / 18446744073709551616),by omega,by omega,by omega⟩
theorem Aa6{z:Int}:(0≤z→z.tdiv 10=z / 10)∧(z≤0→z.tdiv 10=-((-z) / 10)):=by
 refine⟨λh=>Adi h,λh=>?_⟩;have:z.tdiv 10=-((-z).tdiv 10):=by rw[Int.neg_tdiv,Int.neg_neg]
 rw[this,Adi Aeb]
theorem LN(m:Int)(h0:-9223372036854775808≤m)(h1:m≤0)(w:World):A9 prog 147 [.int .i64 m,.int .i64 10] w (λv w'=>(∃z,v=.tuple #[.int .i64 z,.bool (decide (-9223372036854775808≤m*10))]∧(-9223372036854775808≤m*10→z=m*10)∧-9223372036854775808≤z∧z≤9223372036854775807)∧Ah w w'):=by
 refine AG func147 ntmps147 ?_;refine Sa ?_;by_cases a1:m=0
 ·refine LW.know (t:=9) (c:=true) rfl (decide_eq_true a1) ?_;refine Sa ?_;exact QW.body2 rfl rfl rfl ⟨⟨0,by rw[decide_eq_true Aeb],λ_=>by omega,by omega,by omega⟩,Chg.refl _ _⟩
 refine LW.know (t:=9) (c:=false) rfl (decide_eq_false a1) ?_;refine Sa ?_;obtain⟨q,hq,a0,a3⟩:=Tk (z:=m*10);generalize hz:IntKind.i64.wrap (m*10)=z at hq a0 a3;refine LW.arith (op:=.mul) (r:=z) rfl rfl hz rfl rfl ?_;refine Sa ?_;have hd:=Aa6 (z:=z);obtain⟨y,hy,a5⟩:∃y,z.tdiv 10=y∧((0≤z→y=z / 10)∧(z≤0→y=-((-z) / 10))):=⟨_,rfl,hd⟩;refine LW.tquo (q:=10) (z:=y) rfl rfl Aef (by rw[hy,Fs Aeb Aeb]) rfl ?_;refine Sa ?_;by_cases a2:-9223372036854775808≤m*10
 ·have a4:z=m*10:=Aeb
  refine LW.know (t:=22) (c:=true) rfl (decide_eq_true Aeb) ?_;refine Sa ?_;exact QW.body2 rfl rfl rfl ⟨⟨z,by rw[decide_eq_true a2];rfl,λ_=>a4,a0,a3⟩,Chg.refl _ _⟩
 ·refine LW.know (t:=22) (c:=false) rfl (decide_eq_false Aeb) ?_;refine Sa ?_;exact QW.body2 rfl rfl rfl ⟨⟨z,by rw[decide_eq_false a2],λh=>absurd h a2,a0,a3⟩,Chg.refl _ _⟩
theorem NU(m k:Int)(h0:-9223372036854775808≤m)(h1:m≤9223372036854775807)(k0:-9≤k)(k1:k≤0)(w:World):A9 prog 148 [.int .i64 m,.int .i64 k] w (λv w'=>(∃z b,v=.tuple #[.int .i64 z,.bool b]∧(m≤0→b=decide (-9223372036854775808≤m+k)∧(-9223372036854775808≤m+k→z=m+k)))∧Ah w w'):=by
 refine AG func148 ntmps148 ?_;refine Sa ?_;obtain⟨q,hq,a0,a1⟩:=Tk (z:=m+k);generalize hz:IntKind.i64.wrap (m+k)=z at hq a0 a1;refine LW.arith (op:=.add) (r:=z) rfl rfl hz rfl rfl ?_;refine Sa ?_;refine QW.body2 rfl rfl rfl ⟨⟨z,_,rfl,λhm=>⟨?_,λh=>by omega⟩⟩,Chg.refl _ _⟩;by_cases a2:-9223372036854775808≤m+k
 ·rw[decide_eq_true a2,decide_eq_true_eq];by_cases a3:k=0
  ·rw[decide_eq_true (show m≤z by omega),decide_eq_true (show 0≤k by omega)]
  ·rw[decide_eq_false (show ¬m≤z by omega),decide_eq_false (show ¬0≤k by omega)]
 ·rw[decide_eq_false a2,decide_eq_false_iff_not,decide_eq_true (show m≤z by omega),decide_eq_false (show ¬0≤k by omega)];simp
theorem NG{s:List UInt8}(h:F0 (BJ s)=false):Cj s=none:=by
 rw[Ji,if_neg];rintro⟨h1,_⟩;rw[h] at h1;cases h1
theorem NI{s:List UInt8}(h:BJ s=[]):Cj s=none:=by
 rw[Ji,if_neg];rintro⟨_,h1,_⟩;exact h1 h
theorem GX{s:List UInt8}{i:Nat}(h:9223372036854775808<A1 0 ((BJ s).take i)):Cj s=none:=by
 rw[Ji,if_neg];rintro⟨h1,_,h2,_⟩;have:=(Wr (i:=i) (GN.1 h1)).2;omega
theorem L6{d:List UInt8}{k:Nat}(h:k<d.length):A1 0 (d.take (k+1))=10*A1 0 (d.take k)+(Ab d k - 48):=by
 rw[AbO,Aav h,Option.toList_some,FL,B2 h]
theorem KV{d:List UInt8}{k:Nat}(h:k<d.length):F0 (d.take (k+1))=(F0 (d.take k)&&Ar (Ab d k)):=by
 have e:d.take (k+1)=d.take k++[d[k]]:=by rw[AbO,Aav h];rfl
 rw[e,B2 h];simp only[F0,List.all_append,AdN,List.all_nil,Bool.and_true]
def YT(s:List UInt8):Int:=match Cj s with
 | some n=>n
 | none=>0
def KP(s:List UInt8)(v:Value):Prop:=v=.tuple #[.int .i64 (YT s),.bool (Cj s).isSome]
theorem AO{s:List UInt8}(h:Cj s=none):KP s (.tuple #[.int .i64 0,.bool false]):=by
 unfold KP YT;rw[h];rfl
theorem Ef{s:List UInt8}{n:Int}(h:Cj s=some n):KP s (.tuple #[.int .i64 n,.bool true]):=by
 unfold KP YT;rw[h];rfl
set_option maxHeartbeats 2000000 in
theorem Xk(s:List UInt8)(hs:s.length≤1000000)(w:World):A9 prog 95 [Aq s] w (λv w'=>KP s v∧Ah w w'):=by
 obtain⟨d,hd⟩:∃d,d=BJ s:=⟨_,rfl⟩;have ae:d.length≤s.length:=by
  rw[hd,BJ]
  split<;>simp
 refine AG func95 ntmps95 ?_;refine Sa ?_;obtain⟨ng,a5⟩:∃ng,ng=I1 s:=⟨_,rfl⟩;by_cases h0:s=[]
 ·refine LW.know (t:=15) (c:=false) rfl (by simp[h0]) ?_;have hn:I1 s=false:=by simp[I1,h0]
  have ed:s=d:=by rw[hd,BJ,hn];rfl
  refine Sa ?_;refine CW.loop (ι:=Nat) (λk w'=>k≤d.length∧A1 0 (d.take k)≤9223372036854775808∧0≤A1 0 (d.take k)∧F0 (d.take k)=true∧Ah w w') (λk=>[(4,.bool ng),(5,Aq d),(6,.int .i64 (-A1 0 (d.take k))),(7,.int .i64 (k:Int))]) (λk=>d.length - k) 0 ⟨by omega,by simp[A1],by simp[A1],rfl,Chg.refl _ _⟩ (An.cons Aeo (An.cons AeX (An.cons rfl (An.cons rfl An.nil)))) ?_;clear hn ed;rintro k w1 ⟨k0,k1,k2,k3,hx⟩;refine Sa ?_;refine Av (λb1=>?_) λb1=>?_;rotate_left
  ·have b1:k=d.length:=by simp at b1;omega
   rw[b1,AbQ] at k1 k2 k3;rw[b1,AbQ];refine Sa ?_;have a0:=Ji s;rw[←hd,←a5] at a0;by_cases e0:d=[]
   ·refine LW.know (t:=67) (c:=true) rfl (by simp[e0]) ?_;refine Sa ?_;exact QW.body2 rfl rfl rfl ⟨AO (NI (by rw[←hd];exact e0)),hx⟩
   have e1:0<d.length:=AbB.2 e0;refine LW.know (t:=67) (c:=false) rfl (decide_eq_false Aeb) ?_
   cases ng with
   | true=>
    rw[if_pos ⟨k3,e0,k1,by simp⟩,if_pos rfl] at a0;refine Sa ?_
    exact QW.body2 rfl rfl rfl ⟨Ef a0,hx⟩
   | false=>
    refine Sa ?_;refine Av (λb7=>?_) λb7=>?_
    ·have b7:-A1 0 d=-9223372036854775808:=by simpa using b7
     rw[if_neg (λh=>h.2.2.2 rfl Aeb)] at a0;refine Sa ?_;exact QW.body2 rfl rfl rfl ⟨AO a0,hx⟩
    have b7:¬-A1 0 d=-9223372036854775808:=by simpa using b7
    rw[if_pos ⟨k3,e0,k1,λ_=>by omega⟩,if_neg Aej] at a0;refine Sa ?_;refine LW.neg (z:=A1 0 d) rfl AeZ rfl ?_;refine Sa ?_;exact QW.body2 rfl rfl rfl ⟨Ef a0,hx⟩
  have b1:k<d.length:=by simp at b1;omega
  have a6:=L6 b1;have ad:=CQ d k;have a4:=KV b1;have a2:Ar (Ab d k)=false→Cj s=none:=λh=>by
   refine NG ?_;rw[←hd]
   cases hh:F0 d with
   | false=>rfl
   | true=>
    have:=GN.1 hh d[k] (AbY b1);rw[←B2 b1,h] at this;cases this
  refine Sa ?_;by_cases b2:Ab d k<48
  ·refine LW.know (t:=34) (c:=true) rfl (decide_eq_true b2) ?_;refine Sa ?_;exact QW.body2 rfl rfl rfl ⟨AO (a2 Afg),hx⟩
  refine LW.know (t:=34) (c:=false) rfl (decide_eq_false b2) ?_;refine Sa ?_;refine Av (λb3=>?_) λb3=>?_
  ·have b3:57<Ab d k:=by simpa using b3
   refine Sa ?_;exact QW.body2 rfl rfl rfl ⟨AO (a2 Afg),hx⟩
  have b3:¬57<Ab d k:=by simpa using b3
  have a3:Ar (Ab d k)=true:=by simp[Ar];omega
  rw[k3,a3] at a4;refine Sa ?_;refine Ap rfl rfl (LN (-A1 0 (d.take k)) Aeb Aeb w1) ?_;rintro v w2 ⟨⟨z,rfl,hz,a7,a8⟩,a9⟩;refine Sa ?_;refine LW.neg (z:=-(Ab d k - 48)) rfl Aez rfl ?_;refine Sa ?_;refine Ap rfl rfl (NU z (-(Ab d k - 48)) a7 a8 Aeb Aeb w2) ?_;rintro v w3 ⟨⟨y,b,rfl,hy⟩,aa⟩;have a1:=(hx.trans a9).trans aa;refine Sa ?_;by_cases o1:-9223372036854775808≤-A1 0 (d.take k)*10;rotate_left
  ·refine LW.know (t:=58) (c:=true) rfl Afn ?_;refine Sa ?_;exact QW.body2 rfl rfl rfl ⟨AO (GX (i:=k+1) Afh),a1⟩
  obtain rfl:=hz o1;obtain⟨rfl,ab⟩:=hy Aeb;refine LW.know (t:=58) (c:=false) rfl Aft ?_;refine Sa ?_;refine Av (λb5=>?_) λb5=>?_
  ·have b5:¬-9223372036854775808≤-A1 0 (d.take k)*10+-(Ab d k - 48):=by simpa using b5
   refine Sa ?_;exact QW.body2 rfl rfl rfl ⟨AO (GX (i:=k+1) Afh),a1⟩
  have b5:-9223372036854775808≤-A1 0 (d.take k)*10+-(Ab d k - 48):=by simpa using b5
  have ac:y=-A1 0 (d.take (k+1)):=by rw[ab b5,a6];omega
  refine Sa ?_;exact QW.again (k+1) ⟨by omega,by omega,by omega,a4,a1⟩ Ae1 Aeb
 have hl:0<s.length:=AbB.2 h0;refine LW.know (t:=15) (c:=true) rfl (decide_eq_true Aeb) ?_;refine Sa ?_;by_cases h1:Ab s 0=45
 ·have hn:I1 s=true:=by simp[I1,h0,h1]
  have ec:cut s (1:Int).toNat ((s.length:Nat):Int).toNat=s.drop 1:=EZ s 1;have ed:s.drop 1=d:=by rw[hd,BJ,hn];rfl
  refine CW.yes rfl (decide_eq_true h1) ?_;refine Sz ?_;refine CW.loop (ι:=Nat) (λk w'=>k≤d.length∧A1 0 (d.take k)≤9223372036854775808∧0≤A1 0 (d.take k)∧F0 (d.take k)=true∧Ah w w') (λk=>[(4,.bool ng),(5,Aq d),(6,.int .i64 (-A1 0 (d.take k))),(7,.int .i64 (k:Int))]) (λk=>d.length - k) 0 ⟨by omega,by simp[A1],by simp[A1],rfl,Chg.refl _ _⟩ (An.cons Aeo (An.cons AeX (An.cons rfl (An.cons rfl An.nil)))) ?_;clear hn ed;rintro k w1 ⟨k0,k1,k2,k3,hx⟩;refine Sa ?_;refine Av (λb1=>?_) λb1=>?_;rotate_left
  ·have b1:k=d.length:=by simp at b1;omega
   rw[b1,AbQ] at k1 k2 k3;rw[b1,AbQ];refine Sa ?_;have a0:=Ji s;rw[←hd,←a5] at a0;by_cases e0:d=[]
   ·refine LW.know (t:=67) (c:=true) rfl (by simp[e0]) ?_;refine Sa ?_;exact QW.body2 rfl rfl rfl ⟨AO (NI (by rw[←hd];exact e0)),hx⟩
   have e1:0<d.length:=AbB.2 e0;refine LW.know (t:=67) (c:=false) rfl (decide_eq_false Aeb) ?_
   cases ng with
   | true=>
    rw[if_pos ⟨k3,e0,k1,by simp⟩,if_pos rfl] at a0;refine Sa ?_
    exact QW.body2 rfl rfl rfl ⟨Ef a0,hx⟩
   | false=>
    refine Sa ?_;refine Av (λb7=>?_) λb7=>?_
    ·have b7:-A1 0 d=-9223372036854775808:=by simpa using b7
     rw[if_neg (λh=>h.2.2.2 rfl Aeb)] at a0;refine Sa ?_;exact QW.body2 rfl rfl rfl ⟨AO a0,hx⟩
    have b7:¬-A1 0 d=-9223372036854775808:=by simpa using b7
    rw[if_pos ⟨k3,e0,k1,λ_=>by omega⟩,if_neg Aej] at a0;refine Sa ?_;refine LW.neg (z:=A1 0 d) rfl AeZ rfl ?_;refine Sa ?_;exact QW.body2 rfl rfl rfl ⟨Ef a0,hx⟩
  have b1:k<d.length:=by simp at b1;omega
  have a6:=L6 b1;have ad:=CQ d k;have a4:=KV b1;have a2:Ar (Ab d k)=false→Cj s=none:=λh=>by
   refine NG ?_;rw[←hd]
   cases hh:F0 d with
   | false=>rfl
   | true=>
    have:=GN.1 hh d[k] (AbY b1);rw[←B2 b1,h] at this;cases this
  refine Sa ?_;by_cases b2:Ab d k<48
  ·refine LW.know (t:=34) (c:=true) rfl (decide_eq_true b2) ?_;refine Sa ?_;exact QW.body2 rfl rfl rfl ⟨AO (a2 Afg),hx⟩
  refine LW.know (t:=34) (c:=false) rfl (decide_eq_false b2) ?_;refine Sa ?_;refine Av (λb3=>?_) λb3=>?_
  ·have b3:57<Ab d k:=by simpa using b3
   refine Sa ?_;exact QW.body2 rfl rfl rfl ⟨AO (a2 Afg),hx⟩
  have b3:¬57<Ab d k:=by simpa using b3
  have a3:Ar (Ab d k)=true:=by simp[Ar];omega
  rw[k3,a3] at a4;refine Sa ?_;refine Ap rfl rfl (LN (-A1 0 (d.take k)) Aeb Aeb w1) ?_;rintro v w2 ⟨⟨z,rfl,hz,a7,a8⟩,a9⟩;refine Sa ?_;refine LW.neg (z:=-(Ab d k - 48)) rfl Aez rfl ?_;refine Sa ?_;refine Ap rfl rfl (NU z (-(Ab d k - 48)) a7 a8 Aeb Aeb w2) ?_;rintro v w3 ⟨⟨y,b,rfl,hy⟩,aa⟩;have a1:=(hx.trans a9).trans aa;refine Sa ?_;by_cases o1:-9223372036854775808≤-A1 0 (d.take k)*10;rotate_left
  ·refine LW.know (t:=58) (c:=true) rfl Afn ?_;refine Sa ?_;exact QW.body2 rfl rfl rfl ⟨AO (GX (i:=k+1) Afh),a1⟩
  obtain rfl:=hz o1;obtain⟨rfl,ab⟩:=hy Aeb;refine LW.know (t:=58) (c:=false) rfl Aft ?_;refine Sa ?_;refine Av (λb5=>?_) λb5=>?_
  ·have b5:¬-9223372036854775808≤-A1 0 (d.take k)*10+-(Ab d k - 48):=by simpa using b5
   refine Sa ?_;exact QW.body2 rfl rfl rfl ⟨AO (GX (i:=k+1) Afh),a1⟩
  have b5:-9223372036854775808≤-A1 0 (d.take k)*10+-(Ab d k - 48):=by simpa using b5
  have ac:y=-A1 0 (d.take (k+1)):=by rw[ab b5,a6];omega
  refine Sa ?_;exact QW.again (k+1) ⟨by omega,by omega,by omega,a4,a1⟩ Ae1 Aeb
 ·have hn:I1 s=false:=by simp[I1,h1]
  have ed:s=d:=by rw[hd,BJ,hn];rfl
  refine CW.no rfl (decide_eq_false h1) ?_;refine Sa ?_;refine CW.loop (ι:=Nat) (λk w'=>k≤d.length∧A1 0 (d.take k)≤9223372036854775808∧0≤A1 0 (d.take k)∧F0 (d.take k)=true∧Ah w w') (λk=>[(4,.bool ng),(5,Aq d),(6,.int .i64 (-A1 0 (d.take k))),(7,.int .i64 (k:Int))]) (λk=>d.length - k) 0 ⟨by omega,by simp[A1],by simp[A1],rfl,Chg.refl _ _⟩ (An.cons Aeo (An.cons AeX (An.cons rfl (An.cons rfl An.nil)))) ?_;clear hn ed;rintro k w1 ⟨k0,k1,k2,k3,hx⟩;refine Sa ?_;refine Av (λb1=>?_) λb1=>?_;rotate_left
  ·have b1:k=d.length:=by simp at b1;omega
   rw[b1,AbQ] at k1 k2 k3;rw[b1,AbQ];refine Sa ?_;have a0:=Ji s;rw[←hd,←a5] at a0;by_cases e0:d=[]
   ·refine LW.know (t:=67) (c:=true) rfl (by simp[e0]) ?_;refine Sa ?_;exact QW.body2 rfl rfl rfl ⟨AO (NI (by rw[←hd];exact e0)),hx⟩
   have e1:0<d.length:=AbB.2 e0;refine LW.know (t:=67) (c:=false) rfl (decide_eq_false Aeb) ?_
   cases ng with
   | true=>
    rw[if_pos ⟨k3,e0,k1,by simp⟩,if_pos rfl] at a0;refine Sa ?_
    exact QW.body2 rfl rfl rfl ⟨Ef a0,hx⟩
   | false=>
    refine Sa ?_;refine Av (λb7=>?_) λb7=>?_
    ·have b7:-A1 0 d=-9223372036854775808:=by simpa using b7
     rw[if_neg (λh=>h.2.2.2 rfl Aeb)] at a0;refine Sa ?_;exact QW.body2 rfl rfl rfl ⟨AO a0,hx⟩
    have b7:¬-A1 0 d=-9223372036854775808:=by simpa using b7
    rw[if_pos ⟨k3,e0,k1,λ_=>by omega⟩,if_neg Aej] at a0;refine Sa ?_;refine LW.neg (z:=A1 0 d) rfl AeZ rfl ?_;refine Sa ?_;exact QW.body2 rfl rfl rfl ⟨Ef a0,hx⟩
  have b1:k<d.length:=by simp at b1;omega
  have a6:=L6 b1;have ad:=CQ d k;have a4:=KV b1;have a2:Ar (Ab d k)=false→Cj s=none:=λh=>by
   refine NG ?_;rw[←hd]
   cases hh:F0 d with
   | false=>rfl
   | true=>
    have:=GN.1 hh d[k] (AbY b1);rw[←B2 b1,h] at this;cases this
  refine Sa ?_;by_cases b2:Ab d k<48
  ·refine LW.know (t:=34) (c:=true) rfl (decide_eq_true b2) ?_;refine Sa ?_;exact QW.body2 rfl rfl rfl ⟨AO (a2 Afg),hx⟩
  refine LW.know (t:=34) (c:=false) rfl (decide_eq_false b2) ?_;refine Sa ?_;refine Av (λb3=>?_) λb3=>?_
  ·have b3:57<Ab d k:=by simpa using b3
   refine Sa ?_;exact QW.body2 rfl rfl rfl ⟨AO (a2 Afg),hx⟩
  have b3:¬57<Ab d k:=by simpa using b3
  have a3:Ar (Ab d k)=true:=by simp[Ar];omega
  rw[k3,a3] at a4;refine Sa ?_;refine Ap rfl rfl (LN (-A1 0 (d.take k)) Aeb Aeb w1) ?_;rintro v w2 ⟨⟨z,rfl,hz,a7,a8⟩,a9⟩;refine Sa ?_;refine LW.neg (z:=-(Ab d k - 48)) rfl Aez rfl ?_;refine Sa ?_;refine Ap rfl rfl (NU z (-(Ab d k - 48)) a7 a8 Aeb Aeb w2) ?_;rintro v w3 ⟨⟨y,b,rfl,hy⟩,aa⟩;have a1:=(hx.trans a9).trans aa;refine Sa ?_;by_cases o1:-9223372036854775808≤-A1 0 (d.take k)*10;rotate_left
  ·refine LW.know (t:=58) (c:=true) rfl Afn ?_;refine Sa ?_;exact QW.body2 rfl rfl rfl ⟨AO (GX (i:=k+1) Afh),a1⟩
  obtain rfl:=hz o1;obtain⟨rfl,ab⟩:=hy Aeb;refine LW.know (t:=58) (c:=false) rfl Aft ?_;refine Sa ?_;refine Av (λb5=>?_) λb5=>?_
  ·have b5:¬-9223372036854775808≤-A1 0 (d.take k)*10+-(Ab d k - 48):=by simpa using b5
   refine Sa ?_;exact QW.body2 rfl rfl rfl ⟨AO (GX (i:=k+1) Afh),a1⟩
  have b5:-9223372036854775808≤-A1 0 (d.take k)*10+-(Ab d k - 48):=by simpa using b5
  have ac:y=-A1 0 (d.take (k+1)):=by rw[ab b5,a6];omega
  refine Sa ?_;exact QW.again (k+1) ⟨by omega,by omega,by omega,a4,a1⟩ Ae1 Aeb
theorem Xj{s:List UInt8}{n:Int}(h:Cj s=some n):YT s=n:=by
 unfold YT;rw[h]
set_option maxHeartbeats 1000000 in
theorem Q1(s:List UInt8)(hs:s.length≤9223372036854775807)(w:World):A9 prog 67 [Aq s] w (λv w'=>v=.bool (Ci s)∧Ah w w'):=by
 refine AG func67 ntmps67 ?_;refine Sa ?_;refine Av (λh1=>?_) λh1=>?_
 ·have h1:300<s.length:=by simp at h1;omega
  refine Sa ?_;exact QW.body1 rfl rfl ⟨by rw[Ci,if_pos h1],Chg.refl _ _⟩
 have h1:s.length≤300:=by simp at h1;omega
 have n1:¬300<s.length:=Aeb
 refine Sa ?_;by_cases h2:s=[]
 ·refine LW.know (t:=11) (c:=true) rfl Afy ?_;refine Sa ?_;exact QW.body1 rfl rfl ⟨by rw[Ci,if_neg n1,if_pos (.inl h2)],Chg.refl _ _⟩
 have hl:0<s.length:=AbB.2 h2;refine LW.know (t:=11) (c:=false) rfl Afy ?_;refine Sa ?_;refine Av (λh3=>?_) λh3=>?_
 ·have h3:Ab s 0=39:=by simpa using h3
  refine Sa ?_;exact QW.body1 rfl rfl ⟨by rw[Ci,if_neg n1,if_pos (.inr h3)],Chg.refl _ _⟩
 have h3:Ab s 0≠39:=by simpa using h3
 have n3:¬(s=[]∨Ab s 0=39):=by simp[h2,h3]
 refine Sa ?_;refine Av (λh4=>?_) λh4=>?_
 ·have h4:Ab s 0=61:=by simpa using h4
  have ec:cut s (1:Int).toNat ((s.length:Nat):Int).toNat=s.drop 1:=EZ s 1;have ab:(s.drop 1).length≤300:=Aee
  refine Sz ?_;refine Ap rfl rfl (Vv (cut s (1:Int).toNat ((s.length:Nat):Int).toNat) (by rw[ec];omega) w) ?_;rw[ec];rintro v w1 ⟨⟨hv,he⟩,a3⟩
  cases a0:AE (s.drop 1) with
  | error e=>
   rw[a0] at hv;obtain rfl:=hv;have a7:=he e a0;refine Sa ?_;refine B1 λA w2 a8 a1 hA=>?_;refine Sa ?_;refine AF λw3 a4 hA=>?_;have a5:=(a3.trans a1).step a4 (by have:=a3.size;simp;omega);refine Sa ?_;refine LW.know (t:=25) (c:=false) rfl (decide_eq_false a7) ?_;refine Sa ?_
   exact QW.body1 rfl rfl ⟨by rw[Ci,if_neg n1,if_neg n3,if_pos h4,a0],a5⟩
  | ok l=>
   rw[a0] at hv;obtain⟨sv,rfl,hN⟩:=hv;obtain⟨_,f1,f2,f3,f4⟩:=Ed a0;have a6:Cv w1 sv l:=hN.row Aeb (λn hm=>by have:=f4 n hm;omega);obtain⟨p,c,rfl⟩:=a6.slice;have a9:PIs (s.drop 1) l 0:=.inl ⟨a0,rfl⟩;refine Sa ?_;refine B1 λA w2 a8 a1 hA=>?_;have ac:=a3.size;refine Sa ?_;refine AF λw3 a4 hA=>?_;have a2:Ah w1 w3:=a1.step a4 Aee;have a5:=a3.trans a2;refine Sa ?_;refine Ap rfl rfl (Uv l _ w3 (a6.ext a2) f2 (λn hn=>by have:=f4 n hn;omega) a9.num) ?_;rintro v w4 ⟨rfl,aa⟩;have ad:=(G6 a0).2.1;refine Sa ?_;refine QW.body1 rfl rfl ⟨?_,a5.trans aa⟩;rw[Ci,if_neg n1,if_neg n3,if_pos h4,a0];simp only;have es:s=61::s.drop 1:=by
    cases s with
    | nil=>exact absurd rfl h2
    | cons c r=>
     have:Ab (c::r) 0=(c.toNat:Int):=rfl;rw[this] at h4;have hc:c=61:=by
      apply Adn.1;simp;omega
     rw[hc];rfl
   congr 1
   by_cases hq:BN l=s.drop 1
   ·rw[decide_eq_true hq,decide_eq_true];rw[hq];exact es.symm
   ·rw[decide_eq_false hq,decide_eq_false];intro hh;rw[es] at hh;simp at hh;exact hq (by simpa using hh)
 have h4:Ab s 0≠61:=by simpa using h4
 refine Sa ?_;refine Ap rfl rfl (Xk s Aeb w) ?_;rintro v w1 ⟨hv,hx⟩;unfold KP at hv;subst hv
 cases hn:Cj s with
 | some n=>
  obtain⟨b0,b1⟩:=NH hn;rw[Xj hn];refine Sa ?_;refine Ap rfl rfl (Tq n b0 b1 w1) ?_;rintro v w2 ⟨rfl,a1⟩;refine Sa ?_
  exact QW.body1 rfl rfl ⟨by rw[Ci,if_neg n1,if_neg n3,if_neg h4,hn],hx.trans a1⟩
 | none=>
  refine Sa ?_;exact QW.body1 rfl rfl ⟨by rw[Ci,if_neg n1,if_neg n3,if_neg h4,hn],hx⟩
def Tr.fitB:{b:Bool}→Tr b→Bool
 | _,.leaf n=>decide (1≤n.kind)&&decide (n.kind≤6)&&decide (n.kids=[])&&Au n
 | _,.neg a=>a.fitB
 | _,.two k a b=>decide (9≤k)&&decide (k≤19)&&a.fitB&&b.fitB
 | _,.call x ks=>C2 x&&ks.fitB
 | _,.nil=>true
 | _,.snoc ks a=>ks.fitB&&a.fitB
theorem Tr.fit_of:∀{b:Bool} (t:Tr b),t.fitB=true→t.Fit
 | _,.leaf n,h=>by
  simp only[Tr.fitB,Abr,decide_eq_true_eq] at h
  exact⟨h.1.1.1,h.1.1.2,h.1.2,h.2⟩
 | _,.neg a,h=>Tr.fit_of a h
 | _,.two k a b,h=>by
  simp only[Tr.fitB,Abr,decide_eq_true_eq] at h
  exact⟨h.1.1.1,h.1.1.2,Tr.fit_of a h.1.2,Tr.fit_of b h.2⟩
 | _,.call x ks,h=>by
  simp only[Tr.fitB,Abr] at h
  exact⟨h.1,Tr.fit_of ks h.2⟩
 | _,.nil,_=>trivial
 | _,.snoc ks a,h=>by
  simp only[Tr.fitB,Abr] at h;exact⟨Tr.fit_of ks h.1,Tr.fit_of a h.2⟩
def Tr.numB{b:Bool}(t:Tr b):Bool:=t.toks.all λk=>decide (k.num≤9223372036854775807)
theorem Tr.num_of'{b:Bool}{t:Tr b}(h:t.numB=true):t.Num:=λk hk=>by
 have:=Ac5.1 h k hk
 simpa using this
def Tr.okB(t:Tr false):Bool:=t.fitB&&t.numB&&decide (t.text.length<300)&&decide (t.need≤12)
theorem Td{t:Tr false}(hf:t.Fit)(hn:t.Num)(hl:t.text.length<300)(hd:t.need≤12):Ci (61::t.text)=true:=by
 have hp:AE t.text=.ok (t.flat 0):=by rw[G4 t hf hn,if_neg Aeb,if_pos hd]
 rw[Ci,if_neg Aee,if_neg (by simp[Ab]),if_pos (by simp[Ab])];show(match AE t.text with | .error _=>false | .ok l=>decide (BN l=t.text))=true;rw[hp];simp only;rw[FO hf];simp
theorem Zz{t:Tr false}(h:t.okB=true):Ci (61::t.text)=true:=by
 simp only[Tr.okB,Abr,decide_eq_true_eq] at h;exact Td (t.fit_of h.1.1.1) (Tr.num_of' h.1.1.2) h.1.2 h.2
theorem Yk(n:Int)(b0:-9223372036854775808≤n)(b1:n≤9223372036854775807):Ci (Lib.itoa n)=true:=by
 obtain⟨c1,c2,c3⟩:=Wo b0 b1;have a0:=Lib.itoa_length_le n b0 b1;have n39:¬(Lib.itoa n=[]∨Ab (Lib.itoa n) 0=39):=by
  rintro(h | h)
  ·exact c2 h
  ·omega
 rw[Ci,if_neg Aeb,if_neg n39,if_neg Aeb,c1];simp
end Go.Proofs.YtcjjcnecopnpcaaGreatDoor
