/-
  Joined by program out of the texts Cell CellM CellF CellP DigA NumP RCell RForm.
-/
import Derived.Test.YtefaigjfkddelaaGreatDoorCkF
import Derived.Test.YtefaigjfkddelaaGreatDoorCkE
import Derived.Test.YtefaigjfkddelaaGreatDoorCkD
namespace Go.Proofs.YtefaigjfkddelaaGreatDoor
open Go Go.E
def MJ (s:List UInt8):Nat:=if s≠[]∧Ae s 0=45 then 1 else 0
def Er (s:List UInt8):Bool:=decide (∀j,j<s.length→MJ s≤j→Av (Ae s j)=true)
def Cl (s:List UInt8):Option Int:=if Er s then (match Lib.atoiAll s with
 | .ok n=>some n
 | _=>none) else none
theorem Nh (s:List UInt8) (hs:s.length≤1000000) (w:World) (g:Cm w):AL Tryz.prog 87 [Ap s] w (λv w'=>(∃z,v=.tuple #[.int .i64 z,.bool (Cl s).isSome]∧∀n,Cl s=some n→z=n)∧Ag w w'):=by
 refine Br Tryz.func87 Tryz.ntmps87 ?_;refine Sa ?_;by_cases h0:s=[]
 ·refine LW.know (t:=10) (c:=false) rfl (by simp [h0]) ?_;refine Sa ?_;have a3:MJ s=0:=by simp [MJ,h0]
  refine CW.loop (ι:=Nat) (λk w'=>MJ s≤k∧(k≤s.length∨s.length≤k)∧k≤s.length+1∧Ag w w'∧∀j,j<k→j<s.length→MJ s≤j→Av (Ae s j)=true) (λk=>[(0,Ap s),(5,.int .i64 (k:Int))]) (λk=>s.length+1 - k) (MJ s) ⟨Nat.le_refl _,by omega,by rw [a3];omega,Chg.refl _ _,λj h1 h2 h3=>by omega⟩ (by rw [a3];exact (Af.cons rfl (Af.cons rfl (Af.nil)))) ?_;rintro k w1 ⟨k0,_,k1,hx,a0⟩;refine Sa ?_;refine A4 (λb1=>?_) λb1=>?_
  ·have b1:k<s.length:=by simp at b1;omega
   refine Sa ?_;refine DU (λb2=>?_) λb2=>?_
   ·have b2:Ae s k<48:=by simpa using b2
    refine Sa ?_;refine QW.body2 Tryz.results87 rfl rfl ⟨⟨0,?_,λn hn=>?_⟩,hx⟩<;>
    ·have:Er s=false:=by
      simp only [Er,decide_eq_false_iff_not];intro hh;have:=hh k b1 k0;simp [Av] at this;omega
     first | rw [Cl,this];rfl | (rw [Cl,this] at hn;cases hn)
   have b2:¬Ae s k<48:=by simpa using b2
   refine Sa ?_;refine A4 (λb3=>?_) λb3=>?_
   ·have b3:57<Ae s k:=by simpa using b3
    refine Sa ?_;refine QW.body2 Tryz.results87 rfl rfl ⟨⟨0,?_,λn hn=>?_⟩,hx⟩<;>
    ·have:Er s=false:=by
      simp only [Er,decide_eq_false_iff_not];intro hh;have:=hh k b1 k0;simp [Av] at this;omega
     first | rw [Cl,this];rfl | (rw [Cl,this] at hn;cases hn)
   have b3:¬57<Ae s k:=by simpa using b3
   refine Sa ?_;refine QW.again (k+1) ⟨by omega,by omega,by omega,hx,λj h1 h2 h3=>?_⟩ Ml (by omega);by_cases e:j=k
   ·subst e;simp [Av];omega
   ·exact a0 j (by omega) h2 h3
  have b1:s.length≤k:=by simp at b1;omega
  have hD:Er s=true:=by
   simp only [Er,decide_eq_true_eq];exact λj h1 h2=>a0 j (by omega) h1 h2
  refine Sa ?_;refine AE rfl rfl (FK s hs w1 (g.ext hx)) ?_;rintro v w2 ⟨hv,a2⟩;unfold GI at hv
  cases ha:Lib.atoiAll s with
  | ok n=>
   have hn:Cl s=some n:=by rw [Cl,hD,ha];rfl
   rw [ha] at hv;subst hv;refine Sa ?_;refine Lr ?_;refine Sq ?_;refine QL.yields rfl rfl rfl (λw' _=>Y.eql_nil_nil rfl rfl rfl _) ?_;refine Sq ?_;refine QL.nil λw3 a1=>?_;refine Sa ?_
   refine QW.body2 Tryz.results87 rfl rfl ⟨⟨n,by rw [hn];rfl,λm hm=>by rw [hn] at hm;exact Option.some.inj hm⟩,(hx.trans a2).trans a1⟩
  | range=>
   have hn:Cl s=none:=by rw [Cl,hD,ha];rfl
   rw [ha] at hv;obtain ⟨z,t,x,rfl⟩:=hv;refine Sa ?_;refine Lr ?_;refine Sq ?_;refine QL.yields rfl rfl rfl (λw' _=>Y.eql_nil rfl rfl rfl _) ?_;refine Sq ?_;refine QL.nil λw3 a1=>?_;refine Sa ?_
   refine QW.body2 Tryz.results87 rfl rfl ⟨⟨z,by rw [hn];rfl,λm hm=>by rw [hn] at hm;cases hm⟩,(hx.trans a2).trans a1⟩
  | _=>
   have hn:Cl s=none:=by rw [Cl,hD,ha];rfl
   rw [ha] at hv;obtain ⟨z,t,x,rfl⟩:=hv;refine Sa ?_;refine Lr ?_;refine Sq ?_;refine QL.yields rfl rfl rfl (λw' _=>Y.eql_nil rfl rfl rfl _) ?_;refine Sq ?_;refine QL.nil λw3 a1=>?_;refine Sa ?_;refine QW.body2 Tryz.results87 rfl rfl ⟨⟨z,by rw [hn];rfl,λm hm=>by rw [hn] at hm;cases hm⟩,(hx.trans a2).trans a1⟩
 ·have hl:0<s.length:=List.length_pos_iff.2 h0;refine LW.know (t:=10) (c:=true) rfl (by simp [h0]) ?_;refine Sa ?_;refine A4 (λh1=>?_) λh1=>?_
  ·have h1:Ae s 0=45:=by simpa using h1
   have a3:MJ s=1:=by simp [MJ,h0,h1]
   refine Sa ?_;refine CW.loop (ι:=Nat) (λk w'=>MJ s≤k∧(k≤s.length∨s.length≤k)∧k≤s.length+1∧Ag w w'∧∀j,j<k→j<s.length→MJ s≤j→Av (Ae s j)=true) (λk=>[(0,Ap s),(5,.int .i64 (k:Int))]) (λk=>s.length+1 - k) (MJ s) ⟨Nat.le_refl _,by omega,by rw [a3];omega,Chg.refl _ _,λj h1 h2 h3=>by omega⟩ (by rw [a3];exact (Af.cons rfl (Af.cons rfl (Af.nil)))) ?_;rintro k w1 ⟨k0,_,k1,hx,a0⟩;refine Sa ?_;refine A4 (λb1=>?_) λb1=>?_
   ·have b1:k<s.length:=by simp at b1;omega
    refine Sa ?_;refine DU (λb2=>?_) λb2=>?_
    ·have b2:Ae s k<48:=by simpa using b2
     refine Sa ?_;refine QW.body2 Tryz.results87 rfl rfl ⟨⟨0,?_,λn hn=>?_⟩,hx⟩<;>
     ·have:Er s=false:=by
       simp only [Er,decide_eq_false_iff_not];intro hh;have:=hh k b1 k0;simp [Av] at this;omega
      first | rw [Cl,this];rfl | (rw [Cl,this] at hn;cases hn)
    have b2:¬Ae s k<48:=by simpa using b2
    refine Sa ?_;refine A4 (λb3=>?_) λb3=>?_
    ·have b3:57<Ae s k:=by simpa using b3
     refine Sa ?_;refine QW.body2 Tryz.results87 rfl rfl ⟨⟨0,?_,λn hn=>?_⟩,hx⟩<;>
     ·have:Er s=false:=by
       simp only [Er,decide_eq_false_iff_not];intro hh;have:=hh k b1 k0;simp [Av] at this;omega
      first | rw [Cl,this];rfl | (rw [Cl,this] at hn;cases hn)
    have b3:¬57<Ae s k:=by simpa using b3
    refine Sa ?_;refine QW.again (k+1) ⟨by omega,by omega,by omega,hx,λj h1 h2 h3=>?_⟩ Ml (by omega);by_cases e:j=k
    ·subst e;simp [Av];omega
    ·exact a0 j (by omega) h2 h3
   have b1:s.length≤k:=by simp at b1;omega
   have hD:Er s=true:=by
    simp only [Er,decide_eq_true_eq];exact λj h1 h2=>a0 j (by omega) h1 h2
   refine Sa ?_;refine AE rfl rfl (FK s hs w1 (g.ext hx)) ?_;rintro v w2 ⟨hv,a2⟩;unfold GI at hv
   cases ha:Lib.atoiAll s with
   | ok n=>
    have hn:Cl s=some n:=by rw [Cl,hD,ha];rfl
    rw [ha] at hv;subst hv;refine Sa ?_;refine Lr ?_;refine Sq ?_;refine QL.yields rfl rfl rfl (λw' _=>Y.eql_nil_nil rfl rfl rfl _) ?_;refine Sq ?_;refine QL.nil λw3 a1=>?_;refine Sa ?_
    refine QW.body2 Tryz.results87 rfl rfl ⟨⟨n,by rw [hn];rfl,λm hm=>by rw [hn] at hm;exact Option.some.inj hm⟩,(hx.trans a2).trans a1⟩
   | range=>
    have hn:Cl s=none:=by rw [Cl,hD,ha];rfl
    rw [ha] at hv;obtain ⟨z,t,x,rfl⟩:=hv;refine Sa ?_;refine Lr ?_;refine Sq ?_;refine QL.yields rfl rfl rfl (λw' _=>Y.eql_nil rfl rfl rfl _) ?_;refine Sq ?_;refine QL.nil λw3 a1=>?_;refine Sa ?_
    refine QW.body2 Tryz.results87 rfl rfl ⟨⟨z,by rw [hn];rfl,λm hm=>by rw [hn] at hm;cases hm⟩,(hx.trans a2).trans a1⟩
   | _=>
    have hn:Cl s=none:=by rw [Cl,hD,ha];rfl
    rw [ha] at hv;obtain ⟨z,t,x,rfl⟩:=hv;refine Sa ?_;refine Lr ?_;refine Sq ?_;refine QL.yields rfl rfl rfl (λw' _=>Y.eql_nil rfl rfl rfl _) ?_;refine Sq ?_;refine QL.nil λw3 a1=>?_;refine Sa ?_;refine QW.body2 Tryz.results87 rfl rfl ⟨⟨z,by rw [hn];rfl,λm hm=>by rw [hn] at hm;cases hm⟩,(hx.trans a2).trans a1⟩
  ·have h1:Ae s 0≠45:=by simpa using h1
   have a3:MJ s=0:=by simp [MJ,h1]
   refine Sa ?_;refine CW.loop (ι:=Nat) (λk w'=>MJ s≤k∧(k≤s.length∨s.length≤k)∧k≤s.length+1∧Ag w w'∧∀j,j<k→j<s.length→MJ s≤j→Av (Ae s j)=true) (λk=>[(0,Ap s),(5,.int .i64 (k:Int))]) (λk=>s.length+1 - k) (MJ s) ⟨Nat.le_refl _,by omega,by rw [a3];omega,Chg.refl _ _,λj h1 h2 h3=>by omega⟩ (by rw [a3];exact (Af.cons rfl (Af.cons rfl (Af.nil)))) ?_;rintro k w1 ⟨k0,_,k1,hx,a0⟩;refine Sa ?_;refine A4 (λb1=>?_) λb1=>?_
   ·have b1:k<s.length:=by simp at b1;omega
    refine Sa ?_;refine DU (λb2=>?_) λb2=>?_
    ·have b2:Ae s k<48:=by simpa using b2
     refine Sa ?_;refine QW.body2 Tryz.results87 rfl rfl ⟨⟨0,?_,λn hn=>?_⟩,hx⟩<;>
     ·have:Er s=false:=by
       simp only [Er,decide_eq_false_iff_not];intro hh;have:=hh k b1 k0;simp [Av] at this;omega
      first | rw [Cl,this];rfl | (rw [Cl,this] at hn;cases hn)
    have b2:¬Ae s k<48:=by simpa using b2
    refine Sa ?_;refine A4 (λb3=>?_) λb3=>?_
    ·have b3:57<Ae s k:=by simpa using b3
     refine Sa ?_;refine QW.body2 Tryz.results87 rfl rfl ⟨⟨0,?_,λn hn=>?_⟩,hx⟩<;>
     ·have:Er s=false:=by
       simp only [Er,decide_eq_false_iff_not];intro hh;have:=hh k b1 k0;simp [Av] at this;omega
      first | rw [Cl,this];rfl | (rw [Cl,this] at hn;cases hn)
    have b3:¬57<Ae s k:=by simpa using b3
    refine Sa ?_;refine QW.again (k+1) ⟨by omega,by omega,by omega,hx,λj h1 h2 h3=>?_⟩ Ml (by omega);by_cases e:j=k
    ·subst e;simp [Av];omega
    ·exact a0 j (by omega) h2 h3
   have b1:s.length≤k:=by simp at b1;omega
   have hD:Er s=true:=by
    simp only [Er,decide_eq_true_eq];exact λj h1 h2=>a0 j (by omega) h1 h2
   refine Sa ?_;refine AE rfl rfl (FK s hs w1 (g.ext hx)) ?_;rintro v w2 ⟨hv,a2⟩;unfold GI at hv
   cases ha:Lib.atoiAll s with
   | ok n=>
    have hn:Cl s=some n:=by rw [Cl,hD,ha];rfl
    rw [ha] at hv;subst hv;refine Sa ?_;refine Lr ?_;refine Sq ?_;refine QL.yields rfl rfl rfl (λw' _=>Y.eql_nil_nil rfl rfl rfl _) ?_;refine Sq ?_;refine QL.nil λw3 a1=>?_;refine Sa ?_
    refine QW.body2 Tryz.results87 rfl rfl ⟨⟨n,by rw [hn];rfl,λm hm=>by rw [hn] at hm;exact Option.some.inj hm⟩,(hx.trans a2).trans a1⟩
   | range=>
    have hn:Cl s=none:=by rw [Cl,hD,ha];rfl
    rw [ha] at hv;obtain ⟨z,t,x,rfl⟩:=hv;refine Sa ?_;refine Lr ?_;refine Sq ?_;refine QL.yields rfl rfl rfl (λw' _=>Y.eql_nil rfl rfl rfl _) ?_;refine Sq ?_;refine QL.nil λw3 a1=>?_;refine Sa ?_
    refine QW.body2 Tryz.results87 rfl rfl ⟨⟨z,by rw [hn];rfl,λm hm=>by rw [hn] at hm;cases hm⟩,(hx.trans a2).trans a1⟩
   | _=>
    have hn:Cl s=none:=by rw [Cl,hD,ha];rfl
    rw [ha] at hv;obtain ⟨z,t,x,rfl⟩:=hv;refine Sa ?_;refine Lr ?_;refine Sq ?_;refine QL.yields rfl rfl rfl (λw' _=>Y.eql_nil rfl rfl rfl _) ?_;refine Sq ?_;refine QL.nil λw3 a1=>?_;refine Sa ?_;refine QW.body2 Tryz.results87 rfl rfl ⟨⟨z,by rw [hn];rfl,λm hm=>by rw [hn] at hm;cases hm⟩,(hx.trans a2).trans a1⟩
theorem O8 {s:List UInt8} {n:Int} (h:Lib.atoiAll s=.ok n):-9223372036854775808≤n∧n≤9223372036854775807:=by
 unfold Lib.atoiAll at h
 split at h
 ·cases h
 ·simp only at h
  split at h
  ·cases h
  ·cases h
  ·split at h
   ·cases h
   ·split at h
    ·cases h
    ·simp only [Lib.NumEnd.ok.injEq] at h;subst h
     split<;>omega
theorem Pg {s:List UInt8} {n:Int} (h:Cl s=some n):-9223372036854775808≤n∧n≤9223372036854775807:=by
 unfold Cl at h
 split at h
 ·split at h
  ·rename_i m e;obtain rfl:=Option.some.inj h;exact O8 e
  ·cases h
 ·cases h
noncomputable def Dc (s:List UInt8):Bool:=
 if 300<s.length then false else if s=[]∨Ae s 0=39 then true else if Ae s 0=61 then (match AM (s.drop 1) with
  | .error _=>false
  | .ok l=>decide (B6 l=s.drop 1))
 else match Cl s with
  | some n=>decide (Lib.itoa n=s)
  | none=>false
theorem Ng (s:List UInt8) (hs:s.length≤9223372036854775807) (w:World) (g:Cm w):AL Tryz.prog 61 [Ap s] w (λv w'=>v=.bool (Dc s)∧Ag w w'):=by
 refine Br Tryz.func61 Tryz.ntmps61 ?_;refine Sa ?_;refine A4 (λh1=>?_) λh1=>?_
 ·have h1:300<s.length:=by simp at h1;omega
  refine Sa ?_;exact QW.body1 Tryz.results61 rfl ⟨by rw [Dc,if_pos h1],Chg.refl _ _⟩
 have h1:s.length≤300:=by simp at h1;omega
 have n1:¬300<s.length:=by omega
 refine Sa ?_;by_cases h2:s=[]
 ·refine LW.know (t:=14) (c:=true) rfl (by simp [h2]) ?_;refine Sa ?_;exact QW.body1 Tryz.results61 rfl ⟨by rw [Dc,if_neg n1,if_pos (.inl h2)],Chg.refl _ _⟩
 have hl:0<s.length:=List.length_pos_iff.2 h2;refine LW.know (t:=14) (c:=false) rfl (by simp [h2]) ?_;refine Sa ?_;refine A4 (λh3=>?_) λh3=>?_
 ·have h3:Ae s 0=39:=by simpa using h3
  refine Sa ?_;exact QW.body1 Tryz.results61 rfl ⟨by rw [Dc,if_neg n1,if_pos (.inr h3)],Chg.refl _ _⟩
 have h3:Ae s 0≠39:=by simpa using h3
 have n3:¬(s=[]∨Ae s 0=39):=by simp [h2,h3]
 refine Sa ?_;refine A4 (λh4=>?_) λh4=>?_
 ·have h4:Ae s 0=61:=by simpa using h4
  have ec:cut s (1:Int).toNat ((s.length:Nat):Int).toNat=s.drop 1:=Fb s 1;have a4:(s.drop 1).length≤300:=by simp;omega
  refine Sz ?_;refine AE rfl rfl (Lw (cut s (1:Int).toNat ((s.length:Nat):Int).toNat) (by rw [ec];omega) w g) ?_;rintro v w1 ⟨hv,hx⟩;obtain ⟨l,e,sv,rfl,hN,hp⟩:=hv.both;rw [ec] at hp;obtain ⟨a1,_⟩:=hp.facts;refine Sa ?_;refine Lr ?_;refine Sq ?_;by_cases h5:e=0
  ·have a2:AM (s.drop 1)=.ok l:=by
    rcases hp with ⟨h,_⟩ | ⟨_,_,h⟩
    ·exact h
    ·omega
   refine QL.know (t:=31) (c:=true) rfl (by simp [h5]) ?_;refine Sq ?_;refine QL.call0 (v:=Ap (B6 l)) rfl rfl (λw' hw=>Lx l sv w' (g.ext (hx.trans hw)) (hN.ext hw) a1 hp.num) ?_;refine Wx ?_;refine QL.nil λw2 a0=>?_;refine Sa ?_;exact QW.body1 Tryz.results61 rfl ⟨by rw [Dc,if_neg n1,if_neg n3,if_pos h4,a2,ec],hx.trans a0⟩
  ·have a3:AM (s.drop 1)=.error e:=by
    rcases hp with ⟨_,h⟩ | ⟨h,_,_⟩
    ·exact absurd h h5
    ·exact h
   refine QL.know (t:=31) (c:=false) rfl (by simp [h5]) ?_;refine Wx ?_;refine QL.nil λw2 a0=>?_;refine Sa ?_;exact QW.body1 Tryz.results61 rfl ⟨by rw [Dc,if_neg n1,if_neg n3,if_pos h4,a3],hx.trans a0⟩
 have h4:Ae s 0≠61:=by simpa using h4
 refine Sa ?_;refine AE rfl rfl (Nh s (by omega) w g) ?_;rintro v w1 ⟨⟨z,rfl,hz⟩,hx⟩
 cases hn:Cl s with
 | some n=>
  obtain rfl:=hz n hn;obtain ⟨b0,b1⟩:=Pg hn;refine Sa ?_;refine AE rfl rfl (J3 z b0 b1 w1 (g.ext hx)) ?_;rintro v w2 ⟨rfl,a0⟩;refine Sa ?_
  exact QW.body1 Tryz.results61 rfl ⟨by rw [Dc,if_neg n1,if_neg n3,if_neg h4,hn],hx.trans a0⟩
 | none=>
  refine Sa ?_;exact QW.body1 Tryz.results61 rfl ⟨by rw [Dc,if_neg n1,if_neg n3,if_neg h4,hn],hx⟩
def V6 (s:List UInt8) (v:Value) (w:World):Prop:=
 (∃l sv,v=.tuple #[sv,.bool true]∧Ae s 0=61∧s≠[]∧Dc s=true∧AM (s.drop 1)=.ok l∧Ck w sv l)∨(v=.tuple #[.slice none 0 0,.bool false]∧(s=[]∨Ae s 0≠61∨Dc s=false))
theorem ML (s:List UInt8) (hs:s.length≤9223372036854775807) (w:World) (g:Cm w):AL Tryz.prog 67 [Ap s] w (λv w'=>V6 s v w'∧Ag w w'):=by
 refine Br Tryz.func67 Tryz.ntmps67 ?_;refine Sa ?_;by_cases h2:s=[]
 ·refine LW.know (t:=8) (c:=true) rfl (by simp [h2]) ?_;refine Sa ?_;exact QW.body2 Tryz.results67 rfl rfl ⟨.inr ⟨rfl,.inl h2⟩,Chg.refl _ _⟩
 have hl:0<s.length:=List.length_pos_iff.2 h2;refine LW.know (t:=8) (c:=false) rfl (by simp [h2]) ?_;refine Sa ?_;by_cases h3:Ae s 0=61;rotate_left
 ·refine LW.know (t:=13) (c:=true) rfl (by simp [h3]) ?_;refine Sa ?_;exact QW.body2 Tryz.results67 rfl rfl ⟨.inr ⟨rfl,.inr (.inl h3)⟩,Chg.refl _ _⟩
 refine LW.know (t:=13) (c:=false) rfl (by simp [h3]) ?_;refine Sa ?_;refine AE rfl rfl (Ng s hs w g) ?_;rintro v w1 ⟨rfl,hx⟩;refine Sa ?_;refine A4 (λh4=>?_) λh4=>?_
 ·have h4:Dc s=false:=by simpa using h4
  refine Sa ?_;exact QW.body2 Tryz.results67 rfl rfl ⟨.inr ⟨rfl,.inr (.inr h4)⟩,hx⟩
 have h4:Dc s=true:=by simpa using h4
 have ec:cut s (1:Int).toNat ((s.length:Nat):Int).toNat=s.drop 1:=Fb s 1;have a2:(s.drop 1).length≤s.length:=by simp
 refine Sz ?_;refine AE rfl rfl (Lw (cut s (1:Int).toNat ((s.length:Nat):Int).toNat) (by rw [ec];omega) w1 (g.ext hx)) ?_;rintro v w2 ⟨hv,a0⟩;obtain ⟨l,e,sv,rfl,hN,hp⟩:=hv.both;rw [ec] at hp;have a1:AM (s.drop 1)=.ok l:=by
  rcases hp with ⟨h,_⟩ | ⟨h,_,_⟩
  ·exact h
  ·exfalso;have:Dc s=false:=by
    unfold Dc
    split
    ·rfl
    ·rw [if_neg (by rintro (hh | hh);exact h2 hh;omega)];rw [h]
   rw [this] at h4;cases h4
 refine Sa ?_;exact QW.body2 Tryz.results67 rfl rfl ⟨.inl ⟨l,sv,rfl,h3,h2,h4,a1,hN⟩,hx.trans a0⟩
theorem Qi:∀(r:List UInt8) (x:Int),0≤x→(∀c∈r,Av (c.toNat:Int)=true)→x≤B9 x r
 | [],x,_,_=>by simp [B9]
 | c::r,x,hx,hd=>by
  have hc:=hd c (by simp);simp only [Av,Bool.and_eq_true,decide_eq_true_eq] at hc;have ih:=Qi r (10*x+((c.toNat:Int) - 48)) (by omega) (λd h=>hd d (by simp [h]));have e:B9 x (c::r)=B9 (10*x+((c.toNat:Int) - 48)) r:=rfl;rw [e];omega
theorem Q1:∀(l:List UInt8) (acc:Nat),(∀c∈l,Av (c.toNat:Int)=true)→B9 (acc:Int) l≤9223372036854775808→Lib.parseUint10 acc l=.ok (B9 (acc:Int) l).toNat
 | [],acc,_,_=>by simp [Lib.parseUint10,B9]
 | c::r,acc,hd,hb=>by
  have hc:=hd c (by simp);simp only [Av,Bool.and_eq_true,decide_eq_true_eq] at hc;have hdr:∀d∈r,Av (d.toNat:Int)=true:=λd h=>hd d (by simp [h]);have e:B9 (acc:Int) (c::r)=B9 (((acc*10+(c.toNat - 48):Nat)):Int) r:=by
   have e1:B9 (acc:Int) (c::r)=B9 (10*(acc:Int)+((c.toNat:Int) - 48)) r:=rfl;rw [e1]
   congr 1
   omega
  rw [e] at hb ⊢;have a0:=Qi r (((acc*10+(c.toNat - 48):Nat)):Int) (by omega) hdr;rw [Lib.parseUint10,if_pos (by omega),if_neg (by omega),if_neg (by omega)];exact Q1 r _ hdr hb
theorem SY {u:Nat} (h:u≤9223372036854775808):Lib.parseMag (Lib.decDigits u)=.ok u:=by
 obtain ⟨d1,d2,d3,_⟩:=Ej u u (Nat.le_refl _);rw [Lib.parseMag,if_neg d2,Q1 _ 0 d1 (by rw [show ((0:Nat):Int)=0 from rfl,d3];omega),show ((0:Nat):Int)=0 from rfl,d3];simp
theorem Ir {l:List UInt8} (h:∀c∈l,Av (c.toNat:Int)=true) {j:Nat} (hj:j<l.length):Av (Ae l j)=true:=by
 rw [Di hj];exact h _ (List.getElem_mem hj)
theorem Rr {n:Int} (h0:-9223372036854775808≤n) (h1:n≤9223372036854775807):Cl (Lib.itoa n)=some n∧Lib.itoa n≠[]∧(Ae (Lib.itoa n) 0=45∨48≤Ae (Lib.itoa n) 0∧Ae (Lib.itoa n) 0≤57):=by
 by_cases hn:0≤n
 ·obtain ⟨d1,d2,d3,_⟩:=Ej n.toNat n.toNat (Nat.le_refl _);rw [Fd hn];have hl:=List.length_pos_iff.2 d2;have hb:=Ir d1 hl;have a0:=hb;simp only [Av,Bool.and_eq_true,decide_eq_true_eq] at a0;have hD:Er (Lib.decDigits n.toNat)=true:=by
   simp only [Er,decide_eq_true_eq];exact λj hj _=>Ir d1 hj
  refine ⟨?_,d2,.inr a0⟩;have hm:=SY (u:=n.toNat) (by omega);have ha:Lib.atoiAll (Lib.decDigits n.toNat)=.ok n:=by
   cases hd:Lib.decDigits n.toNat with
   | nil=>exact absurd hd d2
   | cons c r=>
    rw [hd] at hm a0;have hc:Ae (c::r) 0=(c.toNat:Int):=rfl;rw [hc] at a0;simp only [Lib.atoiAll];rw [if_neg (by omega),hm];have a1:¬c.toNat=45:=by omega
    simp only [a1,not_false_eq_true,true_and,false_and,if_false];rw [if_neg (by omega)]
    congr 1
    omega
  rw [Cl,hD,ha];rfl
 ·have e:Lib.itoa n=45::Lib.decDigits (-n).toNat:=by
   unfold Lib.itoa;rw [if_pos (by omega),show n.natAbs=(-n).toNat by omega]
  obtain ⟨d1,d2,d3,_⟩:=Ej (-n).toNat (-n).toNat (Nat.le_refl _);have hb:Ae (45::Lib.decDigits (-n).toNat) 0=45:=rfl;have a2:MJ (45::Lib.decDigits (-n).toNat)=1:=by unfold MJ;rw [hb];simp
  have hD:Er (45::Lib.decDigits (-n).toNat)=true:=by
   simp only [Er,decide_eq_true_eq];intro j hj h1;rw [a2] at h1
   match j,h1 with
   | j+1,_=>exact Ir d1 (j:=j) (by simpa using hj)
  have hm:=SY (u:=(-n).toNat) (by omega);have ha:Lib.atoiAll (45::Lib.decDigits (-n).toNat)=.ok n:=by
   simp only [Lib.atoiAll];rw [if_pos (by decide),hm];simp only;rw [if_neg (by simp),if_neg (by intro h;omega),if_pos (by decide)]
   congr 1
   omega
  rw [e];refine ⟨?_,by simp,.inl hb⟩;rw [Cl,hD,ha];rfl
theorem O1 (m:Nat) (h0:1≤m) (h1:m≤9223372036854775808) (w:World):AL Tryz.prog 16 [.int .i64 (-(m:Int))] w (λv w'=>v=Ap (45::Lib.decDigits m)∧Ag w w'):=by
 have a1:(Lib.decDigits m).length≤21:=by
  have:=Lib.itoa_length_le (-(m:Int)) (by omega) (by omega);unfold Lib.itoa at this;rw [if_pos (by omega),show (-(m:Int)).natAbs=m by omega] at this;simp at this;omega
 refine Br Tryz.func16 Tryz.ntmps16 ?_;refine Sa ?_;refine LW.conv (z:=18446744073709551616 - (m:Int)) rfl rfl rfl rfl rfl (by simp [IntKind.wrap,IntKind.bits,IntKind.signed];omega) rfl ?_;refine Sa ?_;refine CW.yes rfl (decide_eq_true (show -(m:Int)<0 by omega)) ?_;refine Sa ?_;refine LW.neg (z:=(m:Int)) rfl (by simp [IntKind.wrap,IntKind.bits,IntKind.signed];omega) rfl ?_;refine Sa ?_;refine CW.loop (ι:=Nat×List UInt8) (λi w'=>i.1≤m∧Ag w w'∧Lib.decDigits m=Lib.decDigits i.1++i.2) (λi=>[(0,.int .i64 (-(m:Int))),(3,.int .u64 (i.1:Int)),(4,Ap i.2)]) (λi=>i.1) (m,[]) ⟨by simp,Chg.refl _ _,by simp⟩ C0 ?_;rintro ⟨u,acc⟩ w1 ⟨hu,hx,hd⟩;simp only at hu hd;have a2:acc.length≤21:=by
  have:=congrArg List.length hd;rw [List.length_append] at this;omega
 refine Sa ?_;refine A4 (λh2=>?_) λh2=>?_
 ·have h2:10≤u:=by simp at h2;omega
  refine Sa ?_;refine DG λb w2 hb a0 hB=>?_;replace hB:Blk w2 b [.int .u8 (48+(u:Int) % 10)] 5:=hB;replace hx:=hx.trans a0;refine Sa ?_;refine QW.again (u / 10,[ch (48+(u:Int) % 10)]++acc) ⟨?_,hx,?_⟩ C0 ?_
  ·simp only;omega
  ·simp only;rw [hd,GN h2];simp
  ·simp only;omega
 ·have h2:u<10:=by simp at h2;omega
  refine Sa ?_;refine DG λb w2 hb a0 hB=>?_;replace hB:Blk w2 b [.int .u8 (48+(u:Int))] 5:=hB;replace hx:=hx.trans a0;refine Sa ?_;refine CW.yes rfl (decide_eq_true (show -(m:Int)<0 by omega)) ?_;refine Sa ?_;refine QW.body1 Tryz.results16 rfl ⟨?_,hx⟩;rw [hd,FC h2];rfl
theorem SP (m:Nat) (h0:1≤m):Lib.itoa (-(m:Int))=45::Lib.decDigits m:=by
 unfold Lib.itoa;rw [if_pos (by omega),show (-(m:Int)).natAbs=m by omega]
theorem GR (n:Int) (h0:-9223372036854775808≤n) (h1:n≤9223372036854775807) (w:World):AL Tryz.prog 16 [.int .i64 n] w (λv w'=>v=Ap (Lib.itoa n)∧Ag w w'):=by
 by_cases hn:0≤n
 ·exact O2 n hn h1 w
 ·obtain ⟨m,rfl⟩:∃m:Nat,n=-(m:Int):=⟨n.natAbs,by omega⟩;rw [SP m (by omega)];exact O1 m (by omega) (by omega) w
end Go.Proofs.YtefaigjfkddelaaGreatDoor
