/-
  Joined by program out of the texts Cell CellM CellF CellP DigA NumP RCell RForm.
-/
import Derived.Test.YtefaigjfkddelaaGreatDoorRkF
import Derived.Test.YtefaigjfkddelaaGreatDoorRkE
import Derived.Test.YtefaigjfkddelaaGreatDoorRkD
namespace Go.Proofs.YtefaigjfkddelaaGreatDoor
open Go Go.E
def LJ (s:List UInt8):Nat:=if s≠[]∧Ab s 0=45 then 1 else 0
def EO (s:List UInt8):Bool:=decide (∀j,j<s.length→LJ s≤j→Al (Ab s j)=true)
def BW (s:List UInt8):Option Int:=if EO s then (match Lib.atoiAll s with
 | .ok n=>some n
 | _=>none) else none
theorem Pw (s:List UInt8) (hs:s.length≤1000000) (w:World) (g:CU w):AA Tryz.prog 87 [Aj s] w (λv w'=>(∃z,v=.tuple #[.int .i64 z,.bool (BW s).isSome]∧∀n,BW s=some n→z=n)∧Ae w w'):=by
 refine AL Tryz.func87 Tryz.ntmps87 ?_;refine Sa ?_;by_cases h0:s=[]
 ·refine LW.know (t:=10) (c:=false) rfl (by simp [h0]) ?_;refine Sa ?_;have a3:LJ s=0:=by simp [LJ,h0]
  refine CW.loop (ι:=Nat) (λk w'=>LJ s≤k∧(k≤s.length∨s.length≤k)∧k≤s.length+1∧Ae w w'∧∀j,j<k→j<s.length→LJ s≤j→Al (Ab s j)=true) (λk=>[(0,Aj s),(5,.int .i64 (k:Int))]) (λk=>s.length+1 - k) (LJ s) ⟨Nat.le_refl _,by omega,by rw [a3];omega,Chg.refl _ _,λj h1 h2 h3=>by omega⟩ (by rw [a3];exact (Ad.cons rfl (Ad.cons rfl (Ad.nil)))) ?_;rintro k w1 ⟨k0,_,k1,hx,a0⟩;refine Sa ?_;refine Am (λb1=>?_) λb1=>?_
  ·have b1:k<s.length:=by simp at b1;omega
   refine Sa ?_;refine B6 (λb2=>?_) λb2=>?_
   ·have b2:Ab s k<48:=by simpa using b2
    refine Sa ?_;refine QW.body2 Tryz.results87 rfl rfl ⟨⟨0,?_,λn hn=>?_⟩,hx⟩<;>
    ·have:EO s=false:=by
      simp only [EO,decide_eq_false_iff_not];intro hh;have:=hh k b1 k0;simp [Al] at this;omega
     first | rw [BW,this];rfl | (rw [BW,this] at hn;cases hn)
   have b2:¬Ab s k<48:=by simpa using b2
   refine Sa ?_;refine Am (λb3=>?_) λb3=>?_
   ·have b3:57<Ab s k:=by simpa using b3
    refine Sa ?_;refine QW.body2 Tryz.results87 rfl rfl ⟨⟨0,?_,λn hn=>?_⟩,hx⟩<;>
    ·have:EO s=false:=by
      simp only [EO,decide_eq_false_iff_not];intro hh;have:=hh k b1 k0;simp [Al] at this;omega
     first | rw [BW,this];rfl | (rw [BW,this] at hn;cases hn)
   have b3:¬57<Ab s k:=by simpa using b3
   refine Sa ?_;refine QW.again (k+1) ⟨by omega,by omega,by omega,hx,λj h1 h2 h3=>?_⟩ Fv (by omega);by_cases e:j=k
   ·subst e;simp [Al];omega
   ·exact a0 j (by omega) h2 h3
  have b1:s.length≤k:=by simp at b1;omega
  have hD:EO s=true:=by
   simp only [EO,decide_eq_true_eq];exact λj h1 h2=>a0 j (by omega) h1 h2
  refine Sa ?_;refine Ap rfl rfl (Hm s hs w1 (g.ext hx)) ?_;rintro v w2 ⟨hv,a2⟩;unfold Ix at hv
  cases ha:Lib.atoiAll s with
  | ok n=>
   have hn:BW s=some n:=by rw [BW,hD,ha];rfl
   rw [ha] at hv;subst hv;refine Sa ?_;refine Hk ?_;refine Sq ?_;refine QL.yields rfl rfl rfl (λw' _=>Y.eql_nil_nil rfl rfl rfl _) ?_;refine Sq ?_;refine QL.nil λw3 a1=>?_;refine Sa ?_
   refine QW.body2 Tryz.results87 rfl rfl ⟨⟨n,by rw [hn];rfl,λm hm=>by rw [hn] at hm;exact Option.some.inj hm⟩,(hx.trans a2).trans a1⟩
  | range=>
   have hn:BW s=none:=by rw [BW,hD,ha];rfl
   rw [ha] at hv;obtain ⟨z,t,x,rfl⟩:=hv;refine Sa ?_;refine Hk ?_;refine Sq ?_;refine QL.yields rfl rfl rfl (λw' _=>Y.eql_nil rfl rfl rfl _) ?_;refine Sq ?_;refine QL.nil λw3 a1=>?_;refine Sa ?_
   refine QW.body2 Tryz.results87 rfl rfl ⟨⟨z,by rw [hn];rfl,λm hm=>by rw [hn] at hm;cases hm⟩,(hx.trans a2).trans a1⟩
  | _=>
   have hn:BW s=none:=by rw [BW,hD,ha];rfl
   rw [ha] at hv;obtain ⟨z,t,x,rfl⟩:=hv;refine Sa ?_;refine Hk ?_;refine Sq ?_;refine QL.yields rfl rfl rfl (λw' _=>Y.eql_nil rfl rfl rfl _) ?_;refine Sq ?_;refine QL.nil λw3 a1=>?_;refine Sa ?_;refine QW.body2 Tryz.results87 rfl rfl ⟨⟨z,by rw [hn];rfl,λm hm=>by rw [hn] at hm;cases hm⟩,(hx.trans a2).trans a1⟩
 ·have hl:0<s.length:=List.length_pos_iff.2 h0;refine LW.know (t:=10) (c:=true) rfl (by simp [h0]) ?_;refine Sa ?_;refine Am (λh1=>?_) λh1=>?_
  ·have h1:Ab s 0=45:=by simpa using h1
   have a3:LJ s=1:=by simp [LJ,h0,h1]
   refine Sa ?_;refine CW.loop (ι:=Nat) (λk w'=>LJ s≤k∧(k≤s.length∨s.length≤k)∧k≤s.length+1∧Ae w w'∧∀j,j<k→j<s.length→LJ s≤j→Al (Ab s j)=true) (λk=>[(0,Aj s),(5,.int .i64 (k:Int))]) (λk=>s.length+1 - k) (LJ s) ⟨Nat.le_refl _,by omega,by rw [a3];omega,Chg.refl _ _,λj h1 h2 h3=>by omega⟩ (by rw [a3];exact (Ad.cons rfl (Ad.cons rfl (Ad.nil)))) ?_;rintro k w1 ⟨k0,_,k1,hx,a0⟩;refine Sa ?_;refine Am (λb1=>?_) λb1=>?_
   ·have b1:k<s.length:=by simp at b1;omega
    refine Sa ?_;refine B6 (λb2=>?_) λb2=>?_
    ·have b2:Ab s k<48:=by simpa using b2
     refine Sa ?_;refine QW.body2 Tryz.results87 rfl rfl ⟨⟨0,?_,λn hn=>?_⟩,hx⟩<;>
     ·have:EO s=false:=by
       simp only [EO,decide_eq_false_iff_not];intro hh;have:=hh k b1 k0;simp [Al] at this;omega
      first | rw [BW,this];rfl | (rw [BW,this] at hn;cases hn)
    have b2:¬Ab s k<48:=by simpa using b2
    refine Sa ?_;refine Am (λb3=>?_) λb3=>?_
    ·have b3:57<Ab s k:=by simpa using b3
     refine Sa ?_;refine QW.body2 Tryz.results87 rfl rfl ⟨⟨0,?_,λn hn=>?_⟩,hx⟩<;>
     ·have:EO s=false:=by
       simp only [EO,decide_eq_false_iff_not];intro hh;have:=hh k b1 k0;simp [Al] at this;omega
      first | rw [BW,this];rfl | (rw [BW,this] at hn;cases hn)
    have b3:¬57<Ab s k:=by simpa using b3
    refine Sa ?_;refine QW.again (k+1) ⟨by omega,by omega,by omega,hx,λj h1 h2 h3=>?_⟩ Fv (by omega);by_cases e:j=k
    ·subst e;simp [Al];omega
    ·exact a0 j (by omega) h2 h3
   have b1:s.length≤k:=by simp at b1;omega
   have hD:EO s=true:=by
    simp only [EO,decide_eq_true_eq];exact λj h1 h2=>a0 j (by omega) h1 h2
   refine Sa ?_;refine Ap rfl rfl (Hm s hs w1 (g.ext hx)) ?_;rintro v w2 ⟨hv,a2⟩;unfold Ix at hv
   cases ha:Lib.atoiAll s with
   | ok n=>
    have hn:BW s=some n:=by rw [BW,hD,ha];rfl
    rw [ha] at hv;subst hv;refine Sa ?_;refine Hk ?_;refine Sq ?_;refine QL.yields rfl rfl rfl (λw' _=>Y.eql_nil_nil rfl rfl rfl _) ?_;refine Sq ?_;refine QL.nil λw3 a1=>?_;refine Sa ?_
    refine QW.body2 Tryz.results87 rfl rfl ⟨⟨n,by rw [hn];rfl,λm hm=>by rw [hn] at hm;exact Option.some.inj hm⟩,(hx.trans a2).trans a1⟩
   | range=>
    have hn:BW s=none:=by rw [BW,hD,ha];rfl
    rw [ha] at hv;obtain ⟨z,t,x,rfl⟩:=hv;refine Sa ?_;refine Hk ?_;refine Sq ?_;refine QL.yields rfl rfl rfl (λw' _=>Y.eql_nil rfl rfl rfl _) ?_;refine Sq ?_;refine QL.nil λw3 a1=>?_;refine Sa ?_
    refine QW.body2 Tryz.results87 rfl rfl ⟨⟨z,by rw [hn];rfl,λm hm=>by rw [hn] at hm;cases hm⟩,(hx.trans a2).trans a1⟩
   | _=>
    have hn:BW s=none:=by rw [BW,hD,ha];rfl
    rw [ha] at hv;obtain ⟨z,t,x,rfl⟩:=hv;refine Sa ?_;refine Hk ?_;refine Sq ?_;refine QL.yields rfl rfl rfl (λw' _=>Y.eql_nil rfl rfl rfl _) ?_;refine Sq ?_;refine QL.nil λw3 a1=>?_;refine Sa ?_;refine QW.body2 Tryz.results87 rfl rfl ⟨⟨z,by rw [hn];rfl,λm hm=>by rw [hn] at hm;cases hm⟩,(hx.trans a2).trans a1⟩
  ·have h1:Ab s 0≠45:=by simpa using h1
   have a3:LJ s=0:=by simp [LJ,h1]
   refine Sa ?_;refine CW.loop (ι:=Nat) (λk w'=>LJ s≤k∧(k≤s.length∨s.length≤k)∧k≤s.length+1∧Ae w w'∧∀j,j<k→j<s.length→LJ s≤j→Al (Ab s j)=true) (λk=>[(0,Aj s),(5,.int .i64 (k:Int))]) (λk=>s.length+1 - k) (LJ s) ⟨Nat.le_refl _,by omega,by rw [a3];omega,Chg.refl _ _,λj h1 h2 h3=>by omega⟩ (by rw [a3];exact (Ad.cons rfl (Ad.cons rfl (Ad.nil)))) ?_;rintro k w1 ⟨k0,_,k1,hx,a0⟩;refine Sa ?_;refine Am (λb1=>?_) λb1=>?_
   ·have b1:k<s.length:=by simp at b1;omega
    refine Sa ?_;refine B6 (λb2=>?_) λb2=>?_
    ·have b2:Ab s k<48:=by simpa using b2
     refine Sa ?_;refine QW.body2 Tryz.results87 rfl rfl ⟨⟨0,?_,λn hn=>?_⟩,hx⟩<;>
     ·have:EO s=false:=by
       simp only [EO,decide_eq_false_iff_not];intro hh;have:=hh k b1 k0;simp [Al] at this;omega
      first | rw [BW,this];rfl | (rw [BW,this] at hn;cases hn)
    have b2:¬Ab s k<48:=by simpa using b2
    refine Sa ?_;refine Am (λb3=>?_) λb3=>?_
    ·have b3:57<Ab s k:=by simpa using b3
     refine Sa ?_;refine QW.body2 Tryz.results87 rfl rfl ⟨⟨0,?_,λn hn=>?_⟩,hx⟩<;>
     ·have:EO s=false:=by
       simp only [EO,decide_eq_false_iff_not];intro hh;have:=hh k b1 k0;simp [Al] at this;omega
      first | rw [BW,this];rfl | (rw [BW,this] at hn;cases hn)
    have b3:¬57<Ab s k:=by simpa using b3
    refine Sa ?_;refine QW.again (k+1) ⟨by omega,by omega,by omega,hx,λj h1 h2 h3=>?_⟩ Fv (by omega);by_cases e:j=k
    ·subst e;simp [Al];omega
    ·exact a0 j (by omega) h2 h3
   have b1:s.length≤k:=by simp at b1;omega
   have hD:EO s=true:=by
    simp only [EO,decide_eq_true_eq];exact λj h1 h2=>a0 j (by omega) h1 h2
   refine Sa ?_;refine Ap rfl rfl (Hm s hs w1 (g.ext hx)) ?_;rintro v w2 ⟨hv,a2⟩;unfold Ix at hv
   cases ha:Lib.atoiAll s with
   | ok n=>
    have hn:BW s=some n:=by rw [BW,hD,ha];rfl
    rw [ha] at hv;subst hv;refine Sa ?_;refine Hk ?_;refine Sq ?_;refine QL.yields rfl rfl rfl (λw' _=>Y.eql_nil_nil rfl rfl rfl _) ?_;refine Sq ?_;refine QL.nil λw3 a1=>?_;refine Sa ?_
    refine QW.body2 Tryz.results87 rfl rfl ⟨⟨n,by rw [hn];rfl,λm hm=>by rw [hn] at hm;exact Option.some.inj hm⟩,(hx.trans a2).trans a1⟩
   | range=>
    have hn:BW s=none:=by rw [BW,hD,ha];rfl
    rw [ha] at hv;obtain ⟨z,t,x,rfl⟩:=hv;refine Sa ?_;refine Hk ?_;refine Sq ?_;refine QL.yields rfl rfl rfl (λw' _=>Y.eql_nil rfl rfl rfl _) ?_;refine Sq ?_;refine QL.nil λw3 a1=>?_;refine Sa ?_
    refine QW.body2 Tryz.results87 rfl rfl ⟨⟨z,by rw [hn];rfl,λm hm=>by rw [hn] at hm;cases hm⟩,(hx.trans a2).trans a1⟩
   | _=>
    have hn:BW s=none:=by rw [BW,hD,ha];rfl
    rw [ha] at hv;obtain ⟨z,t,x,rfl⟩:=hv;refine Sa ?_;refine Hk ?_;refine Sq ?_;refine QL.yields rfl rfl rfl (λw' _=>Y.eql_nil rfl rfl rfl _) ?_;refine Sq ?_;refine QL.nil λw3 a1=>?_;refine Sa ?_;refine QW.body2 Tryz.results87 rfl rfl ⟨⟨z,by rw [hn];rfl,λm hm=>by rw [hn] at hm;cases hm⟩,(hx.trans a2).trans a1⟩
theorem QY {s:List UInt8} {n:Int} (h:Lib.atoiAll s=.ok n):-9223372036854775808≤n∧n≤9223372036854775807:=by
 unfold Lib.atoiAll at h
 split at h
 ·cases h
 ·simp only at h
  split at h
  ·cases h
  ·cases h
  ·split at h
   ·cases h
   ·split at h
    ·cases h
    ·simp only [Lib.NumEnd.ok.injEq] at h;subst h
     split<;>omega
theorem MB {s:List UInt8} {n:Int} (h:BW s=some n):-9223372036854775808≤n∧n≤9223372036854775807:=by
 unfold BW at h
 split at h
 ·split at h
  ·rename_i m e;obtain rfl:=Option.some.inj h;exact QY e
  ·cases h
 ·cases h
noncomputable def Cv (s:List UInt8):Bool:=
 if 300<s.length then false else if s=[]∨Ab s 0=39 then true else if Ab s 0=61 then (match AH (s.drop 1) with
  | .error _=>false
  | .ok l=>decide (BF l=s.drop 1))
 else match BW s with
  | some n=>decide (Lib.itoa n=s)
  | none=>false
theorem Pu (s:List UInt8) (hs:s.length≤9223372036854775807) (w:World) (g:CU w):AA Tryz.prog 61 [Aj s] w (λv w'=>v=.bool (Cv s)∧Ae w w'):=by
 refine AL Tryz.func61 Tryz.ntmps61 ?_;refine Sa ?_;refine Am (λh1=>?_) λh1=>?_
 ·have h1:300<s.length:=by simp at h1;omega
  refine Sa ?_;exact QW.body1 Tryz.results61 rfl ⟨by rw [Cv,if_pos h1],Chg.refl _ _⟩
 have h1:s.length≤300:=by simp at h1;omega
 have n1:¬300<s.length:=by omega
 refine Sa ?_;by_cases h2:s=[]
 ·refine LW.know (t:=14) (c:=true) rfl (by simp [h2]) ?_;refine Sa ?_;exact QW.body1 Tryz.results61 rfl ⟨by rw [Cv,if_neg n1,if_pos (.inl h2)],Chg.refl _ _⟩
 have hl:0<s.length:=List.length_pos_iff.2 h2;refine LW.know (t:=14) (c:=false) rfl (by simp [h2]) ?_;refine Sa ?_;refine Am (λh3=>?_) λh3=>?_
 ·have h3:Ab s 0=39:=by simpa using h3
  refine Sa ?_;exact QW.body1 Tryz.results61 rfl ⟨by rw [Cv,if_neg n1,if_pos (.inr h3)],Chg.refl _ _⟩
 have h3:Ab s 0≠39:=by simpa using h3
 have n3:¬(s=[]∨Ab s 0=39):=by simp [h2,h3]
 refine Sa ?_;refine Am (λh4=>?_) λh4=>?_
 ·have h4:Ab s 0=61:=by simpa using h4
  have ec:cut s (1:Int).toNat ((s.length:Nat):Int).toNat=s.drop 1:=DW s 1;have a4:(s.drop 1).length≤300:=by simp;omega
  refine Sz ?_;refine Ap rfl rfl (N0 (cut s (1:Int).toNat ((s.length:Nat):Int).toNat) (by rw [ec];omega) w g) ?_;rintro v w1 ⟨hv,hx⟩;obtain ⟨l,e,sv,rfl,hN,hp⟩:=hv.both;rw [ec] at hp;obtain ⟨a1,_⟩:=hp.facts;refine Sa ?_;refine Hk ?_;refine Sq ?_;by_cases h5:e=0
  ·have a2:AH (s.drop 1)=.ok l:=by
    rcases hp with ⟨h,_⟩ | ⟨_,_,h⟩
    ·exact h
    ·omega
   refine QL.know (t:=31) (c:=true) rfl (by simp [h5]) ?_;refine Sq ?_;refine QL.call0 (v:=Aj (BF l)) rfl rfl (λw' hw=>N1 l sv w' (g.ext (hx.trans hw)) (hN.ext hw) a1 hp.num) ?_;refine VH ?_;refine QL.nil λw2 a0=>?_;refine Sa ?_;exact QW.body1 Tryz.results61 rfl ⟨by rw [Cv,if_neg n1,if_neg n3,if_pos h4,a2,ec],hx.trans a0⟩
  ·have a3:AH (s.drop 1)=.error e:=by
    rcases hp with ⟨_,h⟩ | ⟨h,_,_⟩
    ·exact absurd h h5
    ·exact h
   refine QL.know (t:=31) (c:=false) rfl (by simp [h5]) ?_;refine VH ?_;refine QL.nil λw2 a0=>?_;refine Sa ?_;exact QW.body1 Tryz.results61 rfl ⟨by rw [Cv,if_neg n1,if_neg n3,if_pos h4,a3],hx.trans a0⟩
 have h4:Ab s 0≠61:=by simpa using h4
 refine Sa ?_;refine Ap rfl rfl (Pw s (by omega) w g) ?_;rintro v w1 ⟨⟨z,rfl,hz⟩,hx⟩
 cases hn:BW s with
 | some n=>
  obtain rfl:=hz n hn;obtain ⟨b0,b1⟩:=MB hn;refine Sa ?_;refine Ap rfl rfl (L8 z b0 b1 w1 (g.ext hx)) ?_;rintro v w2 ⟨rfl,a0⟩;refine Sa ?_
  exact QW.body1 Tryz.results61 rfl ⟨by rw [Cv,if_neg n1,if_neg n3,if_neg h4,hn],hx.trans a0⟩
 | none=>
  refine Sa ?_;exact QW.body1 Tryz.results61 rfl ⟨by rw [Cv,if_neg n1,if_neg n3,if_neg h4,hn],hx⟩
def Wz (s:List UInt8) (v:Value) (w:World):Prop:=
 (∃l sv,v=.tuple #[sv,.bool true]∧Ab s 0=61∧s≠[]∧Cv s=true∧AH (s.drop 1)=.ok l∧BM w sv l)∨(v=.tuple #[.slice none 0 0,.bool false]∧(s=[]∨Ab s 0≠61∨Cv s=false))
theorem OZ (s:List UInt8) (hs:s.length≤9223372036854775807) (w:World) (g:CU w):AA Tryz.prog 67 [Aj s] w (λv w'=>Wz s v w'∧Ae w w'):=by
 refine AL Tryz.func67 Tryz.ntmps67 ?_;refine Sa ?_;by_cases h2:s=[]
 ·refine LW.know (t:=8) (c:=true) rfl (by simp [h2]) ?_;refine Sa ?_;exact QW.body2 Tryz.results67 rfl rfl ⟨.inr ⟨rfl,.inl h2⟩,Chg.refl _ _⟩
 have hl:0<s.length:=List.length_pos_iff.2 h2;refine LW.know (t:=8) (c:=false) rfl (by simp [h2]) ?_;refine Sa ?_;by_cases h3:Ab s 0=61;rotate_left
 ·refine LW.know (t:=13) (c:=true) rfl (by simp [h3]) ?_;refine Sa ?_;exact QW.body2 Tryz.results67 rfl rfl ⟨.inr ⟨rfl,.inr (.inl h3)⟩,Chg.refl _ _⟩
 refine LW.know (t:=13) (c:=false) rfl (by simp [h3]) ?_;refine Sa ?_;refine Ap rfl rfl (Pu s hs w g) ?_;rintro v w1 ⟨rfl,hx⟩;refine Sa ?_;refine Am (λh4=>?_) λh4=>?_
 ·have h4:Cv s=false:=by simpa using h4
  refine Sa ?_;exact QW.body2 Tryz.results67 rfl rfl ⟨.inr ⟨rfl,.inr (.inr h4)⟩,hx⟩
 have h4:Cv s=true:=by simpa using h4
 have ec:cut s (1:Int).toNat ((s.length:Nat):Int).toNat=s.drop 1:=DW s 1;have a2:(s.drop 1).length≤s.length:=by simp
 refine Sz ?_;refine Ap rfl rfl (N0 (cut s (1:Int).toNat ((s.length:Nat):Int).toNat) (by rw [ec];omega) w1 (g.ext hx)) ?_;rintro v w2 ⟨hv,a0⟩;obtain ⟨l,e,sv,rfl,hN,hp⟩:=hv.both;rw [ec] at hp;have a1:AH (s.drop 1)=.ok l:=by
  rcases hp with ⟨h,_⟩ | ⟨h,_,_⟩
  ·exact h
  ·exfalso;have:Cv s=false:=by
    unfold Cv
    split
    ·rfl
    ·rw [if_neg (by rintro (hh | hh);exact h2 hh;omega)];rw [h]
   rw [this] at h4;cases h4
 refine Sa ?_;exact QW.body2 Tryz.results67 rfl rfl ⟨.inl ⟨l,sv,rfl,h3,h2,h4,a1,hN⟩,hx.trans a0⟩
theorem Ly:∀(r:List UInt8) (x:Int),0≤x→(∀c∈r,Al (c.toNat:Int)=true)→x≤Ay x r
 | [],x,_,_=>by simp [Ay]
 | c::r,x,hx,hd=>by
  have hc:=hd c (by simp);simp only [Al,Bool.and_eq_true,decide_eq_true_eq] at hc;have ih:=Ly r (10*x+((c.toNat:Int) - 48)) (by omega) (λd h=>hd d (by simp [h]));have e:Ay x (c::r)=Ay (10*x+((c.toNat:Int) - 48)) r:=rfl;rw [e];omega
theorem L5:∀(l:List UInt8) (acc:Nat),(∀c∈l,Al (c.toNat:Int)=true)→Ay (acc:Int) l≤9223372036854775808→Lib.parseUint10 acc l=.ok (Ay (acc:Int) l).toNat
 | [],acc,_,_=>by simp [Lib.parseUint10,Ay]
 | c::r,acc,hd,hb=>by
  have hc:=hd c (by simp);simp only [Al,Bool.and_eq_true,decide_eq_true_eq] at hc;have hdr:∀d∈r,Al (d.toNat:Int)=true:=λd h=>hd d (by simp [h]);have e:Ay (acc:Int) (c::r)=Ay (((acc*10+(c.toNat - 48):Nat)):Int) r:=by
   have e1:Ay (acc:Int) (c::r)=Ay (10*(acc:Int)+((c.toNat:Int) - 48)) r:=rfl;rw [e1]
   congr 1
   omega
  rw [e] at hb ⊢;have a0:=Ly r (((acc*10+(c.toNat - 48):Nat)):Int) (by omega) hdr;rw [Lib.parseUint10,if_pos (by omega),if_neg (by omega),if_neg (by omega)];exact L5 r _ hdr hb
theorem UZ {u:Nat} (h:u≤9223372036854775808):Lib.parseMag (Lib.decDigits u)=.ok u:=by
 obtain ⟨d1,d2,d3,_⟩:=Fj u u (Nat.le_refl _);rw [Lib.parseMag,if_neg d2,L5 _ 0 d1 (by rw [show ((0:Nat):Int)=0 from rfl,d3];omega),show ((0:Nat):Int)=0 from rfl,d3];simp
theorem JX {l:List UInt8} (h:∀c∈l,Al (c.toNat:Int)=true) {j:Nat} (hj:j<l.length):Al (Ab l j)=true:=by
 rw [Bz hj];exact h _ (List.getElem_mem hj)
theorem T7 {n:Int} (h0:-9223372036854775808≤n) (h1:n≤9223372036854775807):BW (Lib.itoa n)=some n∧Lib.itoa n≠[]∧(Ab (Lib.itoa n) 0=45∨48≤Ab (Lib.itoa n) 0∧Ab (Lib.itoa n) 0≤57):=by
 by_cases hn:0≤n
 ·obtain ⟨d1,d2,d3,_⟩:=Fj n.toNat n.toNat (Nat.le_refl _);rw [Gq hn];have hl:=List.length_pos_iff.2 d2;have hb:=JX d1 hl;have a0:=hb;simp only [Al,Bool.and_eq_true,decide_eq_true_eq] at a0;have hD:EO (Lib.decDigits n.toNat)=true:=by
   simp only [EO,decide_eq_true_eq];exact λj hj _=>JX d1 hj
  refine ⟨?_,d2,.inr a0⟩;have hm:=UZ (u:=n.toNat) (by omega);have ha:Lib.atoiAll (Lib.decDigits n.toNat)=.ok n:=by
   cases hd:Lib.decDigits n.toNat with
   | nil=>exact absurd hd d2
   | cons c r=>
    rw [hd] at hm a0;have hc:Ab (c::r) 0=(c.toNat:Int):=rfl;rw [hc] at a0;simp only [Lib.atoiAll];rw [if_neg (by omega),hm];have a1:¬c.toNat=45:=by omega
    simp only [a1,not_false_eq_true,true_and,false_and,if_false];rw [if_neg (by omega)]
    congr 1
    omega
  rw [BW,hD,ha];rfl
 ·have e:Lib.itoa n=45::Lib.decDigits (-n).toNat:=by
   unfold Lib.itoa;rw [if_pos (by omega),show n.natAbs=(-n).toNat by omega]
  obtain ⟨d1,d2,d3,_⟩:=Fj (-n).toNat (-n).toNat (Nat.le_refl _);have hb:Ab (45::Lib.decDigits (-n).toNat) 0=45:=rfl;have a2:LJ (45::Lib.decDigits (-n).toNat)=1:=by unfold LJ;rw [hb];simp
  have hD:EO (45::Lib.decDigits (-n).toNat)=true:=by
   simp only [EO,decide_eq_true_eq];intro j hj h1;rw [a2] at h1
   match j,h1 with
   | j+1,_=>exact JX d1 (j:=j) (by simpa using hj)
  have hm:=UZ (u:=(-n).toNat) (by omega);have ha:Lib.atoiAll (45::Lib.decDigits (-n).toNat)=.ok n:=by
   simp only [Lib.atoiAll];rw [if_pos (by decide),hm];simp only;rw [if_neg (by simp),if_neg (by intro h;omega),if_pos (by decide)]
   congr 1
   omega
  rw [e];refine ⟨?_,by simp,.inl hb⟩;rw [BW,hD,ha];rfl
theorem QR (m:Nat) (h0:1≤m) (h1:m≤9223372036854775808) (w:World):AA Tryz.prog 16 [.int .i64 (-(m:Int))] w (λv w'=>v=Aj (45::Lib.decDigits m)∧Ae w w'):=by
 have a1:(Lib.decDigits m).length≤21:=by
  have:=Lib.itoa_length_le (-(m:Int)) (by omega) (by omega);unfold Lib.itoa at this;rw [if_pos (by omega),show (-(m:Int)).natAbs=m by omega] at this;simp at this;omega
 refine AL Tryz.func16 Tryz.ntmps16 ?_;refine Sa ?_;refine LW.conv (z:=18446744073709551616 - (m:Int)) rfl rfl rfl rfl rfl (by simp [IntKind.wrap,IntKind.bits,IntKind.signed];omega) rfl ?_;refine Sa ?_;refine CW.yes rfl (decide_eq_true (show -(m:Int)<0 by omega)) ?_;refine Sa ?_;refine LW.neg (z:=(m:Int)) rfl (by simp [IntKind.wrap,IntKind.bits,IntKind.signed];omega) rfl ?_;refine Sa ?_;refine CW.loop (ι:=Nat×List UInt8) (λi w'=>i.1≤m∧Ae w w'∧Lib.decDigits m=Lib.decDigits i.1++i.2) (λi=>[(0,.int .i64 (-(m:Int))),(3,.int .u64 (i.1:Int)),(4,Aj i.2)]) (λi=>i.1) (m,[]) ⟨by simp,Chg.refl _ _,by simp⟩ Bh ?_;rintro ⟨u,acc⟩ w1 ⟨hu,hx,hd⟩;simp only at hu hd;have a2:acc.length≤21:=by
  have:=congrArg List.length hd;rw [List.length_append] at this;omega
 refine Sa ?_;refine Am (λh2=>?_) λh2=>?_
 ·have h2:10≤u:=by simp at h2;omega
  refine Sa ?_;refine Cl λb w2 hb a0 hB=>?_;replace hB:Blk w2 b [.int .u8 (48+(u:Int) % 10)] 5:=hB;replace hx:=hx.trans a0;refine Sa ?_;refine QW.again (u / 10,[ch (48+(u:Int) % 10)]++acc) ⟨?_,hx,?_⟩ Bh ?_
  ·simp only;omega
  ·simp only;rw [hd,I0 h2];simp
  ·simp only;omega
 ·have h2:u<10:=by simp at h2;omega
  refine Sa ?_;refine Cl λb w2 hb a0 hB=>?_;replace hB:Blk w2 b [.int .u8 (48+(u:Int))] 5:=hB;replace hx:=hx.trans a0;refine Sa ?_;refine CW.yes rfl (decide_eq_true (show -(m:Int)<0 by omega)) ?_;refine Sa ?_;refine QW.body1 Tryz.results16 rfl ⟨?_,hx⟩;rw [hd,Hb h2];rfl
theorem UR (m:Nat) (h0:1≤m):Lib.itoa (-(m:Int))=45::Lib.decDigits m:=by
 unfold Lib.itoa;rw [if_pos (by omega),show (-(m:Int)).natAbs=m by omega]
theorem Fs (n:Int) (h0:-9223372036854775808≤n) (h1:n≤9223372036854775807) (w:World):AA Tryz.prog 16 [.int .i64 n] w (λv w'=>v=Aj (Lib.itoa n)∧Ae w w'):=by
 by_cases hn:0≤n
 ·exact GA n hn h1 w
 ·obtain ⟨m,rfl⟩:∃m:Nat,n=-(m:Int):=⟨n.natAbs,by omega⟩;rw [UR m (by omega)];exact QR m (by omega) (by omega) w
theorem T9 (acc:Nat) (c:UInt8) (r:List UInt8) (hc:Al (c.toNat:Int)=true):Ay (acc:Int) (c::r)=Ay (((acc*10+(c.toNat - 48):Nat)):Int) r:=by
 simp only [Al,Bool.and_eq_true,decide_eq_true_eq] at hc;have e1:Ay (acc:Int) (c::r)=Ay (10*(acc:Int)+((c.toNat:Int) - 48)) r:=rfl;rw [e1]
 congr 1
 omega
theorem QM:∀(l:List UInt8) (acc u:Nat),(∀c∈l,Al (c.toNat:Int)=true)→Lib.parseUint10 acc l=.ok u→Ay (acc:Int) l=u
 | [],acc,u,_,h=>by
  simp only [Lib.parseUint10,Lib.NumEnd.ok.injEq] at h
  simp [Ay,h]
 | c::r,acc,u,hd,h=>by
  have hc:=hd c (by simp);have hc':=hc;simp only [Al,Bool.and_eq_true,decide_eq_true_eq] at hc;rw [Lib.parseUint10,if_pos (by omega)] at h
  split at h
  ·cases h
  split at h
  ·cases h
  rw [T9 acc c r hc'];exact QM r _ u (λd h=>hd d (by simp [h])) h
def H5 (s:List UInt8):Bool:=decide (s≠[]∧Ab s 0=45)
def BC (s:List UInt8):List UInt8:=if H5 s then s.drop 1 else s
def EU (l:List UInt8):Bool:=l.all λc=>Al (c.toNat:Int)
theorem Gk {l:List UInt8}:EU l=true↔∀c∈l,Al (c.toNat:Int)=true:=List.all_eq_true
theorem Uy (s:List UInt8):EO s=EU (BC s):=by
 have key:(∀j,j<s.length→LJ s≤j→Al (Ab s j)=true)↔∀c∈BC s,Al (c.toNat:Int)=true:=by
  by_cases hn:s≠[]∧Ab s 0=45
  ·have e1:LJ s=1:=by rw [LJ,if_pos hn]
   have e2:BC s=s.drop 1:=by rw [BC,H5,decide_eq_true hn];rfl
   rw [e1,e2];constructor
   ·intro h c hc;obtain ⟨j,hj,rfl⟩:=List.getElem_of_mem hc;have a0:j+1<s.length:=by simp at hj;omega
    have:=h (j+1) a0 (by omega);rw [Bz a0] at this
    simpa [Nat.add_comm] using this
   ·intro h j hj h1;rw [Bz hj];refine h _ ?_;rw [List.mem_iff_getElem?];refine ⟨j - 1,?_⟩;rw [List.getElem?_drop,show 1+(j - 1)=j by omega,List.getElem?_eq_getElem hj]
  ·have e1:LJ s=0:=by rw [LJ,if_neg hn]
   have e2:BC s=s:=by rw [BC,H5,decide_eq_false hn];rfl
   rw [e1,e2];constructor
   ·intro h c hc;obtain ⟨j,hj,rfl⟩:=List.getElem_of_mem hc;have:=h j hj (by omega)
    rwa [Bz hj] at this
   ·intro h j hj _;rw [Bz hj];exact h _ (List.getElem_mem hj)
 rw [Bool.eq_iff_iff,Gk,EO,decide_eq_true_eq];exact key
theorem Ig (s:List UInt8):BW s=if EU (BC s)=true∧BC s≠[]∧Ay 0 (BC s)≤9223372036854775808∧(H5 s=false→Ay 0 (BC s)≠9223372036854775808) then some (if H5 s=true then -Ay 0 (BC s) else Ay 0 (BC s)) else none:=by
 rw [BW,Uy];by_cases hd:EU (BC s)=true;rotate_left
 ·rw [if_neg hd,if_neg (λh=>hd h.1)]
 rw [if_pos hd];have a0:=Gk.1 hd;by_cases he:BC s=[]
 ·rw [if_neg (λh=>h.2.1 he)];unfold BC at he
  cases s with
  | nil=>rfl
  | cons c r=>
   split at he
   ·rename_i hn;simp at he;subst he;simp only [H5,decide_eq_true_eq] at hn;have a1:(c.toNat:Int)=45:=hn.2;simp only [Lib.atoiAll];rw [if_pos (by omega)];rfl
   ·cases he
 ·have hl:Lib.parseMag (BC s)=Lib.parseUint10 0 (BC s):=by rw [Lib.parseMag,if_neg he]
  have hv:(∃u:Nat,Lib.parseUint10 0 (BC s)=.ok u∧Ay 0 (BC s)=u)∨(∀u,Lib.parseUint10 0 (BC s)≠.ok u)∧9223372036854775808<Ay 0 (BC s):=by
   cases hp:Lib.parseUint10 0 (BC s) with
   | ok u=>exact .inl ⟨u,rfl,by have:=QM _ _ _ a0 hp;simpa using this⟩
   | range=>
    refine .inr ⟨λu h=>(by cases h),?_⟩;rcases Int.lt_or_le 9223372036854775808 (Ay 0 (BC s)) with h | h
    ·exact h
    ·have:=L5 (BC s) 0 a0 (by simpa using h)
     rw [this] at hp;cases hp
   | _=>
    refine .inr ⟨λu h=>(by cases h),?_⟩;rcases Int.lt_or_le 9223372036854775808 (Ay 0 (BC s)) with h | h
    ·exact h
    ·have:=L5 (BC s) 0 a0 (by simpa using h);rw [this] at hp;cases hp
  cases s with
  | nil=>exact absurd rfl he
  | cons c r=>
   by_cases hn:c.toNat=45
   ·have en:H5 (c::r)=true:=by
     have:Ab (c::r) 0=(c.toNat:Int):=rfl;simp only [H5,this,decide_eq_true_eq];exact ⟨by simp,by omega⟩
    have eb:BC (c::r)=r:=by rw [BC,en];rfl
    rw [eb] at hl hv he ⊢;rw [en];simp only [Lib.atoiAll];rw [if_pos (.inr hn),hl];rcases hv with ⟨u,hp,hu⟩ | ⟨hp,hu⟩
    ·rw [hp,hu];by_cases hb:9223372036854775808<u
     ·simp only;rw [if_neg (by simp [hn]),if_pos ⟨hn,hb⟩,if_neg (by intro h;omega)]
     ·have hR:EU r=true∧r≠[]∧(u:Int)≤9223372036854775808∧(true=false→(u:Int)≠9223372036854775808):=⟨by rw [eb] at hd;exact hd,he,by omega,by simp⟩;rw [if_pos hR];simp only [hn];rw [if_neg (by simp),if_neg (by omega)]
      first | done | simp
    ·rw [if_neg (by intro h;omega)]
     cases hq:Lib.parseUint10 0 r with
     | ok u=>exact absurd hq (hp u)
     | range=>rfl
     | _=>rfl
   ·have en:H5 (c::r)=false:=by
     have:Ab (c::r) 0=(c.toNat:Int):=rfl;simp only [H5,this,decide_eq_false_iff_not];intro h;omega
    have eb:BC (c::r)=c::r:=by rw [BC,en];rfl
    rw [eb] at hl hv he a0 ⊢;rw [en];have hc:=a0 c (by simp);simp only [Al,Bool.and_eq_true,decide_eq_true_eq] at hc;simp only [Lib.atoiAll];rw [if_neg (by omega),hl];rcases hv with ⟨u,hp,hu⟩ | ⟨hp,hu⟩
    ·rw [hp,hu];by_cases hb:9223372036854775808≤u
     ·simp only;rw [if_pos ⟨hn,hb⟩,if_neg (by intro h;have:=h.2.2.2 (by trivial);omega)]
     ·have hR:EU (c::r)=true∧c::r≠[]∧(u:Int)≤9223372036854775808∧(True→(u:Int)≠9223372036854775808):=⟨by rw [eb] at hd;exact hd,he,by omega,λ_=>by omega⟩;rw [if_pos hR];simp only [hn];rw [if_neg (by omega),if_neg (by simp)]
      first | done | simp
    ·rw [if_neg (by intro h;omega)]
     cases hq:Lib.parseUint10 0 (c::r) with
     | ok u=>exact absurd hq (hp u)
     | range=>rfl
     | _=>rfl
theorem TA {d:List UInt8} {i:Nat} (h:∀c∈d,Al (c.toNat:Int)=true):0≤Ay 0 (d.take i)∧Ay 0 (d.take i)≤Ay 0 d:=by
 have h1:∀c∈d.take i,Al (c.toNat:Int)=true:=λc hc=>h c (List.mem_of_mem_take hc);have h2:∀c∈d.drop i,Al (c.toNat:Int)=true:=λc hc=>h c (List.mem_of_mem_drop hc);have h0:=Ly (d.take i) 0 (by omega) h1;refine ⟨h0,?_⟩;have:=Ly (d.drop i) (Ay 0 (d.take i)) h0 h2;have e:Ay 0 (d.take i++d.drop i)=Ay (Ay 0 (d.take i)) (d.drop i):=by simp only [Ay,List.foldl_append]
 rw [List.take_append_drop] at e;rw [e];exact this
theorem QO {z:Int}:∃q:Int,IntKind.i64.wrap z=z+18446744073709551616*q∧-9223372036854775808≤IntKind.i64.wrap z∧IntKind.i64.wrap z≤9223372036854775807:=by
 have e:IntKind.i64.wrap z=if 9223372036854775808≤z % 18446744073709551616 then z % 18446744073709551616 - 18446744073709551616 else z % 18446744073709551616:=by
  simp [IntKind.wrap,IntKind.bits,IntKind.signed]
 rw [e]
 split
 ·exact ⟨-(z / 18446744073709551616) - 1,by omega,by omega,by omega⟩
 ·exact ⟨-(z / 18446744073709551616),by omega,by omega,by omega⟩
theorem WZ {z:Int}:(0≤z→z.tdiv 10=z / 10)∧(z≤0→z.tdiv 10=-((-z) / 10)):=by
 refine ⟨λh=>Int.tdiv_eq_ediv_of_nonneg h,λh=>?_⟩;have:z.tdiv 10=-((-z).tdiv 10):=by rw [Int.neg_tdiv,Int.neg_neg]
 rw [this,Int.tdiv_eq_ediv_of_nonneg (by omega)]
theorem Kx (m:Int) (h0:-9223372036854775808≤m) (h1:m≤0) (w:World):AA Tryz.prog 82 [.int .i64 m,.int .i64 10] w (λv w'=>(∃z,v=.tuple #[.int .i64 z,.bool (decide (-9223372036854775808≤m*10))]∧(-9223372036854775808≤m*10→z=m*10)∧-9223372036854775808≤z∧z≤9223372036854775807)∧Ae w w'):=by
 refine AL Tryz.func82 Tryz.ntmps82 ?_;refine Sa ?_;by_cases a1:m=0
 ·refine LW.know (t:=9) (c:=true) rfl (decide_eq_true a1) ?_;refine Sa ?_;exact QW.body2 Tryz.results82 rfl rfl ⟨⟨0,by rw [decide_eq_true (by omega)],λ_=>by omega,by omega,by omega⟩,Chg.refl _ _⟩
 refine LW.know (t:=9) (c:=false) rfl (decide_eq_false a1) ?_;refine Sa ?_;obtain ⟨q,hq,a0,a3⟩:=QO (z:=m*10);generalize hz:IntKind.i64.wrap (m*10)=z at hq a0 a3;refine LW.arith (op:=.mul) (r:=z) rfl rfl hz rfl rfl ?_;refine Sa ?_;have hd:=WZ (z:=z);obtain ⟨y,hy,a5⟩:∃y,z.tdiv 10=y∧((0≤z→y=z / 10)∧(z≤0→y=-((-z) / 10))):=⟨_,rfl,hd⟩;refine LW.tquo (q:=10) (z:=y) rfl rfl (by decide) (by rw [hy,EN (by omega) (by omega)]) rfl ?_;refine Sa ?_;by_cases a2:-9223372036854775808≤m*10
 ·have a4:z=m*10:=by omega
  refine LW.know (t:=22) (c:=true) rfl (decide_eq_true (by omega)) ?_;refine Sa ?_;exact QW.body2 Tryz.results82 rfl rfl ⟨⟨z,by rw [decide_eq_true a2];rfl,λ_=>a4,a0,a3⟩,Chg.refl _ _⟩
 ·refine LW.know (t:=22) (c:=false) rfl (decide_eq_false (by omega)) ?_;refine Sa ?_;exact QW.body2 Tryz.results82 rfl rfl ⟨⟨z,by rw [decide_eq_false a2],λh=>absurd h a2,a0,a3⟩,Chg.refl _ _⟩
theorem MI (m k:Int) (h0:-9223372036854775808≤m) (h1:m≤9223372036854775807) (k0:-9≤k) (k1:k≤0) (w:World):AA Tryz.prog 83 [.int .i64 m,.int .i64 k] w (λv w'=>(∃z b,v=.tuple #[.int .i64 z,.bool b]∧(m≤0→b=decide (-9223372036854775808≤m+k)∧(-9223372036854775808≤m+k→z=m+k)))∧Ae w w'):=by
 refine AL Tryz.func83 Tryz.ntmps83 ?_;refine Sa ?_;obtain ⟨q,hq,a0,a1⟩:=QO (z:=m+k);generalize hz:IntKind.i64.wrap (m+k)=z at hq a0 a1;refine LW.arith (op:=.add) (r:=z) rfl rfl hz rfl rfl ?_;refine Sa ?_;refine QW.body2 Tryz.results83 rfl rfl ⟨⟨z,_,rfl,λhm=>⟨?_,λh=>by omega⟩⟩,Chg.refl _ _⟩;by_cases a2:-9223372036854775808≤m+k
 ·rw [decide_eq_true a2,decide_eq_true_eq];by_cases a3:k=0
  ·rw [decide_eq_true (show m≤z by omega),decide_eq_true (show 0≤k by omega)]
  ·rw [decide_eq_false (show ¬m≤z by omega),decide_eq_false (show ¬0≤k by omega)]
 ·rw [decide_eq_false a2,decide_eq_false_iff_not,decide_eq_true (show m≤z by omega),decide_eq_false (show ¬0≤k by omega)];simp
theorem MA {s:List UInt8} (h:EU (BC s)=false):BW s=none:=by
 rw [Ig,if_neg];rintro ⟨h1,_⟩;rw [h] at h1;cases h1
theorem MC {s:List UInt8} (h:BC s=[]):BW s=none:=by
 rw [Ig,if_neg];rintro ⟨_,h1,_⟩;exact h1 h
theorem Gv {s:List UInt8} {i:Nat} (h:9223372036854775808<Ay 0 ((BC s).take i)):BW s=none:=by
 rw [Ig,if_neg];rintro ⟨h1,_,h2,_⟩;have:=(TA (i:=i) (Gk.1 h1)).2;omega
theorem Kl {d:List UInt8} {k:Nat} (h:k<d.length):Ay 0 (d.take (k+1))=10*Ay 0 (d.take k)+(Ab d k - 48):=by
 rw [List.take_add_one,List.getElem?_eq_getElem h,Option.toList_some,Fm,Bz h]
theorem JY {d:List UInt8} {k:Nat} (h:k<d.length):EU (d.take (k+1))=(EU (d.take k)&&Al (Ab d k)):=by
 have e:d.take (k+1)=d.take k++[d[k]]:=by rw [List.take_add_one,List.getElem?_eq_getElem h];rfl
 rw [e,Bz h];simp only [EU,List.all_append,List.all_cons,List.all_nil,Bool.and_true]
def V8 (s:List UInt8):Int:=match BW s with
 | some n=>n
 | none=>0
def JR (s:List UInt8) (v:Value):Prop:=v=.tuple #[.int .i64 (V8 s),.bool (BW s).isSome]
theorem AU {s:List UInt8} (h:BW s=none):JR s (.tuple #[.int .i64 0,.bool false]):=by
 unfold JR V8;rw [h];rfl
theorem DO {s:List UInt8} {n:Int} (h:BW s=some n):JR s (.tuple #[.int .i64 n,.bool true]):=by
 unfold JR V8;rw [h];rfl
set_option maxHeartbeats 2000000 in
theorem Ur (s:List UInt8) (hs:s.length≤1000000) (w:World):AA Tryz.prog 58 [Aj s] w (λv w'=>JR s v∧Ae w w'):=by
 obtain ⟨d,hd⟩:∃d,d=BC s:=⟨_,rfl⟩;have ae:d.length≤s.length:=by
  rw [hd,BC]
  split<;>simp
 refine AL Tryz.func58 Tryz.ntmps58 ?_;refine Sa ?_;obtain ⟨ng,a5⟩:∃ng,ng=H5 s:=⟨_,rfl⟩;by_cases h0:s=[]
 ·refine LW.know (t:=15) (c:=false) rfl (by simp [h0]) ?_;have hn:H5 s=false:=by simp [H5,h0]
  have ed:s=d:=by rw [hd,BC,hn];rfl
  refine Sa ?_;refine CW.loop (ι:=Nat) (λk w'=>k≤d.length∧Ay 0 (d.take k)≤9223372036854775808∧0≤Ay 0 (d.take k)∧EU (d.take k)=true∧Ae w w') (λk=>[(4,.bool ng),(5,Aj d),(6,.int .i64 (-Ay 0 (d.take k))),(7,.int .i64 (k:Int))]) (λk=>d.length - k) 0 ⟨by omega,by simp [Ay],by simp [Ay],rfl,Chg.refl _ _⟩ (Ad.cons (by rw [a5,hn];first | rfl | (show some (Value.bool (decide (Ab s 0=45)))=_;first | rw [decide_eq_true h1] | rw [decide_eq_false h1])) (Ad.cons (by rw [←ed];first | rfl | (rw [←ec];rfl)) (Ad.cons rfl (Ad.cons rfl Ad.nil)))) ?_;clear hn ed;rintro k w1 ⟨k0,k1,k2,k3,hx⟩;refine Sa ?_;refine Am (λb1=>?_) λb1=>?_;rotate_left
  ·have b1:k=d.length:=by simp at b1;omega
   rw [b1,List.take_length] at k1 k2 k3;rw [b1,List.take_length];refine Sa ?_;have a0:=Ig s;rw [←hd,←a5] at a0;by_cases e0:d=[]
   ·refine LW.know (t:=67) (c:=true) rfl (by simp [e0]) ?_;refine Sa ?_;exact QW.body2 Tryz.results58 rfl rfl ⟨AU (MC (by rw [←hd];exact e0)),hx⟩
   have e1:0<d.length:=List.length_pos_iff.2 e0;refine LW.know (t:=67) (c:=false) rfl (decide_eq_false (by omega)) ?_
   cases ng with
   | true=>
    rw [if_pos ⟨k3,e0,k1,by simp⟩,if_pos rfl] at a0;refine Sa ?_
    exact QW.body2 Tryz.results58 rfl rfl ⟨DO a0,hx⟩
   | false=>
    refine Sa ?_;refine Am (λb7=>?_) λb7=>?_
    ·have b7:-Ay 0 d=-9223372036854775808:=by simpa using b7
     rw [if_neg (λh=>h.2.2.2 rfl (by omega))] at a0;refine Sa ?_;exact QW.body2 Tryz.results58 rfl rfl ⟨AU a0,hx⟩
    have b7:¬-Ay 0 d=-9223372036854775808:=by simpa using b7
    rw [if_pos ⟨k3,e0,k1,λ_=>by omega⟩,if_neg (by simp)] at a0;refine Sa ?_;refine LW.neg (z:=Ay 0 d) rfl (by rw [EN (by omega) (by omega)];omega) rfl ?_;refine Sa ?_;exact QW.body2 Tryz.results58 rfl rfl ⟨DO a0,hx⟩
  have b1:k<d.length:=by simp at b1;omega
  have a6:=Kl b1;have ad:=CA d k;have a4:=JY b1;have a2:Al (Ab d k)=false→BW s=none:=λh=>by
   refine MA ?_;rw [←hd]
   cases hh:EU d with
   | false=>rfl
   | true=>
    have:=Gk.1 hh d[k] (List.getElem_mem b1);rw [←Bz b1,h] at this;cases this
  refine Sa ?_;by_cases b2:Ab d k<48
  ·refine LW.know (t:=34) (c:=true) rfl (decide_eq_true b2) ?_;refine Sa ?_;exact QW.body2 Tryz.results58 rfl rfl ⟨AU (a2 (by simp [Al];omega)),hx⟩
  refine LW.know (t:=34) (c:=false) rfl (decide_eq_false b2) ?_;refine Sa ?_;refine Am (λb3=>?_) λb3=>?_
  ·have b3:57<Ab d k:=by simpa using b3
   refine Sa ?_;exact QW.body2 Tryz.results58 rfl rfl ⟨AU (a2 (by simp [Al];omega)),hx⟩
  have b3:¬57<Ab d k:=by simpa using b3
  have a3:Al (Ab d k)=true:=by simp [Al];omega
  rw [k3,a3] at a4;refine Sa ?_;refine Ap rfl rfl (Kx (-Ay 0 (d.take k)) (by omega) (by omega) w1) ?_;rintro v w2 ⟨⟨z,rfl,hz,a7,a8⟩,a9⟩;refine Sa ?_;refine LW.neg (z:=-(Ab d k - 48)) rfl (by show IntKind.i64.wrap (0 - (Ab d k - 48))=_;rw [EN (by omega) (by omega)];omega) rfl ?_;refine Sa ?_;refine Ap rfl rfl (MI z (-(Ab d k - 48)) a7 a8 (by omega) (by omega) w2) ?_;rintro v w3 ⟨⟨y,b,rfl,hy⟩,aa⟩;have a1:=(hx.trans a9).trans aa;refine Sa ?_;by_cases o1:-9223372036854775808≤-Ay 0 (d.take k)*10;rotate_left
  ·refine LW.know (t:=58) (c:=true) rfl (by rw [decide_eq_false o1];rfl) ?_;refine Sa ?_;exact QW.body2 Tryz.results58 rfl rfl ⟨AU (Gv (i:=k+1) (by rw [←hd];omega)),a1⟩
  obtain rfl:=hz o1;obtain ⟨rfl,ab⟩:=hy (by omega);refine LW.know (t:=58) (c:=false) rfl (by rw [decide_eq_true o1];rfl) ?_;refine Sa ?_;refine Am (λb5=>?_) λb5=>?_
  ·have b5:¬-9223372036854775808≤-Ay 0 (d.take k)*10+-(Ab d k - 48):=by simpa using b5
   refine Sa ?_;exact QW.body2 Tryz.results58 rfl rfl ⟨AU (Gv (i:=k+1) (by rw [←hd];omega)),a1⟩
  have b5:-9223372036854775808≤-Ay 0 (d.take k)*10+-(Ab d k - 48):=by simpa using b5
  have ac:y=-Ay 0 (d.take (k+1)):=by rw [ab b5,a6];omega
  refine Sa ?_;exact QW.again (k+1) ⟨by omega,by omega,by omega,a4,a1⟩ (by rw [←ac];exact (Ad.cons rfl (Ad.cons rfl (Ad.cons rfl (Ad.cons rfl (Ad.nil)))))) (by omega)
 have hl:0<s.length:=List.length_pos_iff.2 h0;refine LW.know (t:=15) (c:=true) rfl (decide_eq_true (by omega)) ?_;refine Sa ?_;by_cases h1:Ab s 0=45
 ·have hn:H5 s=true:=by simp [H5,h0,h1]
  have ec:cut s (1:Int).toNat ((s.length:Nat):Int).toNat=s.drop 1:=DW s 1;have ed:s.drop 1=d:=by rw [hd,BC,hn];rfl
  refine CW.yes rfl (decide_eq_true h1) ?_;refine Sz ?_;refine CW.loop (ι:=Nat) (λk w'=>k≤d.length∧Ay 0 (d.take k)≤9223372036854775808∧0≤Ay 0 (d.take k)∧EU (d.take k)=true∧Ae w w') (λk=>[(4,.bool ng),(5,Aj d),(6,.int .i64 (-Ay 0 (d.take k))),(7,.int .i64 (k:Int))]) (λk=>d.length - k) 0 ⟨by omega,by simp [Ay],by simp [Ay],rfl,Chg.refl _ _⟩ (Ad.cons (by rw [a5,hn];first | rfl | (show some (Value.bool (decide (Ab s 0=45)))=_;first | rw [decide_eq_true h1] | rw [decide_eq_false h1])) (Ad.cons (by rw [←ed];first | rfl | (rw [←ec];rfl)) (Ad.cons rfl (Ad.cons rfl Ad.nil)))) ?_;clear hn ed;rintro k w1 ⟨k0,k1,k2,k3,hx⟩;refine Sa ?_;refine Am (λb1=>?_) λb1=>?_;rotate_left
  ·have b1:k=d.length:=by simp at b1;omega
   rw [b1,List.take_length] at k1 k2 k3;rw [b1,List.take_length];refine Sa ?_;have a0:=Ig s;rw [←hd,←a5] at a0;by_cases e0:d=[]
   ·refine LW.know (t:=67) (c:=true) rfl (by simp [e0]) ?_;refine Sa ?_;exact QW.body2 Tryz.results58 rfl rfl ⟨AU (MC (by rw [←hd];exact e0)),hx⟩
   have e1:0<d.length:=List.length_pos_iff.2 e0;refine LW.know (t:=67) (c:=false) rfl (decide_eq_false (by omega)) ?_
   cases ng with
   | true=>
    rw [if_pos ⟨k3,e0,k1,by simp⟩,if_pos rfl] at a0;refine Sa ?_
    exact QW.body2 Tryz.results58 rfl rfl ⟨DO a0,hx⟩
   | false=>
    refine Sa ?_;refine Am (λb7=>?_) λb7=>?_
    ·have b7:-Ay 0 d=-9223372036854775808:=by simpa using b7
     rw [if_neg (λh=>h.2.2.2 rfl (by omega))] at a0;refine Sa ?_;exact QW.body2 Tryz.results58 rfl rfl ⟨AU a0,hx⟩
    have b7:¬-Ay 0 d=-9223372036854775808:=by simpa using b7
    rw [if_pos ⟨k3,e0,k1,λ_=>by omega⟩,if_neg (by simp)] at a0;refine Sa ?_;refine LW.neg (z:=Ay 0 d) rfl (by rw [EN (by omega) (by omega)];omega) rfl ?_;refine Sa ?_;exact QW.body2 Tryz.results58 rfl rfl ⟨DO a0,hx⟩
  have b1:k<d.length:=by simp at b1;omega
  have a6:=Kl b1;have ad:=CA d k;have a4:=JY b1;have a2:Al (Ab d k)=false→BW s=none:=λh=>by
   refine MA ?_;rw [←hd]
   cases hh:EU d with
   | false=>rfl
   | true=>
    have:=Gk.1 hh d[k] (List.getElem_mem b1);rw [←Bz b1,h] at this;cases this
  refine Sa ?_;by_cases b2:Ab d k<48
  ·refine LW.know (t:=34) (c:=true) rfl (decide_eq_true b2) ?_;refine Sa ?_;exact QW.body2 Tryz.results58 rfl rfl ⟨AU (a2 (by simp [Al];omega)),hx⟩
  refine LW.know (t:=34) (c:=false) rfl (decide_eq_false b2) ?_;refine Sa ?_;refine Am (λb3=>?_) λb3=>?_
  ·have b3:57<Ab d k:=by simpa using b3
   refine Sa ?_;exact QW.body2 Tryz.results58 rfl rfl ⟨AU (a2 (by simp [Al];omega)),hx⟩
  have b3:¬57<Ab d k:=by simpa using b3
  have a3:Al (Ab d k)=true:=by simp [Al];omega
  rw [k3,a3] at a4;refine Sa ?_;refine Ap rfl rfl (Kx (-Ay 0 (d.take k)) (by omega) (by omega) w1) ?_;rintro v w2 ⟨⟨z,rfl,hz,a7,a8⟩,a9⟩;refine Sa ?_;refine LW.neg (z:=-(Ab d k - 48)) rfl (by show IntKind.i64.wrap (0 - (Ab d k - 48))=_;rw [EN (by omega) (by omega)];omega) rfl ?_;refine Sa ?_;refine Ap rfl rfl (MI z (-(Ab d k - 48)) a7 a8 (by omega) (by omega) w2) ?_;rintro v w3 ⟨⟨y,b,rfl,hy⟩,aa⟩;have a1:=(hx.trans a9).trans aa;refine Sa ?_;by_cases o1:-9223372036854775808≤-Ay 0 (d.take k)*10;rotate_left
  ·refine LW.know (t:=58) (c:=true) rfl (by rw [decide_eq_false o1];rfl) ?_;refine Sa ?_;exact QW.body2 Tryz.results58 rfl rfl ⟨AU (Gv (i:=k+1) (by rw [←hd];omega)),a1⟩
  obtain rfl:=hz o1;obtain ⟨rfl,ab⟩:=hy (by omega);refine LW.know (t:=58) (c:=false) rfl (by rw [decide_eq_true o1];rfl) ?_;refine Sa ?_;refine Am (λb5=>?_) λb5=>?_
  ·have b5:¬-9223372036854775808≤-Ay 0 (d.take k)*10+-(Ab d k - 48):=by simpa using b5
   refine Sa ?_;exact QW.body2 Tryz.results58 rfl rfl ⟨AU (Gv (i:=k+1) (by rw [←hd];omega)),a1⟩
  have b5:-9223372036854775808≤-Ay 0 (d.take k)*10+-(Ab d k - 48):=by simpa using b5
  have ac:y=-Ay 0 (d.take (k+1)):=by rw [ab b5,a6];omega
  refine Sa ?_;exact QW.again (k+1) ⟨by omega,by omega,by omega,a4,a1⟩ (by rw [←ac];exact (Ad.cons rfl (Ad.cons rfl (Ad.cons rfl (Ad.cons rfl (Ad.nil)))))) (by omega)
 ·have hn:H5 s=false:=by simp [H5,h1]
  have ed:s=d:=by rw [hd,BC,hn];rfl
  refine CW.no rfl (decide_eq_false h1) ?_;refine Sa ?_;refine CW.loop (ι:=Nat) (λk w'=>k≤d.length∧Ay 0 (d.take k)≤9223372036854775808∧0≤Ay 0 (d.take k)∧EU (d.take k)=true∧Ae w w') (λk=>[(4,.bool ng),(5,Aj d),(6,.int .i64 (-Ay 0 (d.take k))),(7,.int .i64 (k:Int))]) (λk=>d.length - k) 0 ⟨by omega,by simp [Ay],by simp [Ay],rfl,Chg.refl _ _⟩ (Ad.cons (by rw [a5,hn];first | rfl | (show some (Value.bool (decide (Ab s 0=45)))=_;first | rw [decide_eq_true h1] | rw [decide_eq_false h1])) (Ad.cons (by rw [←ed];first | rfl | (rw [←ec];rfl)) (Ad.cons rfl (Ad.cons rfl Ad.nil)))) ?_;clear hn ed;rintro k w1 ⟨k0,k1,k2,k3,hx⟩;refine Sa ?_;refine Am (λb1=>?_) λb1=>?_;rotate_left
  ·have b1:k=d.length:=by simp at b1;omega
   rw [b1,List.take_length] at k1 k2 k3;rw [b1,List.take_length];refine Sa ?_;have a0:=Ig s;rw [←hd,←a5] at a0;by_cases e0:d=[]
   ·refine LW.know (t:=67) (c:=true) rfl (by simp [e0]) ?_;refine Sa ?_;exact QW.body2 Tryz.results58 rfl rfl ⟨AU (MC (by rw [←hd];exact e0)),hx⟩
   have e1:0<d.length:=List.length_pos_iff.2 e0;refine LW.know (t:=67) (c:=false) rfl (decide_eq_false (by omega)) ?_
   cases ng with
   | true=>
    rw [if_pos ⟨k3,e0,k1,by simp⟩,if_pos rfl] at a0;refine Sa ?_
    exact QW.body2 Tryz.results58 rfl rfl ⟨DO a0,hx⟩
   | false=>
    refine Sa ?_;refine Am (λb7=>?_) λb7=>?_
    ·have b7:-Ay 0 d=-9223372036854775808:=by simpa using b7
     rw [if_neg (λh=>h.2.2.2 rfl (by omega))] at a0;refine Sa ?_;exact QW.body2 Tryz.results58 rfl rfl ⟨AU a0,hx⟩
    have b7:¬-Ay 0 d=-9223372036854775808:=by simpa using b7
    rw [if_pos ⟨k3,e0,k1,λ_=>by omega⟩,if_neg (by simp)] at a0;refine Sa ?_;refine LW.neg (z:=Ay 0 d) rfl (by rw [EN (by omega) (by omega)];omega) rfl ?_;refine Sa ?_;exact QW.body2 Tryz.results58 rfl rfl ⟨DO a0,hx⟩
  have b1:k<d.length:=by simp at b1;omega
  have a6:=Kl b1;have ad:=CA d k;have a4:=JY b1;have a2:Al (Ab d k)=false→BW s=none:=λh=>by
   refine MA ?_;rw [←hd]
   cases hh:EU d with
   | false=>rfl
   | true=>
    have:=Gk.1 hh d[k] (List.getElem_mem b1);rw [←Bz b1,h] at this;cases this
  refine Sa ?_;by_cases b2:Ab d k<48
  ·refine LW.know (t:=34) (c:=true) rfl (decide_eq_true b2) ?_;refine Sa ?_;exact QW.body2 Tryz.results58 rfl rfl ⟨AU (a2 (by simp [Al];omega)),hx⟩
  refine LW.know (t:=34) (c:=false) rfl (decide_eq_false b2) ?_;refine Sa ?_;refine Am (λb3=>?_) λb3=>?_
  ·have b3:57<Ab d k:=by simpa using b3
   refine Sa ?_;exact QW.body2 Tryz.results58 rfl rfl ⟨AU (a2 (by simp [Al];omega)),hx⟩
  have b3:¬57<Ab d k:=by simpa using b3
  have a3:Al (Ab d k)=true:=by simp [Al];omega
  rw [k3,a3] at a4;refine Sa ?_;refine Ap rfl rfl (Kx (-Ay 0 (d.take k)) (by omega) (by omega) w1) ?_;rintro v w2 ⟨⟨z,rfl,hz,a7,a8⟩,a9⟩;refine Sa ?_;refine LW.neg (z:=-(Ab d k - 48)) rfl (by show IntKind.i64.wrap (0 - (Ab d k - 48))=_;rw [EN (by omega) (by omega)];omega) rfl ?_;refine Sa ?_;refine Ap rfl rfl (MI z (-(Ab d k - 48)) a7 a8 (by omega) (by omega) w2) ?_;rintro v w3 ⟨⟨y,b,rfl,hy⟩,aa⟩;have a1:=(hx.trans a9).trans aa;refine Sa ?_;by_cases o1:-9223372036854775808≤-Ay 0 (d.take k)*10;rotate_left
  ·refine LW.know (t:=58) (c:=true) rfl (by rw [decide_eq_false o1];rfl) ?_;refine Sa ?_;exact QW.body2 Tryz.results58 rfl rfl ⟨AU (Gv (i:=k+1) (by rw [←hd];omega)),a1⟩
  obtain rfl:=hz o1;obtain ⟨rfl,ab⟩:=hy (by omega);refine LW.know (t:=58) (c:=false) rfl (by rw [decide_eq_true o1];rfl) ?_;refine Sa ?_;refine Am (λb5=>?_) λb5=>?_
  ·have b5:¬-9223372036854775808≤-Ay 0 (d.take k)*10+-(Ab d k - 48):=by simpa using b5
   refine Sa ?_;exact QW.body2 Tryz.results58 rfl rfl ⟨AU (Gv (i:=k+1) (by rw [←hd];omega)),a1⟩
  have b5:-9223372036854775808≤-Ay 0 (d.take k)*10+-(Ab d k - 48):=by simpa using b5
  have ac:y=-Ay 0 (d.take (k+1)):=by rw [ab b5,a6];omega
  refine Sa ?_;exact QW.again (k+1) ⟨by omega,by omega,by omega,a4,a1⟩ (by rw [←ac];exact (Ad.cons rfl (Ad.cons rfl (Ad.cons rfl (Ad.cons rfl (Ad.nil)))))) (by omega)
theorem Uq {s:List UInt8} {n:Int} (h:BW s=some n):V8 s=n:=by
 unfold V8;rw [h]
set_option maxHeartbeats 1000000 in
theorem OK (s:List UInt8) (hs:s.length≤9223372036854775807) (w:World):AA Tryz.prog 41 [Aj s] w (λv w'=>v=.bool (Cv s)∧Ae w w'):=by
 refine AL Tryz.func41 Tryz.ntmps41 ?_;refine Sa ?_;refine Am (λh1=>?_) λh1=>?_
 ·have h1:300<s.length:=by simp at h1;omega
  refine Sa ?_;exact QW.body1 Tryz.results41 rfl ⟨by rw [Cv,if_pos h1],Chg.refl _ _⟩
 have h1:s.length≤300:=by simp at h1;omega
 have n1:¬300<s.length:=by omega
 refine Sa ?_;by_cases h2:s=[]
 ·refine LW.know (t:=11) (c:=true) rfl (by simp [h2]) ?_;refine Sa ?_;exact QW.body1 Tryz.results41 rfl ⟨by rw [Cv,if_neg n1,if_pos (.inl h2)],Chg.refl _ _⟩
 have hl:0<s.length:=List.length_pos_iff.2 h2;refine LW.know (t:=11) (c:=false) rfl (by simp [h2]) ?_;refine Sa ?_;refine Am (λh3=>?_) λh3=>?_
 ·have h3:Ab s 0=39:=by simpa using h3
  refine Sa ?_;exact QW.body1 Tryz.results41 rfl ⟨by rw [Cv,if_neg n1,if_pos (.inr h3)],Chg.refl _ _⟩
 have h3:Ab s 0≠39:=by simpa using h3
 have n3:¬(s=[]∨Ab s 0=39):=by simp [h2,h3]
 refine Sa ?_;refine Am (λh4=>?_) λh4=>?_
 ·have h4:Ab s 0=61:=by simpa using h4
  have ec:cut s (1:Int).toNat ((s.length:Nat):Int).toNat=s.drop 1:=DW s 1;have ab:(s.drop 1).length≤300:=by simp;omega
  refine Sz ?_;refine Ap rfl rfl (N2 (cut s (1:Int).toNat ((s.length:Nat):Int).toNat) (by rw [ec];omega) w) ?_;rw [ec];rintro v w1 ⟨⟨hv,he⟩,a3⟩
  cases a0:AH (s.drop 1) with
  | error e=>
   rw [a0] at hv;obtain rfl:=hv;have a7:=he e a0;refine Sa ?_;refine BP λA w2 a8 a1 hA=>?_;refine Sa ?_;refine AM λw3 a4 hA=>?_;have a5:=(a3.trans a1).step a4 (by have:=a3.size;simp;omega);refine Sa ?_;refine LW.know (t:=25) (c:=false) rfl (decide_eq_false a7) ?_;refine Sa ?_
   exact QW.body1 Tryz.results41 rfl ⟨by rw [Cv,if_neg n1,if_neg n3,if_pos h4,a0],a5⟩
  | ok l=>
   rw [a0] at hv;obtain ⟨sv,rfl,hN⟩:=hv;obtain ⟨_,f1,f2,f3,f4⟩:=DL a0;have a6:BM w1 sv l:=hN.row (by omega) (λn hm=>by have:=f4 n hm;omega);obtain ⟨p,c,rfl⟩:=a6.slice;have a9:W3 (s.drop 1) l 0:=.inl ⟨a0,rfl⟩;refine Sa ?_;refine BP λA w2 a8 a1 hA=>?_;have ac:=a3.size;refine Sa ?_;refine AM λw3 a4 hA=>?_;have a2:Ae w1 w3:=a1.step a4 (by simp;omega);have a5:=a3.trans a2;refine Sa ?_;refine Ap rfl rfl (MO l _ w3 (a6.ext a2) f2 (λn hn=>by have:=f4 n hn;omega) a9.num) ?_;rintro v w4 ⟨rfl,aa⟩;have ad:=(HB a0).2.1;refine Sa ?_;refine QW.body1 Tryz.results41 rfl ⟨?_,a5.trans aa⟩;rw [Cv,if_neg n1,if_neg n3,if_pos h4,a0];simp only;have es:s=61::s.drop 1:=by
    cases s with
    | nil=>exact absurd rfl h2
    | cons c r=>
     have:Ab (c::r) 0=(c.toNat:Int):=rfl;rw [this] at h4;have hc:c=61:=by
      apply UInt8.toNat_inj.1;simp;omega
     rw [hc];rfl
   congr 1
   by_cases hq:BF l=s.drop 1
   ·rw [decide_eq_true hq,decide_eq_true];rw [hq];exact es.symm
   ·rw [decide_eq_false hq,decide_eq_false];intro hh;rw [es] at hh;simp at hh;exact hq (by simpa using hh)
 have h4:Ab s 0≠61:=by simpa using h4
 refine Sa ?_;refine Ap rfl rfl (Ur s (by omega) w) ?_;rintro v w1 ⟨hv,hx⟩;unfold JR at hv;subst hv
 cases hn:BW s with
 | some n=>
  obtain ⟨b0,b1⟩:=MB hn;rw [Uq hn];refine Sa ?_;refine Ap rfl rfl (Fs n b0 b1 w1) ?_;rintro v w2 ⟨rfl,a1⟩;refine Sa ?_
  exact QW.body1 Tryz.results41 rfl ⟨by rw [Cv,if_neg n1,if_neg n3,if_neg h4,hn],hx.trans a1⟩
 | none=>
  refine Sa ?_;exact QW.body1 Tryz.results41 rfl ⟨by rw [Cv,if_neg n1,if_neg n3,if_neg h4,hn],hx⟩
theorem OJ (s:List UInt8) (hs:s.length≤9223372036854775807) (w:World):AA Tryz.prog 72 [Aj s] w (λv w'=>Wz s v w'∧Ae w w'):=by
 refine AL Tryz.func72 Tryz.ntmps72 ?_;refine Sa ?_;by_cases h2:s=[]
 ·refine LW.know (t:=6) (c:=true) rfl (by simp [h2]) ?_;refine Sa ?_;exact QW.body2 Tryz.results72 rfl rfl ⟨.inr ⟨rfl,.inl h2⟩,Chg.refl _ _⟩
 have hl:0<s.length:=List.length_pos_iff.2 h2;refine LW.know (t:=6) (c:=false) rfl (by simp [h2]) ?_;refine Sa ?_;by_cases h3:Ab s 0=61;rotate_left
 ·refine LW.know (t:=11) (c:=true) rfl (by simp [h3]) ?_;refine Sa ?_;exact QW.body2 Tryz.results72 rfl rfl ⟨.inr ⟨rfl,.inr (.inl h3)⟩,Chg.refl _ _⟩
 refine LW.know (t:=11) (c:=false) rfl (by simp [h3]) ?_;refine Sa ?_;refine Ap rfl rfl (OK s hs w) ?_;rintro v w1 ⟨rfl,hx⟩;refine Sa ?_;refine Am (λh4=>?_) λh4=>?_
 ·have h4:Cv s=false:=by simpa using h4
  refine Sa ?_;exact QW.body2 Tryz.results72 rfl rfl ⟨.inr ⟨rfl,.inr (.inr h4)⟩,hx⟩
 have h4:Cv s=true:=by simpa using h4
 have ec:cut s (1:Int).toNat ((s.length:Nat):Int).toNat=s.drop 1:=DW s 1;have a3:(s.drop 1).length≤s.length:=by simp
 refine Sz ?_;refine Ap rfl rfl (N2 (cut s (1:Int).toNat ((s.length:Nat):Int).toNat) (by rw [ec];omega) w1) ?_;rw [ec];rintro v w2 ⟨⟨hv,he⟩,a1⟩
 cases a0:AH (s.drop 1) with
 | error e=>
  exfalso;have:Cv s=false:=by
   unfold Cv
   split
   ·rfl
   ·rw [if_neg (by rintro (hh | hh);exact h2 hh;omega)];rw [a0]
  rw [this] at h4
  cases h4
 | ok l=>
  rw [a0] at hv;obtain ⟨sv,rfl,hN⟩:=hv;obtain ⟨_,f1,f2,f3,f4⟩:=DL a0;have a2:BM w2 sv l:=hN.row (by omega) (λn hm=>by have:=f4 n hm;omega);refine Sa ?_;refine LW.field1 (v:=sv) rfl rfl rfl rfl rfl rfl rfl rfl ?_;refine Sa ?_;exact QW.body2 Tryz.results72 rfl rfl ⟨.inl ⟨l,sv,rfl,h3,h2,h4,a0,a2⟩,hx.trans a1⟩
end Go.Proofs.YtefaigjfkddelaaGreatDoor
