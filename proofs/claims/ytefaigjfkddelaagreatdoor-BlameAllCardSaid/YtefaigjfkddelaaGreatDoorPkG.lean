/-
  Joined by program out of the texts Cell CellM CellF CellP DigA NumP RCell RForm.
-/
import Derived.Test.YtefaigjfkddelaaGreatDoorPkF
import Derived.Test.YtefaigjfkddelaaGreatDoorPkE
import Derived.Test.YtefaigjfkddelaaGreatDoorPkD
namespace Go.Proofs.YtefaigjfkddelaaGreatDoor
open Go Go.E
def Ng (s:List UInt8):Nat:=if s≠[]∧Ab s 0=45 then 1 else 0
def FZ (s:List UInt8):Bool:=decide (∀j,j<s.length→Ng s≤j→Ao (Ab s j)=true)
def Ch (s:List UInt8):Option Int:=if FZ s then (match Lib.atoiAll s with
 | .ok n=>some n
 | _=>none) else none
theorem Pt (s:List UInt8) (hs:s.length≤1000000) (w:World) (g:CV w):AB Tryz.prog 87 [Aj s] w (λv w'=>(∃z,v=.tuple #[.int .i64 z,.bool (Ch s).isSome]∧∀n,Ch s=some n→z=n)∧Ae w w'):=by
 refine AJ Tryz.func87 Tryz.ntmps87 ?_;refine Sa ?_;by_cases h0:s=[]
 ·refine LW.know (t:=10) (c:=false) rfl (by simp [h0]) ?_;refine Sa ?_;have a3:Ng s=0:=by simp [Ng,h0]
  refine CW.loop (ι:=Nat) (λk w'=>Ng s≤k∧(k≤s.length∨s.length≤k)∧k≤s.length+1∧Ae w w'∧∀j,j<k→j<s.length→Ng s≤j→Ao (Ab s j)=true) (λk=>[(0,Aj s),(5,.int .i64 (k:Int))]) (λk=>s.length+1 - k) (Ng s) ⟨Nat.le_refl _,by omega,by rw [a3];omega,Chg.refl _ _,λj h1 h2 h3=>by omega⟩ (by rw [a3];exact (Ad.cons rfl (Ad.cons rfl (Ad.nil)))) ?_;rintro k w1 ⟨k0,_,k1,hx,a0⟩;refine Sa ?_;refine Am (λb1=>?_) λb1=>?_
  ·have b1:k<s.length:=by simp at b1;omega
   refine Sa ?_;refine B1 (λb2=>?_) λb2=>?_
   ·have b2:Ab s k<48:=by simpa using b2
    refine Sa ?_;refine QW.body2 Tryz.results87 rfl rfl ⟨⟨0,?_,λn hn=>?_⟩,hx⟩<;>
    ·have:FZ s=false:=by
      simp only [FZ,decide_eq_false_iff_not];intro hh;have:=hh k b1 k0;simp [Ao] at this;omega
     first | rw [Ch,this];rfl | (rw [Ch,this] at hn;cases hn)
   have b2:¬Ab s k<48:=by simpa using b2
   refine Sa ?_;refine Am (λb3=>?_) λb3=>?_
   ·have b3:57<Ab s k:=by simpa using b3
    refine Sa ?_;refine QW.body2 Tryz.results87 rfl rfl ⟨⟨0,?_,λn hn=>?_⟩,hx⟩<;>
    ·have:FZ s=false:=by
      simp only [FZ,decide_eq_false_iff_not];intro hh;have:=hh k b1 k0;simp [Ao] at this;omega
     first | rw [Ch,this];rfl | (rw [Ch,this] at hn;cases hn)
   have b3:¬57<Ab s k:=by simpa using b3
   refine Sa ?_;refine QW.again (k+1) ⟨by omega,by omega,by omega,hx,λj h1 h2 h3=>?_⟩ D5 (by omega);by_cases e:j=k
   ·subst e;simp [Ao];omega
   ·exact a0 j (by omega) h2 h3
  have b1:s.length≤k:=by simp at b1;omega
  have hD:FZ s=true:=by
   simp only [FZ,decide_eq_true_eq];exact λj h1 h2=>a0 j (by omega) h1 h2
  refine Sa ?_;refine Ap rfl rfl (Hp s hs w1 (g.ext hx)) ?_;rintro v w2 ⟨hv,a2⟩;unfold Ix at hv
  cases ha:Lib.atoiAll s with
  | ok n=>
   have hn:Ch s=some n:=by rw [Ch,hD,ha];rfl
   rw [ha] at hv;subst hv;refine Sa ?_;refine Hb ?_;refine Sq ?_;refine QL.yields rfl rfl rfl (λw' _=>Y.eql_nil_nil rfl rfl rfl _) ?_;refine Sq ?_;refine QL.nil λw3 a1=>?_;refine Sa ?_
   refine QW.body2 Tryz.results87 rfl rfl ⟨⟨n,by rw [hn];rfl,λm hm=>by rw [hn] at hm;exact Option.some.inj hm⟩,(hx.trans a2).trans a1⟩
  | range=>
   have hn:Ch s=none:=by rw [Ch,hD,ha];rfl
   rw [ha] at hv;obtain ⟨z,t,x,rfl⟩:=hv;refine Sa ?_;refine Hb ?_;refine Sq ?_;refine QL.yields rfl rfl rfl (λw' _=>Y.eql_nil rfl rfl rfl _) ?_;refine Sq ?_;refine QL.nil λw3 a1=>?_;refine Sa ?_
   refine QW.body2 Tryz.results87 rfl rfl ⟨⟨z,by rw [hn];rfl,λm hm=>by rw [hn] at hm;cases hm⟩,(hx.trans a2).trans a1⟩
  | _=>
   have hn:Ch s=none:=by rw [Ch,hD,ha];rfl
   rw [ha] at hv;obtain ⟨z,t,x,rfl⟩:=hv;refine Sa ?_;refine Hb ?_;refine Sq ?_;refine QL.yields rfl rfl rfl (λw' _=>Y.eql_nil rfl rfl rfl _) ?_;refine Sq ?_;refine QL.nil λw3 a1=>?_;refine Sa ?_;refine QW.body2 Tryz.results87 rfl rfl ⟨⟨z,by rw [hn];rfl,λm hm=>by rw [hn] at hm;cases hm⟩,(hx.trans a2).trans a1⟩
 ·have hl:0<s.length:=List.length_pos_iff.2 h0;refine LW.know (t:=10) (c:=true) rfl (by simp [h0]) ?_;refine Sa ?_;refine Am (λh1=>?_) λh1=>?_
  ·have h1:Ab s 0=45:=by simpa using h1
   have a3:Ng s=1:=by simp [Ng,h0,h1]
   refine Sa ?_;refine CW.loop (ι:=Nat) (λk w'=>Ng s≤k∧(k≤s.length∨s.length≤k)∧k≤s.length+1∧Ae w w'∧∀j,j<k→j<s.length→Ng s≤j→Ao (Ab s j)=true) (λk=>[(0,Aj s),(5,.int .i64 (k:Int))]) (λk=>s.length+1 - k) (Ng s) ⟨Nat.le_refl _,by omega,by rw [a3];omega,Chg.refl _ _,λj h1 h2 h3=>by omega⟩ (by rw [a3];exact (Ad.cons rfl (Ad.cons rfl (Ad.nil)))) ?_;rintro k w1 ⟨k0,_,k1,hx,a0⟩;refine Sa ?_;refine Am (λb1=>?_) λb1=>?_
   ·have b1:k<s.length:=by simp at b1;omega
    refine Sa ?_;refine B1 (λb2=>?_) λb2=>?_
    ·have b2:Ab s k<48:=by simpa using b2
     refine Sa ?_;refine QW.body2 Tryz.results87 rfl rfl ⟨⟨0,?_,λn hn=>?_⟩,hx⟩<;>
     ·have:FZ s=false:=by
       simp only [FZ,decide_eq_false_iff_not];intro hh;have:=hh k b1 k0;simp [Ao] at this;omega
      first | rw [Ch,this];rfl | (rw [Ch,this] at hn;cases hn)
    have b2:¬Ab s k<48:=by simpa using b2
    refine Sa ?_;refine Am (λb3=>?_) λb3=>?_
    ·have b3:57<Ab s k:=by simpa using b3
     refine Sa ?_;refine QW.body2 Tryz.results87 rfl rfl ⟨⟨0,?_,λn hn=>?_⟩,hx⟩<;>
     ·have:FZ s=false:=by
       simp only [FZ,decide_eq_false_iff_not];intro hh;have:=hh k b1 k0;simp [Ao] at this;omega
      first | rw [Ch,this];rfl | (rw [Ch,this] at hn;cases hn)
    have b3:¬57<Ab s k:=by simpa using b3
    refine Sa ?_;refine QW.again (k+1) ⟨by omega,by omega,by omega,hx,λj h1 h2 h3=>?_⟩ D5 (by omega);by_cases e:j=k
    ·subst e;simp [Ao];omega
    ·exact a0 j (by omega) h2 h3
   have b1:s.length≤k:=by simp at b1;omega
   have hD:FZ s=true:=by
    simp only [FZ,decide_eq_true_eq];exact λj h1 h2=>a0 j (by omega) h1 h2
   refine Sa ?_;refine Ap rfl rfl (Hp s hs w1 (g.ext hx)) ?_;rintro v w2 ⟨hv,a2⟩;unfold Ix at hv
   cases ha:Lib.atoiAll s with
   | ok n=>
    have hn:Ch s=some n:=by rw [Ch,hD,ha];rfl
    rw [ha] at hv;subst hv;refine Sa ?_;refine Hb ?_;refine Sq ?_;refine QL.yields rfl rfl rfl (λw' _=>Y.eql_nil_nil rfl rfl rfl _) ?_;refine Sq ?_;refine QL.nil λw3 a1=>?_;refine Sa ?_
    refine QW.body2 Tryz.results87 rfl rfl ⟨⟨n,by rw [hn];rfl,λm hm=>by rw [hn] at hm;exact Option.some.inj hm⟩,(hx.trans a2).trans a1⟩
   | range=>
    have hn:Ch s=none:=by rw [Ch,hD,ha];rfl
    rw [ha] at hv;obtain ⟨z,t,x,rfl⟩:=hv;refine Sa ?_;refine Hb ?_;refine Sq ?_;refine QL.yields rfl rfl rfl (λw' _=>Y.eql_nil rfl rfl rfl _) ?_;refine Sq ?_;refine QL.nil λw3 a1=>?_;refine Sa ?_
    refine QW.body2 Tryz.results87 rfl rfl ⟨⟨z,by rw [hn];rfl,λm hm=>by rw [hn] at hm;cases hm⟩,(hx.trans a2).trans a1⟩
   | _=>
    have hn:Ch s=none:=by rw [Ch,hD,ha];rfl
    rw [ha] at hv;obtain ⟨z,t,x,rfl⟩:=hv;refine Sa ?_;refine Hb ?_;refine Sq ?_;refine QL.yields rfl rfl rfl (λw' _=>Y.eql_nil rfl rfl rfl _) ?_;refine Sq ?_;refine QL.nil λw3 a1=>?_;refine Sa ?_;refine QW.body2 Tryz.results87 rfl rfl ⟨⟨z,by rw [hn];rfl,λm hm=>by rw [hn] at hm;cases hm⟩,(hx.trans a2).trans a1⟩
  ·have h1:Ab s 0≠45:=by simpa using h1
   have a3:Ng s=0:=by simp [Ng,h1]
   refine Sa ?_;refine CW.loop (ι:=Nat) (λk w'=>Ng s≤k∧(k≤s.length∨s.length≤k)∧k≤s.length+1∧Ae w w'∧∀j,j<k→j<s.length→Ng s≤j→Ao (Ab s j)=true) (λk=>[(0,Aj s),(5,.int .i64 (k:Int))]) (λk=>s.length+1 - k) (Ng s) ⟨Nat.le_refl _,by omega,by rw [a3];omega,Chg.refl _ _,λj h1 h2 h3=>by omega⟩ (by rw [a3];exact (Ad.cons rfl (Ad.cons rfl (Ad.nil)))) ?_;rintro k w1 ⟨k0,_,k1,hx,a0⟩;refine Sa ?_;refine Am (λb1=>?_) λb1=>?_
   ·have b1:k<s.length:=by simp at b1;omega
    refine Sa ?_;refine B1 (λb2=>?_) λb2=>?_
    ·have b2:Ab s k<48:=by simpa using b2
     refine Sa ?_;refine QW.body2 Tryz.results87 rfl rfl ⟨⟨0,?_,λn hn=>?_⟩,hx⟩<;>
     ·have:FZ s=false:=by
       simp only [FZ,decide_eq_false_iff_not];intro hh;have:=hh k b1 k0;simp [Ao] at this;omega
      first | rw [Ch,this];rfl | (rw [Ch,this] at hn;cases hn)
    have b2:¬Ab s k<48:=by simpa using b2
    refine Sa ?_;refine Am (λb3=>?_) λb3=>?_
    ·have b3:57<Ab s k:=by simpa using b3
     refine Sa ?_;refine QW.body2 Tryz.results87 rfl rfl ⟨⟨0,?_,λn hn=>?_⟩,hx⟩<;>
     ·have:FZ s=false:=by
       simp only [FZ,decide_eq_false_iff_not];intro hh;have:=hh k b1 k0;simp [Ao] at this;omega
      first | rw [Ch,this];rfl | (rw [Ch,this] at hn;cases hn)
    have b3:¬57<Ab s k:=by simpa using b3
    refine Sa ?_;refine QW.again (k+1) ⟨by omega,by omega,by omega,hx,λj h1 h2 h3=>?_⟩ D5 (by omega);by_cases e:j=k
    ·subst e;simp [Ao];omega
    ·exact a0 j (by omega) h2 h3
   have b1:s.length≤k:=by simp at b1;omega
   have hD:FZ s=true:=by
    simp only [FZ,decide_eq_true_eq];exact λj h1 h2=>a0 j (by omega) h1 h2
   refine Sa ?_;refine Ap rfl rfl (Hp s hs w1 (g.ext hx)) ?_;rintro v w2 ⟨hv,a2⟩;unfold Ix at hv
   cases ha:Lib.atoiAll s with
   | ok n=>
    have hn:Ch s=some n:=by rw [Ch,hD,ha];rfl
    rw [ha] at hv;subst hv;refine Sa ?_;refine Hb ?_;refine Sq ?_;refine QL.yields rfl rfl rfl (λw' _=>Y.eql_nil_nil rfl rfl rfl _) ?_;refine Sq ?_;refine QL.nil λw3 a1=>?_;refine Sa ?_
    refine QW.body2 Tryz.results87 rfl rfl ⟨⟨n,by rw [hn];rfl,λm hm=>by rw [hn] at hm;exact Option.some.inj hm⟩,(hx.trans a2).trans a1⟩
   | range=>
    have hn:Ch s=none:=by rw [Ch,hD,ha];rfl
    rw [ha] at hv;obtain ⟨z,t,x,rfl⟩:=hv;refine Sa ?_;refine Hb ?_;refine Sq ?_;refine QL.yields rfl rfl rfl (λw' _=>Y.eql_nil rfl rfl rfl _) ?_;refine Sq ?_;refine QL.nil λw3 a1=>?_;refine Sa ?_
    refine QW.body2 Tryz.results87 rfl rfl ⟨⟨z,by rw [hn];rfl,λm hm=>by rw [hn] at hm;cases hm⟩,(hx.trans a2).trans a1⟩
   | _=>
    have hn:Ch s=none:=by rw [Ch,hD,ha];rfl
    rw [ha] at hv;obtain ⟨z,t,x,rfl⟩:=hv;refine Sa ?_;refine Hb ?_;refine Sq ?_;refine QL.yields rfl rfl rfl (λw' _=>Y.eql_nil rfl rfl rfl _) ?_;refine Sq ?_;refine QL.nil λw3 a1=>?_;refine Sa ?_;refine QW.body2 Tryz.results87 rfl rfl ⟨⟨z,by rw [hn];rfl,λm hm=>by rw [hn] at hm;cases hm⟩,(hx.trans a2).trans a1⟩
theorem QU {s:List UInt8} {n:Int} (h:Lib.atoiAll s=.ok n):-9223372036854775808≤n∧n≤9223372036854775807:=by
 unfold Lib.atoiAll at h
 split at h
 ·cases h
 ·simp only at h
  split at h
  ·cases h
  ·cases h
  ·split at h
   ·cases h
   ·split at h
    ·cases h
    ·simp only [Lib.NumEnd.ok.injEq] at h;subst h
     split<;>omega
theorem M5 {s:List UInt8} {n:Int} (h:Ch s=some n):-9223372036854775808≤n∧n≤9223372036854775807:=by
 unfold Ch at h
 split at h
 ·split at h
  ·rename_i m e;obtain rfl:=Option.some.inj h;exact QU e
  ·cases h
 ·cases h
noncomputable def CZ (s:List UInt8):Bool:=
 if 300<s.length then false else if s=[]∨Ab s 0=39 then true else if Ab s 0=61 then (match AL (s.drop 1) with
  | .error _=>false
  | .ok l=>decide (BN l=s.drop 1))
 else match Ch s with
  | some n=>decide (Lib.itoa n=s)
  | none=>false
theorem Pq (s:List UInt8) (hs:s.length≤9223372036854775807) (w:World) (g:CV w):AB Tryz.prog 61 [Aj s] w (λv w'=>v=.bool (CZ s)∧Ae w w'):=by
 refine AJ Tryz.func61 Tryz.ntmps61 ?_;refine Sa ?_;refine Am (λh1=>?_) λh1=>?_
 ·have h1:300<s.length:=by simp at h1;omega
  refine Sa ?_;exact QW.body1 Tryz.results61 rfl ⟨by rw [CZ,if_pos h1],Chg.refl _ _⟩
 have h1:s.length≤300:=by simp at h1;omega
 have n1:¬300<s.length:=by omega
 refine Sa ?_;by_cases h2:s=[]
 ·refine LW.know (t:=14) (c:=true) rfl (by simp [h2]) ?_;refine Sa ?_;exact QW.body1 Tryz.results61 rfl ⟨by rw [CZ,if_neg n1,if_pos (.inl h2)],Chg.refl _ _⟩
 have hl:0<s.length:=List.length_pos_iff.2 h2;refine LW.know (t:=14) (c:=false) rfl (by simp [h2]) ?_;refine Sa ?_;refine Am (λh3=>?_) λh3=>?_
 ·have h3:Ab s 0=39:=by simpa using h3
  refine Sa ?_;exact QW.body1 Tryz.results61 rfl ⟨by rw [CZ,if_neg n1,if_pos (.inr h3)],Chg.refl _ _⟩
 have h3:Ab s 0≠39:=by simpa using h3
 have n3:¬(s=[]∨Ab s 0=39):=by simp [h2,h3]
 refine Sa ?_;refine Am (λh4=>?_) λh4=>?_
 ·have h4:Ab s 0=61:=by simpa using h4
  have ec:cut s (1:Int).toNat ((s.length:Nat):Int).toNat=s.drop 1:=Eb s 1;have a4:(s.drop 1).length≤300:=by simp;omega
  refine Sz ?_;refine Ap rfl rfl (Ns (cut s (1:Int).toNat ((s.length:Nat):Int).toNat) (by rw [ec];omega) w g) ?_;rintro v w1 ⟨hv,hx⟩;obtain ⟨l,e,sv,rfl,hN,hp⟩:=hv.both;rw [ec] at hp;obtain ⟨a1,_⟩:=hp.facts;refine Sa ?_;refine Hb ?_;refine Sq ?_;by_cases h5:e=0
  ·have a2:AL (s.drop 1)=.ok l:=by
    rcases hp with ⟨h,_⟩ | ⟨_,_,h⟩
    ·exact h
    ·omega
   refine QL.know (t:=31) (c:=true) rfl (by simp [h5]) ?_;refine Sq ?_;refine QL.call0 (v:=Aj (BN l)) rfl rfl (λw' hw=>Nt l sv w' (g.ext (hx.trans hw)) (hN.ext hw) a1 hp.num) ?_;refine VD ?_;refine QL.nil λw2 a0=>?_;refine Sa ?_;exact QW.body1 Tryz.results61 rfl ⟨by rw [CZ,if_neg n1,if_neg n3,if_pos h4,a2,ec],hx.trans a0⟩
  ·have a3:AL (s.drop 1)=.error e:=by
    rcases hp with ⟨_,h⟩ | ⟨h,_,_⟩
    ·exact absurd h h5
    ·exact h
   refine QL.know (t:=31) (c:=false) rfl (by simp [h5]) ?_;refine VD ?_;refine QL.nil λw2 a0=>?_;refine Sa ?_;exact QW.body1 Tryz.results61 rfl ⟨by rw [CZ,if_neg n1,if_neg n3,if_pos h4,a3],hx.trans a0⟩
 have h4:Ab s 0≠61:=by simpa using h4
 refine Sa ?_;refine Ap rfl rfl (Pt s (by omega) w g) ?_;rintro v w1 ⟨⟨z,rfl,hz⟩,hx⟩
 cases hn:Ch s with
 | some n=>
  obtain rfl:=hz n hn;obtain ⟨b0,b1⟩:=M5 hn;refine Sa ?_;refine Ap rfl rfl (L9 z b0 b1 w1 (g.ext hx)) ?_;rintro v w2 ⟨rfl,a0⟩;refine Sa ?_
  exact QW.body1 Tryz.results61 rfl ⟨by rw [CZ,if_neg n1,if_neg n3,if_neg h4,hn],hx.trans a0⟩
 | none=>
  refine Sa ?_;exact QW.body1 Tryz.results61 rfl ⟨by rw [CZ,if_neg n1,if_neg n3,if_neg h4,hn],hx⟩
def Ws (s:List UInt8) (v:Value) (w:World):Prop:=
 (∃l sv,v=.tuple #[sv,.bool true]∧Ab s 0=61∧s≠[]∧CZ s=true∧AL (s.drop 1)=.ok l∧BM w sv l)∨(v=.tuple #[.slice none 0 0,.bool false]∧(s=[]∨Ab s 0≠61∨CZ s=false))
theorem OW (s:List UInt8) (hs:s.length≤9223372036854775807) (w:World) (g:CV w):AB Tryz.prog 67 [Aj s] w (λv w'=>Ws s v w'∧Ae w w'):=by
 refine AJ Tryz.func67 Tryz.ntmps67 ?_;refine Sa ?_;by_cases h2:s=[]
 ·refine LW.know (t:=8) (c:=true) rfl (by simp [h2]) ?_;refine Sa ?_;exact QW.body2 Tryz.results67 rfl rfl ⟨.inr ⟨rfl,.inl h2⟩,Chg.refl _ _⟩
 have hl:0<s.length:=List.length_pos_iff.2 h2;refine LW.know (t:=8) (c:=false) rfl (by simp [h2]) ?_;refine Sa ?_;by_cases h3:Ab s 0=61;rotate_left
 ·refine LW.know (t:=13) (c:=true) rfl (by simp [h3]) ?_;refine Sa ?_;exact QW.body2 Tryz.results67 rfl rfl ⟨.inr ⟨rfl,.inr (.inl h3)⟩,Chg.refl _ _⟩
 refine LW.know (t:=13) (c:=false) rfl (by simp [h3]) ?_;refine Sa ?_;refine Ap rfl rfl (Pq s hs w g) ?_;rintro v w1 ⟨rfl,hx⟩;refine Sa ?_;refine Am (λh4=>?_) λh4=>?_
 ·have h4:CZ s=false:=by simpa using h4
  refine Sa ?_;exact QW.body2 Tryz.results67 rfl rfl ⟨.inr ⟨rfl,.inr (.inr h4)⟩,hx⟩
 have h4:CZ s=true:=by simpa using h4
 have ec:cut s (1:Int).toNat ((s.length:Nat):Int).toNat=s.drop 1:=Eb s 1;have a2:(s.drop 1).length≤s.length:=by simp
 refine Sz ?_;refine Ap rfl rfl (Ns (cut s (1:Int).toNat ((s.length:Nat):Int).toNat) (by rw [ec];omega) w1 (g.ext hx)) ?_;rintro v w2 ⟨hv,a0⟩;obtain ⟨l,e,sv,rfl,hN,hp⟩:=hv.both;rw [ec] at hp;have a1:AL (s.drop 1)=.ok l:=by
  rcases hp with ⟨h,_⟩ | ⟨h,_,_⟩
  ·exact h
  ·exfalso;have:CZ s=false:=by
    unfold CZ
    split
    ·rfl
    ·rw [if_neg (by rintro (hh | hh);exact h2 hh;omega)];rw [h]
   rw [this] at h4;cases h4
 refine Sa ?_;exact QW.body2 Tryz.results67 rfl rfl ⟨.inl ⟨l,sv,rfl,h3,h2,h4,a1,hN⟩,hx.trans a0⟩
theorem L1:∀(r:List UInt8) (x:Int),0≤x→(∀c∈r,Ao (c.toNat:Int)=true)→x≤A0 x r
 | [],x,_,_=>by simp [A0]
 | c::r,x,hx,hd=>by
  have hc:=hd c (by simp);simp only [Ao,Bool.and_eq_true,decide_eq_true_eq] at hc;have ih:=L1 r (10*x+((c.toNat:Int) - 48)) (by omega) (λd h=>hd d (by simp [h]));have e:A0 x (c::r)=A0 (10*x+((c.toNat:Int) - 48)) r:=rfl;rw [e];omega
theorem OT:∀(l:List UInt8) (acc:Nat),(∀c∈l,Ao (c.toNat:Int)=true)→A0 (acc:Int) l≤9223372036854775808→Lib.parseUint10 acc l=.ok (A0 (acc:Int) l).toNat
 | [],acc,_,_=>by simp [Lib.parseUint10,A0]
 | c::r,acc,hd,hb=>by
  have hc:=hd c (by simp);simp only [Ao,Bool.and_eq_true,decide_eq_true_eq] at hc;have hdr:∀d∈r,Ao (d.toNat:Int)=true:=λd h=>hd d (by simp [h]);have e:A0 (acc:Int) (c::r)=A0 (((acc*10+(c.toNat - 48):Nat)):Int) r:=by
   have e1:A0 (acc:Int) (c::r)=A0 (10*(acc:Int)+((c.toNat:Int) - 48)) r:=rfl;rw [e1]
   congr 1
   omega
  rw [e] at hb ⊢;have a0:=L1 r (((acc*10+(c.toNat - 48):Nat)):Int) (by omega) hdr;rw [Lib.parseUint10,if_pos (by omega),if_neg (by omega),if_neg (by omega)];exact OT r _ hdr hb
theorem QO (m:Nat) (h0:1≤m) (h1:m≤9223372036854775808) (w:World):AB Tryz.prog 16 [.int .i64 (-(m:Int))] w (λv w'=>v=Aj (45::Lib.decDigits m)∧Ae w w'):=by
 have a1:(Lib.decDigits m).length≤21:=by
  have:=Lib.itoa_length_le (-(m:Int)) (by omega) (by omega);unfold Lib.itoa at this;rw [if_pos (by omega),show (-(m:Int)).natAbs=m by omega] at this;simp at this;omega
 refine AJ Tryz.func16 Tryz.ntmps16 ?_;refine Sa ?_;refine LW.conv (z:=18446744073709551616 - (m:Int)) rfl rfl rfl rfl rfl (by simp [IntKind.wrap,IntKind.bits,IntKind.signed];omega) rfl ?_;refine Sa ?_;refine CW.yes rfl (decide_eq_true (show -(m:Int)<0 by omega)) ?_;refine Sa ?_;refine LW.neg (z:=(m:Int)) rfl (by simp [IntKind.wrap,IntKind.bits,IntKind.signed];omega) rfl ?_;refine Sa ?_;refine CW.loop (ι:=Nat×List UInt8) (λi w'=>i.1≤m∧Ae w w'∧Lib.decDigits m=Lib.decDigits i.1++i.2) (λi=>[(0,.int .i64 (-(m:Int))),(3,.int .u64 (i.1:Int)),(4,Aj i.2)]) (λi=>i.1) (m,[]) ⟨by simp,Chg.refl _ _,by simp⟩ AX ?_;rintro ⟨u,acc⟩ w1 ⟨hu,hx,hd⟩;simp only at hu hd;have a2:acc.length≤21:=by
  have:=congrArg List.length hd;rw [List.length_append] at this;omega
 refine Sa ?_;refine Am (λh2=>?_) λh2=>?_
 ·have h2:10≤u:=by simp at h2;omega
  refine Sa ?_;refine C0 λb w2 hb a0 hB=>?_;replace hB:Blk w2 b [.int .u8 (48+(u:Int) % 10)] 5:=hB;replace hx:=hx.trans a0;refine Sa ?_;refine QW.again (u / 10,[ch (48+(u:Int) % 10)]++acc) ⟨?_,hx,?_⟩ AX ?_
  ·simp only;omega
  ·simp only;rw [hd,I0 h2];simp
  ·simp only;omega
 ·have h2:u<10:=by simp at h2;omega
  refine Sa ?_;refine C0 λb w2 hb a0 hB=>?_;replace hB:Blk w2 b [.int .u8 (48+(u:Int))] 5:=hB;replace hx:=hx.trans a0;refine Sa ?_;refine CW.yes rfl (decide_eq_true (show -(m:Int)<0 by omega)) ?_;refine Sa ?_;refine QW.body1 Tryz.results16 rfl ⟨?_,hx⟩;rw [hd,Hh h2];rfl
theorem UM (m:Nat) (h0:1≤m):Lib.itoa (-(m:Int))=45::Lib.decDigits m:=by
 unfold Lib.itoa;rw [if_pos (by omega),show (-(m:Int)).natAbs=m by omega]
theorem QN (n:Int) (h0:-9223372036854775808≤n) (h1:n≤9223372036854775807) (w:World):AB Tryz.prog 16 [.int .i64 n] w (λv w'=>v=Aj (Lib.itoa n)∧Ae w w'):=by
 by_cases hn:0≤n
 ·exact GA n hn h1 w
 ·obtain ⟨m,rfl⟩:∃m:Nat,n=-(m:Int):=⟨n.natAbs,by omega⟩;rw [UM m (by omega)];exact QO m (by omega) (by omega) w
theorem T4 (acc:Nat) (c:UInt8) (r:List UInt8) (hc:Ao (c.toNat:Int)=true):A0 (acc:Int) (c::r)=A0 (((acc*10+(c.toNat - 48):Nat)):Int) r:=by
 simp only [Ao,Bool.and_eq_true,decide_eq_true_eq] at hc;have e1:A0 (acc:Int) (c::r)=A0 (10*(acc:Int)+((c.toNat:Int) - 48)) r:=rfl;rw [e1]
 congr 1
 omega
theorem QH:∀(l:List UInt8) (acc u:Nat),(∀c∈l,Ao (c.toNat:Int)=true)→Lib.parseUint10 acc l=.ok u→A0 (acc:Int) l=u
 | [],acc,u,_,h=>by
  simp only [Lib.parseUint10,Lib.NumEnd.ok.injEq] at h
  simp [A0,h]
 | c::r,acc,u,hd,h=>by
  have hc:=hd c (by simp);have hc':=hc;simp only [Ao,Bool.and_eq_true,decide_eq_true_eq] at hc;rw [Lib.parseUint10,if_pos (by omega)] at h
  split at h
  ·cases h
  split at h
  ·cases h
  rw [T4 acc c r hc'];exact QH r _ u (λd h=>hd d (by simp [h])) h
def H6 (s:List UInt8):Bool:=decide (s≠[]∧Ab s 0=45)
def BD (s:List UInt8):List UInt8:=if H6 s then s.drop 1 else s
def ET (l:List UInt8):Bool:=l.all λc=>Ao (c.toNat:Int)
theorem Gm {l:List UInt8}:ET l=true↔∀c∈l,Ao (c.toNat:Int)=true:=List.all_eq_true
theorem Ut (s:List UInt8):FZ s=ET (BD s):=by
 have key:(∀j,j<s.length→Ng s≤j→Ao (Ab s j)=true)↔∀c∈BD s,Ao (c.toNat:Int)=true:=by
  by_cases hn:s≠[]∧Ab s 0=45
  ·have e1:Ng s=1:=by rw [Ng,if_pos hn]
   have e2:BD s=s.drop 1:=by rw [BD,H6,decide_eq_true hn];rfl
   rw [e1,e2];constructor
   ·intro h c hc;obtain ⟨j,hj,rfl⟩:=List.getElem_of_mem hc;have a0:j+1<s.length:=by simp at hj;omega
    have:=h (j+1) a0 (by omega);rw [B5 a0] at this
    simpa [Nat.add_comm] using this
   ·intro h j hj h1;rw [B5 hj];refine h _ ?_;rw [List.mem_iff_getElem?];refine ⟨j - 1,?_⟩;rw [List.getElem?_drop,show 1+(j - 1)=j by omega,List.getElem?_eq_getElem hj]
  ·have e1:Ng s=0:=by rw [Ng,if_neg hn]
   have e2:BD s=s:=by rw [BD,H6,decide_eq_false hn];rfl
   rw [e1,e2];constructor
   ·intro h c hc;obtain ⟨j,hj,rfl⟩:=List.getElem_of_mem hc;have:=h j hj (by omega)
    rwa [B5 hj] at this
   ·intro h j hj _;rw [B5 hj];exact h _ (List.getElem_mem hj)
 rw [Bool.eq_iff_iff,Gm,FZ,decide_eq_true_eq];exact key
theorem Ih (s:List UInt8):Ch s=if ET (BD s)=true∧BD s≠[]∧A0 0 (BD s)≤9223372036854775808∧(H6 s=false→A0 0 (BD s)≠9223372036854775808) then some (if H6 s=true then -A0 0 (BD s) else A0 0 (BD s)) else none:=by
 rw [Ch,Ut];by_cases hd:ET (BD s)=true;rotate_left
 ·rw [if_neg hd,if_neg (λh=>hd h.1)]
 rw [if_pos hd];have a0:=Gm.1 hd;by_cases he:BD s=[]
 ·rw [if_neg (λh=>h.2.1 he)];unfold BD at he
  cases s with
  | nil=>rfl
  | cons c r=>
   split at he
   ·rename_i hn;simp at he;subst he;simp only [H6,decide_eq_true_eq] at hn;have a1:(c.toNat:Int)=45:=hn.2;simp only [Lib.atoiAll];rw [if_pos (by omega)];rfl
   ·cases he
 ·have hl:Lib.parseMag (BD s)=Lib.parseUint10 0 (BD s):=by rw [Lib.parseMag,if_neg he]
  have hv:(∃u:Nat,Lib.parseUint10 0 (BD s)=.ok u∧A0 0 (BD s)=u)∨(∀u,Lib.parseUint10 0 (BD s)≠.ok u)∧9223372036854775808<A0 0 (BD s):=by
   cases hp:Lib.parseUint10 0 (BD s) with
   | ok u=>exact .inl ⟨u,rfl,by have:=QH _ _ _ a0 hp;simpa using this⟩
   | range=>
    refine .inr ⟨λu h=>(by cases h),?_⟩;rcases Int.lt_or_le 9223372036854775808 (A0 0 (BD s)) with h | h
    ·exact h
    ·have:=OT (BD s) 0 a0 (by simpa using h)
     rw [this] at hp;cases hp
   | _=>
    refine .inr ⟨λu h=>(by cases h),?_⟩;rcases Int.lt_or_le 9223372036854775808 (A0 0 (BD s)) with h | h
    ·exact h
    ·have:=OT (BD s) 0 a0 (by simpa using h);rw [this] at hp;cases hp
  cases s with
  | nil=>exact absurd rfl he
  | cons c r=>
   by_cases hn:c.toNat=45
   ·have en:H6 (c::r)=true:=by
     have:Ab (c::r) 0=(c.toNat:Int):=rfl;simp only [H6,this,decide_eq_true_eq];exact ⟨by simp,by omega⟩
    have eb:BD (c::r)=r:=by rw [BD,en];rfl
    rw [eb] at hl hv he ⊢;rw [en];simp only [Lib.atoiAll];rw [if_pos (.inr hn),hl];rcases hv with ⟨u,hp,hu⟩ | ⟨hp,hu⟩
    ·rw [hp,hu];by_cases hb:9223372036854775808<u
     ·simp only;rw [if_neg (by simp [hn]),if_pos ⟨hn,hb⟩,if_neg (by intro h;omega)]
     ·have hR:ET r=true∧r≠[]∧(u:Int)≤9223372036854775808∧(true=false→(u:Int)≠9223372036854775808):=⟨by rw [eb] at hd;exact hd,he,by omega,by simp⟩;rw [if_pos hR];simp only [hn];rw [if_neg (by simp),if_neg (by omega)]
      first | done | simp
    ·rw [if_neg (by intro h;omega)]
     cases hq:Lib.parseUint10 0 r with
     | ok u=>exact absurd hq (hp u)
     | range=>rfl
     | _=>rfl
   ·have en:H6 (c::r)=false:=by
     have:Ab (c::r) 0=(c.toNat:Int):=rfl;simp only [H6,this,decide_eq_false_iff_not];intro h;omega
    have eb:BD (c::r)=c::r:=by rw [BD,en];rfl
    rw [eb] at hl hv he a0 ⊢;rw [en];have hc:=a0 c (by simp);simp only [Ao,Bool.and_eq_true,decide_eq_true_eq] at hc;simp only [Lib.atoiAll];rw [if_neg (by omega),hl];rcases hv with ⟨u,hp,hu⟩ | ⟨hp,hu⟩
    ·rw [hp,hu];by_cases hb:9223372036854775808≤u
     ·simp only;rw [if_pos ⟨hn,hb⟩,if_neg (by intro h;have:=h.2.2.2 (by trivial);omega)]
     ·have hR:ET (c::r)=true∧c::r≠[]∧(u:Int)≤9223372036854775808∧(True→(u:Int)≠9223372036854775808):=⟨by rw [eb] at hd;exact hd,he,by omega,λ_=>by omega⟩;rw [if_pos hR];simp only [hn];rw [if_neg (by omega),if_neg (by simp)]
      first | done | simp
    ·rw [if_neg (by intro h;omega)]
     cases hq:Lib.parseUint10 0 (c::r) with
     | ok u=>exact absurd hq (hp u)
     | range=>rfl
     | _=>rfl
theorem T5 {d:List UInt8} {i:Nat} (h:∀c∈d,Ao (c.toNat:Int)=true):0≤A0 0 (d.take i)∧A0 0 (d.take i)≤A0 0 d:=by
 have h1:∀c∈d.take i,Ao (c.toNat:Int)=true:=λc hc=>h c (List.mem_of_mem_take hc);have h2:∀c∈d.drop i,Ao (c.toNat:Int)=true:=λc hc=>h c (List.mem_of_mem_drop hc);have h0:=L1 (d.take i) 0 (by omega) h1;refine ⟨h0,?_⟩;have:=L1 (d.drop i) (A0 0 (d.take i)) h0 h2;have e:A0 0 (d.take i++d.drop i)=A0 (A0 0 (d.take i)) (d.drop i):=by simp only [A0,List.foldl_append]
 rw [List.take_append_drop] at e;rw [e];exact this
theorem QJ {z:Int}:∃q:Int,IntKind.i64.wrap z=z+18446744073709551616*q∧-9223372036854775808≤IntKind.i64.wrap z∧IntKind.i64.wrap z≤9223372036854775807:=by
 have e:IntKind.i64.wrap z=if 9223372036854775808≤z % 18446744073709551616 then z % 18446744073709551616 - 18446744073709551616 else z % 18446744073709551616:=by
  simp [IntKind.wrap,IntKind.bits,IntKind.signed]
 rw [e]
 split
 ·exact ⟨-(z / 18446744073709551616) - 1,by omega,by omega,by omega⟩
 ·exact ⟨-(z / 18446744073709551616),by omega,by omega,by omega⟩
theorem WU {z:Int}:(0≤z→z.tdiv 10=z / 10)∧(z≤0→z.tdiv 10=-((-z) / 10)):=by
 refine ⟨λh=>Int.tdiv_eq_ediv_of_nonneg h,λh=>?_⟩;have:z.tdiv 10=-((-z).tdiv 10):=by rw [Int.neg_tdiv,Int.neg_neg]
 rw [this,Int.tdiv_eq_ediv_of_nonneg (by omega)]
theorem Kx (m:Int) (h0:-9223372036854775808≤m) (h1:m≤0) (w:World):AB Tryz.prog 82 [.int .i64 m,.int .i64 10] w (λv w'=>(∃z,v=.tuple #[.int .i64 z,.bool (decide (-9223372036854775808≤m*10))]∧(-9223372036854775808≤m*10→z=m*10)∧-9223372036854775808≤z∧z≤9223372036854775807)∧Ae w w'):=by
 refine AJ Tryz.func82 Tryz.ntmps82 ?_;refine Sa ?_;by_cases a1:m=0
 ·refine LW.know (t:=9) (c:=true) rfl (decide_eq_true a1) ?_;refine Sa ?_;exact QW.body2 Tryz.results82 rfl rfl ⟨⟨0,by rw [decide_eq_true (by omega)],λ_=>by omega,by omega,by omega⟩,Chg.refl _ _⟩
 refine LW.know (t:=9) (c:=false) rfl (decide_eq_false a1) ?_;refine Sa ?_;obtain ⟨q,hq,a0,a3⟩:=QJ (z:=m*10);generalize hz:IntKind.i64.wrap (m*10)=z at hq a0 a3;refine LW.arith (op:=.mul) (r:=z) rfl rfl hz rfl rfl ?_;refine Sa ?_;have hd:=WU (z:=z);obtain ⟨y,hy,a5⟩:∃y,z.tdiv 10=y∧((0≤z→y=z / 10)∧(z≤0→y=-((-z) / 10))):=⟨_,rfl,hd⟩;refine LW.tquo (q:=10) (z:=y) rfl rfl (by decide) (by rw [hy,EN (by omega) (by omega)]) rfl ?_;refine Sa ?_;by_cases a2:-9223372036854775808≤m*10
 ·have a4:z=m*10:=by omega
  refine LW.know (t:=22) (c:=true) rfl (decide_eq_true (by omega)) ?_;refine Sa ?_;exact QW.body2 Tryz.results82 rfl rfl ⟨⟨z,by rw [decide_eq_true a2];rfl,λ_=>a4,a0,a3⟩,Chg.refl _ _⟩
 ·refine LW.know (t:=22) (c:=false) rfl (decide_eq_false (by omega)) ?_;refine Sa ?_;exact QW.body2 Tryz.results82 rfl rfl ⟨⟨z,by rw [decide_eq_false a2],λh=>absurd h a2,a0,a3⟩,Chg.refl _ _⟩
theorem MC (m k:Int) (h0:-9223372036854775808≤m) (h1:m≤9223372036854775807) (k0:-9≤k) (k1:k≤0) (w:World):AB Tryz.prog 83 [.int .i64 m,.int .i64 k] w (λv w'=>(∃z b,v=.tuple #[.int .i64 z,.bool b]∧(m≤0→b=decide (-9223372036854775808≤m+k)∧(-9223372036854775808≤m+k→z=m+k)))∧Ae w w'):=by
 refine AJ Tryz.func83 Tryz.ntmps83 ?_;refine Sa ?_;obtain ⟨q,hq,a0,a1⟩:=QJ (z:=m+k);generalize hz:IntKind.i64.wrap (m+k)=z at hq a0 a1;refine LW.arith (op:=.add) (r:=z) rfl rfl hz rfl rfl ?_;refine Sa ?_;refine QW.body2 Tryz.results83 rfl rfl ⟨⟨z,_,rfl,λhm=>⟨?_,λh=>by omega⟩⟩,Chg.refl _ _⟩;by_cases a2:-9223372036854775808≤m+k
 ·rw [decide_eq_true a2,decide_eq_true_eq];by_cases a3:k=0
  ·rw [decide_eq_true (show m≤z by omega),decide_eq_true (show 0≤k by omega)]
  ·rw [decide_eq_false (show ¬m≤z by omega),decide_eq_false (show ¬0≤k by omega)]
 ·rw [decide_eq_false a2,decide_eq_false_iff_not,decide_eq_true (show m≤z by omega),decide_eq_false (show ¬0≤k by omega)];simp
theorem M4 {s:List UInt8} (h:ET (BD s)=false):Ch s=none:=by
 rw [Ih,if_neg];rintro ⟨h1,_⟩;rw [h] at h1;cases h1
theorem M6 {s:List UInt8} (h:BD s=[]):Ch s=none:=by
 rw [Ih,if_neg];rintro ⟨_,h1,_⟩;exact h1 h
theorem Gx {s:List UInt8} {i:Nat} (h:9223372036854775808<A0 0 ((BD s).take i)):Ch s=none:=by
 rw [Ih,if_neg];rintro ⟨h1,_,h2,_⟩;have:=(T5 (i:=i) (Gm.1 h1)).2;omega
theorem Kl {d:List UInt8} {k:Nat} (h:k<d.length):A0 0 (d.take (k+1))=10*A0 0 (d.take k)+(Ab d k - 48):=by
 rw [List.take_add_one,List.getElem?_eq_getElem h,Option.toList_some,Fj,B5 h]
theorem JY {d:List UInt8} {k:Nat} (h:k<d.length):ET (d.take (k+1))=(ET (d.take k)&&Ao (Ab d k)):=by
 have e:d.take (k+1)=d.take k++[d[k]]:=by rw [List.take_add_one,List.getElem?_eq_getElem h];rfl
 rw [e,B5 h];simp only [ET,List.all_append,List.all_cons,List.all_nil,Bool.and_true]
def V3 (s:List UInt8):Int:=match Ch s with
 | some n=>n
 | none=>0
def JQ (s:List UInt8) (v:Value):Prop:=v=.tuple #[.int .i64 (V3 s),.bool (Ch s).isSome]
theorem AV {s:List UInt8} (h:Ch s=none):JQ s (.tuple #[.int .i64 0,.bool false]):=by
 unfold JQ V3;rw [h];rfl
theorem DR {s:List UInt8} {n:Int} (h:Ch s=some n):JQ s (.tuple #[.int .i64 n,.bool true]):=by
 unfold JQ V3;rw [h];rfl
set_option maxHeartbeats 2000000 in
theorem Um (s:List UInt8) (hs:s.length≤1000000) (w:World):AB Tryz.prog 58 [Aj s] w (λv w'=>JQ s v∧Ae w w'):=by
 obtain ⟨d,hd⟩:∃d,d=BD s:=⟨_,rfl⟩;have ae:d.length≤s.length:=by
  rw [hd,BD]
  split<;>simp
 refine AJ Tryz.func58 Tryz.ntmps58 ?_;refine Sa ?_;obtain ⟨ng,a5⟩:∃ng,ng=H6 s:=⟨_,rfl⟩;by_cases h0:s=[]
 ·refine LW.know (t:=15) (c:=false) rfl (by simp [h0]) ?_;have hn:H6 s=false:=by simp [H6,h0]
  have ed:s=d:=by rw [hd,BD,hn];rfl
  refine Sa ?_;refine CW.loop (ι:=Nat) (λk w'=>k≤d.length∧A0 0 (d.take k)≤9223372036854775808∧0≤A0 0 (d.take k)∧ET (d.take k)=true∧Ae w w') (λk=>[(4,.bool ng),(5,Aj d),(6,.int .i64 (-A0 0 (d.take k))),(7,.int .i64 (k:Int))]) (λk=>d.length - k) 0 ⟨by omega,by simp [A0],by simp [A0],rfl,Chg.refl _ _⟩ (Ad.cons (by rw [a5,hn];first | rfl | (show some (Value.bool (decide (Ab s 0=45)))=_;first | rw [decide_eq_true h1] | rw [decide_eq_false h1])) (Ad.cons (by rw [←ed];first | rfl | (rw [←ec];rfl)) (Ad.cons rfl (Ad.cons rfl Ad.nil)))) ?_;clear hn ed;rintro k w1 ⟨k0,k1,k2,k3,hx⟩;refine Sa ?_;refine Am (λb1=>?_) λb1=>?_;rotate_left
  ·have b1:k=d.length:=by simp at b1;omega
   rw [b1,List.take_length] at k1 k2 k3;rw [b1,List.take_length];refine Sa ?_;have a0:=Ih s;rw [←hd,←a5] at a0;by_cases e0:d=[]
   ·refine LW.know (t:=67) (c:=true) rfl (by simp [e0]) ?_;refine Sa ?_;exact QW.body2 Tryz.results58 rfl rfl ⟨AV (M6 (by rw [←hd];exact e0)),hx⟩
   have e1:0<d.length:=List.length_pos_iff.2 e0;refine LW.know (t:=67) (c:=false) rfl (decide_eq_false (by omega)) ?_
   cases ng with
   | true=>
    rw [if_pos ⟨k3,e0,k1,by simp⟩,if_pos rfl] at a0;refine Sa ?_
    exact QW.body2 Tryz.results58 rfl rfl ⟨DR a0,hx⟩
   | false=>
    refine Sa ?_;refine Am (λb7=>?_) λb7=>?_
    ·have b7:-A0 0 d=-9223372036854775808:=by simpa using b7
     rw [if_neg (λh=>h.2.2.2 rfl (by omega))] at a0;refine Sa ?_;exact QW.body2 Tryz.results58 rfl rfl ⟨AV a0,hx⟩
    have b7:¬-A0 0 d=-9223372036854775808:=by simpa using b7
    rw [if_pos ⟨k3,e0,k1,λ_=>by omega⟩,if_neg (by simp)] at a0;refine Sa ?_;refine LW.neg (z:=A0 0 d) rfl (by rw [EN (by omega) (by omega)];omega) rfl ?_;refine Sa ?_;exact QW.body2 Tryz.results58 rfl rfl ⟨DR a0,hx⟩
  have b1:k<d.length:=by simp at b1;omega
  have a6:=Kl b1;have ad:=C9 d k;have a4:=JY b1;have a2:Ao (Ab d k)=false→Ch s=none:=λh=>by
   refine M4 ?_;rw [←hd]
   cases hh:ET d with
   | false=>rfl
   | true=>
    have:=Gm.1 hh d[k] (List.getElem_mem b1);rw [←B5 b1,h] at this;cases this
  refine Sa ?_;by_cases b2:Ab d k<48
  ·refine LW.know (t:=34) (c:=true) rfl (decide_eq_true b2) ?_;refine Sa ?_;exact QW.body2 Tryz.results58 rfl rfl ⟨AV (a2 (by simp [Ao];omega)),hx⟩
  refine LW.know (t:=34) (c:=false) rfl (decide_eq_false b2) ?_;refine Sa ?_;refine Am (λb3=>?_) λb3=>?_
  ·have b3:57<Ab d k:=by simpa using b3
   refine Sa ?_;exact QW.body2 Tryz.results58 rfl rfl ⟨AV (a2 (by simp [Ao];omega)),hx⟩
  have b3:¬57<Ab d k:=by simpa using b3
  have a3:Ao (Ab d k)=true:=by simp [Ao];omega
  rw [k3,a3] at a4;refine Sa ?_;refine Ap rfl rfl (Kx (-A0 0 (d.take k)) (by omega) (by omega) w1) ?_;rintro v w2 ⟨⟨z,rfl,hz,a7,a8⟩,a9⟩;refine Sa ?_;refine LW.neg (z:=-(Ab d k - 48)) rfl (by show IntKind.i64.wrap (0 - (Ab d k - 48))=_;rw [EN (by omega) (by omega)];omega) rfl ?_;refine Sa ?_;refine Ap rfl rfl (MC z (-(Ab d k - 48)) a7 a8 (by omega) (by omega) w2) ?_;rintro v w3 ⟨⟨y,b,rfl,hy⟩,aa⟩;have a1:=(hx.trans a9).trans aa;refine Sa ?_;by_cases o1:-9223372036854775808≤-A0 0 (d.take k)*10;rotate_left
  ·refine LW.know (t:=58) (c:=true) rfl (by rw [decide_eq_false o1];rfl) ?_;refine Sa ?_;exact QW.body2 Tryz.results58 rfl rfl ⟨AV (Gx (i:=k+1) (by rw [←hd];omega)),a1⟩
  obtain rfl:=hz o1;obtain ⟨rfl,ab⟩:=hy (by omega);refine LW.know (t:=58) (c:=false) rfl (by rw [decide_eq_true o1];rfl) ?_;refine Sa ?_;refine Am (λb5=>?_) λb5=>?_
  ·have b5:¬-9223372036854775808≤-A0 0 (d.take k)*10+-(Ab d k - 48):=by simpa using b5
   refine Sa ?_;exact QW.body2 Tryz.results58 rfl rfl ⟨AV (Gx (i:=k+1) (by rw [←hd];omega)),a1⟩
  have b5:-9223372036854775808≤-A0 0 (d.take k)*10+-(Ab d k - 48):=by simpa using b5
  have ac:y=-A0 0 (d.take (k+1)):=by rw [ab b5,a6];omega
  refine Sa ?_;exact QW.again (k+1) ⟨by omega,by omega,by omega,a4,a1⟩ (by rw [←ac];exact (Ad.cons rfl (Ad.cons rfl (Ad.cons rfl (Ad.cons rfl (Ad.nil)))))) (by omega)
 have hl:0<s.length:=List.length_pos_iff.2 h0;refine LW.know (t:=15) (c:=true) rfl (decide_eq_true (by omega)) ?_;refine Sa ?_;by_cases h1:Ab s 0=45
 ·have hn:H6 s=true:=by simp [H6,h0,h1]
  have ec:cut s (1:Int).toNat ((s.length:Nat):Int).toNat=s.drop 1:=Eb s 1;have ed:s.drop 1=d:=by rw [hd,BD,hn];rfl
  refine CW.yes rfl (decide_eq_true h1) ?_;refine Sz ?_;refine CW.loop (ι:=Nat) (λk w'=>k≤d.length∧A0 0 (d.take k)≤9223372036854775808∧0≤A0 0 (d.take k)∧ET (d.take k)=true∧Ae w w') (λk=>[(4,.bool ng),(5,Aj d),(6,.int .i64 (-A0 0 (d.take k))),(7,.int .i64 (k:Int))]) (λk=>d.length - k) 0 ⟨by omega,by simp [A0],by simp [A0],rfl,Chg.refl _ _⟩ (Ad.cons (by rw [a5,hn];first | rfl | (show some (Value.bool (decide (Ab s 0=45)))=_;first | rw [decide_eq_true h1] | rw [decide_eq_false h1])) (Ad.cons (by rw [←ed];first | rfl | (rw [←ec];rfl)) (Ad.cons rfl (Ad.cons rfl Ad.nil)))) ?_;clear hn ed;rintro k w1 ⟨k0,k1,k2,k3,hx⟩;refine Sa ?_;refine Am (λb1=>?_) λb1=>?_;rotate_left
  ·have b1:k=d.length:=by simp at b1;omega
   rw [b1,List.take_length] at k1 k2 k3;rw [b1,List.take_length];refine Sa ?_;have a0:=Ih s;rw [←hd,←a5] at a0;by_cases e0:d=[]
   ·refine LW.know (t:=67) (c:=true) rfl (by simp [e0]) ?_;refine Sa ?_;exact QW.body2 Tryz.results58 rfl rfl ⟨AV (M6 (by rw [←hd];exact e0)),hx⟩
   have e1:0<d.length:=List.length_pos_iff.2 e0;refine LW.know (t:=67) (c:=false) rfl (decide_eq_false (by omega)) ?_
   cases ng with
   | true=>
    rw [if_pos ⟨k3,e0,k1,by simp⟩,if_pos rfl] at a0;refine Sa ?_
    exact QW.body2 Tryz.results58 rfl rfl ⟨DR a0,hx⟩
   | false=>
    refine Sa ?_;refine Am (λb7=>?_) λb7=>?_
    ·have b7:-A0 0 d=-9223372036854775808:=by simpa using b7
     rw [if_neg (λh=>h.2.2.2 rfl (by omega))] at a0;refine Sa ?_;exact QW.body2 Tryz.results58 rfl rfl ⟨AV a0,hx⟩
    have b7:¬-A0 0 d=-9223372036854775808:=by simpa using b7
    rw [if_pos ⟨k3,e0,k1,λ_=>by omega⟩,if_neg (by simp)] at a0;refine Sa ?_;refine LW.neg (z:=A0 0 d) rfl (by rw [EN (by omega) (by omega)];omega) rfl ?_;refine Sa ?_;exact QW.body2 Tryz.results58 rfl rfl ⟨DR a0,hx⟩
  have b1:k<d.length:=by simp at b1;omega
  have a6:=Kl b1;have ad:=C9 d k;have a4:=JY b1;have a2:Ao (Ab d k)=false→Ch s=none:=λh=>by
   refine M4 ?_;rw [←hd]
   cases hh:ET d with
   | false=>rfl
   | true=>
    have:=Gm.1 hh d[k] (List.getElem_mem b1);rw [←B5 b1,h] at this;cases this
  refine Sa ?_;by_cases b2:Ab d k<48
  ·refine LW.know (t:=34) (c:=true) rfl (decide_eq_true b2) ?_;refine Sa ?_;exact QW.body2 Tryz.results58 rfl rfl ⟨AV (a2 (by simp [Ao];omega)),hx⟩
  refine LW.know (t:=34) (c:=false) rfl (decide_eq_false b2) ?_;refine Sa ?_;refine Am (λb3=>?_) λb3=>?_
  ·have b3:57<Ab d k:=by simpa using b3
   refine Sa ?_;exact QW.body2 Tryz.results58 rfl rfl ⟨AV (a2 (by simp [Ao];omega)),hx⟩
  have b3:¬57<Ab d k:=by simpa using b3
  have a3:Ao (Ab d k)=true:=by simp [Ao];omega
  rw [k3,a3] at a4;refine Sa ?_;refine Ap rfl rfl (Kx (-A0 0 (d.take k)) (by omega) (by omega) w1) ?_;rintro v w2 ⟨⟨z,rfl,hz,a7,a8⟩,a9⟩;refine Sa ?_;refine LW.neg (z:=-(Ab d k - 48)) rfl (by show IntKind.i64.wrap (0 - (Ab d k - 48))=_;rw [EN (by omega) (by omega)];omega) rfl ?_;refine Sa ?_;refine Ap rfl rfl (MC z (-(Ab d k - 48)) a7 a8 (by omega) (by omega) w2) ?_;rintro v w3 ⟨⟨y,b,rfl,hy⟩,aa⟩;have a1:=(hx.trans a9).trans aa;refine Sa ?_;by_cases o1:-9223372036854775808≤-A0 0 (d.take k)*10;rotate_left
  ·refine LW.know (t:=58) (c:=true) rfl (by rw [decide_eq_false o1];rfl) ?_;refine Sa ?_;exact QW.body2 Tryz.results58 rfl rfl ⟨AV (Gx (i:=k+1) (by rw [←hd];omega)),a1⟩
  obtain rfl:=hz o1;obtain ⟨rfl,ab⟩:=hy (by omega);refine LW.know (t:=58) (c:=false) rfl (by rw [decide_eq_true o1];rfl) ?_;refine Sa ?_;refine Am (λb5=>?_) λb5=>?_
  ·have b5:¬-9223372036854775808≤-A0 0 (d.take k)*10+-(Ab d k - 48):=by simpa using b5
   refine Sa ?_;exact QW.body2 Tryz.results58 rfl rfl ⟨AV (Gx (i:=k+1) (by rw [←hd];omega)),a1⟩
  have b5:-9223372036854775808≤-A0 0 (d.take k)*10+-(Ab d k - 48):=by simpa using b5
  have ac:y=-A0 0 (d.take (k+1)):=by rw [ab b5,a6];omega
  refine Sa ?_;exact QW.again (k+1) ⟨by omega,by omega,by omega,a4,a1⟩ (by rw [←ac];exact (Ad.cons rfl (Ad.cons rfl (Ad.cons rfl (Ad.cons rfl (Ad.nil)))))) (by omega)
 ·have hn:H6 s=false:=by simp [H6,h1]
  have ed:s=d:=by rw [hd,BD,hn];rfl
  refine CW.no rfl (decide_eq_false h1) ?_;refine Sa ?_;refine CW.loop (ι:=Nat) (λk w'=>k≤d.length∧A0 0 (d.take k)≤9223372036854775808∧0≤A0 0 (d.take k)∧ET (d.take k)=true∧Ae w w') (λk=>[(4,.bool ng),(5,Aj d),(6,.int .i64 (-A0 0 (d.take k))),(7,.int .i64 (k:Int))]) (λk=>d.length - k) 0 ⟨by omega,by simp [A0],by simp [A0],rfl,Chg.refl _ _⟩ (Ad.cons (by rw [a5,hn];first | rfl | (show some (Value.bool (decide (Ab s 0=45)))=_;first | rw [decide_eq_true h1] | rw [decide_eq_false h1])) (Ad.cons (by rw [←ed];first | rfl | (rw [←ec];rfl)) (Ad.cons rfl (Ad.cons rfl Ad.nil)))) ?_;clear hn ed;rintro k w1 ⟨k0,k1,k2,k3,hx⟩;refine Sa ?_;refine Am (λb1=>?_) λb1=>?_;rotate_left
  ·have b1:k=d.length:=by simp at b1;omega
   rw [b1,List.take_length] at k1 k2 k3;rw [b1,List.take_length];refine Sa ?_;have a0:=Ih s;rw [←hd,←a5] at a0;by_cases e0:d=[]
   ·refine LW.know (t:=67) (c:=true) rfl (by simp [e0]) ?_;refine Sa ?_;exact QW.body2 Tryz.results58 rfl rfl ⟨AV (M6 (by rw [←hd];exact e0)),hx⟩
   have e1:0<d.length:=List.length_pos_iff.2 e0;refine LW.know (t:=67) (c:=false) rfl (decide_eq_false (by omega)) ?_
   cases ng with
   | true=>
    rw [if_pos ⟨k3,e0,k1,by simp⟩,if_pos rfl] at a0;refine Sa ?_
    exact QW.body2 Tryz.results58 rfl rfl ⟨DR a0,hx⟩
   | false=>
    refine Sa ?_;refine Am (λb7=>?_) λb7=>?_
    ·have b7:-A0 0 d=-9223372036854775808:=by simpa using b7
     rw [if_neg (λh=>h.2.2.2 rfl (by omega))] at a0;refine Sa ?_;exact QW.body2 Tryz.results58 rfl rfl ⟨AV a0,hx⟩
    have b7:¬-A0 0 d=-9223372036854775808:=by simpa using b7
    rw [if_pos ⟨k3,e0,k1,λ_=>by omega⟩,if_neg (by simp)] at a0;refine Sa ?_;refine LW.neg (z:=A0 0 d) rfl (by rw [EN (by omega) (by omega)];omega) rfl ?_;refine Sa ?_;exact QW.body2 Tryz.results58 rfl rfl ⟨DR a0,hx⟩
  have b1:k<d.length:=by simp at b1;omega
  have a6:=Kl b1;have ad:=C9 d k;have a4:=JY b1;have a2:Ao (Ab d k)=false→Ch s=none:=λh=>by
   refine M4 ?_;rw [←hd]
   cases hh:ET d with
   | false=>rfl
   | true=>
    have:=Gm.1 hh d[k] (List.getElem_mem b1);rw [←B5 b1,h] at this;cases this
  refine Sa ?_;by_cases b2:Ab d k<48
  ·refine LW.know (t:=34) (c:=true) rfl (decide_eq_true b2) ?_;refine Sa ?_;exact QW.body2 Tryz.results58 rfl rfl ⟨AV (a2 (by simp [Ao];omega)),hx⟩
  refine LW.know (t:=34) (c:=false) rfl (decide_eq_false b2) ?_;refine Sa ?_;refine Am (λb3=>?_) λb3=>?_
  ·have b3:57<Ab d k:=by simpa using b3
   refine Sa ?_;exact QW.body2 Tryz.results58 rfl rfl ⟨AV (a2 (by simp [Ao];omega)),hx⟩
  have b3:¬57<Ab d k:=by simpa using b3
  have a3:Ao (Ab d k)=true:=by simp [Ao];omega
  rw [k3,a3] at a4;refine Sa ?_;refine Ap rfl rfl (Kx (-A0 0 (d.take k)) (by omega) (by omega) w1) ?_;rintro v w2 ⟨⟨z,rfl,hz,a7,a8⟩,a9⟩;refine Sa ?_;refine LW.neg (z:=-(Ab d k - 48)) rfl (by show IntKind.i64.wrap (0 - (Ab d k - 48))=_;rw [EN (by omega) (by omega)];omega) rfl ?_;refine Sa ?_;refine Ap rfl rfl (MC z (-(Ab d k - 48)) a7 a8 (by omega) (by omega) w2) ?_;rintro v w3 ⟨⟨y,b,rfl,hy⟩,aa⟩;have a1:=(hx.trans a9).trans aa;refine Sa ?_;by_cases o1:-9223372036854775808≤-A0 0 (d.take k)*10;rotate_left
  ·refine LW.know (t:=58) (c:=true) rfl (by rw [decide_eq_false o1];rfl) ?_;refine Sa ?_;exact QW.body2 Tryz.results58 rfl rfl ⟨AV (Gx (i:=k+1) (by rw [←hd];omega)),a1⟩
  obtain rfl:=hz o1;obtain ⟨rfl,ab⟩:=hy (by omega);refine LW.know (t:=58) (c:=false) rfl (by rw [decide_eq_true o1];rfl) ?_;refine Sa ?_;refine Am (λb5=>?_) λb5=>?_
  ·have b5:¬-9223372036854775808≤-A0 0 (d.take k)*10+-(Ab d k - 48):=by simpa using b5
   refine Sa ?_;exact QW.body2 Tryz.results58 rfl rfl ⟨AV (Gx (i:=k+1) (by rw [←hd];omega)),a1⟩
  have b5:-9223372036854775808≤-A0 0 (d.take k)*10+-(Ab d k - 48):=by simpa using b5
  have ac:y=-A0 0 (d.take (k+1)):=by rw [ab b5,a6];omega
  refine Sa ?_;exact QW.again (k+1) ⟨by omega,by omega,by omega,a4,a1⟩ (by rw [←ac];exact (Ad.cons rfl (Ad.cons rfl (Ad.cons rfl (Ad.cons rfl (Ad.nil)))))) (by omega)
theorem Ul {s:List UInt8} {n:Int} (h:Ch s=some n):V3 s=n:=by
 unfold V3;rw [h]
set_option maxHeartbeats 1000000 in
theorem J9 (s:List UInt8) (hs:s.length≤9223372036854775807) (w:World):AB Tryz.prog 41 [Aj s] w (λv w'=>v=.bool (CZ s)∧Ae w w'):=by
 refine AJ Tryz.func41 Tryz.ntmps41 ?_;refine Sa ?_;refine Am (λh1=>?_) λh1=>?_
 ·have h1:300<s.length:=by simp at h1;omega
  refine Sa ?_;exact QW.body1 Tryz.results41 rfl ⟨by rw [CZ,if_pos h1],Chg.refl _ _⟩
 have h1:s.length≤300:=by simp at h1;omega
 have n1:¬300<s.length:=by omega
 refine Sa ?_;by_cases h2:s=[]
 ·refine LW.know (t:=11) (c:=true) rfl (by simp [h2]) ?_;refine Sa ?_;exact QW.body1 Tryz.results41 rfl ⟨by rw [CZ,if_neg n1,if_pos (.inl h2)],Chg.refl _ _⟩
 have hl:0<s.length:=List.length_pos_iff.2 h2;refine LW.know (t:=11) (c:=false) rfl (by simp [h2]) ?_;refine Sa ?_;refine Am (λh3=>?_) λh3=>?_
 ·have h3:Ab s 0=39:=by simpa using h3
  refine Sa ?_;exact QW.body1 Tryz.results41 rfl ⟨by rw [CZ,if_neg n1,if_pos (.inr h3)],Chg.refl _ _⟩
 have h3:Ab s 0≠39:=by simpa using h3
 have n3:¬(s=[]∨Ab s 0=39):=by simp [h2,h3]
 refine Sa ?_;refine Am (λh4=>?_) λh4=>?_
 ·have h4:Ab s 0=61:=by simpa using h4
  have ec:cut s (1:Int).toNat ((s.length:Nat):Int).toNat=s.drop 1:=Eb s 1;have ab:(s.drop 1).length≤300:=by simp;omega
  refine Sz ?_;refine Ap rfl rfl (Nu (cut s (1:Int).toNat ((s.length:Nat):Int).toNat) (by rw [ec];omega) w) ?_;rw [ec];rintro v w1 ⟨⟨hv,he⟩,a3⟩
  cases a0:AL (s.drop 1) with
  | error e=>
   rw [a0] at hv;obtain rfl:=hv;have a7:=he e a0;refine Sa ?_;refine BQ λA w2 a8 a1 hA=>?_;refine Sa ?_;refine AP λw3 a4 hA=>?_;have a5:=(a3.trans a1).step a4 (by have:=a3.size;simp;omega);refine Sa ?_;refine LW.know (t:=25) (c:=false) rfl (decide_eq_false a7) ?_;refine Sa ?_
   exact QW.body1 Tryz.results41 rfl ⟨by rw [CZ,if_neg n1,if_neg n3,if_pos h4,a0],a5⟩
  | ok l=>
   rw [a0] at hv;obtain ⟨sv,rfl,hN⟩:=hv;obtain ⟨_,f1,f2,f3,f4⟩:=DO a0;have a6:BM w1 sv l:=hN.row (by omega) (λn hm=>by have:=f4 n hm;omega);obtain ⟨p,c,rfl⟩:=a6.slice;have a9:Ww (s.drop 1) l 0:=.inl ⟨a0,rfl⟩;refine Sa ?_;refine BQ λA w2 a8 a1 hA=>?_;have ac:=a3.size;refine Sa ?_;refine AP λw3 a4 hA=>?_;have a2:Ae w1 w3:=a1.step a4 (by simp;omega);have a5:=a3.trans a2;refine Sa ?_;refine Ap rfl rfl (MI l _ w3 (a6.ext a2) f2 (λn hn=>by have:=f4 n hn;omega) a9.num) ?_;rintro v w4 ⟨rfl,aa⟩;have ad:=(HB a0).2.1;refine Sa ?_;refine QW.body1 Tryz.results41 rfl ⟨?_,a5.trans aa⟩;rw [CZ,if_neg n1,if_neg n3,if_pos h4,a0];simp only;have es:s=61::s.drop 1:=by
    cases s with
    | nil=>exact absurd rfl h2
    | cons c r=>
     have:Ab (c::r) 0=(c.toNat:Int):=rfl;rw [this] at h4;have hc:c=61:=by
      apply UInt8.toNat_inj.1;simp;omega
     rw [hc];rfl
   congr 1
   by_cases hq:BN l=s.drop 1
   ·rw [decide_eq_true hq,decide_eq_true];rw [hq];exact es.symm
   ·rw [decide_eq_false hq,decide_eq_false];intro hh;rw [es] at hh;simp at hh;exact hq (by simpa using hh)
 have h4:Ab s 0≠61:=by simpa using h4
 refine Sa ?_;refine Ap rfl rfl (Um s (by omega) w) ?_;rintro v w1 ⟨hv,hx⟩;unfold JQ at hv;subst hv
 cases hn:Ch s with
 | some n=>
  obtain ⟨b0,b1⟩:=M5 hn;rw [Ul hn];refine Sa ?_;refine Ap rfl rfl (QN n b0 b1 w1) ?_;rintro v w2 ⟨rfl,a1⟩;refine Sa ?_
  exact QW.body1 Tryz.results41 rfl ⟨by rw [CZ,if_neg n1,if_neg n3,if_neg h4,hn],hx.trans a1⟩
 | none=>
  refine Sa ?_;exact QW.body1 Tryz.results41 rfl ⟨by rw [CZ,if_neg n1,if_neg n3,if_neg h4,hn],hx⟩
theorem OH (s:List UInt8) (hs:s.length≤9223372036854775807) (w:World):AB Tryz.prog 72 [Aj s] w (λv w'=>Ws s v w'∧Ae w w'):=by
 refine AJ Tryz.func72 Tryz.ntmps72 ?_;refine Sa ?_;by_cases h2:s=[]
 ·refine LW.know (t:=6) (c:=true) rfl (by simp [h2]) ?_;refine Sa ?_;exact QW.body2 Tryz.results72 rfl rfl ⟨.inr ⟨rfl,.inl h2⟩,Chg.refl _ _⟩
 have hl:0<s.length:=List.length_pos_iff.2 h2;refine LW.know (t:=6) (c:=false) rfl (by simp [h2]) ?_;refine Sa ?_;by_cases h3:Ab s 0=61;rotate_left
 ·refine LW.know (t:=11) (c:=true) rfl (by simp [h3]) ?_;refine Sa ?_;exact QW.body2 Tryz.results72 rfl rfl ⟨.inr ⟨rfl,.inr (.inl h3)⟩,Chg.refl _ _⟩
 refine LW.know (t:=11) (c:=false) rfl (by simp [h3]) ?_;refine Sa ?_;refine Ap rfl rfl (J9 s hs w) ?_;rintro v w1 ⟨rfl,hx⟩;refine Sa ?_;refine Am (λh4=>?_) λh4=>?_
 ·have h4:CZ s=false:=by simpa using h4
  refine Sa ?_;exact QW.body2 Tryz.results72 rfl rfl ⟨.inr ⟨rfl,.inr (.inr h4)⟩,hx⟩
 have h4:CZ s=true:=by simpa using h4
 have ec:cut s (1:Int).toNat ((s.length:Nat):Int).toNat=s.drop 1:=Eb s 1;have a3:(s.drop 1).length≤s.length:=by simp
 refine Sz ?_;refine Ap rfl rfl (Nu (cut s (1:Int).toNat ((s.length:Nat):Int).toNat) (by rw [ec];omega) w1) ?_;rw [ec];rintro v w2 ⟨⟨hv,he⟩,a1⟩
 cases a0:AL (s.drop 1) with
 | error e=>
  exfalso;have:CZ s=false:=by
   unfold CZ
   split
   ·rfl
   ·rw [if_neg (by rintro (hh | hh);exact h2 hh;omega)];rw [a0]
  rw [this] at h4
  cases h4
 | ok l=>
  rw [a0] at hv;obtain ⟨sv,rfl,hN⟩:=hv;obtain ⟨_,f1,f2,f3,f4⟩:=DO a0;have a2:BM w2 sv l:=hN.row (by omega) (λn hm=>by have:=f4 n hm;omega);refine Sa ?_;refine LW.field1 (v:=sv) rfl rfl rfl rfl rfl rfl rfl rfl ?_;refine Sa ?_;exact QW.body2 Tryz.results72 rfl rfl ⟨.inl ⟨l,sv,rfl,h3,h2,h4,a0,a2⟩,hx.trans a1⟩
end Go.Proofs.YtefaigjfkddelaaGreatDoor
