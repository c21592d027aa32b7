/-
  Joined by program out of the texts LexM LexN InS ParL1 ParL2 Tree.
-/
import Derived.Test.YtcjjcnecopnpcaaGreatDoorMyA
import Derived.Test.YtcjjcnecopnpcaaGreatDoorTab
import Derived.Test.YtcjjcnecopnpcaaGreatDoorMyE
import Derived.DataElems
namespace Go.Proofs.YtcjjcnecopnpcaaGreatDoor
open Tryz
open Go Go.E
def RT(i:Nat)(w:World)(o:Option (As×Nat))(v:Value)(w':World):Prop:=
 (match o with
  | none=>∃t,v=.tuple #[.agg ⟨Bj t⟩,.int .i64 0]
  | some (t,k)=>v=.tuple #[.agg ⟨Bj {t with at_:=(i:Int)}⟩,.int .i64 ((k:Nat):Int)])∧Ah w w'
theorem WX{s:List UInt8}{k:Nat}(h:k<s.length):s.take (k+1)=s.take k++[ch (Ab s k)]:=by
 rw[JZ h]
 congr 2
 rw[B2 h,ch];simp
theorem L5(acc:Int)(l:List UInt8){z:Int}(h0:0≤z)(h1:z≤255):A1 acc (l++[ch z])=10*A1 acc l+(z - 48):=by
 rw[FL,FV h0 h1]
theorem Ep{s:List UInt8}{i k:Nat}(hi:i≤k)(h:k<s.length):(s.take (k+1)).drop i=(s.take k).drop i++[ch (Ab s k)]:=by
 rw[WX h,Ad6 Aee]
theorem Fy:∀(l:List UInt8) (acc:Int),0≤acc→(∀c∈l,48≤c.toNat)→A1 acc l=0→acc=0∧∀c∈l,c.toNat=48
 | [],acc,_,_,h=>⟨h,by simp⟩
 | c::r,acc,ha,hd,h=>by
  have hc:=hd c Aej;obtain⟨e,hr⟩:=Fy r (10*acc+((c.toNat:Int) - 48)) Aeb (λx hx=>hd x Afx) h;exact⟨by omega,λx hx=>by
   simp only[Ab0] at hx;rcases hx with rfl | hx
   ·omega
   ·exact hr x hx⟩
theorem E2(s:List UInt8)(i:Nat):(s.take i).drop i=[]:=Acm Aee
theorem Fm(p:Int→Bool):∀(a b:List UInt8),(∀c∈a,p (c.toNat:Int)=true)→Ak p (a++b)=a++Ak p b
 | [],_,_=>rfl
 | c::a,b,h=>by
  have hc:=h c Aej;have ih:=Fm p a b (λd hd=>h d (by simp[hd]));simp only[Ak] at ih ⊢;simp[hc,ih]
theorem Sb{s:List UInt8}{i k:Nat}(hi:i≤k)(hk:k<s.length)(hall:∀j,i≤j→j≤k→Ar (Ab s j)=true)
  (h:9223372036854775807<A1 0 ((s.take (k+1)).drop i)∨(i<k∧A1 0 ((s.take k).drop i)=0)):L4 (s.drop i)=none:=by
 have hD:(s.take (k+1)).drop i <+: Ak Ar (s.drop i):=by
  rw[show(s.take (k+1)).drop i=(s.drop i).take (k+1 - i) by rw[AdY]];have e1:∀c∈(s.drop i).take (k+1 - i),Ar (c.toNat:Int)=true:=by
   intro c hc;obtain⟨j,hj,rfl⟩:=AcP.1 hc;simp only[Acj,AcI] at hj;have:=hall (i+j) Aeb Aeb;rw[B2 Aeb] at this
   simpa using this
  have e2:=Fm Ar _ ((s.drop i).drop (k+1 - i)) e1;rw[Ad0] at e2;rw[e2];exact List.prefix_append _ _
 obtain⟨r,hr⟩:=hD;have a2:Ak Ar (s.drop i)≠[]:=by
  rw[←hr,Ep hi hk];simp
 have a0:=Hn Ar (s.drop i);have a1:∀c∈Ak Ar (s.drop i),48≤c.toNat:=λc hc=>by
  have:=a0 c hc;simp[Ar] at this;omega
 rw[K1 a2,if_neg];rintro⟨h1,h2⟩;rcases h with h | ⟨a3,h⟩
 ·rw[←hr] at h1;have e:A1 0 ((s.take (k+1)).drop i++r)=A1 (A1 0 ((s.take (k+1)).drop i)) r:=by simp[A1]
  have:=Jj r (A1 0 ((s.take (k+1)).drop i)) Aeb (λc hc=>a1 c (by rw[←hr];simp[hc]));omega
 ·have e:Ak Ar (s.drop i)=(s.take k).drop i++([ch (Ab s k)]++r):=by rw[←hr,Ep hi hk,Abn]
  have hz:=(Fy ((s.take k).drop i) 0 Aeb (λc hc=>a1 c (by rw[e];simp[hc])) h).2;have hl:((s.take k).drop i).length=k - i:=Aee
  have hb:Ab (Ak Ar (s.drop i)) 0=48:=by
   rw[e,B4 Aeb];obtain⟨c,hm,hc⟩:=DO (l:=(s.take k).drop i) (j:=0) Aeb;rw[hc,hz c hm];rfl
  rcases h2 with h2 | h2
  ·exact h2 hb
  ·rw[e] at h2;simp at h2;omega
theorem RZ{s:List UInt8}{i k:Nat}(hi:i<k)(hk:k≤s.length)(hall:∀j,i≤j→j<k→Ar (Ab s j)=true)(hend:k=s.length∨Ar (Ab s k)=false)
  (h1:A1 0 ((s.take k).drop i)≤9223372036854775807) (h2:i+1<k→A1 0 ((s.take (i+1)).drop i)≠0):L4 (s.drop i)=some (⟨1,[],A1 0 ((s.take k).drop i),A4,0⟩,k - i):=by
 obtain⟨e1,e2⟩:=Ho Ar s i k Aeb hk hall hend;have a0:Ak Ar (s.drop i)≠[]:=by
  intro hn;rw[hn] at e2;simp at e2;omega
 rw[K1 a0,←e1,if_pos]
 ·congr 2
  simp;omega
 ·refine⟨h1,?_⟩;by_cases hl:i+1<k
  ·refine .inl λhb=>h2 hl ?_;rw[Ep (Ab2 i) Aeb];have:=E2 s i;rw[this,AbN];rw[e1,(IH (p:=Ar) (l:=s.drop i) Aee (by rw[Dz];exact hall i Aeb Aeb)).2,Dz] at hb;have hb:Ab s i=48:=hb;rw[hb];rfl
  ·right
   simp;omega
theorem S6(s:List UInt8)(hs:s.length≤1000)(i:Nat)(hi:i<s.length)(hd:Ar (Ab s i)=true)(w:World) :
  A9 prog 223 [Aq s,.int .i64 i] w (RT i w (L4 (s.drop i))):=by
 refine AG func223 ntmps223 ?_;refine Sa ?_;refine B1 λC w1 ab hx hC=>?_;refine Sa ?_;refine CW.loop (ι:=Nat) (λk w'=>i≤k∧k≤s.length∧Ah w w'∧Blk w' C (Bj ⟨0,[],0,A4,0⟩) 203∧(∀j,i≤j→j<k→Ar (Ab s j)=true)∧0≤A1 0 ((s.take k).drop i)∧A1 0 ((s.take k).drop i)≤9223372036854775807∧(i+1<k→A1 0 ((s.take (i+1)).drop i)≠0)) (λk=>[(0,Aq s),(1,.int .i64 i),(4,.pointer (some ⟨C,0,none⟩)),(6,.int .i64 (A1 0 ((s.take k).drop i))),(7,.int .i64 k)]) (λk=>s.length - k) i
  ⟨by omega,by omega,hx,hC,by omega,?_,?_,by omega⟩ ?_ ?_
 ·have:=E2 s i;rw[this];exact AcV _
 ·have:=E2 s i;rw[this];decide
 ·have:=E2 s i;simp only[this];exact CT
 clear hC;rintro k w2 ⟨a5,hk,a0,hC,a3,ac,a7,a2⟩;refine Sa ?_;refine B8 (λh1=>?_) λh1=>?_
 ·have h1:k<s.length:=by simpa using h1
  refine Sa ?_;refine Ap rfl rfl (EQ _ _) ?_;rintro v w3 ⟨rfl,a8⟩;replace hC:=hC.ext a8;replace a0:=a0.trans a8;refine Sa ?_;refine Av (λh2=>?_) λh2=>?_
  ·have h2:Ar (Ab s k)=true:=h2;have a1:∀j,i≤j→j≤k→Ar (Ab s j)=true:=λj hj a9=>by
    by_cases e:j=k
    ·subst e;exact h2
    ·exact a3 j hj Aeb
   have ad:48≤Ab s k∧Ab s k≤57:=by
    have:=h2;simp[Ar] at this;omega
   have aa:A1 0 ((s.take (k+1)).drop i)=10*A1 0 ((s.take k).drop i)+(Ab s k - 48):=by
    rw[Ep a5 h1,L5 _ _ Aeb Aeb]
   refine Sa ?_;refine B8 (λh3=>?_) λh3=>?_
   ·have h3:(9223372036854775807 - (Ab s k - 48)) / 10<A1 0 ((s.take k).drop i):=by simpa using h3
    refine Sa ?_;refine Sa ?_;refine AF λw8 a4 hC=>?_;replace hC:Blk w8 C (Bj ⟨0,[],0,A4,0⟩) 203:=hC;replace a0:=a0.step a4 Aee;refine Sa ?_;refine QW.body_ct rfl rfl hC rfl rfl rfl rfl ⟨?_,a0⟩;rw[Sb a5 h1 a1 (.inl Aeb)];exact⟨_,rfl⟩
   ·have h3:A1 0 ((s.take k).drop i)≤(9223372036854775807 - (Ab s k - 48)) / 10:=by simpa using h3
    refine Sa ?_;refine B8 (λh4=>?_) λh4=>?_
    ·have h4:i<k:=by simp at h4;omega
     refine Sa ?_;refine Av (λh5=>?_) λh5=>?_
     ·have h5:A1 0 ((s.take k).drop i)=0:=by simpa using h5
      refine Sa ?_;refine AF λw8 a4 hC=>?_;replace hC:Blk w8 C (Bj ⟨0,[],0,A4,0⟩) 203:=hC;replace a0:=a0.step a4 Aee;refine Sa ?_;refine QW.body_ct rfl rfl hC rfl rfl rfl rfl ⟨?_,a0⟩;rw[Sb a5 h1 a1 (.inr ⟨h4,h5⟩)];exact⟨_,rfl⟩
     ·have h5:A1 0 ((s.take k).drop i)≠0:=by simpa using h5
      refine Sa ?_;refine QW.again (k+1) ⟨by omega,by omega,a0,hC,λj hj a9=>a1 j hj Aeb,by omega,by omega,?_⟩ (by rw[aa];exact(An.cons rfl (An.cons rfl (An.cons rfl (An.cons rfl (An.cons rfl (An.nil))))))) Aeb;intro hl;by_cases e:i+1=k
      ·rw[e];exact h5
      ·exact a2 Aeb
    ·have h4:i=k:=by simp at h4;omega
     refine Sa ?_;refine QW.again (k+1) ⟨by omega,by omega,a0,hC,λj hj a9=>a1 j hj Aeb,by omega,by omega,?_⟩ (by rw[aa];exact(An.cons rfl (An.cons rfl (An.cons rfl (An.cons rfl (An.cons rfl (An.nil))))))) Aeb;omega
  ·have h2:Ar (Ab s k)=false:=h2;refine Sa ?_;refine AF λw8 a4 hC=>?_;replace hC:Blk w8 C (Bj ⟨1,[],A1 0 ((s.take k).drop i),A4,i⟩) 203:=hC;replace a0:=a0.step a4 Aee;refine Sa ?_;refine QW.body_ct rfl rfl hC rfl rfl rfl rfl ⟨?_,a0⟩;have a6:i<k:=by
    by_cases e:i=k
    ·subst e
     first
     | (rw[hd] at h2;cases h2)
     | omega
    ·omega
   rw[RZ a6 hk a3 ?_ a7 a2]
   ·have e:((k - i:Nat):Int)=(k:Int) - i:=Aeb
    show _=Value.tuple #[_,.int .i64 ((k - i:Nat):Int)];rw[e]
   ·exact .inr h2
 ·have h1:k=s.length:=by simp at h1;omega
  refine Sa ?_;refine AF λw8 a4 hC=>?_;replace hC:Blk w8 C (Bj ⟨1,[],A1 0 ((s.take k).drop i),A4,i⟩) 203:=hC;replace a0:=a0.step a4 Aee;refine Sa ?_;refine QW.body_ct rfl rfl hC rfl rfl rfl rfl ⟨?_,a0⟩;have a6:i<k:=by
   by_cases e:i=k
   ·subst e
    first
    | (rw[hd] at h2;cases h2)
    | omega
   ·omega
  rw[RZ a6 hk a3 ?_ a7 a2]
  ·have e:((k - i:Nat):Int)=(k:Int) - i:=Aeb
   show _=Value.tuple #[_,.int .i64 ((k - i:Nat):Int)];rw[e]
  ·exact .inl h1
theorem SD(s:List UInt8)(hs:s.length≤1000)(a:Nat)(ha:a<s.length)(w:World) :
  A9 prog 224 [Aq s,.int .i64 a] w (RT a w (E3 (s.drop a))):=by
 refine AG func224 ntmps224 ?_;refine Sa ?_;refine B1 λC w1 ac hx hC=>?_;have a7:C<w1.heap.size:=hC.lt;refine Sa ?_;refine CW.loop (ι:=Nat×List UInt8×Value) (λk w'=>k.1≤s.length∧k.2.1.length≤k.1∧Ah w1 w'∧Own w' w1.heap.size 5 1 k.2.2 k.2.1.length (AH k.2.1)∧EE s (a+1) k.1 k.2.1) (λk=>[(0,Aq s),(1,.int .i64 a),(4,.pointer (some ⟨C,0,none⟩)),(6,k.2.2),(7,.int .i64 k.1)]) (λk=>s.length - k.1) (a+1,[],.slice none 0 0) ⟨by simp;omega,by simp,Chg.refl _ _,Own.nil _ _ _ _,EE.start _ _⟩ CT ?_;rintro⟨i,out,v⟩ w2 ⟨hi,ho,a0,a1,a3⟩;simp only at hi ho a1 a3;show CW _ _ _ _ _ [(0,Aq s),(1,.int .i64 a),(4,.pointer (some ⟨C,0,none⟩)),(6,v),(7,.int .i64 i)] _;have ad:=a3.1;have ae:C∉Ae v:=a1.old a7;replace hC:=hC.ext a0;have af:=a0.size;refine Sa ?_;refine Av (λh1=>?_) λh1=>?_
 ·have h1:i<s.length:=by simp at h1;omega
  have a8:=CQ s i;refine Sa ?_;refine Av (λh5=>?_) λh5=>?_
  ·have h5:Ab s i<32:=by simpa using h5
   refine Sa ?_;refine AF λw8 a4 hC=>?_;replace hC:Blk w8 C (Bj ⟨0,[],0,A4,0⟩) 203:=hC;replace a0:=(hx.trans a0).step a4 Aee;refine Sa ?_;refine QW.body_ct rfl rfl hC rfl rfl rfl rfl ⟨?_,a0⟩;have e:=a3.2;rw[SP (i:=i) Aeb h5] at e;simp only[E3,Ace];rw[e];exact⟨_,rfl⟩
  have h5:¬Ab s i<32:=by simpa using h5
  refine Sa ?_;refine Av (λh2=>?_) λh2=>?_
  ·have h2:Ab s i≠34:=by simpa using h2
   refine Sa ?_;refine Sa ?_;refine CR λA w3 a9 a5 hA=>?_;replace a1:=a1.ext a5;replace a0:=a0.trans a5;have aa:=a0.size;refine Sa ?_;refine LW.append rfl rfl rfl rfl rfl rfl a1 Aeb hA rfl rfl rfl Aet rfl ?_;intro v' w4 a6 a2 ab;replace a0:=a0.step a6 (λk hk=>(a1.lt hk).1);refine Sa ?_;refine QW.again (i+1,out++[ch (Ab s i)],v') ⟨by show i+1≤_;omega,by show(out++_).length≤i+1;simp;omega,a0,Ff a8.1 Aeb a2,EE.go a3 Aeb ?_⟩ CT AeG;rw[Vk h1 h2 h5,show i+1 - i=1 by omega]
  have h2:Ab s i=34:=by simpa using h2
  refine Sa ?_;refine B8 (λh3=>?_) λh3=>?_
  ·have h3:¬i+1<s.length:=by simp at h3;omega
   have h4:i+1<s.length→Ab s (i+1)≠34:=λh=>absurd h h3;refine Sa ?_;refine LW.string_own rfl a1 rfl rfl rfl rfl rfl rfl rfl ?_;refine Sa ?_;refine AF λw8 a4 hC=>?_;replace hC:Blk w8 C (Bj ⟨2,out,0,A4,a⟩) 203:=hC;replace a0:=(hx.trans a0).step a4 Aee;refine Sa ?_;refine QW.body_ct rfl rfl hC rfl rfl rfl rfl ⟨?_,a0⟩;have e:=a3.2;rw[HI h1 h2 h4] at e;simp only[E3,Ace];rw[e];have e2:(i:Int)+1 - a=((1+(i - (a+1))+1:Nat):Int):=Aeb
   simp only[AbG,AbD];rw[e2]
  ·have h3:i+1<s.length:=by simp at h3;omega
   refine Sa ?_;refine Av (λh4=>?_) λh4=>?_
   ·have h4:i+1<s.length→Ab s (i+1)≠34:=λ_=>by simpa using h4
    refine Sa ?_;refine LW.string_own rfl a1 rfl rfl rfl rfl rfl rfl rfl ?_;refine Sa ?_;refine AF λw8 a4 hC=>?_;replace hC:Blk w8 C (Bj ⟨2,out,0,A4,a⟩) 203:=hC;replace a0:=(hx.trans a0).step a4 Aee;refine Sa ?_;refine QW.body_ct rfl rfl hC rfl rfl rfl rfl ⟨?_,a0⟩;have e:=a3.2;rw[HI h1 h2 h4] at e;simp only[E3,Ace];rw[e];have e2:(i:Int)+1 - a=((1+(i - (a+1))+1:Nat):Int):=Aeb
    simp only[AbG,AbD];rw[e2]
   ·have h4:Ab s (i+1)=34:=by simpa using h4
    refine Sa ?_;refine Sa ?_;refine CR λA w3 a9 a5 hA=>?_;replace a1:=a1.ext a5;replace a0:=a0.trans a5;have aa:=a0.size;refine Sa ?_;refine LW.append rfl rfl rfl rfl rfl rfl a1 Aeb hA rfl rfl rfl Aet rfl ?_;intro v' w4 a6 a2 ab;replace a0:=a0.step a6 (λk hk=>(a1.lt hk).1);refine Sa ?_;refine QW.again (i+2,out++[ch 34],v') ⟨by show i+2≤_;omega,by show(out++_).length≤i+2;simp;omega,a0,Ff Aeb Aeb a2,EE.go a3 Aeb ?_⟩ CT (by show s.length - (i+2)<s.length - i;omega);rw[SQ h3 h2 h4,show i+2 - i=2 by omega];rfl
 ·have h1:i=s.length:=by simp at h1;omega
  refine Sa ?_;refine AF λw8 a4 hC=>?_;replace hC:Blk w8 C (Bj ⟨0,[],0,A4,0⟩) 203:=hC;replace a0:=(hx.trans a0).step a4 Aee;refine Sa ?_;refine QW.body_ct rfl rfl hC rfl rfl rfl rfl ⟨?_,a0⟩;have e:=a3.2;rw[SN (i:=i) Aeb] at e;simp only[E3,Ace];rw[e];exact⟨_,rfl⟩
theorem I8(s:List UInt8)(hs:s.length≤1000000)(w:World):A9 prog 221 [Aq s] w (λv w'=>v=.bool (KL s)∧Ah w w'):=by
 refine AG func221 ntmps221 ?_;refine Sa ?_;refine CW.loop (ι:=Nat) (λk w'=>k≤s.length∧Ah w w'∧∀j,j<k→Xl (Ab s j)=true) (λk=>[(0,Aq s),(3,.int .i64 k)]) (λk=>s.length - k) 0 ⟨by omega,Chg.refl _ _,by omega⟩ DT ?_;rintro k w2 ⟨hk,a1,a0⟩;refine Sa ?_;refine Av (λh3=>?_) λh3=>?_
 ·have h3:k<s.length:=by simpa using h3
  refine Sa ?_;refine Ap rfl rfl (Dj _ _) ?_;rintro v w3 ⟨rfl,a2⟩;refine Sa ?_;refine B8 (λh4=>?_) λh4=>?_
  ·refine Sa ?_;refine Ap rfl rfl (EQ _ _) ?_;rintro v w4 ⟨rfl,a4⟩;refine Sa ?_;refine Av (λh5=>?_) λh5=>?_
   ·refine Sa ?_;refine QW.body1 rfl rfl ⟨?_,(a1.trans a2).trans a4⟩;rw[XL h3];simp at h4 h5;simp[Xl,h4,h5]
   ·refine Sa ?_;refine QW.again (k+1) ⟨by omega,(a1.trans a2).trans a4,?_⟩ DT Aeb;intro j hj;by_cases a3:j=k
    ·subst a3;simp at h5;simp[Xl,h5]
    ·exact a0 j Aeb
  ·refine Sa ?_;refine QW.again (k+1) ⟨by omega,a1.trans a2,?_⟩ DT Aeb;intro j hj;by_cases a3:j=k
   ·subst a3;simp at h4;simp[Xl,h4]
   ·exact a0 j Aeb
 ·have h3:k=s.length:=by simp at h3;omega
  subst h3;refine Sa ?_;refine B8 (λh0=>?_) λh0=>?_
  ·have h0:0<s.length:=by simp at h0;omega
   refine Sa ?_;refine B8 (λh1=>?_) λh1=>?_
   ·have h1:s.length≤12:=by simp at h1;omega
    refine Sa ?_;refine Ap rfl rfl (Dj _ _) ?_;rintro v w3 ⟨rfl,a2⟩;refine Sa ?_;refine QW.body1 rfl rfl ⟨?_,a1.trans a2⟩;cases h2:AQ (Ab s 0)
    ·rw[OU h2];exact congrArg Value.bool h2
    ·rw[Rr (AbB.1 h0) h1 h2 a0];exact congrArg Value.bool h2
   ·have h1:12<s.length:=by simp at h1;omega
    refine Sa ?_;refine QW.body1 rfl rfl ⟨?_,a1⟩;rw[Rp h1]
  ·have h0:s=[]:=by simp at h0;exact AbA Aeb
   refine Sa ?_;refine QW.body1 rfl rfl ⟨?_,a1⟩;rw[h0,UO]
theorem Tj(c:Int):DM c=(Fx c||(Ar c||(decide (c=36)||decide (c=33)))):=by
 unfold DM GC Fx;cases AQ c<;>cases Ar c<;>cases(decide (97≤c)&&decide (c≤122))<;>cases decide (c=36)<;>cases decide (c=33)<;>rfl
theorem Py(s:List UInt8)(hs:s.length≤1000)(a:Nat)(ha:a<s.length)(w:World) :
  A9 prog 225 [Aq s,.int .i64 a] w (RT a w (Eg (s.drop a))):=by
 refine AG func225 ntmps225 ?_;refine Sa ?_;refine B1 λC w1 af hx hC=>?_;refine Sa ?_;refine CW.loop (ι:=Nat) (λk w'=>a≤k∧k≤s.length∧Ah w w'∧Blk w' C (Bj ⟨0,[],0,A4,0⟩) 203∧(∀j,a≤j→j<k→DM (Ab s j)=true)) (λk=>[(0,Aq s),(1,.int .i64 a),(4,.pointer (some ⟨C,0,none⟩)),(6,.int .i64 k)]) (λk=>s.length - k) a
  ⟨by omega,by omega,hx,hC,by omega⟩ Bl ?_
 clear hC;rintro k w2 ⟨ab,hk,a0,hC,a2⟩;refine Sa ?_;refine B8 (λh1=>?_) λh1=>?_
 ·have h1:k<s.length:=by simpa using h1
  refine Sa ?_;refine Ap rfl rfl (IB _ _) ?_;rintro v w3 ⟨rfl,ac⟩;replace hC:=hC.ext ac;replace a0:=a0.trans ac;refine Sa ?_;refine B8 (λh2=>?_) λh2=>?_
  ·have h2:Fx (Ab s k)=true:=h2;have hw:DM (Ab s k)=true:=by rw[Tj,h2];rfl
   refine Sa ?_;refine QW.again (k+1) ⟨by omega,by omega,a0,hC,?_⟩ Bl Aeb;intro j hj a8;by_cases e:j=k
   ·subst e;exact hw
   ·exact a2 j hj Aeb
  ·have h2:Fx (Ab s k)=false:=h2;refine Sa ?_;refine Ap rfl rfl (EQ _ _) ?_;rintro v w4 ⟨rfl,ad⟩;replace hC:=hC.ext ad;replace a0:=a0.trans ad;refine Sa ?_;refine B8 (λh3=>?_) λh3=>?_
   ·have h3:Ar (Ab s k)=true:=h3;have hw:DM (Ab s k)=true:=by rw[Tj,h2,h3];rfl
    refine Sa ?_;refine QW.again (k+1) ⟨by omega,by omega,a0,hC,?_⟩ Bl Aeb;intro j hj a8;by_cases e:j=k
    ·subst e;exact hw
    ·exact a2 j hj Aeb
   ·have h3:Ar (Ab s k)=false:=h3;refine Sa ?_;refine B8 (λh4=>?_) λh4=>?_
    ·have hw:DM (Ab s k)=true:=by rw[Tj,h2,h3];simp at h4;simp[h4]
     refine Sa ?_;refine QW.again (k+1) ⟨by omega,by omega,a0,hC,?_⟩ Bl Aeb;intro j hj a8;by_cases e:j=k
     ·subst e;exact hw
     ·exact a2 j hj Aeb
    ·refine Sa ?_;refine Av (λh5=>?_) λh5=>?_
     ·have hw:DM (Ab s k)=true:=by rw[Tj,h2,h3];simp at h5;simp[h5]
      refine Sa ?_;refine QW.again (k+1) ⟨by omega,by omega,a0,hC,?_⟩ Bl Aeb;intro j hj a8;by_cases e:j=k
      ·subst e;exact hw
      ·exact a2 j hj Aeb
     ·have hw:DM (Ab s k)=false:=by rw[Tj,h2,h3];simp at h4 h5;simp[h4,h5]
      obtain⟨e1,e2⟩:=Ho DM s a k ab hk a2 (.inr hw);refine Sz ?_;have a1:cut s a k=Ak DM (s.drop a):=by rw[M5,e1]
      refine LW.call0 (vs:=[Aq (Ak DM (s.drop a))]) (by rw[←a1];rfl) rfl (Ij _ AeF _) ?_;rintro v w5 ⟨rfl,a6⟩;replace hC:=hC.ext a6;replace a0:=a0.trans a6;have ae:=hC.lt
      cases hr:AV (Ak DM (s.drop a)) with
      | true=>
       rw[F2,if_pos hr];refine Sa ?_;refine B1 λF w6 a9 a3 hF=>?_;replace hC:=hC.ext a3;replace a0:=a0.trans a3;have aa:=hx.size;refine Sa ?_;refine AF λw7 a4 hF=>?_;replace hF:Blk w7 F (AU (D0 (Ak DM (s.drop a)))) 187:=hF;replace hC:=hC.chg a4 Aee;replace a0:=a0.step a4 Aee;refine Sa ?_;refine AF λw8 a5 hC=>?_;replace hC:Blk w8 C (Bj ⟨4,[],0,D0 (Ak DM (s.drop a)),a⟩) 203:=hC;replace a0:=a0.step a5 Aee;refine Sa ?_;refine QW.body_ct rfl rfl hC rfl rfl rfl rfl ⟨?_,a0⟩;rw[Eg];simp only[hr,if_true];show _=Value.tuple #[_,.int .i64 (((Ak DM (s.drop a)).length:Nat):Int)]
       rw[show(k:Int) - a=(((Ak DM (s.drop a)).length:Nat):Int) by omega]
      | false=>
       rw[Mk hr];refine Sa ?_;refine B1 λF w6 a9 a3 hF=>?_;replace hC:=hC.ext a3;replace a0:=a0.trans a3;have aa:=hx.size;refine Sa ?_;refine AF λw7 a4 hF=>?_;replace hC:=hC.chg a4 Aee;replace a0:=a0.step a4 Aee;refine Sz ?_;refine LW.call0 (vs:=[Aq (Ak DM (s.drop a))]) (by rw[←a1];rfl) rfl (I8 _ AeF _) ?_;rintro v w9 ⟨rfl,a7⟩;replace hC:=hC.ext a7;replace a0:=a0.trans a7;refine Sa ?_;refine Av (λhf=>?_) λhf=>?_
       ·have hf:KL (Ak DM (s.drop a))=true:=hf;refine Sz ?_;refine AF λw8 a5 hC=>?_;replace hC:Blk w8 C (Bj ⟨3,cut s a k,0,A4,a⟩) 203:=hC;replace a0:=a0.step a5 Aee;refine Sa ?_;refine QW.body_ct rfl rfl hC rfl rfl rfl rfl ⟨?_,a0⟩;rw[Eg];simp only[hr,hf,if_true,AbK,if_false];show _=Value.tuple #[_,.int .i64 (((Ak DM (s.drop a)).length:Nat):Int)];rw[show(k:Int) - a=(((Ak DM (s.drop a)).length:Nat):Int) by omega,a1]
       ·have hf:KL (Ak DM (s.drop a))=false:=hf;refine Sa ?_;refine AF λw8 a5 hC=>?_;replace hC:Blk w8 C (Bj ⟨0,[],0,A4,0⟩) 203:=hC;replace a0:=a0.step a5 Aee;refine Sa ?_;refine QW.body_ct rfl rfl hC rfl rfl rfl rfl ⟨?_,a0⟩;rw[Eg];simp only[hr,hf,AbK,if_false];exact⟨_,rfl⟩
 ·have h1:k=s.length:=by simp at h1;omega
  obtain⟨e1,e2⟩:=Ho DM s a k ab hk a2 (.inl h1);refine Sz ?_;have a1:cut s a k=Ak DM (s.drop a):=by rw[M5,e1]
  refine LW.call0 (vs:=[Aq (Ak DM (s.drop a))]) (by rw[←a1];rfl) rfl (Ij _ AeF _) ?_;rintro v w5 ⟨rfl,a6⟩;replace hC:=hC.ext a6;replace a0:=a0.trans a6;have ae:=hC.lt
  cases hr:AV (Ak DM (s.drop a)) with
  | true=>
   rw[F2,if_pos hr];refine Sa ?_;refine B1 λF w6 a9 a3 hF=>?_;replace hC:=hC.ext a3;replace a0:=a0.trans a3;have aa:=hx.size;refine Sa ?_;refine AF λw7 a4 hF=>?_;replace hF:Blk w7 F (AU (D0 (Ak DM (s.drop a)))) 187:=hF;replace hC:=hC.chg a4 Aee;replace a0:=a0.step a4 Aee;refine Sa ?_;refine AF λw8 a5 hC=>?_;replace hC:Blk w8 C (Bj ⟨4,[],0,D0 (Ak DM (s.drop a)),a⟩) 203:=hC;replace a0:=a0.step a5 Aee;refine Sa ?_;refine QW.body_ct rfl rfl hC rfl rfl rfl rfl ⟨?_,a0⟩;rw[Eg];simp only[hr,if_true];show _=Value.tuple #[_,.int .i64 (((Ak DM (s.drop a)).length:Nat):Int)]
   rw[show(k:Int) - a=(((Ak DM (s.drop a)).length:Nat):Int) by omega]
  | false=>
   rw[Mk hr];refine Sa ?_;refine B1 λF w6 a9 a3 hF=>?_;replace hC:=hC.ext a3;replace a0:=a0.trans a3;have aa:=hx.size;refine Sa ?_;refine AF λw7 a4 hF=>?_;replace hC:=hC.chg a4 Aee;replace a0:=a0.step a4 Aee;refine Sz ?_;refine LW.call0 (vs:=[Aq (Ak DM (s.drop a))]) (by rw[←a1];rfl) rfl (I8 _ AeF _) ?_;rintro v w9 ⟨rfl,a7⟩;replace hC:=hC.ext a7;replace a0:=a0.trans a7;refine Sa ?_;refine Av (λhf=>?_) λhf=>?_
   ·have hf:KL (Ak DM (s.drop a))=true:=hf;refine Sz ?_;refine AF λw8 a5 hC=>?_;replace hC:Blk w8 C (Bj ⟨3,cut s a k,0,A4,a⟩) 203:=hC;replace a0:=a0.step a5 Aee;refine Sa ?_;refine QW.body_ct rfl rfl hC rfl rfl rfl rfl ⟨?_,a0⟩;rw[Eg];simp only[hr,hf,if_true,AbK,if_false];show _=Value.tuple #[_,.int .i64 (((Ak DM (s.drop a)).length:Nat):Int)];rw[show(k:Int) - a=(((Ak DM (s.drop a)).length:Nat):Int) by omega,a1]
   ·have hf:KL (Ak DM (s.drop a))=false:=hf;refine Sa ?_;refine AF λw8 a5 hC=>?_;replace hC:Blk w8 C (Bj ⟨0,[],0,A4,0⟩) 203:=hC;replace a0:=a0.step a5 Aee;refine Sa ?_;refine QW.body_ct rfl rfl hC rfl rfl rfl rfl ⟨?_,a0⟩;rw[Eg];simp only[hr,hf,AbK,if_false];exact⟨_,rfl⟩
def CM:List (List UInt8):=[[60,62],[60,61],[62,61]]
def sgT:List UInt8:=[43,45,42,47,38,61,60,62,40,41,44,58]
def ZD(z:Int):Bool:=decide (z=43∨z=45∨z=42∨z=47∨z=38∨z=61∨z=60∨z=62∨z=40∨z=41∨z=44∨z=58)
theorem Aa3:∀n:Fin 256,decide (UInt8.ofNat n.val∈sgT)=ZD (n.val:Int):=by decide +kernel
theorem Aba(c:UInt8):decide (c∈sgT)=ZD (c.toNat:Int):=by
 have:=Aa3 ⟨c.toNat,c.toNat_lt⟩
 simpa using this
theorem SU:Bf=CM++sgT.map λc=>[c]:=rfl
theorem OS(c:UInt8):∀l:List UInt8,l.find? (λx=>x == c)=if c∈l then some c else none
 | []=>rfl
 | d::r=>by
  have ih:=OS c r;by_cases h:d=c
  ·subst h;simp[List.find?]
  ·have h':¬c=d:=λe=>h e.symm;have hb:(d == c)=false:=by simpa using h
   simp only[List.find?,hb,ih,Ab0,h',false_or]
theorem Jr{l:List UInt8}(h:(l.take 2)∈CM):Bf.find? (λs=>Lib.hasPrefix l s)=some (l.take 2):=by
 match l,h with
 | [],h=>simp[CM] at h
 | [_],h=>simp[CM] at h
 | c::d::r,h=>
  simp only[List.take,CM,Ab0,AcC,and_true,AbH,or_false] at h;rcases h with ⟨rfl,rfl⟩ | ⟨rfl,rfl⟩ | ⟨rfl,rfl⟩<;>rfl
theorem IG{l:List UInt8}(hl:l≠[])(hn:l.take 2∉CM):Bf.find? (λs=>Lib.hasPrefix l s)=if ZD (Ab l 0) then some (l.take 1) else none:=by
 cases l with
 | nil=>exact absurd rfl hl
 | cons c r=>
  have h1:CM.find? (λs=>Lib.hasPrefix (c::r) s)=none:=by
   rw[List.find?_eq_none];intro p hp hh;have h2:p.length=2:=by
    have:∀p∈CM,p.length=2:=Aef
    exact this p hp
   have h3:=AdQ.1 (Adh.1 hh);rw[h2] at h3;exact hn (h3 ▸ hp)
  have h2:(λs=>Lib.hasPrefix (c::r) s) ∘ (λc:UInt8=>[c])=λx=>x == c:=by
   funext x
   simp[Lib.hasPrefix,List.isPrefixOf]
  rw[SU,List.find?_append,h1,List.find?_map,h2,OS];have h3:ZD (Ab (c::r) 0)=decide (c∈sgT):=(Aba c).symm;rw[h3];by_cases hm:c∈sgT
  ·simp[hm]
  ·simp[hm]
theorem WH(s:List UInt8)(hs:s.length≤1000)(a:Nat)(ha:a<s.length)(w:World) :
  A9 prog 226 [Aq s,.int .i64 a] w (λv w'=>v=Aq ((Bf.find? λp=>Lib.hasPrefix (s.drop a) p).getD [])∧Ah w w'):=by
 have a3:s.drop a≠[]:=by intro hn;have:=congrArg List.length hn;simp at this;omega
 refine AG func226 ntmps226 ?_;apply CW.seq;apply CW.region;refine Sl ?_;apply LW.nil;apply QW.then_n;refine CW.seq_cut (ι:=Unit) (λ_ w'=>(s.drop a).take 2∉CM∧Ah w w') (λ_=>[(0,Aq s),(1,.int .i64 a)]) ?_ ?_
 ·refine Sa ?_;refine Av (λh1=>?_) λh1=>?_
  ·have h1:a+1<s.length:=by simp at h1;omega
   have a0:cut s a (a+2)=(s.drop a).take 2:=by simp[cut]
   refine Sz ?_;refine Av (λh2=>?_) λh2=>?_
   ·have h2:(s.drop a).take 2=[60,62]:=by rw[←a0];exact of_decide_eq_true h2
    refine Sz ?_;refine CW.yes rfl Aen ?_;refine Sz ?_;refine QW.body1 rfl rfl ⟨?_,Chg.refl _ _⟩;rw[Jr (by simp[CM, *])];exact congrArg Aq a0
   have h2:¬(s.drop a).take 2=[60,62]:=by rw[←a0];exact of_decide_eq_false h2
   refine Sz ?_;refine Av (λh3=>?_) λh3=>?_
   ·have h3:(s.drop a).take 2=[60,61]:=by rw[←a0];exact of_decide_eq_true h3
    refine Sz ?_;refine CW.yes rfl Aen ?_;refine Sz ?_;refine QW.body1 rfl rfl ⟨?_,Chg.refl _ _⟩;rw[Jr (by simp[CM, *])];exact congrArg Aq a0
   have h3:¬(s.drop a).take 2=[60,61]:=by rw[←a0];exact of_decide_eq_false h3
   refine Sz ?_;refine Av (λh4=>?_) λh4=>?_
   ·have h4:(s.drop a).take 2=[62,61]:=by rw[←a0];exact of_decide_eq_true h4
    refine Sz ?_;refine QW.body1 rfl rfl ⟨?_,Chg.refl _ _⟩;rw[Jr (by simp[CM, *])];exact congrArg Aq a0
   have h4:¬(s.drop a).take 2=[62,61]:=by rw[←a0];exact of_decide_eq_false h4
   refine Sz ?_;exact QW.head () ⟨by simp[CM,h2,h3,h4],Chg.refl _ _⟩ DT
  ·have h1:¬a+1<s.length:=by simp at h1;omega
   refine Sz ?_;refine QW.head () ⟨?_,Chg.refl _ _⟩ DT;intro hm;have:∀p∈CM,p.length=2:=Aef
   have:=this _ hm;simp at this;omega
 rintro _ w1 ⟨a4,hx⟩;have a1:=IG a3 a4;have hb:Ab (s.drop a) 0=Ab s a:=by rw[Dz];rfl
 rw[hb] at a1;apply CW.seq;apply CW.seq;apply CW.region;refine Sl ?_;apply LW.nil;apply QW.then_n;apply CW.block;refine CW.seq_cut (ι:=Bool) (λb w'=>b=ZD (Ab s a)∧Ah w w') (λb=>[(0,Aq s),(1,.int .i64 a),(27,.bool b)]) ?_ ?_
 ·skip
  refine Sa ?_;refine Av (λg0=>?_) λg0=>?_
  ·refine Sa ?_;have e:Ab s a=43:=by simpa using g0
   exact QW.head (decide (Ab s a=43)) ⟨by rw[e];rfl,hx⟩ Bp
  have g0:Ab s a≠43:=by simpa using g0
  refine Sa ?_;refine Av (λg1=>?_) λg1=>?_
  ·refine Sa ?_;have e:Ab s a=45:=by simpa using g1
   exact QW.head (decide (Ab s a=45)) ⟨by rw[e];rfl,hx⟩ Bp
  have g1:Ab s a≠45:=by simpa using g1
  refine Sa ?_;refine Av (λg2=>?_) λg2=>?_
  ·refine Sa ?_;have e:Ab s a=42:=by simpa using g2
   exact QW.head (decide (Ab s a=42)) ⟨by rw[e];rfl,hx⟩ Bp
  have g2:Ab s a≠42:=by simpa using g2
  refine Sa ?_;refine Av (λg3=>?_) λg3=>?_
  ·refine Sa ?_;have e:Ab s a=47:=by simpa using g3
   exact QW.head (decide (Ab s a=47)) ⟨by rw[e];rfl,hx⟩ Bp
  have g3:Ab s a≠47:=by simpa using g3
  refine Sa ?_;refine Av (λg4=>?_) λg4=>?_
  ·refine Sa ?_;have e:Ab s a=38:=by simpa using g4
   exact QW.head (decide (Ab s a=38)) ⟨by rw[e];rfl,hx⟩ Bp
  have g4:Ab s a≠38:=by simpa using g4
  refine Sa ?_;refine Av (λg5=>?_) λg5=>?_
  ·refine Sa ?_;have e:Ab s a=61:=by simpa using g5
   exact QW.head (decide (Ab s a=61)) ⟨by rw[e];rfl,hx⟩ Bp
  have g5:Ab s a≠61:=by simpa using g5
  refine Sa ?_;refine Av (λg6=>?_) λg6=>?_
  ·refine Sa ?_;have e:Ab s a=60:=by simpa using g6
   exact QW.head (decide (Ab s a=60)) ⟨by rw[e];rfl,hx⟩ Bp
  have g6:Ab s a≠60:=by simpa using g6
  refine Sa ?_;refine Av (λg7=>?_) λg7=>?_
  ·refine Sa ?_;have e:Ab s a=62:=by simpa using g7
   exact QW.head (decide (Ab s a=62)) ⟨by rw[e];rfl,hx⟩ Bp
  have g7:Ab s a≠62:=by simpa using g7
  refine Sa ?_;refine Av (λg8=>?_) λg8=>?_
  ·refine Sa ?_;have e:Ab s a=40:=by simpa using g8
   exact QW.head (decide (Ab s a=40)) ⟨by rw[e];rfl,hx⟩ Bp
  have g8:Ab s a≠40:=by simpa using g8
  refine Sa ?_;refine Av (λg9=>?_) λg9=>?_
  ·refine Sa ?_;have e:Ab s a=41:=by simpa using g9
   exact QW.head (decide (Ab s a=41)) ⟨by rw[e];rfl,hx⟩ Bp
  have g9:Ab s a≠41:=by simpa using g9
  refine Sa ?_;refine Av (λg10=>?_) λg10=>?_
  ·refine Sa ?_;have e:Ab s a=44:=by simpa using g10
   exact QW.head (decide (Ab s a=44)) ⟨by rw[e];rfl,hx⟩ Bp
  have g10:Ab s a≠44:=by simpa using g10
  refine Sa ?_;refine QW.head (decide (Ab s a=58)) ⟨?_,hx⟩ Bp;simp[ZD,g0,g1,g2,g3,g4,g5,g6,g7,g8,g9,g10]
 rintro b w2 ⟨rfl,a2⟩;refine Av (λh1=>?_) λh1=>?_
 ·have h1:ZD (Ab s a)=true:=h1;refine Sz ?_;refine QW.body1 rfl rfl ⟨?_,a2⟩;have a0:cut s a (a+1)=(s.drop a).take 1:=by simp[cut]
  rw[a1,if_pos h1];exact congrArg Aq a0
 ·have h1:ZD (Ab s a)=false:=h1;refine Sz ?_;refine QW.body1 rfl rfl ⟨?_,a2⟩;rw[a1,h1];rfl
theorem UL(s:List UInt8)(a:Nat):Lib.hasPrefix (s.drop a) Ea=decide (cut s a (a+5)=Ea):=by
 have e:cut s a (a+5)=(s.drop a).take 5:=by simp[cut]
 rw[AcL,decide_eq_true_eq,e];show List.isPrefixOf Ea (s.drop a)=true↔_;rw[Adh,AdQ];exact eq_comm
theorem TE{s:List UInt8}{a:Nat}(h:s.length<a+5)(ha:a<s.length):Lib.hasPrefix (s.drop a) Ea=false:=by
 cases hp:Lib.hasPrefix (s.drop a) Ea
 ·rfl
 ·have:=L8 hp;have h5:Ea.length=5:=rfl;simp at this;omega
theorem Na{l:List UInt8}(h:Ab l 0≠35):Lib.hasPrefix l Ea=false:=by
 cases l with
 | nil=>rfl
 | cons c r=>
  have hc:c≠35:=by
   rintro rfl;exact h rfl
  simp[Lib.hasPrefix,Ea,List.isPrefixOf];exact λe=>absurd e.symm hc
theorem Vn{l:List UInt8}(hl:l≠[])(h:Ab l 0=35):Bf.find? (λs=>Lib.hasPrefix l s)=none:=by
 rw[IG hl,h]
 ·rfl
 ·cases l with
  | nil=>exact absurd rfl hl
  | cons c r=>
   have hc:(c.toNat:Int)=35:=h;have:c=35:=Adn.1 (by simpa using(by omega:c.toNat=35));subst this;simp[CM]
theorem Ou{l:List UInt8}(h:Lib.hasPrefix l Ea=false):Fk l=(Bf.find? λs=>Lib.hasPrefix l s).map λs=>(⟨5,s,0,A4,0⟩,s.length):=by
 rw[Fk,h];rfl
theorem My{i:Nat}{w w':World}{o:Option (As×Nat)}{v:Value}(h:RT i w o v w'):∃t k,v=.tuple #[.agg ⟨Bj t⟩,.int .i64 k]:=by
 obtain⟨h,_⟩:=h
 cases o with
 | none=>obtain⟨t,rfl⟩:=h;exact⟨_,_,rfl⟩
 | some x=>
  obtain⟨t,k⟩:=x;exact⟨_,_,h⟩
theorem PN(c:Int):GC c=(Fx c||decide (c=36)):=rfl
theorem Xf(s:List UInt8)(hs:s.length≤1000)(a:Nat)(ha:a<s.length)(w:World) :
  A9 prog 188 [Aq s,.int .i64 a] w (RT a w (Ct (s.drop a))):=by
 have hb:Ab (s.drop a) 0=Ab s a:=by rw[Dz];rfl
 have a3:s.drop a≠[]:=by intro hn;have:=congrArg List.length hn;simp at this;omega
 refine AG func188 ntmps188 ?_;refine Sa ?_;refine B1 λC w1 a6 hx hC=>?_;refine Sa ?_;refine Ap rfl rfl (EQ _ _) ?_;rintro v w2 ⟨rfl,a4⟩;replace hC:=hC.ext a4;replace hx:=hx.trans a4;refine Sa ?_;refine Av (λh1=>?_) λh1=>?_
 ·have h1:Ar (Ab s a)=true:=h1;refine Sa ?_;refine Ap rfl rfl (S6 s hs a ha h1 _) ?_;have ho:Ct (s.drop a)=L4 (s.drop a):=by rw[Ct,hb,h1];rfl
  rintro v w3 hv;obtain⟨t,k,rfl⟩:=My hv;obtain⟨hv,a1⟩:=hv;replace hC:=hC.ext a1;replace hx:=hx.trans a1;refine Sa ?_;refine AF λw4 a0 hC=>?_;replace hC:Blk w4 C (Bj t) 203:=hC;replace hx:=hx.step a0 Aee;refine Sa ?_;exact QW.body_ct rfl rfl hC rfl rfl rfl rfl ⟨by rw[ho];exact hv,hx⟩
 have h1:Ar (Ab s a)=false:=h1;refine Sa ?_;refine Av (λh2=>?_) λh2=>?_
 ·have h2:Ab s a=34:=by simpa using h2
  refine Sa ?_;refine Ap rfl rfl (SD s hs a ha _) ?_;have ho:Ct (s.drop a)=E3 (s.drop a):=by rw[Ct,hb,h1,h2];rfl
  rintro v w3 hv;obtain⟨t,k,rfl⟩:=My hv;obtain⟨hv,a1⟩:=hv;replace hC:=hC.ext a1;replace hx:=hx.trans a1;refine Sa ?_;refine AF λw4 a0 hC=>?_;replace hC:Blk w4 C (Bj t) 203:=hC;replace hx:=hx.step a0 Aee;refine Sa ?_;exact QW.body_ct rfl rfl hC rfl rfl rfl rfl ⟨by rw[ho];exact hv,hx⟩
 have h2:Ab s a≠34:=by simpa using h2
 refine Sa ?_;refine Av (λh3=>?_) λh3=>?_
 ·have h3:Ab s a=35:=by simpa using h3
  have ho:Ct (s.drop a)=Fk (s.drop a):=by
   rw[Ct,hb,h1,if_neg Aej,if_neg h2,h3];rfl
  refine Sz ?_;refine B8 (λh4=>?_) λh4=>?_
  ·have h4:a+5≤s.length:=by simp at h4;omega
   refine Sz ?_;refine Av (λh5=>?_) λh5=>?_
   ·have h5:Lib.hasPrefix (s.drop a) Ea=true:=by rw[UL];exact h5
    refine Sa ?_;refine AF λw4 a0 hC=>?_;replace hC:Blk w4 C (Bj ⟨6,[],0,A4,a⟩) 203:=hC;replace hx:=hx.step a0 Aee;refine Sa ?_;refine QW.body_ct rfl rfl hC rfl rfl rfl rfl ⟨?_,hx⟩;rw[ho,Fk,h5];rfl
   ·have h5:Lib.hasPrefix (s.drop a) Ea=false:=by rw[UL];exact h5
    refine Sa ?_;refine AF λw4 a0 hC=>?_;replace hC:Blk w4 C (Bj ⟨0,[],0,A4,0⟩) 203:=hC;replace hx:=hx.step a0 Aee;refine Sa ?_;refine QW.body_ct rfl rfl hC rfl rfl rfl rfl ⟨?_,hx⟩;rw[ho,Ou h5,Vn a3 (by rw[hb];exact h3)];exact⟨_,rfl⟩
  ·have h4:s.length<a+5:=by simp at h4;omega
   have h5:=TE h4 ha;refine Sa ?_;refine AF λw4 a0 hC=>?_;replace hC:Blk w4 C (Bj ⟨0,[],0,A4,0⟩) 203:=hC;replace hx:=hx.step a0 Aee;refine Sa ?_;refine QW.body_ct rfl rfl hC rfl rfl rfl rfl ⟨?_,hx⟩;rw[ho,Ou h5,Vn a3 (by rw[hb];exact h3)];exact⟨_,rfl⟩
 have h3:Ab s a≠35:=by simpa using h3
 have a2:Lib.hasPrefix (s.drop a) Ea=false:=Na (by rw[hb];exact h3);refine Sa ?_;refine Ap rfl rfl (IB _ _) ?_;rintro v w3 ⟨rfl,a1⟩;replace hC:=hC.ext a1;replace hx:=hx.trans a1;refine Sa ?_;refine B8 (λh4=>?_) λh4=>?_
 ·have h4:Fx (Ab s a)=true:=h4;have ho:Ct (s.drop a)=Eg (s.drop a):=by
   rw[Ct,hb,h1,if_neg Aej,if_neg h2,PN,h4];rfl
  refine Sa ?_;refine Ap rfl rfl (Py s hs a ha _) ?_;rintro v w3 hv;obtain⟨t,k,rfl⟩:=My hv;obtain⟨hv,a1⟩:=hv;replace hC:=hC.ext a1;replace hx:=hx.trans a1;refine Sa ?_;refine AF λw4 a0 hC=>?_;replace hC:Blk w4 C (Bj t) 203:=hC;replace hx:=hx.step a0 Aee;refine Sa ?_;exact QW.body_ct rfl rfl hC rfl rfl rfl rfl ⟨by rw[ho];exact hv,hx⟩
 have h4:Fx (Ab s a)=false:=h4;refine Sa ?_;refine Av (λh5=>?_) λh5=>?_
 ·have ho:Ct (s.drop a)=Eg (s.drop a):=by
   rw[Ct,hb,h1,if_neg Aej,if_neg h2,PN,h4];simp only[decide_eq_true_eq] at h5;have h5:Ab s a=36:=h5;rw[h5];rfl
  refine Sa ?_;refine Ap rfl rfl (Py s hs a ha _) ?_;rintro v w3 hv;obtain⟨t,k,rfl⟩:=My hv;obtain⟨hv,a1⟩:=hv;replace hC:=hC.ext a1;replace hx:=hx.trans a1;refine Sa ?_;refine AF λw4 a0 hC=>?_;replace hC:Blk w4 C (Bj t) 203:=hC;replace hx:=hx.step a0 Aee;refine Sa ?_;exact QW.body_ct rfl rfl hC rfl rfl rfl rfl ⟨by rw[ho];exact hv,hx⟩
 have ho:Ct (s.drop a)=Fk (s.drop a):=by
  rw[Ct,hb,h1,if_neg Aej,if_neg h2,PN,h4];simp only[decide_eq_false_iff_not] at h5;have h5:Ab s a≠36:=h5;simp[h5]
 refine Sa ?_;refine Ap rfl rfl (WH s hs a ha _) ?_;rintro v w5 ⟨rfl,a5⟩;replace hC:=hC.ext a5;replace hx:=hx.trans a5;refine Sa ?_;refine AF λw4 a0 hC=>?_;replace hx:=hx.step a0 Aee;refine Sa ?_;refine QW.body_ct rfl rfl hC rfl rfl rfl rfl ⟨?_,hx⟩;rw[ho,Ou a2]
 cases Bf.find? λp=>Lib.hasPrefix (s.drop a) p with
 | none=>exact⟨⟨5,[],0,A4,a⟩,rfl⟩
 | some p=>rfl
def ML(s:List UInt8)(v:Value)(w:World)(lo:Nat):Prop:=
 if 300<s.length then v=.agg ⟨[.slice none 0 0,.int .i64 4]⟩
 else match Ic s with
  | none=>v=.agg ⟨[.slice none 0 0,.int .i64 5]⟩
  | some l=>∃sv,v=.agg ⟨[sv,.int .i64 0]⟩∧Own w lo 203 9 sv l.length (l.flatMap Bj)
theorem Y7(s:List UInt8)(hs:s.length≤9223372036854775807)(w:World):A9 prog 144 [Aq s] w (λv w'=>ML s v w' w.heap.size∧Ah w w'):=by
 refine AG func144 ntmps144 ?_;refine Sa ?_;refine B1 λR w1 b0 hx hR=>?_;have al:R<w1.heap.size:=hR.lt;refine Sa ?_;refine Av (λh1=>?_) λh1=>?_
 ·have h1:300<s.length:=by simp at h1;omega
  refine Sa ?_;refine AF λw2 am hR=>?_;replace hx:=hx.step am Aee;refine Sa ?_;refine QW.body_c rfl rfl hR rfl rfl rfl ⟨?_,hx⟩;rw[ML,if_pos h1];rfl
 have h1:¬300<s.length:=by simp at h1;omega
 refine Sa ?_;refine CW.loop (ι:=Nat×List As×Value) (λk w'=>k.1≤s.length∧k.2.1.length≤k.1∧Ah w1 w'∧Own w' w1.heap.size 203 9 k.2.2 k.2.1.length (k.2.1.flatMap Bj)∧Ej s k.1 k.2.1) (λk=>[(0,Aq s),(2,.pointer (some ⟨R,0,none⟩)),(3,k.2.2),(4,.int .i64 k.1)]) (λk=>s.length - k.1) (0,[],.slice none 0 0) ⟨by simp,by simp,Chg.refl _ _,Own.nil _ _ _ _,Ej.start _⟩ Bl ?_;rintro⟨a,out,v⟩ w2 ⟨ha,ho,a7,a0,a9⟩;simp only at ha ho a0 a9;show CW _ _ _ _ _ [(0,Aq s),(2,.pointer (some ⟨R,0,none⟩)),(3,v),(4,.int .i64 a)] _;have ah:R∉Ae v:=a0.old al;have b1:=a7.size;replace hR:=hR.ext a7;refine Sa ?_;refine Av (λh2=>?_) λh2=>?_
 ·have h2:a<s.length:=by simp at h2;omega
  have an:∀(c:Nat),Ab s a≠32→(Ak FD (s.drop a)).length=0:=λ_ hb=>by
   obtain⟨c,e,hc⟩:=Gx h2;rw[e];have:FD (c.toNat:Int)=false:=by simp[FD];omega
   simp[Ak,this]
  refine Sa ?_;refine Av (λh3=>?_) λh3=>?_
  ·have h3:Ab s a=32:=by simpa using h3
   refine Sa ?_;exact QW.again (a+1,out,v) ⟨by show a+1≤_;omega,by show out.length≤a+1;omega,a7,a0,a9.blank h2 h3⟩ Bl (by show s.length - (a+1)<s.length - a;omega)
  have h3:Ab s a≠32:=by simpa using h3
  have hc:a+(Ak FD (s.drop a)).length=a:=by rw[an 0 h3];rfl
  refine Sa ?_;refine Ap rfl rfl (Xf s Aeb a h2 _) ?_;rintro u w3 ⟨hv,aa⟩;replace hR:=hR.ext aa;have b2:=aa.size;have a4:=a0.ext aa
  cases a8:Ct (s.drop a) with
  | none=>
   rw[a8] at hv;obtain⟨t,rfl⟩:=hv;refine Sa ?_;refine B1 λC w6 ao a3 hC=>?_;replace hR:=hR.ext a3;have ap:=a3.size;refine Sa ?_;refine AF λw7 a5 hC=>?_;replace hR:=hR.chg a5 Aee;have af:=((a7.trans aa).trans a3).step a5 Aee;refine Sa ?_;refine AF λw8 aq hR=>?_;have ar:=(hx.trans af).step aq Aee;refine Sa ?_;refine QW.body_c rfl rfl hR rfl rfl rfl ⟨?_,ar⟩;rw[ML,if_neg h1,a9.bad hc h2 a8]
   rfl
  | some x=>
   obtain⟨t,k⟩:=x;rw[a8] at hv;simp only at hv;subst hv;have au:=Fe AeE a8;have av:=Qr a8;simp at av;refine Sa ?_;refine B1 λC w6 ao a3 hC=>?_;replace hR:=hR.ext a3;have ap:=a3.size;have a1:=a4.ext a3;refine Sa ?_;refine AF λw7 a5 hC=>?_;replace hC:Blk w7 C (Bj {t with at_:=(a:Int)}) 203:=hC;replace hR:=hR.chg a5 Aee;have af:=((a7.trans aa).trans a3).step a5 Aee;have b3:=a5.size;have ab:=a1.chg a5 (λj hj hb=>by
    simp at hb;have:=(a4.lt hj).2;omega)
   refine Sa ?_;refine CW.no rfl Aee ?_;refine Sa ?_;refine CR λA w9 aw ad hA=>?_;replace hA:Blk w9 A (Bj {t with at_:=(a:Int)}) 203:=hA;replace hR:=hR.ext ad;have b4:=ad.size;refine Sa ?_;refine LW.append rfl rfl rfl rfl rfl rfl (ab.ext ad) Aeb hA rfl rfl rfl AeD rfl ?_;intro v' b5 ac a6 _;have ax:=ac.size;refine Sa ?_;refine QW.again (a+k,out++[{t with at_:=(a:Int)}],v') ⟨by show a+k≤_;omega,by show(out++_).length≤a+k;simp;omega,?_,MB a6,a9.go hc h2 a8⟩ Bl (by show s.length - (a+k)<s.length - a;omega);exact(af.trans ad).step ac (λk hk=>(a0.lt hk).1)
 ·have h2:a=s.length:=by simp at h2;omega
  have he:a+(Ak FD (s.drop a)).length=s.length:=by
   have:=E0 FD (s.drop a);simp at this;omega
  refine Sa ?_;refine CR λA w4 aw ae hA=>?_;replace hA:Blk w4 A (Bj ⟨0,[],0,A4,(s.length:Int)⟩) 203:=hA;have b6:=ae.size;replace hR:=hR.ext ae;refine Sa ?_;refine LW.append rfl rfl rfl rfl rfl rfl (a0.ext ae) Aeb hA rfl rfl rfl AeD rfl ?_;intro v' w5 ai a2 ag;replace hR:=hR.chg ai ah;have ay:R∉Ae v':=λhm=>by
   rcases ag _ hm with hm | hm
   ·exact ah hm
   ·omega
  have az:=(a7.trans ae).step ai (λk hk=>(a0.lt hk).1);have aj:v'.oneCell'=true:=by
   obtain⟨p,q,rfl⟩:=a2.slice;rfl
  obtain⟨p5,q5,e5⟩:=a2.slice;subst e5;refine Sa ?_;refine AF λw6 ak hR=>?_;have a3:=(hx.trans az).step ak Aee;have a1:=a2.chg ak (λj hj hb=>ay AeL);refine Sa ?_;refine QW.body_c rfl rfl hR rfl rfl rfl ⟨?_,a3⟩;rw[ML,if_neg h1,a9.end he];refine⟨_,rfl,?_⟩;obtain⟨hl,hh⟩:=MB a1;refine⟨hl,?_⟩;rcases hh with hh | ⟨gg,cap,sp,e1,e2,e3,e4,e5⟩
  ·exact .inl hh
  ·exact .inr ⟨gg,cap,sp,e1,e2,e3,e4,by have:=hx.size;omega⟩
theorem Jt(x:As):(Bj x).length=9:=rfl
theorem Nc:prog.eqGuardType prog.depth 187=false:=by kernel_rfl
theorem PS(x y:C3)(d:Nat)(w:World):(Op.equalIn (d+2) 187 (.agg ⟨AU x⟩) (.agg ⟨AU y⟩)).run prog w=.ok (decide (x=y)) w:=by
 obtain⟨s1,c1,r1,a1,b1⟩:=x;obtain⟨s2,c2,r2,a2,b2⟩:=y;have ht:prog.underlying 187=some (.struct (prog.fieldsOf 187)):=by simp[Program.fieldsOf,underlying187]
 have hp:prog.stoodInHeld 187=false:=by kernel_rfl
 simp only[AU];rw[run_equalIn_agg w (d+1) _ _ _ ht hp];simp only[Program.fieldsOf,underlying187];refine(It Aef (BF (v:=Aq s1) rfl rfl rfl w) (BF (v:=Aq s2) rfl rfl rfl w) (Aam rfl rfl _ _ w)
  (It Aef (BF (v:=.int .i64 c1) rfl rfl rfl w) (BF (v:=.int .i64 c2) rfl rfl rfl w) (XG rfl rfl _ _ w)
  (It Aef (BF (v:=.int .i64 r1) rfl rfl rfl w) (BF (v:=.int .i64 r2) rfl rfl rfl w) (XG rfl rfl _ _ w)
  (It Aef (BF (v:=.bool a1) rfl rfl rfl w) (BF (v:=.bool a2) rfl rfl rfl w) (UN rfl rfl _ _ w)
  (It Aef (BF (v:=.bool b1) rfl rfl rfl w) (BF (v:=.bool b2) rfl rfl rfl w) (UN rfl rfl _ _ w)
  (Zj _ _ _ w)))))).trans ?_
 refine congrArg (λb=>Result.ok b w) ?_;rw[AcL];simp only[Abr,decide_eq_true_eq,C3.mk.injEq,and_true]
theorem Mx(k:Int)(w:World):A9 prog 19 [.int .i64 k] w (λv w'=>v=.int .i64 k∧Ah w w'):=by
 refine AG func19 ntmps19 ?_;refine Sa ?_;exact QW.body1 rfl rfl ⟨rfl,Chg.refl _ _⟩
theorem FH:∀(n u:Nat),u≤n→(∀c∈Lib.decDigits u,Ar (c.toNat:Int)=true)∧Lib.decDigits u≠[]∧A1 0 (Lib.decDigits u)=u∧(u≠0→Ab (Lib.decDigits u) 0≠48)∧(u=0→(Lib.decDigits u).length=1)
 | n,u,hn=>by
  by_cases h:u<10
  ·rw[CV h];have e:((ch (48+(u:Int))).toNat:Int)=48+u:=FV Aeb Aeb;refine⟨?_,by simp,?_,λh0=>?_,λ_=>rfl⟩
   ·intro c hc;simp only[Aah] at hc;subst hc;rw[e];simp[Ar];omega
   ·have:=L5 0 [] (z:=48+(u:Int)) Aeb Aeb;rw[AbN] at this;rw[this];have:A1 0 []=0:=rfl;omega
   ·have:Ab [ch (48+(u:Int))] 0=48+u:=e;omega
  ·rw[Eo Aeb]
   match n with
   | 0=>omega
   | n+1=>
    obtain⟨a1,a2,a3,a4,_⟩:=FH n (u / 10) Aeb;have hr:(48+(u:Int) % 10)≤57∧48≤(48+(u:Int) % 10):=Aeb
    have e:((ch (48+(u:Int) % 10)).toNat:Int)=48+(u:Int) % 10:=FV Aeb Aeb;refine⟨?_,by simp,?_,λ_=>?_,λh0=>by omega⟩
    ·intro c hc;rw[Ab1] at hc;rcases hc with hc | hc
     ·exact a1 c hc
     ·simp only[Aah] at hc;subst hc;rw[e];simp[Ar];omega
    ·rw[L5 _ _ Aeb Aeb,a3];omega
    ·rw[B4 (AbB.2 a2)];exact a4 Aeb
theorem GR{k:Int}(h:0≤k):Lib.itoa k=Lib.decDigits k.toNat:=by
 unfold Lib.itoa;rw[if_neg Aeb]
theorem XD{l:List UInt8}(hl:l≠[])(hd:∀c∈l,Ar (c.toNat:Int)=true):Ab l 0≠32:=by
 obtain⟨c,hm,e⟩:=DO (AbB.2 hl);have:=hd c hm;rw[←e] at this;simp[Ar] at this;omega
theorem YI{R:List UInt8}(h:R.head?≠some 34):AR (34::R)=some ([],1):=by
 cases R with
 | nil=>rfl
 | cons d r=>
  have:d≠34:=λe=>h (by rw[e];rfl);simp[AR,this]
theorem Vl(R:List UInt8):AR (34::34::R)=(AR R).map λx=>(34::x.1,x.2+2):=by simp[AR]
theorem YH{c:UInt8}(h1:c≠34)(h2:¬c<32)(R:List UInt8):AR (c::R)=(AR R).map λx=>(c::x.1,x.2+1):=by
 cases R with
 | nil=>simp[AR,h1]
 | cons d r=>simp[AR,h1,h2]
theorem WK{c:UInt8}(h1:c≠34)(h2:c<32)(R:List UInt8):AR (c::R)=none:=by
 cases R with
 | nil=>simp[AR,h1]
 | cons d r=>simp[AR,h1,h2]
theorem YL{s:List UInt8}(h:s∈Bf):s.length=1∨s∈CM:=by
 have:∀s∈Bf,s.length=1∨s∈CM:=Aef
 exact this s h
theorem EF{tok:List UInt8}(h:tok≠[])(R:List UInt8):Ab (tok++R) 0=Ab tok 0:=B4 (AbB.2 h)
structure Aj where
 kind:Int
 num:Int:=0
 text:List UInt8:=[]
 ref:C3:=A4
 to:C3:=A4
 kids:List Int:=[]
deriving DecidableEq
structure Bx where
 at_:Nat
 out:List Aj
 deep:Nat
inductive Ii where
 | ok (s:Bx) (p:Nat)
 | err (e:Int)
inductive DY where
 | lev (n:Nat)
 | loop (n:Nat) (a:Nat)
 | unary
 | prim
 | args (name:List UInt8) (ks:List Int)
def YQ:As:=⟨0,[],0,A4,0⟩
def Aa(T:List As)(s:Bx):As:=T.getD s.at_ YQ
def BH(T:List As)(s:Bx)(x:List UInt8):Bool:=decide ((Aa T s).kind=5)&&decide ((Aa T s).text=x)
def Al(s:Bx):Bx:={s with at_:=s.at_+1}
def Ax(s:Bx):Bx:={s with deep:=s.deep+1}
def B3(s:Bx):Bx:={s with deep:=s.deep - 1}
def Bt(s:Bx)(n:Aj):Bx:={s with out:=s.out++[n]}
def AA:Nat→List (List UInt8)
 | 0=>[[61],[60,62],[60],[60,61],[62],[62,61]]
 | 1=>[[38]]
 | 2=>[[43],[45]]
 | _=>[[42],[47]]
def Aw:Nat→List Int
 | 0=>[9,10,11,12,13,14]
 | 1=>[15]
 | 2=>[16,17]
 | _=>[18,19]
def GF(T:List As)(s:Bx)(n:Nat):Option Nat:=if (Aa T s).kind=5 then(AA n).findIdx? (λx=>decide (x=(Aa T s).text)) else none
def below(n:Nat):DY:=if n<3 then .lev (n+1) else .unary
def Bo(a b:C3):Bool:=decide (b.sheet=[])&&decide (a.col≤b.col)&&decide (a.row≤b.row)
def Dc:List UInt8:=[84,82,85,69]
def CL:List UInt8:=[70,65,76,83,69]
inductive PE (T:List As):DY→Bx→Ii→Prop
 | lev_err {n s e}:PE T (below n) s (.err e)→PE T (.lev n) s (.err e)
 | lev_ok {n s s1 a r}:PE T (below n) s (.ok s1 a)→PE T (.loop n a) s1 r→PE T (.lev n) s r
 | loop_end {n s a}:GF T s n=none→PE T (.loop n a) s (.ok s a)
 | loop_err {n s a i e}:GF T s n=some i→PE T (below n) (Al s) (.err e)→PE T (.loop n a) s (.err e)
 | loop_go {n:Nat} {s:Bx} {a i:Nat} {s1:Bx} {b:Nat} {r:Ii}:GF T s n=some i→PE T (below n) (Al s) (.ok s1 b)→PE T (.loop n s1.out.length) (Bt s1 {kind:=(Aw n).getD i 0,kids:=[(a:Int),(b:Int)]}) r→PE T (.loop n a) s r
 | un_prim {s r}:BH T s [45]=false→PE T .prim s r→PE T .unary s r
 | un_deep {s}:BH T s [45]=true→12≤s.deep→PE T .unary s (.err 6)
 | un_err {s e}:BH T s [45]=true→s.deep<12→PE T .unary (Ax (Al s)) (.err e)→PE T .unary s (.err e)
 | un_ok {s s1:Bx} {a:Nat}:BH T s [45]=true→s.deep<12→PE T .unary (Ax (Al s)) (.ok s1 a)→PE T .unary s (.ok (Bt (B3 s1) {kind:=8,kids:=[(a:Int)]}) s1.out.length)
 | pr_sign {s}:(Aa T s).kind=5→(Aa T s).text≠[40]→PE T .prim s (.err 5)
 | pr_deep {s}:BH T s [40]=true→12≤s.deep→PE T .prim s (.err 6)
 | pr_err {s e}:BH T s [40]=true→s.deep<12→PE T (.lev 0) (Ax (Al s)) (.err e)→PE T .prim s (.err e)
 | pr_open {s s1 a}:BH T s [40]=true→s.deep<12→PE T (.lev 0) (Ax (Al s)) (.ok s1 a)→BH T s1 [41]=false→PE T .prim s (.err 5)
 | pr_ok {s s1 a}:BH T s [40]=true→s.deep<12→PE T (.lev 0) (Ax (Al s)) (.ok s1 a)→BH T s1 [41]=true→PE T .prim s (.ok (B3 (Al s1)) a)
 | pr_end {s}:(Aa T s).kind=0→PE T .prim s (.err 5)
 | pr_num {s}:(Aa T s).kind=1→PE T .prim s (.ok (Bt (Al s) {kind:=1,num:=(Aa T s).num}) s.out.length)
 | pr_text {s}:(Aa T s).kind=2→PE T .prim s (.ok (Bt (Al s) {kind:=2,text:=(Aa T s).text}) s.out.length)
 | pr_dead {s}:(Aa T s).kind=6→PE T .prim s (.ok (Bt (Al s) {kind:=4}) s.out.length)
 | pr_ref {s}:(Aa T s).kind=4→BH T (Al s) [58]=false→PE T .prim s (.ok (Bt (Al s) {kind:=5,ref:=(Aa T s).ref}) s.out.length)
 | pr_range {s}:(Aa T s).kind=4→BH T (Al s) [58]=true→(Aa T (Al (Al s))).kind=4→Bo (Aa T s).ref (Aa T (Al (Al s))).ref=true→
   PE T .prim s (.ok (Bt (Al (Al (Al s))) {kind:=6,ref:=(Aa T s).ref,to:=(Aa T (Al (Al s))).ref}) s.out.length)
 | pr_norange {s}:(Aa T s).kind=4→BH T (Al s) [58]=true→((Aa T (Al (Al s))).kind≠4∨Bo (Aa T s).ref (Aa T (Al (Al s))).ref=false)→PE T .prim s (.err 5)
 | pr_true {s}:(Aa T s).kind=3→(Aa T s).text=Dc→PE T .prim s (.ok (Bt (Al s) {kind:=3,num:=1}) s.out.length)
 | pr_false {s}:(Aa T s).kind=3→(Aa T s).text=CL→PE T .prim s (.ok (Bt (Al s) {kind:=3}) s.out.length)
 | pr_nocall {s}:(Aa T s).kind=3→(Aa T s).text≠Dc→(Aa T s).text≠CL→BH T (Al s) [40]=false→PE T .prim s (.err 5)
 | pr_calldeep {s}:(Aa T s).kind=3→(Aa T s).text≠Dc→(Aa T s).text≠CL→BH T (Al s) [40]=true→12≤s.deep→PE T .prim s (.err 6)
 | pr_call0 {s}:(Aa T s).kind=3→(Aa T s).text≠Dc→(Aa T s).text≠CL→BH T (Al s) [40]=true→s.deep<12→BH T (Ax (Al (Al s))) [41]=true→
   PE T .prim s (.ok (Bt (B3 (Al (Ax (Al (Al s))))) {kind:=7,text:=(Aa T s).text}) s.out.length)
 | pr_call {s r}:(Aa T s).kind=3→(Aa T s).text≠Dc→(Aa T s).text≠CL→BH T (Al s) [40]=true→s.deep<12→BH T (Ax (Al (Al s))) [41]=false→
   PE T (.args (Aa T s).text []) (Ax (Al (Al s))) r→PE T .prim s r
 | ar_err {x ks s e}:PE T (.lev 0) s (.err e)→PE T (.args x ks) s (.err e)
 | ar_go {x ks s s1} {a:Nat} {r}:PE T (.lev 0) s (.ok s1 a)→BH T s1 [44]=true→PE T (.args x (ks++[(a:Int)])) (Al s1) r→PE T (.args x ks) s r
 | ar_open {x ks s s1 a}:PE T (.lev 0) s (.ok s1 a)→BH T s1 [44]=false→BH T s1 [41]=false→PE T (.args x ks) s (.err 5)
 | ar_end {x ks s s1} {a:Nat}:PE T (.lev 0) s (.ok s1 a)→BH T s1 [44]=false→BH T s1 [41]=true→PE T (.args x ks) s (.ok (Bt (B3 (Al s1)) {kind:=7,text:=x,kids:=ks++[(a:Int)]}) s1.out.length)
def DS(T:List As)(o:Except Int (List Aj)):Prop:=
 match o with
 | .error e=>PE T (.lev 0) ⟨0,[],0⟩ (.err e)∨e=5∧∃s a,PE T (.lev 0) ⟨0,[],0⟩ (.ok s a)∧(Aa T s).kind≠0
 | .ok l=>∃s a,PE T (.lev 0) ⟨0,[],0⟩ (.ok s a)∧(Aa T s).kind=0∧s.out=l
def Ad(ks:List Int):List Value:=ks.map λk=>.int .i64 k
def BW(w:World)(kv:Value)(ks:List Int):Prop:=kv=.slice none 0 0∧ks=[]∨∃b cap sp,kv=.slice (some ⟨b,0,none⟩) ks.length cap∧Blk w b (Ad ks++sp) 3
structure NV where
 node:Aj
 kv:Value
def BO(x:NV):List Value:=[.int .i64 x.node.kind,.int .i64 x.node.num,Aq x.node.text,Aq x.node.ref.sheet,.int .i64 x.node.ref.col,.int .i64 x.node.ref.row,.bool x.node.ref.ac,.bool x.node.ref.ar,Aq x.node.to.sheet,.int .i64 x.node.to.col,.int .i64 x.node.to.row,.bool x.node.to.ac,.bool x.node.to.ar,x.kv]
theorem Yo(x:NV):(BO x).length=14:=rfl
structure Fr(w w':World):Prop where
 size:w.heap.size≤w'.heap.size
 blk:∀b l T,Blk w b l T→T≠212→T≠189→Blk w' b l T
theorem Fr.trans{a b c:World}(h:Fr a b)(k:Fr b c):Fr a c:=⟨Acd h.size k.size,λx l T hx h1 h2=>k.blk x l T (h.blk x l T hx h1 h2) h1 h2⟩
theorem Fr.ext{a b:World}(h:Ah a b):Fr a b:=⟨h.size,λ_ _ _ hx _ _=>hx.ext h⟩
theorem _root_.Go.E.Blk.inj{w:World}{b:Nat}{l l':List Value}{T T':TypeId}(h:Blk w b l T)(k:Blk w b l' T'):T=T':=by
 have:=h.symm.trans k;simp only[AaZ,Obj.cells.injEq] at this;exact this.2.1
theorem Fr.chg{S:List Nat}{a b:World}(h:Chg S a b)(hs:∀k∈S,∀l T,Blk a k l T→T=212∨T=189):Fr a b:=
 ⟨h.size,λx l T hx h1 h2=>hx.chg h (λhm=>by rcases hs x hm l T hx with e | e<;>contradiction)⟩
theorem BW.fr{w w':World}{kv:Value}{ks:List Int}(h:BW w kv ks)(f:Fr w w'):BW w' kv ks:=by
 rcases h with h | ⟨b,cap,sp,e,hb⟩
 ·exact .inl h
 ·exact .inr ⟨b,cap,sp,e,f.blk _ _ _ hb Aef Aef⟩
structure Bg where
 T:List As
 tb:Nat
 tcap:Nat
 tsp:List Value
 rb:Nat
 w0:World
def Bg.tokv(c:Bg):Value:=.slice (some ⟨c.tb,0,none⟩) c.T.length c.tcap
structure Bg.Ok(c:Bg):Prop where
 tok:Blk c.w0 c.tb (c.T.flatMap Bj++c.tsp) 203
 len:c.T.length≤301
 last:∀i,i<c.T.length→(c.T.getD i YQ).kind≠0→i+1<c.T.length
 kinds:∀t∈c.T,0≤t.kind∧t.kind≤6
 new:c.w0.heap.size≤c.rb
def Rd(c:Bg)(X:List Nat)(w:World)(s:Bx):Prop:=
 Ah c.w0 w∧s.at_<c.T.length∧s.deep≤12∧s.out.length≤s.at_∧∃(outv:Value) (nvs:List NV),Blk w c.rb [c.tokv,.int .i64 s.at_,outv,.int .i64 s.deep] 212∧
  Own w c.w0.heap.size 189 14 outv nvs.length (nvs.flatMap BO)∧nvs.map NV.node=s.out∧∀x∈nvs,BW w x.kv x.node.kids∧∀b∈Ae x.kv,b∉X
theorem Rd.ext{c:Bg}{X:List Nat}{w w':World}{s:Bx}(h:Rd c X w s)(x:Ah w w'):Rd c X w' s:=by
 obtain⟨h0,h1,h2,h3,outv,nvs,hB,ho,hm,hk⟩:=h;exact⟨h0.trans x,h1,h2,h3,outv,nvs,hB.ext x,ho.ext x,hm,λy hy=>⟨(hk y hy).1.fr (.ext x),(hk y hy).2⟩⟩
theorem Rd.set{c:Bg}{X:List Nat}(hc:c.Ok){w w':World}{s s':Bx}{outv:Value}{nvs:List NV}(h0:Ah c.w0 w)(ho:Own w c.w0.heap.size 189 14 outv nvs.length (nvs.flatMap BO))(hm:nvs.map NV.node=s.out)(hk:∀x∈nvs,BW w x.kv x.node.kids∧∀b∈Ae x.kv,b∉X)
  (hB0:Blk w c.rb [c.tokv,.int .i64 s.at_,outv,.int .i64 s.deep] 212) (hch:Chg [c.rb] w w') (hB:Blk w' c.rb [c.tokv,.int .i64 s'.at_,outv,.int .i64 s'.deep] 212)
  (hso:s'.out=s.out) (h1:s'.at_<c.T.length) (h2:s'.deep≤12) (h3:s'.out.length≤s'.at_):Rd c X w' s'∧Fr w w':=by
 have hf:Fr w w':=Fr.chg hch (λk hk l T hb=>by simp at hk;subst hk;exact .inl (hb.inj hB0));refine⟨⟨h0.step hch Ae6,h1,h2,h3,outv,nvs,hB,ho.chg hch (λj hj hb=>?_),by rw[hm,hso],λx hx=>⟨(hk x hx).1.fr hf,(hk x hx).2⟩⟩,hf⟩;simp only[Aah] at hb;subst hb;obtain⟨hl,⟨rfl,_⟩ | ⟨g,cap,sp,rfl,hg,_⟩⟩:=ho
 ·simp[Ae] at hj
 ·simp[Ae] at hj;have e:=hg.inj (hj ▸ hB0);exact absurd e Aef
theorem HA{c:Bg}{X:List Nat}(hc:c.Ok){w:World}{s:Bx}(h:Rd c X w s):A9 prog 153 [.pointer (some ⟨c.rb,0,none⟩)] w (λv w'=>v=.agg ⟨Bj (Aa c.T s)⟩∧Ah w w'):=by
 obtain⟨h0,h1,h2,h3,outv,nvs,hB,ho,hm,hk⟩:=h;have hT:=hc.tok.ext h0;have hg:c.T[s.at_]?=some (Aa c.T s):=by simp[Aa,Aav h1]
 refine AG func153 ntmps153 ?_;refine Sa ?_;refine B1 λR w1 a2 hx hR=>?_;replace hB:=hB.ext hx;replace hT:=hT.ext hx;refine Sa ?_;refine CW.drawTail 10 Aec Aec λw2 a0=>?_;replace hB:=hB.ext a0;replace hT:=hT.ext a0;replace hR:=hR.ext a0;unfold Bg.tokv at hB;refine Stz ?_;refine TL.yields rfl rfl rfl (Y.load_agg (cs:=Bj (Aa c.T s)) (i:=0+s.at_*9) rfl hT rfl rfl rfl (by rw[AbP];exact Nj Jt hg)) ?_;refine TL.nil ?_;show LW _ _ _ [_] _ _ _ _;refine AF λw3 a1 hR=>?_;replace hR:Blk w3 R (Bj (Aa c.T s)) 203:=hR;refine Sa ?_;exact QW.body_c rfl rfl hR rfl rfl rfl ⟨rfl,(hx.trans a0).step a1 Aee⟩
abbrev pv(e:Int):Value:=.iface 208 (.int .i64 e)
theorem GO(b:Nat)(e:Int)(w:World):FR prog 154 [.pointer (some ⟨b,0,none⟩),.int .i64 e] w (λ_ _=>False) (λv w'=>v=pv e∧Ah w w'):=by
 refine FR.enter func154 rfl ntmps154 Aec rfl ?_;refine Sa ?_;refine LW.mkIface rfl rfl rfl rfl ?_;refine Sa ?_;refine LW.panic rfl ?_
 (repeat (first | apply QW.then_panic | apply QW.blk_panic))
 exact QW.panicP ⟨rfl,Chg.refl _ _⟩
theorem Dk{c:Bg}(hc:c.Ok){s:Bx}(h1:s.at_<c.T.length)(hk:(Aa c.T s).kind≠0):s.at_+1<c.T.length:=hc.last _ h1 hk
theorem Et{T:List As}{s:Bx}{x:List UInt8}(h:BH T s x=true):(Aa T s).kind=5∧(Aa T s).text=x:=by
 simpa[BH] using h
def Mu(T:List As)(s:Bx)(x:List UInt8):Bx:=if BH T s x then Al s else s
theorem M9{c:Bg}{X:List Nat}(hc:c.Ok){w:World}{s:Bx}(h:Rd c X w s)(x:List UInt8):A9 prog 321 [.pointer (some ⟨c.rb,0,none⟩),Aq x] w
  (λv w'=>v=.bool (BH c.T s x)∧Rd c X w' (Mu c.T s x)∧Fr w w'):=by
 refine AG func321 ntmps321 ?_;refine Sa ?_;refine Ap rfl rfl (HA hc h) ?_;rintro v w1 ⟨rfl,a4⟩;replace h:=h.ext a4;refine Sa ?_;refine B1 λC w2 ad a7 hC=>?_;refine Sa ?_;refine AF λw3 a8 hC=>?_;replace hC:Blk w3 C (Bj (Aa c.T s)) 203:=hC;have a5:Ah w w3:=(a4.trans a7).step a8 (by simp;have:=a4.size;omega);have a6:Ah w1 w3:=a7.step a8 Aee;replace h:=h.ext a6;have a9:=hc.len;refine Sa ?_;refine B8 (λh1=>?_) λh1=>?_
 ·have h1:(Aa c.T s).kind≠5:=by simpa using h1
  have hi:BH c.T s x=false:=by simp[BH,h1]
  refine Sa ?_;exact QW.body1 rfl rfl ⟨by rw[hi],by rw[Mu,hi];exact h,.ext a5⟩
 have h1:(Aa c.T s).kind=5:=by simpa using h1
 refine Sa ?_;refine Av (λh2=>?_) λh2=>?_
 ·have h2:(Aa c.T s).text≠x:=by simpa using h2
  have hi:BH c.T s x=false:=by simp[BH,h2]
  refine Sa ?_;exact QW.body1 rfl rfl ⟨by rw[hi],by rw[Mu,hi];exact h,.ext a5⟩
 have h2:(Aa c.T s).text=x:=by simpa using h2
 have hi:BH c.T s x=true:=by simp[BH,h1,h2]
 obtain⟨a0,a1,a2,a3,outv,nvs,hB,ho,hm,hk⟩:=h;have aa:=Dk hc a1 Aeb;have ab:=hB;refine Sa ?_;refine Cu λw4 ac hB=>?_;replace hB:Blk w4 c.rb [c.tokv,.int .i64 ((s.at_+1:Nat):Int),outv,.int .i64 s.deep] 212:=hB;obtain⟨hr,hf⟩:=Rd.set hc (s:=s) (s':=Al s) a0 ho hm hk ab ac hB rfl aa a2 Aeu;refine Sa ?_;exact QW.body1 rfl rfl ⟨by rw[hi],by rw[Mu,hi];exact hr,(Fr.ext a5).trans hf⟩
theorem I0{c:Bg}{X:List Nat}(hc:c.Ok){w:World}{s:Bx}(h:Rd c X w s)(x:List UInt8):FR prog 312 [.pointer (some ⟨c.rb,0,none⟩),Aq x] w
  (λv w'=>v=.tuple #[]∧BH c.T s x=true∧Rd c X w' (Al s)∧Fr w w') (λv w'=>v=pv 5∧BH c.T s x=false∧Ah c.w0 w'):=by
 refine FR.enter func312 rfl ntmps312 Aec rfl ?_;refine Sa ?_;refine Ap rfl rfl (M9 hc h x) ?_;rintro v w1 ⟨rfl,hr,hf⟩;refine Sa ?_;refine Av (λh1=>?_) λh1=>?_
 ·have h1:BH c.T s x=false:=by simpa using h1
  rw[Mu,h1,if_neg Aej] at hr;refine Sa ?_;refine LW.callP0 rfl rfl (GO c.rb 5 w1) ?_ (λ_ _ hh=>hh.elim);rintro v w2 ⟨rfl,a0⟩
  (repeat (first | apply QW.then_panic | apply QW.blk_panic))
  exact QW.panicP ⟨rfl,h1,hr.1.trans a0⟩
 ·have h1:BH c.T s x=true:=by simpa using h1
  rw[Mu,if_pos h1] at hr;refine Sa ?_;exact QW.bodyP0n results312 ⟨rfl,h1,hr,hf⟩
theorem NL{c:Bg}{X:List Nat}(hc:c.Ok){w:World}{s:Bx}(h:Rd c X w s)(x:List UInt8):FR prog 304 [.pointer (some ⟨c.rb,0,none⟩),Aq x] w
  (λv w'=>v=.tuple #[]∧BH c.T s x=true∧s.deep<12∧Rd c X w' (Ax (Al s))∧Fr w w')
  (λv w'=>Ah c.w0 w'∧(v=pv 6∧BH c.T s x=true∧12≤s.deep∨v=pv 5∧BH c.T s x=false)):=by
 have aa:=h.2.2.1;have ab:=hc.len;refine FR.enter func304 rfl ntmps304 Aec rfl ?_;refine Sa ?_;refine Ap rfl rfl (HA hc h) ?_;rintro v w1 ⟨rfl,a6⟩;replace h:=h.ext a6;refine Sa ?_;refine B1 λC w2 ai a8 hC=>?_;refine Sa ?_;refine AF λw3 a9 hC=>?_;replace hC:Blk w3 C (Bj (Aa c.T s)) 203:=hC;have ac:Ah w w3:=(a6.trans a8).step a9 (by simp;have:=a6.size;omega);have a7:Ah w1 w3:=a8.step a9 Aee;replace h:=h.ext a7;refine Sa ?_;refine B8 (λh1=>?_) λh1=>?_
 ·have h1:(Aa c.T s).kind=5:=by simpa using h1
  refine Sa ?_;refine B8 (λh2=>?_) λh2=>?_
  ·have h2:(Aa c.T s).text=x:=by simpa using h2
   have hi:BH c.T s x=true:=by simp[BH,h1,h2]
   have hh:=h;obtain⟨a0,a1,a2,a3,outv,nvs,hB,ho,hm,hk⟩:=hh;refine Sa ?_;refine Av (λh3=>?_) λh3=>?_
   ·have h3:12≤s.deep:=by simp at h3;omega
    refine Sa ?_;refine LW.callP0 rfl rfl (GO c.rb 6 w3) ?_ (λ_ _ hh=>hh.elim);rintro v w4 ⟨rfl,a5⟩
    (repeat (first | apply QW.then_panic | apply QW.blk_panic))
    exact QW.panicP ⟨h.1.trans a5,.inl ⟨rfl,hi,h3⟩⟩
   ·have h3:s.deep<12:=by simp at h3;omega
    clear hB ho hm hk;refine Sa ?_;refine LW.callP0 rfl rfl (I0 hc h x) ?_ ?_
    ·rintro v w4 ⟨rfl,a4,a5⟩
     (repeat (first | apply QW.then_panic | apply QW.blk_panic))
     exact QW.panicP ⟨a5,.inr ⟨rfl,a4⟩⟩
    rintro v w4 ⟨rfl,a4,hr,hf⟩;have ad:=hr;obtain⟨a0,a1,a2,a3,outv,nvs,hB,ho,hm,hk⟩:=ad;have ae:=hB;simp only[Al] at hB;refine Sa ?_;refine Cu λw5 af hB=>?_;replace hB:Blk w5 c.rb [c.tokv,.int .i64 (Al s).at_,outv,.int .i64 ((s.deep+1:Nat):Int)] 212:=hB;obtain⟨ag,ah⟩:=Rd.set hc (s:=Al s) (s':=Ax (Al s)) a0 ho hm hk ae af hB rfl a1 Aey a3;refine Sa ?_;exact QW.bodyP0n results304 ⟨rfl,a4,h3,ag,((Fr.ext ac).trans hf).trans ah⟩
  ·have h2:(Aa c.T s).text≠x:=by simpa using h2
   have hi:BH c.T s x=false:=by simp[BH,h2]
   refine Sa ?_;refine Sa ?_;refine LW.callP0 rfl rfl (I0 hc h x) ?_ ?_
   ·rintro v w4 ⟨rfl,a4,a5⟩
    (repeat (first | apply QW.then_panic | apply QW.blk_panic))
    exact QW.panicP ⟨a5,.inr ⟨rfl,a4⟩⟩
   rintro v w4 ⟨rfl,a4,hr,hf⟩;rw[hi] at a4;cases a4
 ·have h1:(Aa c.T s).kind≠5:=by simpa using h1
  have hi:BH c.T s x=false:=by simp[BH,h1]
  refine Sa ?_;refine Sa ?_;refine LW.callP0 rfl rfl (I0 hc h x) ?_ ?_
  ·rintro v w4 ⟨rfl,a4,a5⟩
   (repeat (first | apply QW.then_panic | apply QW.blk_panic))
   exact QW.panicP ⟨a5,.inr ⟨rfl,a4⟩⟩
  rintro v w4 ⟨rfl,a4,hr,hf⟩;rw[hi] at a4;cases a4
theorem BW.one{w:World}{kv:Value}{ks:List Int}(h:BW w kv ks):kv.oneCell'=true:=by
 rcases h with ⟨rfl,_⟩ | ⟨b,cap,sp,rfl,_⟩<;>rfl
theorem MC{c:Bg}{X:List Nat}(hc:c.Ok){w:World}{s:Bx}(h:Rd c X w s)(x:NV)(hx:BW w x.kv x.node.kids)(hxX:∀b∈Ae x.kv,b∉X)(hs:s.out.length+1≤s.at_):A9 prog 236 [.pointer (some ⟨c.rb,0,none⟩),.agg ⟨BO x⟩] w
  (λv w'=>v=.int .i64 s.out.length∧Rd c X w' (Bt s x.node)∧Fr w w'):=by
 have au:=hc.len;obtain⟨a0,a1,a2,a3,outv,nvs,hB,ho,hm,hk⟩:=h;have am:nvs.length=s.out.length:=by rw[←hm];simp
 obtain⟨p1,q1,e1⟩:=ho.slice;subst e1;have av:x.kv.oneCell'=true:=hx.one;have an:(BO x).all (·.oneCell')=true:=by
  simp only[BO,AdN,av];rfl
 refine AG func236 ntmps236 ?_;refine Sa ?_;refine C0 λC w1 aw ap hC=>?_;replace hC:Blk w1 C (BO x) 189:=hC;replace hB:=hB.ext ap;refine Sa ?_;refine CW.drawAny Aec λw2 ao=>?_;replace hB:=hB.ext ao;replace hC:=hC.ext ao;have ac:=ap.trans ao;have ax:=ac.size;refine AW.take 0 rfl rfl rfl rfl (λw=>Y.pure rfl) rfl rfl Aec Aec Aec (λ_ _ _ h=>h) ?_;refine AW.take 1 rfl rfl rfl rfl (λw=>Y.pure rfl) rfl rfl Aec Aec Aec (λ_ _ _ h=>h) ?_;refine AW.take 2 rfl rfl rfl rfl (λw=>Y.pure rfl) rfl rfl Aec Aec Aec (λ_ _ _ h=>h) ?_;refine AW.take 3 rfl rfl rfl rfl (λw=>Y.pure rfl) rfl rfl Aec Aec Aec (λ_ _ _ h=>h) ?_;refine AW.two 4 5 Aec rfl rfl rfl rfl ?_ ?_
 ·refine Sa ?_;apply QW.any;refine AW.one 5 Aec rfl rfl ?_;refine Sa ?_;apply QW.any;refine AW.one 6 Aec rfl rfl ?_;refine CR λA w3 aq ad hA=>?_;replace hA:Blk w3 A (BO x) 189:=hA;have ae:=hB.ext ad;have a4:=ac.trans ad;have ar:=a4.size;have a6:=ho.ext a4;refine Sa ?_;apply QW.any;refine AW.one 7 Aec rfl rfl ?_;refine LW.append rfl rfl rfl rfl rfl rfl a6 Ae9 hA rfl an rfl AeB rfl ?_;intro v' w4 a7 a8 ag;have ah:c.rb∉Ae (Value.slice p1 nvs.length q1):=λhm=>by
   obtain⟨_,⟨e,_⟩ | ⟨g,cap,sp,e,hg,_⟩⟩:=a6
   ·rw[e] at hm;simp[Ae] at hm
   ·rw[e] at hm;simp[Ae] at hm;exact absurd (hg.inj (hm ▸ ae)) Aef
  have ai:Fr w3 w4:=Fr.chg a7 (λk hk l T hb=>by
   obtain⟨_,⟨e,_⟩ | ⟨g,cap,sp,e,hg,_⟩⟩:=a6
   ·rw[e] at hk;simp[Ae] at hk
   ·rw[e] at hk;simp[Ae] at hk;subst hk;exact .inr (hb.inj hg))
  have a5:=ae.chg a7 ah;have aj:Ah c.w0 w4:=(a0.trans a4).step a7 (λk hk=>(a6.lt hk).1);obtain⟨p2,q2,e2⟩:=a8.slice;subst e2;refine Sa ?_;apply QW.any;refine AW.one 8 Aec rfl rfl ?_;refine Sa ?_;apply QW.any;refine AW.one 9 Aec rfl rfl ?_;refine Sa ?_;apply QW.any;refine AW.one 10 Aec rfl rfl ?_;have af:=a5;refine Cu λw5 a9 a5=>?_;replace a5:Blk w5 c.rb [c.tokv,.int .i64 s.at_,.slice p2 (nvs.length+1) q2,.int .i64 s.deep] 212:=a5;have aa:∀j,j∈Ae (Value.slice p2 (nvs.length+1) q2)→j∉[c.rb]:=λj hj hb=>by
   simp only[Aah] at hb;subst hb;obtain⟨_,⟨e,_⟩ | ⟨g,cap,sp,e,hg,_⟩⟩:=a8
   ·rw[e] at hj;simp[Ae] at hj
   ·rw[e] at hj;simp[Ae] at hj;exact absurd (hg.inj (hj ▸ af)) Aef
  have ak:Fr w4 w5:=Fr.chg a9 (λk hk l T hb=>by simp at hk;subst hk;exact .inl (hb.inj af));have ab:Fr w w5:=((Fr.ext a4).trans ai).trans ak;have al:=a8.chg a9 aa;apply LW.nil;apply QW.any;refine AW.done Aec ?_;refine Sa ?_;refine QW.body1 rfl rfl ⟨by rw[←am];congr 1;omega,⟨aj.step a9 Ae6,a1,a2,by simp[Bt];omega,.slice p2 (nvs.length+1) q2,nvs++[x],a5,by simpa using al,by simp[Bt,hm],?_⟩,ab⟩;intro y hy;rw[Ab1] at hy;rcases hy with hy | hy
  ·exact⟨(hk y hy).1.fr ab,(hk y hy).2⟩
  ·simp only[Aah] at hy;subst hy;exact⟨hx.fr ab,hxX⟩
 ·refine Sa ?_;apply QW.any;refine AW.two 4 6 Aec rfl rfl rfl rfl ?_ ?_
  ·refine Sa ?_;apply QW.any;refine AW.one 6 Aec rfl rfl ?_;refine CR λA w3 aq ad hA=>?_;replace hA:Blk w3 A (BO x) 189:=hA;have ae:=hB.ext ad;have a4:=ac.trans ad;have ar:=a4.size;have a6:=ho.ext a4;refine Sa ?_;apply QW.any;refine AW.one 7 Aec rfl rfl ?_;refine LW.append rfl rfl rfl rfl rfl rfl a6 Ae9 hA rfl an rfl AeB rfl ?_;intro v' w4 a7 a8 ag;have ah:c.rb∉Ae (Value.slice p1 nvs.length q1):=λhm=>by
    obtain⟨_,⟨e,_⟩ | ⟨g,cap,sp,e,hg,_⟩⟩:=a6
    ·rw[e] at hm;simp[Ae] at hm
    ·rw[e] at hm;simp[Ae] at hm;exact absurd (hg.inj (hm ▸ ae)) Aef
   have ai:Fr w3 w4:=Fr.chg a7 (λk hk l T hb=>by
    obtain⟨_,⟨e,_⟩ | ⟨g,cap,sp,e,hg,_⟩⟩:=a6
    ·rw[e] at hk;simp[Ae] at hk
    ·rw[e] at hk;simp[Ae] at hk;subst hk;exact .inr (hb.inj hg))
   have a5:=ae.chg a7 ah;have aj:Ah c.w0 w4:=(a0.trans a4).step a7 (λk hk=>(a6.lt hk).1);obtain⟨p2,q2,e2⟩:=a8.slice;subst e2;refine Sa ?_;apply QW.any;refine AW.one 8 Aec rfl rfl ?_;refine Sa ?_;apply QW.any;refine AW.one 9 Aec rfl rfl ?_;refine Sa ?_;apply QW.any;refine AW.one 10 Aec rfl rfl ?_;have af:=a5;refine Cu λw5 a9 a5=>?_;replace a5:Blk w5 c.rb [c.tokv,.int .i64 s.at_,.slice p2 (nvs.length+1) q2,.int .i64 s.deep] 212:=a5;have aa:∀j,j∈Ae (Value.slice p2 (nvs.length+1) q2)→j∉[c.rb]:=λj hj hb=>by
    simp only[Aah] at hb;subst hb;obtain⟨_,⟨e,_⟩ | ⟨g,cap,sp,e,hg,_⟩⟩:=a8
    ·rw[e] at hj;simp[Ae] at hj
    ·rw[e] at hj;simp[Ae] at hj;exact absurd (hg.inj (hj ▸ af)) Aef
   have ak:Fr w4 w5:=Fr.chg a9 (λk hk l T hb=>by simp at hk;subst hk;exact .inl (hb.inj af));have ab:Fr w w5:=((Fr.ext a4).trans ai).trans ak;have al:=a8.chg a9 aa;apply LW.nil;apply QW.any;refine AW.done Aec ?_;refine Sa ?_;refine QW.body1 rfl rfl ⟨by rw[←am];congr 1;omega,⟨aj.step a9 Ae6,a1,a2,by simp[Bt];omega,.slice p2 (nvs.length+1) q2,nvs++[x],a5,by simpa using al,by simp[Bt,hm],?_⟩,ab⟩;intro y hy;rw[Ab1] at hy;rcases hy with hy | hy
   ·exact⟨(hk y hy).1.fr ab,(hk y hy).2⟩
   ·simp only[Aah] at hy;subst hy;exact⟨hx.fr ab,hxX⟩
  ·refine CR λA w3 aq ad hA=>?_;replace hA:Blk w3 A (BO x) 189:=hA;have ae:=hB.ext ad;have a4:=ac.trans ad;have ar:=a4.size;have a6:=ho.ext a4;refine Sa ?_;apply QW.any;refine AW.one 4 Aec rfl rfl ?_;refine Sa ?_;apply QW.any;refine AW.one 7 Aec rfl rfl ?_;refine LW.append rfl rfl rfl rfl rfl rfl a6 Ae9 hA rfl an rfl AeB rfl ?_;intro v' w4 a7 a8 ag;have ah:c.rb∉Ae (Value.slice p1 nvs.length q1):=λhm=>by
    obtain⟨_,⟨e,_⟩ | ⟨g,cap,sp,e,hg,_⟩⟩:=a6
    ·rw[e] at hm;simp[Ae] at hm
    ·rw[e] at hm;simp[Ae] at hm;exact absurd (hg.inj (hm ▸ ae)) Aef
   have ai:Fr w3 w4:=Fr.chg a7 (λk hk l T hb=>by
    obtain⟨_,⟨e,_⟩ | ⟨g,cap,sp,e,hg,_⟩⟩:=a6
    ·rw[e] at hk;simp[Ae] at hk
    ·rw[e] at hk;simp[Ae] at hk;subst hk;exact .inr (hb.inj hg))
   have a5:=ae.chg a7 ah;have aj:Ah c.w0 w4:=(a0.trans a4).step a7 (λk hk=>(a6.lt hk).1);obtain⟨p2,q2,e2⟩:=a8.slice;subst e2;refine Sa ?_;apply QW.any;refine AW.one 8 Aec rfl rfl ?_;refine Sa ?_;apply QW.any;refine AW.one 9 Aec rfl rfl ?_;refine Sa ?_;apply QW.any;refine AW.one 10 Aec rfl rfl ?_;have af:=a5;refine Cu λw5 a9 a5=>?_;replace a5:Blk w5 c.rb [c.tokv,.int .i64 s.at_,.slice p2 (nvs.length+1) q2,.int .i64 s.deep] 212:=a5;have aa:∀j,j∈Ae (Value.slice p2 (nvs.length+1) q2)→j∉[c.rb]:=λj hj hb=>by
    simp only[Aah] at hb;subst hb;obtain⟨_,⟨e,_⟩ | ⟨g,cap,sp,e,hg,_⟩⟩:=a8
    ·rw[e] at hj;simp[Ae] at hj
    ·rw[e] at hj;simp[Ae] at hj;exact absurd (hg.inj (hj ▸ af)) Aef
   have ak:Fr w4 w5:=Fr.chg a9 (λk hk l T hb=>by simp at hk;subst hk;exact .inl (hb.inj af));have ab:Fr w w5:=((Fr.ext a4).trans ai).trans ak;have al:=a8.chg a9 aa;apply LW.nil;apply QW.any;refine AW.done Aec ?_;refine Sa ?_;refine QW.body1 rfl rfl ⟨by rw[←am];congr 1;omega,⟨aj.step a9 Ae6,a1,a2,by simp[Bt];omega,.slice p2 (nvs.length+1) q2,nvs++[x],a5,by simpa using al,by simp[Bt,hm],?_⟩,ab⟩;intro y hy;rw[Ab1] at hy;rcases hy with hy | hy
   ·exact⟨(hk y hy).1.fr ab,(hk y hy).2⟩
   ·simp only[Aah] at hy;subst hy;exact⟨hx.fr ab,hxX⟩
theorem GD{α:Type}(p:α→Bool)(d:α):∀(l:List α) (k:Nat),k<l.length→(∀j,j<k→p (l.getD j d)=false)→p (l.getD k d)=true→l.findIdx? p=some k
 | [],k,hk,_,_=>by simp at hk
 | x::r,0,_,_,h=>by
  have h:p x=true:=h
  simp[Ado,h]
 | x::r,k+1,hk,hn,h=>by
  have h0:p x=false:=hn 0 Aeb;have ih:=GD p d r k (by simpa using hk) (λj hj=>hn (j+1) Aeb) h;simp[Ado,h0,ih]
theorem Hx{α:Type}(p:α→Bool)(d:α):∀(l:List α),(∀j,j<l.length→p (l.getD j d)=false)→l.findIdx? p=none
 | [],_=>rfl
 | x::r,hn=>by
  have h0:p x=false:=hn 0 Aej;have ih:=Hx p d r (λj hj=>hn (j+1) Aee);simp[Ado,h0,ih]
def ixZ:Option Nat→Int
 | some i=>i
 | none=>-1
theorem VV(xs:List (List UInt8))(hl:xs.length≤100)(s:List UInt8)(b cap:Nat)(w:World)(hB:Blk w b (xs.map Aq) 9):A9 prog 235 [.slice (some ⟨b,0,none⟩) xs.length cap,Aq s] w
  (λv w'=>v=.int .i64 (ixZ (xs.findIdx? (λx=>decide (x=s))))∧Ah w w'):=by
 refine AG func235 ntmps235 ?_;refine Sa ?_;refine CW.loop (ι:=Nat) (λk w'=>k≤xs.length∧Ah w w'∧∀j,j<k→decide (xs.getD j []=s)=false) (λk=>[(0,.slice (some ⟨b,0,none⟩) xs.length cap),(1,Aq s),(7,.int .i64 xs.length),(8,.int .i64 k)]) (λk=>xs.length - k) 0 ⟨by omega,Chg.refl _ _,by omega⟩ Bl ?_;rintro k w1 ⟨hk,hx,a0⟩;replace hB:=hB.ext hx;refine Sa ?_;refine Av (λh1=>?_) λh1=>?_
 ·have h1:k<xs.length:=by simp at h1;omega
  have hv:(xs.map Aq)[k]?=some (Aq (xs.getD k [])):=by simp[Aav h1]
  refine Sa ?_;refine LW.idx_slice (j:=k) rfl rfl rfl rfl rfl Aeb Aeb Afe rfl ?_;refine LW.load rfl hB hv rfl rfl rfl ?_;refine Sa ?_;refine Av (λh2=>?_) λh2=>?_
  ·have h2:decide (xs.getD k []=s)=true:=by simpa using(by simpa using h2:s=xs.getD k []).symm
   refine Sa ?_;refine QW.body1 rfl rfl ⟨?_,hx⟩;rw[GD (λx=>decide (x=s)) [] xs k h1 a0 h2];rfl
  ·have h2:decide (xs.getD k []=s)=false:=by
    have h2:¬s=xs.getD k []:=by simpa using h2
    simpa using λe=>h2 e.symm
   refine Sa ?_;refine QW.again (k+1) ⟨by omega,hx,λj hj=>?_⟩ Bl Aeb;by_cases e:j=k
   ·subst e;exact h2
   ·exact a0 j Aeb
 ·have h1:k=xs.length:=by simp at h1;omega
  subst h1;refine Sa ?_;refine QW.body1 rfl rfl ⟨?_,hx⟩;rw[Hx (λx=>decide (x=s)) [] xs a0];rfl
theorem NZ(a b:C3)(w:World):A9 prog 241 [.agg ⟨AU a⟩,.agg ⟨AU b⟩] w (λv w'=>v=.bool (Bo a b)∧Ah w w'):=by
 refine AG func241 ntmps241 ?_;refine Sa ?_;refine C0 λA w1 a2 a1 hA=>?_;replace hA:Blk w1 A (AU a) 187:=hA;refine Sa ?_;refine C0 λB w2 a3 a0 hB=>?_;replace hB:Blk w2 B (AU b) 187:=hB;replace hA:=hA.ext a0;have hx:=a1.trans a0;refine Sa ?_;refine B8 (λh1=>?_) λh1=>?_
 ·refine Sa ?_;refine B8 (λh2=>?_) λh2=>?_
  all_goals
   refine Sa ?_;refine QW.body1 rfl rfl ⟨?_,hx⟩;simp[Bo,h1,h2]
 ·refine Sa ?_;refine QW.body1 rfl rfl ⟨?_,hx⟩;simp[Bo,h1]
def POk(c:Bg)(X:List Nat)(m:DY)(s:Bx)(w:World)(v:Value)(w':World):Prop:=
 ∃(s':Bx) (p:Nat),v=.int .i64 (p:Int)∧PE c.T m s (.ok s' p)∧Rd c X w' s'∧Fr w w'∧s.at_<s'.at_∧s'.deep=s.deep∧s.at_+s'.out.length≤s'.at_+s.out.length
def Aag(c:Bg)(m:DY)(s:Bx)(v:Value)(w':World):Prop:=∃e,v=pv e∧PE c.T m s (.err e)∧Ah c.w0 w'
def PC(c:Bg)(f:Nat)(m:DY)(s:Bx):Prop:=∀w X,(∀b∈X,b<w.heap.size)→Rd c X w s→FR prog f [.pointer (some ⟨c.rb,0,none⟩)] w (POk c X m s w) (Aag c m s)
theorem AaP(n:Nat):(AA n).length=(Aw n).length∧(AA n).length≤6:=by
 match n with
 | 0 | 1 | 2 | n+3=>exact⟨rfl,by simp[AA]⟩
theorem TG{α:Type}{p:α→Bool}{l:List α}{i:Nat}(h:l.findIdx? p=some i):i<l.length:=(List.findIdx?_eq_some_iff_findIdx_eq.1 h).1
theorem Rd.len{c:Bg}{X:List Nat}{w:World}{s:Bx}(h:Rd c X w s):s.at_<c.T.length∧s.deep≤12∧s.out.length≤s.at_:=⟨h.2.1,h.2.2.1,h.2.2.2.1⟩
theorem IV{c:Bg}{X:List Nat}(hc:c.Ok)(n fB sb kb:Nat)(s:Bx)(w:World)(hX:∀b∈X,b<w.heap.size)(h:Rd c X w s)(hsb:Blk w sb ((AA n).map Aq) 9)(hkb:Blk w kb (Ad (Aw n)) 3)
  (h1:PC c fB (below n) s) (h2:∀s',s.at_<s'.at_→s'.deep=s.deep→PC c fB (below n) s') :
  FR prog 196 [.pointer (some ⟨c.rb,0,none⟩),.agg ⟨[.func (.func fB) #[.pointer (some ⟨c.rb,0,none⟩)] #[],.slice (some ⟨sb,0,none⟩) (AA n).length (AA n).length,.slice (some ⟨kb,0,none⟩) (Aw n).length (Aw n).length]⟩] w
   (POk c X (.lev n) s w) (Aag c (.lev n) s):=by
 have al:=hc.len;obtain⟨av,aw⟩:=AaP n;refine FR.enter func196 rfl ntmps196 Aec rfl ?_;refine Sa ?_;refine C0 λL w1 ax a9 hL=>?_;replace hsb:=hsb.ext a9;replace hkb:=hkb.ext a9;replace h:=h.ext a9;have ac:=Fr.ext a9;refine Sa ?_;refine LW.callP rfl rfl rfl (h1 w1 X (λb hb=>AbL (hX b hb) a9.size) h) ?_ ?_
 ·rintro v w2 ⟨e,rfl,hp,hx⟩
  (repeat (first | apply QW.then_panic | apply QW.blk_panic))
  exact QW.panicP ⟨e,rfl,.lev_err hp,hx⟩
 rintro v w2 ⟨s1,a,rfl,hp,hr,hf,g1,g2,g3⟩;refine Sa ?_;refine CW.loop (ι:=Bx×Nat) (λk w'=>s.at_<k.1.at_∧k.1.deep=s.deep∧s.at_+k.1.out.length≤k.1.at_+s.out.length∧Rd c X w' k.1∧Fr w1 w'∧∀r,PE c.T (.loop n k.2) k.1 r→PE c.T (.lev n) s r) (λk=>[(0,.pointer (some ⟨c.rb,0,none⟩)),(3,.pointer (some ⟨L,0,none⟩)),(5,.int .i64 (k.2:Int))]) (λk=>c.T.length - k.1.at_) (s1,a)
  ⟨g1,g2,g3,hr,hf,λr hl=>.lev_ok hp hl⟩ Bp ?_
 clear hr hp g1 g2 g3 hf a s1 w2;rintro⟨t,a⟩ w2 ⟨g1,g2,g3,hr,hf,a5⟩;simp only at g1 g2 g3 hr a5;show CW _ _ _ _ _ [(0,.pointer (some ⟨c.rb,0,none⟩)),(3,.pointer (some ⟨L,0,none⟩)),(5,.int .i64 (a:Int))] _;have a6:=hf.blk _ _ _ hL Aef Aef;have a7:=hf.blk _ _ _ hsb Aef Aef;have a4:=hf.blk _ _ _ hkb Aef Aef;obtain⟨q1,q2,q3⟩:=hr.len;obtain⟨r1,r2,r3⟩:=h.len;refine Sa ?_;refine Ap rfl rfl (HA hc hr) ?_;rintro v w3 ⟨rfl,aj⟩;refine Sa ?_;refine B1 λC w4 ay am hC=>?_;refine Sa ?_;refine AF λw5 an hC=>?_;replace hC:Blk w5 C (Bj (Aa c.T t)) 203:=hC;have aa:Ah w2 w5:=(aj.trans am).step an (by simp;have:=aj.size;omega);replace a6:=a6.ext aa;replace a7:=a7.ext aa;replace a4:=a4.ext aa;replace hr:=hr.ext aa;replace hf:=hf.trans (.ext aa);refine Sa ?_;refine Av (λhk=>?_) λhk=>?_
 ·have hk:(Aa c.T t).kind=5:=by simpa using hk
  refine Sa ?_;refine Ap rfl rfl (VV (AA n) Aeb (Aa c.T t).text sb _ _ a7) ?_;rintro v w6 ⟨rfl,ad⟩;replace a6:=a6.ext ad;replace a4:=a4.ext ad;replace hr:=hr.ext ad;replace hf:=hf.trans (.ext ad);have a8:GF c.T t n=(AA n).findIdx? (λx=>decide (x=(Aa c.T t).text)):=by rw[GF,if_pos hk]
  cases hi:(AA n).findIdx? (λx=>decide (x=(Aa c.T t).text)) with
  | none=>
   rw[hi] at a8;simp only[ixZ];refine Sa ?_
   exact QW.bodyP1 rfl rfl ⟨t,a,rfl,a5 _ (.loop_end a8),hr,ac.trans hf,g1,g2,g3⟩
  | some i=>
   rw[hi] at a8;have az:=TG hi;simp only[ixZ];refine Sa ?_;obtain⟨a0,a1,a2,a3,outv,nvs,hB,ho,hm,ab⟩:=hr;have ao:=Dk hc a1 Aeb;have ap:=hB;refine Sa ?_;refine Cu λw7 aq hB=>?_;replace hB:Blk w7 c.rb [c.tokv,.int .i64 (Al t).at_,outv,.int .i64 t.deep] 212:=hB;obtain⟨hr,ae⟩:=Rd.set hc (s:=t) (s':=Al t) a0 ho hm ab ap aq hB rfl ao a2 (by show t.out.length≤t.at_+1;omega);replace hf:=hf.trans ae;replace a6:=ae.blk _ _ _ a6 Aef Aef;replace a4:=ae.blk _ _ _ a4 Aef Aef;refine Sa ?_;refine LW.callP rfl rfl rfl (h2 (Al t) Afb g2 w7 X (λb hb=>AbL (hX b hb) (ac.trans hf).size) hr) ?_ ?_
   ·rintro v w8 ⟨e,rfl,hp,hx⟩
    (repeat (first | apply QW.then_panic | apply QW.blk_panic))
    exact QW.panicP ⟨e,rfl,a5 _ (.loop_err a8 hp),hx⟩
   rintro v w8 ⟨s1,b,rfl,hp,af,ag,k1,k2,k3⟩;have k1':t.at_+1<s1.at_:=k1;have k3':t.at_+1+s1.out.length≤s1.at_+t.out.length:=k3;replace hf:=hf.trans ag;have b0:=(ac.trans hf).size;replace a6:=ag.blk _ _ _ a6 Aef Aef;replace a4:=ag.blk _ _ _ a4 Aef Aef;have ar:(Ad (Aw n))[i]?=some (.int .i64 ((Aw n).getD i 0)):=by simp[Ad,Aav (show i<(Aw n).length by omega)]
   refine Sa ?_;refine LW.idx_slice (j:=i) rfl rfl rfl rfl rfl Aeb Aeb Afe rfl ?_;refine LW.load rfl a4 ar rfl rfl rfl ?_;refine Sa ?_;refine CR λK w9 b1 ak hK=>?_;replace hK:Blk w9 K (Ad [(a:Int),(b:Int)]) 3:=hK;replace af:=af.ext ak;replace hf:=hf.trans (.ext ak);refine Sa ?_;refine LW.call0 (vs:=[.pointer (some ⟨c.rb,0,none⟩),.agg ⟨BO ⟨{kind:=(Aw n).getD i 0,kids:=[(a:Int),(b:Int)]},.slice (some ⟨K,0,none⟩) 2 2⟩⟩]) rfl rfl (MC hc af ⟨{kind:=(Aw n).getD i 0,kids:=[(a:Int),(b:Int)]},.slice (some ⟨K,0,none⟩) 2 2⟩ (.inr ⟨K,2,[],rfl,by rw[AbD];exact hK⟩) (λb hb au=>by
    have h3:=hX b au;simp[Ae] at hb;omega) Aeb) ?_
   rintro v b2 ⟨rfl,ah,ai⟩;refine Sa ?_;refine QW.again (Bt s1 {kind:=(Aw n).getD i 0,kids:=[(a:Int),(b:Int)]},s1.out.length) ⟨by show s.at_<s1.at_;omega,k2.trans g2,by simp[Bt];omega,ah,hf.trans ai,λr hl=>a5 r (.loop_go a8 hp hl)⟩ Bp (by show c.T.length - s1.at_<c.T.length - t.at_;omega)
 ·have hk:(Aa c.T t).kind≠5:=by simpa using hk
  have a8:GF c.T t n=none:=by rw[GF,if_neg hk]
  refine Sa ?_;exact QW.bodyP1 rfl rfl ⟨t,a,rfl,a5 _ (.loop_end a8),hr,ac.trans hf,g1,g2,g3⟩
theorem XI{c:Bg}(hc:c.Ok)(s:Bx)(h1:PC c 197 (below 0) s)(h2:∀s',s.at_<s'.at_→s'.deep=s.deep→PC c 197 (below 0) s') :
  PC c 152 (.lev 0) s:=by
 intro w X hX h;refine FR.enter func152 rfl ntmps152 Aec rfl ?_;refine Sa ?_;refine CR λA w1 a2 a1 hA=>?_;replace hA:Blk w1 A ((AA 0).map Aq) 9:=hA;refine Sa ?_;refine CR λB w2 a3 a0 hB=>?_;replace hB:Blk w2 B (Ad (Aw 0)) 3:=hB;have hx:=a1.trans a0;refine Sa ?_;refine LW.callP0 (vs:=[.pointer (some ⟨c.rb,0,none⟩),.agg ⟨[.func (.func 197) #[.pointer (some ⟨c.rb,0,none⟩)] #[],.slice (some ⟨A,0,none⟩) 6 6,.slice (some ⟨B,0,none⟩) 6 6]⟩]) rfl rfl
  (IV hc 0 197 A B s w2 (λb hb=>AbL (hX b hb) hx.size) (h.ext hx) (hA.ext a0) hB h1 h2) ?_ ?_
 ·rintro v w3 hp
  (repeat (first | apply QW.then_panic | apply QW.blk_panic))
  exact QW.panicP hp
 rintro v w3 ⟨s',p,rfl,hp,hr,hf,g1,g2,g3⟩;refine Sa ?_;exact QW.bodyP1 rfl rfl ⟨s',p,rfl,hp,hr,(Fr.ext hx).trans hf,g1,g2,g3⟩
theorem Zi{c:Bg}(hc:c.Ok)(s:Bx)(h1:PC c 237 (below 1) s)(h2:∀s',s.at_<s'.at_→s'.deep=s.deep→PC c 237 (below 1) s') :
  PC c 197 (.lev 1) s:=by
 intro w X hX h;refine FR.enter func197 rfl ntmps197 Aec rfl ?_;refine Sa ?_;refine CR λA w1 a2 a1 hA=>?_;replace hA:Blk w1 A ((AA 1).map Aq) 9:=hA;refine Sa ?_;refine CR λB w2 a3 a0 hB=>?_;replace hB:Blk w2 B (Ad (Aw 1)) 3:=hB;have hx:=a1.trans a0;refine Sa ?_;refine LW.callP0 (vs:=[.pointer (some ⟨c.rb,0,none⟩),.agg ⟨[.func (.func 237) #[.pointer (some ⟨c.rb,0,none⟩)] #[],.slice (some ⟨A,0,none⟩) 1 1,.slice (some ⟨B,0,none⟩) 1 1]⟩]) rfl rfl
  (IV hc 1 237 A B s w2 (λb hb=>AbL (hX b hb) hx.size) (h.ext hx) (hA.ext a0) hB h1 h2) ?_ ?_
 ·rintro v w3 hp
  (repeat (first | apply QW.then_panic | apply QW.blk_panic))
  exact QW.panicP hp
 rintro v w3 ⟨s',p,rfl,hp,hr,hf,g1,g2,g3⟩;refine Sa ?_;exact QW.bodyP1 rfl rfl ⟨s',p,rfl,hp,hr,(Fr.ext hx).trans hf,g1,g2,g3⟩
theorem ZF{c:Bg}(hc:c.Ok)(s:Bx)(h1:PC c 272 (below 2) s)(h2:∀s',s.at_<s'.at_→s'.deep=s.deep→PC c 272 (below 2) s') :
  PC c 237 (.lev 2) s:=by
 intro w X hX h;refine FR.enter func237 rfl ntmps237 Aec rfl ?_;refine Sa ?_;refine CR λA w1 a2 a1 hA=>?_;replace hA:Blk w1 A ((AA 2).map Aq) 9:=hA;refine Sa ?_;refine CR λB w2 a3 a0 hB=>?_;replace hB:Blk w2 B (Ad (Aw 2)) 3:=hB;have hx:=a1.trans a0;refine Sa ?_;refine LW.callP0 (vs:=[.pointer (some ⟨c.rb,0,none⟩),.agg ⟨[.func (.func 272) #[.pointer (some ⟨c.rb,0,none⟩)] #[],.slice (some ⟨A,0,none⟩) 2 2,.slice (some ⟨B,0,none⟩) 2 2]⟩]) rfl rfl
  (IV hc 2 272 A B s w2 (λb hb=>AbL (hX b hb) hx.size) (h.ext hx) (hA.ext a0) hB h1 h2) ?_ ?_
 ·rintro v w3 hp
  (repeat (first | apply QW.then_panic | apply QW.blk_panic))
  exact QW.panicP hp
 rintro v w3 ⟨s',p,rfl,hp,hr,hf,g1,g2,g3⟩;refine Sa ?_;exact QW.bodyP1 rfl rfl ⟨s',p,rfl,hp,hr,(Fr.ext hx).trans hf,g1,g2,g3⟩
theorem YP{c:Bg}(hc:c.Ok)(s:Bx)(h1:PC c 290 (below 3) s)(h2:∀s',s.at_<s'.at_→s'.deep=s.deep→PC c 290 (below 3) s') :
  PC c 272 (.lev 3) s:=by
 intro w X hX h;refine FR.enter func272 rfl ntmps272 Aec rfl ?_;refine Sa ?_;refine CR λA w1 a2 a1 hA=>?_;replace hA:Blk w1 A ((AA 3).map Aq) 9:=hA;refine Sa ?_;refine CR λB w2 a3 a0 hB=>?_;replace hB:Blk w2 B (Ad (Aw 3)) 3:=hB;have hx:=a1.trans a0;refine Sa ?_;refine LW.callP0 (vs:=[.pointer (some ⟨c.rb,0,none⟩),.agg ⟨[.func (.func 290) #[.pointer (some ⟨c.rb,0,none⟩)] #[],.slice (some ⟨A,0,none⟩) 2 2,.slice (some ⟨B,0,none⟩) 2 2]⟩]) rfl rfl
  (IV hc 3 290 A B s w2 (λb hb=>AbL (hX b hb) hx.size) (h.ext hx) (hA.ext a0) hB h1 h2) ?_ ?_
 ·rintro v w3 hp
  (repeat (first | apply QW.then_panic | apply QW.blk_panic))
  exact QW.panicP hp
 rintro v w3 ⟨s',p,rfl,hp,hr,hf,g1,g2,g3⟩;refine Sa ?_;exact QW.bodyP1 rfl rfl ⟨s',p,rfl,hp,hr,(Fr.ext hx).trans hf,g1,g2,g3⟩
theorem Xh{c:Bg}(hc:c.Ok)(s:Bx)(h1:PC c 303 .prim s)(h2:∀s',s.at_<s'.at_→PC c 290 .unary s') :
  PC c 290 .unary s:=by
 intro w X hX h;have ag:=hc.len;refine FR.enter func290 rfl ntmps290 Aec rfl ?_;refine Sa ?_;refine Ap rfl rfl (HA hc h) ?_;rintro v w1 ⟨rfl,a7⟩;replace h:=h.ext a7;refine Sa ?_;refine B1 λC w2 ao ab hC=>?_;refine Sa ?_;refine AF λw3 ac hC=>?_;replace hC:Blk w3 C (Bj (Aa c.T s)) 203:=hC;have a6:Ah w w3:=(a7.trans ab).step ac (by simp;have:=a7.size;omega);have a8:Ah w1 w3:=ab.step ac Aee;replace h:=h.ext a8;replace hX:∀b∈X,b<w3.heap.size:=λb hb=>AbL (hX b hb) a6.size;refine Sa ?_;refine B8 (λhk=>?_) λhk=>?_
 ·have hk:(Aa c.T s).kind≠5:=by simpa using hk
  have hi:BH c.T s [45]=false:=by simp[BH,hk]
  refine Sa ?_;refine LW.callP0 rfl rfl (h1 w3 X hX h) ?_ ?_
  ·rintro v w4 ⟨e,rfl,hp,a4⟩
   (repeat (first | apply QW.then_panic | apply QW.blk_panic))
   exact QW.panicP ⟨e,rfl,.un_prim hi hp,a4⟩
  rintro v w4 ⟨s',p,rfl,hp,hr,hf,g1,g2,g3⟩;refine Sa ?_;exact QW.bodyP1 rfl rfl ⟨s',p,rfl,.un_prim hi hp,hr,(Fr.ext a6).trans hf,g1,g2,g3⟩
 have hk:(Aa c.T s).kind=5:=by simpa using hk
 refine Sa ?_;refine Av (λht=>?_) λht=>?_
 ·have ht:(Aa c.T s).text≠[45]:=by simpa using ht
  have hi:BH c.T s [45]=false:=by simp[BH,ht]
  refine Sa ?_;refine LW.callP0 rfl rfl (h1 w3 X hX h) ?_ ?_
  ·rintro v w4 ⟨e,rfl,hp,a4⟩
   (repeat (first | apply QW.then_panic | apply QW.blk_panic))
   exact QW.panicP ⟨e,rfl,.un_prim hi hp,a4⟩
  rintro v w4 ⟨s',p,rfl,hp,hr,hf,g1,g2,g3⟩;refine Sa ?_;exact QW.bodyP1 rfl rfl ⟨s',p,rfl,.un_prim hi hp,hr,(Fr.ext a6).trans hf,g1,g2,g3⟩
 have ht:(Aa c.T s).text=[45]:=by simpa using ht
 have hi:BH c.T s [45]=true:=by simp[BH,hk,ht]
 refine Sa ?_;refine LW.callP0 rfl rfl (NL hc h [45]) ?_ ?_
 ·rintro v w4 ⟨a4,⟨rfl,_,hd⟩ | ⟨rfl,hn⟩⟩
  ·(repeat (first | apply QW.then_panic | apply QW.blk_panic))
   exact QW.panicP ⟨6,rfl,.un_deep hi hd,a4⟩
  ·rw[hi] at hn;cases hn
 rintro v w4 ⟨rfl,_,hd,hr,hf⟩;refine Sa ?_;refine LW.callP0 rfl rfl (h2 (Ax (Al s)) Afc w4 X (λb hb=>AbL (hX b hb) hf.size) hr) ?_ ?_
 ·rintro v w5 ⟨e,rfl,hp,ah⟩
  (repeat (first | apply QW.then_panic | apply QW.blk_panic))
  exact QW.panicP ⟨e,rfl,.un_err hi hd hp,ah⟩
 rintro v w5 ⟨s1,a,rfl,hp,ai,ad,g1,g2,g3⟩;have g1':s.at_+1<s1.at_:=g1;have g2':s1.deep=s.deep+1:=g2;have g3':s.at_+1+s1.out.length≤s1.at_+s.out.length:=g3;have hl:=h.len;obtain⟨a0,a1,a2,a3,outv,nvs,hB,ho,hm,a5⟩:=ai;have aj:=hB;refine Sa ?_;refine Cu λw6 ak hB=>?_;have e6:(s1.deep:Int) - 1=(((B3 s1).deep:Nat):Int):=by show(s1.deep:Int) - 1=((s1.deep - 1:Nat):Int);omega
 replace hB:Blk w6 c.rb [c.tokv,.int .i64 s1.at_,outv,.int .i64 ((s1.deep:Int) - 1)] 212:=hB;rw[e6] at hB;obtain⟨a9,ae⟩:=Rd.set hc (s:=s1) (s':=B3 s1) a0 ho hm a5 aj ak hB rfl a1 AeY a3;have aa:=(((Fr.ext a6).trans hf).trans ad).trans ae;have ap:=((hf.trans ad).trans ae).size;refine Sa ?_;refine CR λK w7 aq af hK=>?_;replace hK:Blk w7 K (Ad [(a:Int)]) 3:=hK;replace a9:=a9.ext af;replace aa:=aa.trans (.ext af);refine Sa ?_;refine LW.call0 (vs:=[.pointer (some ⟨c.rb,0,none⟩),.agg ⟨BO ⟨{kind:=8,kids:=[(a:Int)]},.slice (some ⟨K,0,none⟩) 1 1⟩⟩]) rfl rfl (MC hc a9 ⟨{kind:=8,kids:=[(a:Int)]},.slice (some ⟨K,0,none⟩) 1 1⟩ (.inr ⟨K,1,[],rfl,by rw[AbD];exact hK⟩) (λb hb al=>by
  have h3:=hX b al;simp[Ae] at hb;omega) (by show s1.out.length+1≤s1.at_;omega)) ?_
 rintro v w8 ⟨rfl,am,an⟩;refine Sa ?_;exact QW.bodyP1 rfl rfl ⟨Bt (B3 s1) {kind:=8,kids:=[(a:Int)]},s1.out.length,rfl,.un_ok hi hd hp,am,aa.trans an,by show s.at_<s1.at_;omega,by show s1.deep - 1=s.deep;omega,by simp[Bt,B3];omega⟩
theorem Fg{c:Bg}{X:List Nat}(hc:c.Ok){w:World}{s:Bx}(h:Rd c X w s)(n:Aj)(hn:n.kids=[])(hs:s.out.length+1≤s.at_):A9 prog 236 [.pointer (some ⟨c.rb,0,none⟩),.agg ⟨BO ⟨n,.slice none 0 0⟩⟩] w
  (λv w'=>v=.int .i64 s.out.length∧Rd c X w' (Bt s n)∧Fr w w'):=MC hc h ⟨n,.slice none 0 0⟩ (.inl ⟨rfl,hn⟩) AeT hs
theorem ZA{c:Bg}{X:List Nat}(hc:c.Ok)(s:Bx)(a:C3)(w:World)(h:Rd c X w s)(hs:s.out.length+1≤s.at_):FR prog 313 [.pointer (some ⟨c.rb,0,none⟩),.agg ⟨AU a⟩] w
  (λv w'=>v=.int .i64 s.out.length∧Fr w w'∧(BH c.T s [58]=false∧Rd c X w' (Bt s {kind:=5,ref:=a})∨
   BH c.T s [58]=true∧(Aa c.T (Al s)).kind=4∧Bo a (Aa c.T (Al s)).ref=true∧Rd c X w' (Bt (Al (Al s)) {kind:=6,ref:=a,to:=(Aa c.T (Al s)).ref})))
  (λv w'=>v=pv 5∧Ah c.w0 w'∧BH c.T s [58]=true∧((Aa c.T (Al s)).kind≠4∨Bo a (Aa c.T (Al s)).ref=false)):=by
 have aa:=hc.len;refine FR.enter func313 rfl ntmps313 Aec rfl ?_;refine Sa ?_;refine C0 λA w1 am a8 hA=>?_;replace hA:Blk w1 A (AU a) 187:=hA;replace h:=h.ext a8;refine Sa ?_;refine Ap rfl rfl (M9 hc h [58]) ?_;rintro v w2 ⟨rfl,hr,hf⟩;replace hA:=hf.blk _ _ _ hA Aef Aef;replace hf:=(Fr.ext a8).trans hf;refine Sa ?_;refine Av (λh1=>?_) λh1=>?_
 ·have h1:BH c.T s [58]=false:=by simpa using h1
  rw[Mu,h1,if_neg Aej] at hr;refine Sa ?_;refine LW.call0 (vs:=[.pointer (some ⟨c.rb,0,none⟩),.agg ⟨BO ⟨{kind:=5,ref:=a},.slice none 0 0⟩⟩]) rfl rfl (Fg hc hr {kind:=5,ref:=a} rfl hs) ?_;rintro v w3 ⟨rfl,ab,ac⟩;refine Sa ?_;exact QW.bodyP1 rfl rfl ⟨rfl,hf.trans ac,.inl ⟨h1,ab⟩⟩
 have h1:BH c.T s [58]=true:=by simpa using h1
 rw[Mu,if_pos h1] at hr;refine Sa ?_;refine Ap rfl rfl (HA hc hr) ?_;rintro v w3 ⟨rfl,a9⟩;refine Sa ?_;refine B1 λC w4 an ad hC=>?_;refine Sa ?_;refine AF λw5 ae hC=>?_;replace hC:Blk w5 C (Bj (Aa c.T (Al s))) 203:=hC;have a6:Ah w2 w5:=(a9.trans ad).step ae (by simp;have:=a9.size;omega);replace hA:=hA.ext a6;replace hr:=hr.ext a6;replace hf:=hf.trans (.ext a6);refine Sa ?_;refine B8 (λh2=>?_) λh2=>?_
 ·have h2:(Aa c.T (Al s)).kind≠4:=by simpa using h2
  refine Sa ?_;refine LW.callP0 rfl rfl (GO c.rb 5 w5) ?_ (λ_ _ hh=>hh.elim);rintro v w6 ⟨rfl,a4⟩
  (repeat (first | apply QW.then_panic | apply QW.blk_panic))
  exact QW.panicP ⟨rfl,hr.1.trans a4,h1,.inl h2⟩
 have h2:(Aa c.T (Al s)).kind=4:=by simpa using h2
 refine Sa ?_;refine LW.load_agg (cs:=AU (Aa c.T (Al s)).ref) rfl hC rfl rfl rfl ⟨rfl,rfl,rfl,rfl,rfl,trivial⟩ rfl ?_;refine Sa ?_;refine Ap rfl rfl (NZ a (Aa c.T (Al s)).ref w5) ?_;rintro v w6 ⟨rfl,a4⟩;replace hA:=hA.ext a4;replace hC:=hC.ext a4;replace hr:=hr.ext a4;replace hf:=hf.trans (.ext a4);refine Sa ?_;refine Av (λh3=>?_) λh3=>?_
 ·have h3:Bo a (Aa c.T (Al s)).ref=false:=by simpa using h3
  refine Sa ?_;refine LW.callP0 rfl rfl (GO c.rb 5 w6) ?_ (λ_ _ hh=>hh.elim);rintro v w7 ⟨rfl,af⟩
  (repeat (first | apply QW.then_panic | apply QW.blk_panic))
  exact QW.panicP ⟨rfl,hr.1.trans af,h1,.inr h3⟩
 have h3:Bo a (Aa c.T (Al s)).ref=true:=by simpa using h3
 obtain⟨a0,a1,a2,a3,outv,nvs,hB,ho,hm,a5⟩:=hr;have ag:=Dk hc a1 Aeb;have ah:=hB;have a1':s.at_+1<c.T.length:=a1;simp only[Al] at hB;refine Sa ?_;refine Cu λw7 ai hB=>?_;replace hB:Blk w7 c.rb [c.tokv,.int .i64 (Al (Al s)).at_,outv,.int .i64 s.deep] 212:=hB;obtain⟨aj,a7⟩:=Rd.set hc (s:=Al s) (s':=Al (Al s)) a0 ho hm a5 ah ai hB rfl ag a2 (by show s.out.length≤s.at_+1+1;omega);replace hA:=a7.blk _ _ _ hA Aef Aef;replace hC:=a7.blk _ _ _ hC Aef Aef;refine Sa ?_;refine LW.load_agg (cs:=AU (Aa c.T (Al s)).ref) rfl hC rfl rfl rfl ⟨rfl,rfl,rfl,rfl,rfl,trivial⟩ rfl ?_;refine Sa ?_;refine LW.call0 (vs:=[.pointer (some ⟨c.rb,0,none⟩),.agg ⟨BO ⟨{kind:=6,ref:=a,to:=(Aa c.T (Al s)).ref},.slice none 0 0⟩⟩]) rfl rfl (Fg hc aj {kind:=6,ref:=a,to:=(Aa c.T (Al s)).ref} rfl (by show s.out.length+1≤s.at_+1+1;omega)) ?_;rintro v w8 ⟨rfl,ak,al⟩;refine Sa ?_;exact QW.bodyP1 rfl rfl ⟨rfl,(hf.trans a7).trans al,.inr ⟨h1,h2,h3,ak⟩⟩
theorem Own.fr{w w':World}{lo e size n:Nat}{v:Value}{xs:List Value}(h:Own w lo e size v n xs)(f:Fr w w')(h1:e≠212)(h2:e≠189):Own w' lo e size v n xs:=by
 obtain⟨hl,h | ⟨g,cap,sp,rfl,hB,a1,a2,a3⟩⟩:=h
 ·exact⟨hl,.inl h⟩
 ·exact⟨hl,.inr ⟨g,cap,sp,rfl,f.blk _ _ _ hB h1 h2,a1,a2,a3⟩⟩
theorem NM{w:World}{lo:Nat}{kv:Value}{ks:List Int}(h:Own w lo 3 1 kv ks.length (Ad ks)):BW w kv ks:=by
 obtain⟨hl,⟨h1,h2⟩ | ⟨g,cap,sp,rfl,hB,a1,a2,a3⟩⟩:=h
 ·exact .inl ⟨h1,AbA h2⟩
 ·exact .inr ⟨g,cap,sp,rfl,hB⟩
theorem Z7{w:World}{lo:Nat}{kv:Value}{ks:List Int}{a:Nat}(h:Own w lo 3 1 kv (ks.length+1) (Ad ks++[.int .i64 (a:Int)])):Own w lo 3 1 kv (ks++[(a:Int)]).length (Ad (ks++[(a:Int)])):=by
 simpa[Ad] using h
theorem Own.type{w:World}{lo e size n:Nat}{v:Value}{xs:List Value}(h:Own w lo e size v n xs){b:Nat}(hb:b∈Ae v){l:List Value}{T:TypeId}(k:Blk w b l T):T=e:=by
 obtain⟨hl,⟨rfl,_⟩ | ⟨g,cap,sp,rfl,hB,a1,a2,a3⟩⟩:=h
 ·simp[Ae] at hb
 ·simp[Ae] at hb;subst hb;exact k.inj hB
theorem Rd.grow{c:Bg}{X X':List Nat}{w:World}{s:Bx}(h:Rd c X w s)(hX:∀b∈X',b∈X∨w.heap.size≤b):Rd c X' w s:=by
 obtain⟨h0,h1,h2,h3,outv,nvs,hB,ho,hm,hk⟩:=h;refine⟨h0,h1,h2,h3,outv,nvs,hB,ho,hm,λy hy=>⟨(hk y hy).1,λb hb a0=>?_⟩⟩;rcases hX b a0 with hx | hx
 ·exact(hk y hy).2 b hb hx
 ·rcases(hk y hy).1 with ⟨e,_⟩ | ⟨g,cap,sp,e,hg⟩
  ·rw[e] at hb;simp[Ae] at hb
  ·rw[e] at hb;simp[Ae] at hb;have:=hg.lt;omega
theorem Rd.other{c:Bg}{X S:List Nat}{w w':World}{s:Bx}(h:Rd c X w s)(k:Chg S w w')(hS:∀b∈S,c.w0.heap.size≤b∧b∈X∧∀l T,Blk w b l T→T=3):Rd c X w' s:=by
 obtain⟨h0,h1,h2,h3,outv,nvs,hB,ho,hm,hk⟩:=h;refine⟨h0.step k (λb hb=>(hS b hb).1),h1,h2,h3,outv,nvs,hB.chg k (λhb=>absurd ((hS _ hb).2.2 _ _ hB) Aef),ho.chg k (λb hb a0=>?_),hm,λy hy=>⟨?_,(hk y hy).2⟩⟩
 ·obtain⟨_,⟨e,_⟩ | ⟨g,cap,sp,e,hg,_⟩⟩:=ho
  ·rw[e] at hb;simp[Ae] at hb
  ·rw[e] at hb;simp[Ae] at hb;subst hb;exact absurd ((hS _ a0).2.2 _ _ hg) Aef
 ·rcases(hk y hy).1 with e | ⟨g,cap,sp,e,hg⟩
  ·exact .inl e
  ·exact .inr ⟨g,cap,sp,e,hg.chg k (λhb=>(hk y hy).2 g (by rw[e];simp[Ae]) (hS _ hb).2.1)⟩
theorem W8{c:Bg}(hc:c.Ok)(s:Bx)(hk:(Aa c.T s).kind=3)(hE:∀s',s.at_<s'.at_→PC c 152 (.lev 0) s')(w:World)(X:List Nat)(hX:∀b∈X,b<w.heap.size)(h:Rd c X w (Al s))(hs:s.out.length≤s.at_) :
  FR prog 314 [.pointer (some ⟨c.rb,0,none⟩),Aq (Aa c.T s).text] w (POk c X .prim s w) (Aag c .prim s):=by
 have b3:=hc.len;have bg:=h.1.size;refine FR.enter func314 rfl ntmps314 Aec rfl ?_;refine Sa ?_;refine Av (λh1=>?_) λh1=>?_
 ·have h1:(Aa c.T s).text=Dc:=of_decide_eq_true h1;refine Sa ?_;refine LW.call0 (vs:=[.pointer (some ⟨c.rb,0,none⟩),.agg ⟨BO ⟨{kind:=3,num:=1},.slice none 0 0⟩⟩]) rfl rfl (Fg hc h {kind:=3,num:=1} rfl Afd) ?_;rintro v w1 ⟨rfl,hr,hf⟩;refine Sa ?_;exact QW.bodyP1 rfl rfl ⟨_,_,rfl,.pr_true hk h1,hr,hf,by show s.at_<s.at_+1;omega,rfl,by simp[Bt,Al];omega⟩
 have h1:(Aa c.T s).text≠Dc:=of_decide_eq_false h1;refine Sa ?_;refine Av (λh2=>?_) λh2=>?_
 ·have h2:(Aa c.T s).text=CL:=of_decide_eq_true h2;refine Sa ?_;refine LW.call0 (vs:=[.pointer (some ⟨c.rb,0,none⟩),.agg ⟨BO ⟨{kind:=3},.slice none 0 0⟩⟩]) rfl rfl (Fg hc h {kind:=3} rfl Afd) ?_;rintro v w1 ⟨rfl,hr,hf⟩;refine Sa ?_;exact QW.bodyP1 rfl rfl ⟨_,_,rfl,.pr_false hk h2,hr,hf,by show s.at_<s.at_+1;omega,rfl,by simp[Bt,Al];omega⟩
 have h2:(Aa c.T s).text≠CL:=of_decide_eq_false h2;refine Sa ?_;refine LW.callP0 rfl rfl (NL hc h [40]) ?_ ?_
 ·rintro v w1 ⟨ax,⟨rfl,hi,hd⟩ | ⟨rfl,hn⟩⟩
  ·(repeat (first | apply QW.then_panic | apply QW.blk_panic))
   exact QW.panicP ⟨6,rfl,.pr_calldeep hk h1 h2 hi hd,ax⟩
  ·(repeat (first | apply QW.then_panic | apply QW.blk_panic))
   exact QW.panicP ⟨5,rfl,.pr_nocall hk h1 h2 hn,ax⟩
 rintro v w1 ⟨rfl,hi,hd,hr,hf⟩;have hd:s.deep<12:=hd;refine Sa ?_;refine Ap rfl rfl (M9 hc hr [41]) ?_;rintro v w2 ⟨rfl,ad,ay⟩;replace hf:=hf.trans ay;refine Sa ?_;refine Av (λh3=>?_) λh3=>?_;rotate_left
 ·have h3:BH c.T (Ax (Al (Al s))) [41]=true:=by simpa using h3
  rw[Mu,if_pos h3] at ad;obtain⟨a0,a1,a2,a3,outv,nvs,hB,ho,hm,a7⟩:=ad;have ai:=hB;refine Sa ?_;refine Cu λw3 b4 hB=>?_;have e3:((Al (Ax (Al (Al s)))).deep:Int) - 1=((s.deep:Nat):Int):=by show((s.deep+1:Nat):Int) - 1=_;omega
  replace hB:Blk w3 c.rb [c.tokv,.int .i64 (Al (Ax (Al (Al s)))).at_,outv,.int .i64 (((Al (Ax (Al (Al s)))).deep:Int) - 1)] 212:=hB;rw[e3] at hB;obtain⟨a8,ag⟩:=Rd.set hc (s:=Al (Ax (Al (Al s)))) (s':=B3 (Al (Ax (Al (Al s))))) a0 ho hm a7 ai b4 hB rfl a1 (by show s.deep+1 - 1≤12;omega) a3;refine Sa ?_;refine LW.call0 (vs:=[.pointer (some ⟨c.rb,0,none⟩),.agg ⟨BO ⟨{kind:=7,text:=(Aa c.T s).text},.slice none 0 0⟩⟩]) rfl rfl (Fg hc a8 {kind:=7,text:=(Aa c.T s).text} rfl AeU) ?_;rintro v w4 ⟨rfl,b5,b6⟩;refine Sa ?_;exact QW.bodyP1 rfl rfl ⟨_,_,rfl,.pr_call0 hk h1 h2 hi hd h3,b5,(hf.trans ag).trans b6,by show s.at_<s.at_+1+1+1;omega,rfl,by show s.at_+(s.out++[_]).length≤s.at_+1+1+1+s.out.length;simp;omega⟩
 have h3:BH c.T (Ax (Al (Al s))) [41]=false:=by simpa using h3
 rw[Mu,h3,if_neg Aej] at ad;refine Sa ?_;refine LW.callP0 rfl rfl (hE (Ax (Al (Al s))) (by show s.at_<s.at_+1+1;omega) w2 X (λb hb=>AbL (hX b hb) hf.size) ad) ?_ ?_
 ·rintro v w3 ⟨e,rfl,hp,b7⟩
  (repeat (first | apply QW.then_panic | apply QW.blk_panic))
  exact QW.panicP ⟨e,rfl,.pr_call hk h1 h2 hi hd h3 (.ar_err hp),b7⟩
 rintro v w3 ⟨t,a,rfl,hp,a8,ag,g1,g2,g3⟩;have g1:s.at_+1+1<t.at_:=g1;have g2:t.deep=s.deep+1:=g2;have g3:s.at_+1+1+t.out.length≤t.at_+s.out.length:=g3;replace hf:=hf.trans ag;refine Sa ?_;refine CR λA w4 az aj hA=>?_;replace hA:Blk w4 A [.int .i64 (a:Int)] 3:=hA;replace a8:=a8.ext aj;replace hf:=hf.trans (.ext aj);have b8:=hf.size;refine Sa ?_;refine LW.append rfl rfl rfl rfl rfl rfl (Own.nil w4 c.w0.heap.size 3 1) Aeb hA rfl rfl rfl Aef rfl ?_;intro kv w5 ak b0 a6;replace a8:=(a8.grow (X':=Ae kv++X) (λb hb=>by
  rw[Ab1] at hb;rcases hb with hb | hb
  ·rcases a6 b hb with hh | hh
   ·simp[Ae] at hh
   ·exact .inr hh
  ·exact .inl hb)).ext ak
 replace hf:=hf.trans (.ext ak);have b9:=hf.size;refine Sa ?_;refine CW.loop (ι:=Bx×List Int×Value) (λk w'=>s.at_+1+1<k.1.at_∧k.1.deep=s.deep+1∧s.at_+1+1+k.1.out.length≤k.1.at_+s.out.length∧k.2.1.length≤k.1.at_∧Rd c (Ae k.2.2++X) w' k.1∧Fr w w'∧Own w' c.w0.heap.size 3 1 k.2.2 k.2.1.length (Ad k.2.1)∧(∀b∈Ae k.2.2,w.heap.size≤b)∧
   ∃u ks0 a,k.2.1=ks0++[((a:Nat):Int)]∧PE c.T (.lev 0) u (.ok k.1 a)∧∀r,PE c.T (.args (Aa c.T s).text ks0) u r→PE c.T .prim s r) (λk=>[(0,.pointer (some ⟨c.rb,0,none⟩)),(1,Aq (Aa c.T s).text),(5,k.2.2)]) (λk=>c.T.length - k.1.at_) (t,[(a:Int)],kv)
  ⟨g1,g2,g3,by simp;omega,a8,hf,b0,λb hb=>by
   rcases a6 b hb with hh | hh
   ·simp[Ae] at hh
   ·omega,_,[],a,rfl,hp,λr hr=>.pr_call hk h1 h2 hi hd h3 hr⟩ Bp ?_
 clear a8 hp g1 g2 g3 hf b0 a6 ak hA aj az b8 b9 ag ad hr ay;rintro⟨t,ks,kv⟩ w6 ⟨g1,g2,g3,g4,hr,hf,ho,a4,u,ks0,a,al,hp,a5⟩;simp only at g1 g2 g3 g4 hr ho a4 al hp;show CW _ _ _ _ _ [(0,.pointer (some ⟨c.rb,0,none⟩)),(1,Aq (Aa c.T s).text),(5,kv)] _;have bh:=hr.len;have bi:=hf.size;refine Sa ?_;refine Ap rfl rfl (M9 hc hr [44]) ?_;rintro v w7 ⟨rfl,ah,b1⟩;have am:=Own.fr ho b1 Aef Aef;replace hf:=hf.trans b1;have ba:=hf.size;refine Sa ?_;refine Av (λh4=>?_) λh4=>?_
 ·have h4:BH c.T t [44]=true:=h4;rw[Mu,if_pos h4] at ah;refine Sa ?_;refine LW.callP0 rfl rfl (hE (Al t) Afb w7 (Ae kv++X) (λb hb=>by
   rw[Ab1] at hb;rcases hb with hb | hb
   ·exact(am.lt hb).2
   ·exact AbL (hX b hb) ba) ah) ?_ ?_
  ·rintro v w8 ⟨e,rfl,an,ao⟩
   (repeat (first | apply QW.then_panic | apply QW.blk_panic))
   exact QW.panicP ⟨e,rfl,a5 _ (.ar_go hp h4 (.ar_err an)),ao⟩
  rintro v w8 ⟨t',a',rfl,an,ae,af,k1,k2,k3⟩;have k1:t.at_+1<t'.at_:=k1;have k2:t'.deep=t.deep:=k2;have k3:t.at_+1+t'.out.length≤t'.at_+t.out.length:=k3;have ap:=Own.fr am af Aef Aef;replace hf:=hf.trans af;refine Sa ?_;refine CR λA w9 az aq hA=>?_;replace hA:Blk w9 A [.int .i64 (a':Int)] 3:=hA;replace ae:=ae.ext aq;replace hf:=hf.trans (.ext aq);have ac:=ap.ext aq;have bb:=hf.size;refine Sa ?_;refine LW.append rfl rfl rfl rfl rfl rfl ac Aeb hA rfl rfl rfl (by show(ks.length+1)*9≤140737488355328;omega) rfl ?_;intro kv' ar a9 au a6;have aa:Rd c (Ae kv'++X) ar t':=by
   have h5:=ae.grow (X':=Ae kv++(Ae kv'++X)) (λb hb=>by
    simp only[Ab1] at hb ⊢;rcases hb with hb | hb | hb
    ·exact .inl (.inl hb)
    ·rcases a6 b hb with hh | hh
     ·exact .inl (.inl hh)
     ·exact .inr hh
    ·exact .inl (.inr hb))
   have h6:=h5.other a9 (λb hb=>⟨(ac.lt hb).1,Acf _ hb,λl T k=>Own.type ac hb k⟩);exact h6.grow (λb hb=>.inl (Aca _ hb))
  have ab:Fr w ar:=⟨Acd bb a9.size,λb l T hb n1 n2=>(hf.blk b l T hb n1 n2).chg a9 (λhm=>by
   have:=a4 b hm;have:=hb.lt;omega)⟩
  refine Sa ?_;refine QW.again (t',ks++[(a':Int)],kv') ⟨by show s.at_+1+1<t'.at_;omega,k2.trans g2,by show s.at_+1+1+t'.out.length≤t'.at_+s.out.length;omega,by show(ks++[_]).length≤t'.at_;simp;omega,aa,ab,Z7 au,λb hb=>?_,Al t,ks,a',rfl,an,λr hr=>a5 r (.ar_go hp h4 (by rw[←al];exact hr))⟩ Bp (by show c.T.length - t'.at_<c.T.length - t.at_;omega);rcases a6 b hb with hh | hh
  ·exact a4 b hh
  ·omega
 have h4:BH c.T t [44]=false:=h4;rw[Mu,h4,if_neg Aej] at ah;refine Sa ?_;refine LW.callP0 rfl rfl (I0 hc ah [41]) ?_ ?_
 ·rintro v w8 ⟨rfl,hn,ao⟩
  (repeat (first | apply QW.then_panic | apply QW.blk_panic))
  exact QW.panicP ⟨5,rfl,a5 _ (.ar_open hp h4 hn),ao⟩
 rintro v w8 ⟨rfl,h5,ae,af⟩;have ap:=Own.fr am af Aef Aef;replace hf:=hf.trans af;obtain⟨a0,a1,a2,a3,outv,nvs,hB,bc,hm,a7⟩:=ae;have ai:=hB;refine Sa ?_;refine Cu λw9 bd hB=>?_;have e9:(t.deep:Int) - 1=((s.deep:Nat):Int):=Aeb
 replace hB:Blk w9 c.rb [c.tokv,.int .i64 (Al t).at_,outv,.int .i64 ((t.deep:Int) - 1)] 212:=hB;rw[e9] at hB;have av:(B3 (Al t)).deep=s.deep:=by show t.deep - 1=s.deep;omega
 rw[←av] at hB;obtain⟨be,b2⟩:=Rd.set hc (s:=Al t) (s':=B3 (Al t)) a0 bc hm a7 ai bd hB rfl a1 (by rw[av];omega) a3;have ac:=Own.fr ap b2 Aef Aef;replace hf:=hf.trans b2;have aw:Rd c X w9 (B3 (Al t)):=be.grow (λb hb=>.inl (Aca _ hb));obtain⟨kp,kq,rfl⟩:=ac.slice;refine Sa ?_;refine LW.call0 (vs:=[.pointer (some ⟨c.rb,0,none⟩),.agg ⟨BO ⟨{kind:=7,text:=(Aa c.T s).text,kids:=ks},.slice kp ks.length kq⟩⟩]) rfl rfl (MC hc aw ⟨{kind:=7,text:=(Aa c.T s).text,kids:=ks},.slice kp ks.length kq⟩ (NM ac) (λb hb bf=>by
  have:=a4 b hb;have:=hX b bf;omega) (by show t.out.length+1≤t.at_+1;omega)) ?_
 rintro v ar ⟨rfl,aa,ab⟩;refine Sa ?_;refine QW.bodyP1 rfl rfl ⟨Bt (B3 (Al t)) {kind:=7,text:=(Aa c.T s).text,kids:=ks},t.out.length,rfl,a5 _ ?_,aa,hf.trans ab,by show s.at_<t.at_+1;omega,av,by show s.at_+(t.out++[_]).length≤t.at_+1+s.out.length;simp;omega⟩;rw[al];exact .ar_end hp h4 h5
theorem PB{c:Bg}(hc:c.Ok){s:Bx}(h:s.at_<c.T.length):0≤(Aa c.T s).kind∧(Aa c.T s).kind≤6:=by
 have:Aa c.T s=c.T[s.at_]:=by simp[Aa,Aav h]
 rw[this];exact hc.kinds _ (AbY h)
theorem Y0{c:Bg}(hc:c.Ok)(s:Bx)(hE:∀s',s.at_<s'.at_→PC c 152 (.lev 0) s'):PC c 303 .prim s:=by
 intro w X hX h;have ah:=hc.len;have aa:=PB hc h.2.1;refine FR.enter func303 rfl ntmps303 Aec rfl ?_;refine Sa ?_;refine Ap rfl rfl (HA hc h) ?_;rintro v w1 ⟨rfl,ab⟩;replace h:=h.ext ab;refine Sa ?_;refine B1 λC w2 av ae hC=>?_;refine Sa ?_;refine AF λw3 af hC=>?_;replace hC:Blk w3 C (Bj (Aa c.T s)) 203:=hC;have ag:Ah w w3:=(ab.trans ae).step af (by simp;have:=ab.size;omega);have ac:Ah w1 w3:=ae.step af Aee;replace h:=h.ext ac;replace hX:∀b∈X,b<w3.heap.size:=λb hb=>AbL (hX b hb) ag.size;have hf:=Fr.ext ag;have hl:=h.len;refine Sa ?_;refine Av (λh5=>?_) λh5=>?_
 ·have h5:(Aa c.T s).kind=5:=by simpa using h5
  refine Sa ?_;refine LW.callP0 rfl rfl (NL hc h [40]) ?_ ?_
  ·rintro v w4 ⟨a7,⟨rfl,hi,hd⟩ | ⟨rfl,hn⟩⟩
   ·(repeat (first | apply QW.then_panic | apply QW.blk_panic))
    exact QW.panicP ⟨6,rfl,.pr_deep hi hd,a7⟩
   ·(repeat (first | apply QW.then_panic | apply QW.blk_panic))
    exact QW.panicP ⟨5,rfl,.pr_sign h5 (by simpa[BH,h5] using hn),a7⟩
  rintro v w4 ⟨rfl,hi,hd,hr,a6⟩;replace hf:=hf.trans a6;refine Sa ?_;refine LW.callP0 rfl rfl (hE (Ax (Al s)) Afc w4 X (λb hb=>AbL (hX b hb) a6.size) hr) ?_ ?_
  ·rintro v w5 ⟨e,rfl,hp,ad⟩
   (repeat (first | apply QW.then_panic | apply QW.blk_panic))
   exact QW.panicP ⟨e,rfl,.pr_err hi hd hp,ad⟩
  rintro v w5 ⟨s1,a,rfl,hp,ai,a5,g1,g2,g3⟩;have g1':s.at_+1<s1.at_:=g1;have g2':s1.deep=s.deep+1:=g2;have g3':s.at_+1+s1.out.length≤s1.at_+s.out.length:=g3;replace hf:=hf.trans a5;refine Sa ?_;refine LW.callP0 rfl rfl (I0 hc ai [41]) ?_ ?_
  ·rintro v w6 ⟨rfl,hn,aj⟩
   (repeat (first | apply QW.then_panic | apply QW.blk_panic))
   exact QW.panicP ⟨5,rfl,.pr_open hi hd hp hn,aj⟩
  rintro v w6 ⟨rfl,h6,ak,al⟩;replace hf:=hf.trans al;obtain⟨a0,a1,a2,a3,outv,nvs,hB,ho,hm,a4⟩:=ak;have a8:=hB;refine Sa ?_;refine Cu λw7 am hB=>?_;replace hB:Blk w7 c.rb [c.tokv,.int .i64 (Al s1).at_,outv,.int .i64 ((s1.deep:Int) - 1)] 212:=hB;have e7:(s1.deep:Int) - 1=(((B3 (Al s1)).deep:Nat):Int):=by show(s1.deep:Int) - 1=((s1.deep - 1:Nat):Int);omega
  rw[e7] at hB;obtain⟨an,ao⟩:=Rd.set hc (s:=Al s1) (s':=B3 (Al s1)) a0 ho hm a4 a8 am hB rfl a1 AeY a3;refine Sa ?_;exact QW.bodyP1 rfl rfl ⟨B3 (Al s1),a,rfl,.pr_ok hi hd hp h6,an,hf.trans ao,by show s.at_<s1.at_+1;omega,by show s1.deep - 1=s.deep;omega,by show s.at_+s1.out.length≤s1.at_+1+s.out.length;omega⟩
 have h5:(Aa c.T s).kind≠5:=by simpa using h5
 refine Sa ?_;refine Av (λh0=>?_) λh0=>?_
 ·have h0:(Aa c.T s).kind=0:=by simpa using h0
  refine Sa ?_;refine LW.callP0 rfl rfl (GO c.rb 5 w3) ?_ (λ_ _ hh=>hh.elim);rintro v w4 ⟨rfl,a7⟩
  (repeat (first | apply QW.then_panic | apply QW.blk_panic))
  exact QW.panicP ⟨5,rfl,.pr_end h0,h.1.trans a7⟩
 have h0:(Aa c.T s).kind≠0:=by simpa using h0
 obtain⟨a0,a1,a2,a3,outv,nvs,hB,ho,hm,a4⟩:=h;have ap:=Dk hc a1 h0;have a8:=hB;refine Sa ?_;refine Cu λw4 aq hB=>?_;replace hB:Blk w4 c.rb [c.tokv,.int .i64 (Al s).at_,outv,.int .i64 s.deep] 212:=hB;obtain⟨h,a6⟩:=Rd.set hc (s:=s) (s':=Al s) a0 ho hm a4 a8 aq hB rfl ap a2 Aeu;clear a8 hB ho hm a4;replace hf:=hf.trans a6;replace hC:=a6.blk _ _ _ hC Aef Aef;replace hX:∀b∈X,b<w4.heap.size:=λb hb=>AbL (hX b hb) a6.size;have a9:(Al s).out.length+1≤(Al s).at_:=by show s.out.length+1≤s.at_+1;omega
 have q1:s.at_<s.at_+1:=Aeb
 have q3:∀n:Aj,s.at_+(s.out++[n]).length≤s.at_+1+s.out.length:=λn=>by simp;omega
 refine Sa ?_;refine Av (λh1=>?_) λh1=>?_
 ·have h1:(Aa c.T s).kind=1:=by simpa using h1
  refine Sa ?_;refine LW.call0 (vs:=[.pointer (some ⟨c.rb,0,none⟩),.agg ⟨BO ⟨{kind:=1,num:=(Aa c.T s).num},.slice none 0 0⟩⟩]) rfl rfl (Fg hc h {kind:=1,num:=(Aa c.T s).num} rfl a9) ?_;rintro v w5 ⟨rfl,hr,a5⟩;refine Sa ?_;exact QW.bodyP1 rfl rfl ⟨_,_,rfl,.pr_num h1,hr,hf.trans a5,q1,rfl,q3 _⟩
 have h1:(Aa c.T s).kind≠1:=by simpa using h1
 refine Sa ?_;refine Av (λh2=>?_) λh2=>?_
 ·have h2:(Aa c.T s).kind=2:=by simpa using h2
  refine Sa ?_;refine LW.call0 (vs:=[.pointer (some ⟨c.rb,0,none⟩),.agg ⟨BO ⟨{kind:=2,text:=(Aa c.T s).text},.slice none 0 0⟩⟩]) rfl rfl (Fg hc h {kind:=2,text:=(Aa c.T s).text} rfl a9) ?_;rintro v w5 ⟨rfl,hr,a5⟩;refine Sa ?_;exact QW.bodyP1 rfl rfl ⟨_,_,rfl,.pr_text h2,hr,hf.trans a5,q1,rfl,q3 _⟩
 have h2:(Aa c.T s).kind≠2:=by simpa using h2
 refine Sa ?_;refine Av (λh6=>?_) λh6=>?_
 ·have h6:(Aa c.T s).kind=6:=by simpa using h6
  refine Sa ?_;refine LW.call0 (vs:=[.pointer (some ⟨c.rb,0,none⟩),.agg ⟨BO ⟨{kind:=4},.slice none 0 0⟩⟩]) rfl rfl (Fg hc h {kind:=4} rfl a9) ?_;rintro v w5 ⟨rfl,hr,a5⟩;refine Sa ?_;exact QW.bodyP1 rfl rfl ⟨_,_,rfl,.pr_dead h6,hr,hf.trans a5,q1,rfl,q3 _⟩
 have h6:(Aa c.T s).kind≠6:=by simpa using h6
 refine Sa ?_;refine Av (λh4=>?_) λh4=>?_
 ·have h4:(Aa c.T s).kind=4:=by simpa using h4
  refine Sa ?_;refine LW.load_agg (cs:=AU (Aa c.T s).ref) rfl hC rfl rfl rfl ⟨rfl,rfl,rfl,rfl,rfl,trivial⟩ rfl ?_;refine Sa ?_;refine LW.callP0 rfl rfl (ZA hc (Al s) (Aa c.T s).ref w4 h a9) ?_ ?_
  ·rintro v w5 ⟨rfl,ad,hi,hn⟩
   (repeat (first | apply QW.then_panic | apply QW.blk_panic))
   exact QW.panicP ⟨5,rfl,.pr_norange h4 hi hn,ad⟩
  rintro v w5 ⟨rfl,a5,⟨hi,hr⟩ | ⟨hi,ar,au,hr⟩⟩
  ·refine Sa ?_;exact QW.bodyP1 rfl rfl ⟨_,_,rfl,.pr_ref h4 hi,hr,hf.trans a5,q1,rfl,q3 _⟩
  ·refine Sa ?_;exact QW.bodyP1 rfl rfl ⟨_,_,rfl,.pr_range h4 hi ar au,hr,hf.trans a5,by show s.at_<s.at_+1+1+1;omega,rfl,by show s.at_+(s.out++[_]).length≤s.at_+1+1+1+s.out.length;simp;omega⟩
 have h4:(Aa c.T s).kind≠4:=by simpa using h4
 have h3:(Aa c.T s).kind=3:=Aeb
 refine Sa ?_;refine LW.callP0 rfl rfl (W8 hc s h3 hE w4 X hX h a3) ?_ ?_
 ·rintro v w5 hp
  (repeat (first | apply QW.then_panic | apply QW.blk_panic))
  exact QW.panicP hp
 rintro v w5 ⟨s',p,rfl,hp,hr,a5,k1,k2,k3⟩;refine Sa ?_;exact QW.bodyP1 rfl rfl ⟨s',p,rfl,hp,hr,hf.trans a5,k1,k2,k3⟩
theorem Vi{c:Bg}(hc:c.Ok):∀(m:Nat) (s:Bx),c.T.length - s.at_≤m→
  PC c 152 (.lev 0) s∧PC c 197 (.lev 1) s∧PC c 237 (.lev 2) s∧PC c 272 (.lev 3) s∧PC c 290 .unary s∧PC c 303 .prim s
 | 0,s,hm=>by
  have key:∀f m,PC c f m s:=λf m w X hX h=>absurd h.2.1 Aeb
  exact⟨key _ _,key _ _,key _ _,key _ _,key _ _,key _ _⟩
 | m+1,s,hm=>by
  by_cases hs:s.at_<c.T.length
  ·have ih:=λ(s':Bx) (h:s.at_<s'.at_)=>Vi hc m s' Aeb;have hp:=Y0 hc s (λs' h=>(ih s' h).1);have hu:=Xh hc s hp (λs' h=>(ih s' h).2.2.2.2.1);have ht:=YP hc s hu (λs' h _=>(ih s' h).2.2.2.2.1);have hsu:=ZF hc s ht (λs' h _=>(ih s' h).2.2.2.1);have hca:=Zi hc s hsu (λs' h _=>(ih s' h).2.2.1);exact⟨XI hc s hca (λs' h _=>(ih s' h).2.1),hca,hsu,ht,hu,hp⟩
  ·have key:∀f m,PC c f m s:=λf m w X hX h=>absurd h.2.1 hs;exact⟨key _ _,key _ _,key _ _,key _ _,key _ _,key _ _⟩
theorem Ws{l:List UInt8}{t:As}{k:Nat}(h:Ct l=some (t,k)):1≤t.kind∧t.kind≤6:=by
 unfold Ct at h
 split at h
 ·rw[(NJ h).2];decide
 ·split at h
  ·unfold E3 at h
   cases e:AR (l.drop 1) with
   | none=>rw[e] at h;cases h
   | some x=>
    rw[e] at h;simp only[AbG,AaZ,AbJ] at h;rw[←h.1];simp
  ·split at h
   ·unfold Eg at h;simp only at h
    split at h
    ·simp only[AaZ,AbJ] at h;rw[←h.1];simp
    ·split at h
     ·simp only[AaZ,AbJ] at h;rw[←h.1];simp
     ·cases h
   ·unfold Fk at h
    split at h
    ·simp only[AaZ,AbJ] at h;rw[←h.1];simp
    ·cases e:Bf.find? λs=>Lib.hasPrefix l s with
     | none=>rw[e] at h;cases h
     | some x=>
      rw[e] at h;simp only[AbG,AaZ,AbJ] at h;rw[←h.1];simp
theorem JG:∀(n:Nat) (l:List UInt8) (a:Nat) {out:List As},l.length≤n→FY l a=some out→
  out≠[]∧(∀t∈out,0≤t.kind∧t.kind≤6)∧∀i,i<out.length→(out.getD i YQ).kind≠0→i+1<out.length
 | n,l,a,out,hn,h=>by
  cases e:l.drop (Ak FD l).length with
  | nil=>
   rw[Fa e] at h;simp only[AaZ] at h;subst h;refine⟨by simp,by simp,λi hi hk=>?_⟩;simp at hi;subst hi
   simp at hk
  | cons c r=>
   have hl:=congrArg List.length e;simp at hl
   cases ho:Ct (c::r) with
   | none=>rw[FZ e Aej ho] at h;cases h
   | some x=>
    obtain⟨t,k⟩:=x;have hk:=Fe Aej ho;have hkind:=Ws ho;rw[Gz e Aej ho hk] at h
    cases hr:FY ((c::r).drop k) (a+(Ak FD l).length+k) with
    | none=>rw[hr] at h;cases h
    | some y=>
     rw[hr] at h;simp only[AbG,AaZ] at h;subst h
     match n with
     | 0=>omega
     | n+1=>
      have hd:((c::r).drop k).length=r.length+1 - k:=Aej
      obtain⟨y0,y1,y2⟩:=JG n ((c::r).drop k) _ Afz hr;refine⟨by simp,λt' ht'=>?_,λi hi a0=>?_⟩
      ·simp only[Ab0] at ht';rcases ht' with rfl | ht'
       ·exact⟨by show 0≤t.kind;omega,hkind.2⟩
       ·exact y1 t' ht'
      ·have a1:=AbB.2 y0
       cases i with
       | zero=>simp;omega
       | succ i=>
        have:=y2 i AeR AeH
        simpa using this
theorem LR(L E:Nat)(e:Int)(x y:Value)(w:World)(hL:Blk w L [x] 141)(hE:Blk w E [y] 28) :
  CallsD prog 151 ⟨[.pointer (some ⟨L,0,none⟩),.pointer (some ⟨E,0,none⟩)]⟩ (.panicking [{v:=pv e,recovered:=false}]) w
   (λr u w'=>r=.returned (.tuple #[])∧u=.panicking [{v:=pv e,recovered:=true}]∧Blk w' L [.slice none 0 0] 141∧Blk w' E [.int .i64 e] 28∧Chg [L,E] w w'):=by
 have a0:L≠E:=λh=>by subst h;exact absurd (hL.inj hE) Aef
 refine JA (u':=.panicking [{v:=pv e,recovered:=true}]) (v:=pv e) func151 rfl ntmps151 rfl rfl rfl (λc₀ cs hu=>by simp[recoverD,hu]) (λc₀ cs=>?_);refine Sa ?_;refine LW.typeAssert rfl rfl rfl rfl ?_;refine Sa ?_;refine Cu λw1 a1 hL=>?_;replace hE:=hE.chg a1 (by simpa using a0.symm);refine Sa ?_;refine Cu λw2 a2 hE=>?_;replace hL:=hL.chg a2 AeH;refine Sa ?_;exact QW.bodyS results151 ⟨rfl,rfl,hL,hE,(Chg.trans a1 a2).mono Aej⟩
theorem TC(L E:Nat)(w:World) :
  CallsD prog 151 ⟨[.pointer (some ⟨L,0,none⟩),.pointer (some ⟨E,0,none⟩)]⟩ .returning w (λr u w'=>r=.returned (.tuple #[])∧u=.returning∧w'=w):=by
 refine JA (u':=.returning) (v:=.nilIface) func151 rfl ntmps151 rfl rfl rfl (λc₀ cs hu=>by
  have:recoverD (c₀::cs)=none:=by simp[recoverD,hu]
  rw[this];cases c₀;simp_all) (λc₀ cs=>?_)
 refine Sa ?_;exact QW.bodyS results151 ⟨rfl,rfl,rfl⟩
def MK(w:World)(lo:Nat)(sv:Value)(l:List Aj):Prop:=
 ∃nvs:List NV,Own w lo 189 14 sv nvs.length (nvs.flatMap BO)∧nvs.map NV.node=l∧∀x∈nvs,BW w x.kv x.node.kids
abbrev AaJ(w:World)(lo:Nat)(v:Value)(o:Except Int (List Aj)):Prop:=match o with
 | .error e=>v=.tuple #[.slice none 0 0,.int .i64 e]
 | .ok l=>∃sv,v=.tuple #[sv,.int .i64 0]∧MK w lo sv l
def El(s:List UInt8)(v:Value)(w:World)(lo:Nat):Prop:=
 if 300<s.length then v=.tuple #[.slice none 0 0,.int .i64 4]
 else match Ic s with
  | none=>v=.tuple #[.slice none 0 0,.int .i64 5]
  | some T=>∃o,DS T o∧AaJ w lo v o
theorem OJ(s:List UInt8)(hs:s.length≤9223372036854775807)(w:World)(g:Dq w):A9 prog 98 [Aq s] w (λv w'=>El s v w' w.heap.size∧Ah w w'):=by
 have ar:C8 prog 151=true:=by kernel_rfl
 refine A9.enterD func98 rfl ntmps98 Aec rfl ?_;refine Sa ?_;refine B1 λL w1 bc ad hL=>?_;have bd:=hL.lt;refine Sa ?_;refine B1 λE w2 be b1 hE=>?_;replace hL:=hL.ext b1;have a7:L≠E:=Aeb
 have ai:=ad.trans b1;refine Sa ?_;refine Ap rfl rfl (Zb s hs w2 (g.ext ai)) ?_;rintro v w3 ⟨hv,au⟩;replace hL:=hL.ext au;replace hE:=hE.ext au;have ae:=ai.trans au;by_cases a4:300<s.length
 ·rw[Tv,if_pos a4] at hv;subst hv;have aj:∀w',El s (.tuple #[.slice none 0 0,.int .i64 4]) w' w.heap.size:=λw'=>by rw[El,if_pos a4]
  refine Sa ?_;refine Cu λw4 af hE=>?_;replace hL:=hL.chg af AeM;have ab:Ah w w4:=ae.step af AeA;refine Sa ?_;refine CW.drawAny Aec λw5 a8=>?_;replace hL:=hL.ext a8;replace hE:=hE.ext a8;refine AW.two 0 1 Aec rfl rfl rfl rfl ?_ ?_
  ·refine Sa ?_;apply QW.any;refine AW.one 1 Aec rfl rfl ?_;refine Cu λw6 a9 hL=>?_;replace hE:=hE.chg a9 Afa;apply LW.nil;apply QW.any;refine AW.one 2 Aec rfl rfl ?_;refine Cu λw7 aa hE=>?_;replace hL:=hL.chg aa AeM;have ac:Ah w w7:=((ab.trans a8).step a9 Aee).step aa AeA;apply LW.nil;apply QW.any;refine AW.done Aec ?_;refine Sa ?_;refine QW.bodyD0 (rs:=[.cell 2 141,.cell 3 28]) (vs:=[.slice none 0 0,_]) results98 ⟨⟨L,rfl,Bc rfl rfl hL rfl⟩,⟨E,rfl,Bc rfl rfl hE rfl⟩,trivial⟩ rfl ⟨aj w7,ac⟩
  ·refine Cu λw6 a9 hL=>?_;replace hE:=hE.chg a9 Afa;apply LW.nil;apply QW.any;refine AW.one 0 Aec rfl rfl ?_;refine Sa ?_;apply QW.any;refine AW.one 2 Aec rfl rfl ?_;refine Cu λw7 aa hE=>?_;replace hL:=hL.chg aa AeM;have ac:Ah w w7:=((ab.trans a8).step a9 Aee).step aa AeA;apply LW.nil;apply QW.any;refine AW.done Aec ?_;refine Sa ?_;refine QW.bodyD0 (rs:=[.cell 2 141,.cell 3 28]) (vs:=[.slice none 0 0,_]) results98 ⟨⟨L,rfl,Bc rfl rfl hL rfl⟩,⟨E,rfl,Bc rfl rfl hE rfl⟩,trivial⟩ rfl ⟨aj w7,ac⟩
 cases a5:Ic s with
 | none=>
  rw[Tv,if_neg a4,a5] at hv;subst hv;have aj:∀w',El s (.tuple #[.slice none 0 0,.int .i64 5]) w' w.heap.size:=λw'=>by rw[El,if_neg a4,a5]
  refine Sa ?_;refine Cu λw4 af hE=>?_;replace hL:=hL.chg af AeM;have ab:Ah w w4:=ae.step af AeA;refine Sa ?_;refine CW.drawAny Aec λw5 a8=>?_;replace hL:=hL.ext a8;replace hE:=hE.ext a8;refine AW.two 0 1 Aec rfl rfl rfl rfl ?_ ?_
  ·refine Sa ?_;apply QW.any;refine AW.one 1 Aec rfl rfl ?_;refine Cu λw6 a9 hL=>?_;replace hE:=hE.chg a9 Afa;apply LW.nil;apply QW.any;refine AW.one 2 Aec rfl rfl ?_;refine Cu λw7 aa hE=>?_;replace hL:=hL.chg aa AeM;have ac:Ah w w7:=((ab.trans a8).step a9 Aee).step aa AeA;apply LW.nil;apply QW.any;refine AW.done Aec ?_;refine Sa ?_;refine QW.bodyD0 (rs:=[.cell 2 141,.cell 3 28]) (vs:=[.slice none 0 0,_]) results98 ⟨⟨L,rfl,Bc rfl rfl hL rfl⟩,⟨E,rfl,Bc rfl rfl hE rfl⟩,trivial⟩ rfl ⟨aj w7,ac⟩
  ·refine Cu λw6 a9 hL=>?_;replace hE:=hE.chg a9 Afa;apply LW.nil;apply QW.any;refine AW.one 0 Aec rfl rfl ?_;refine Sa ?_;apply QW.any;refine AW.one 2 Aec rfl rfl ?_;refine Cu λw7 aa hE=>?_;replace hL:=hL.chg aa AeM;have ac:Ah w w7:=((ab.trans a8).step a9 Aee).step aa AeA;apply LW.nil;apply QW.any;refine AW.done Aec ?_;refine Sa ?_
   refine QW.bodyD0 (rs:=[.cell 2 141,.cell 3 28]) (vs:=[.slice none 0 0,_]) results98 ⟨⟨L,rfl,Bc rfl rfl hL rfl⟩,⟨E,rfl,Bc rfl rfl hE rfl⟩,trivial⟩ rfl ⟨aj w7,ac⟩
 | some T=>
 rw[Tv,if_neg a4,a5] at hv;obtain⟨sv,rfl,av⟩:=hv;obtain⟨k0,k1,k2⟩:=JG _ s 0 (Ab2 _) a5;have bf:=R4 a5;obtain⟨tb,tcap,tsp,rfl,hT,_⟩:=av.get (AbB.2 k0);have bg:=ae.size;refine Sa ?_;refine Cu λw4 af hE=>?_;have aw:tb≠E:=λh=>by subst h;exact absurd (hT.inj (by assumption:Blk w3 tb [_] 28)) Aef
 replace hL:=hL.chg af AeM;replace hT:=hT.chg af (by simpa using aw);have ab:Ah w w4:=ae.step af AeA;refine Sa ?_;refine LW.defer rfl rfl ?_;refine Sa ?_;have bh:=hL.lt;have bi:=hE.lt;have bj:w.heap.size≤L∧w.heap.size≤E:=by have:=ad.size;omega
 refine C0 λR w5 bk a8 hR=>?_;obtain⟨c,ak⟩:∃c:Bg,c=⟨T,tb,tcap,tsp,R,w4⟩:=⟨_,rfl⟩;have hc:c.Ok:=by
  subst ak;exact⟨hT,by show T.length≤301;omega,k2,k1,by show w4.heap.size≤R;omega⟩
 have ah:c.T=T:=by rw[ak]
 have an:c.rb=R:=by rw[ak]
 have ao:c.w0=w4:=by rw[ak]
 have b2:Rd c [] w5 ⟨0,[],0⟩:=by
  refine⟨by rw[ao];exact a8,by rw[ah];exact AbB.2 k0,by simp,by simp,.slice none 0 0,[],?_,Own.nil _ _ _ _,rfl,by simp⟩;rw[an,Bg.tokv,ak];exact hR
 have ag:=(Vi hc _ ⟨0,[],0⟩ (Ab2 _)).1 w5 [] Aej b2;rw[an] at ag;refine Sa ?_;refine LW.callP0 rfl rfl ag ?_ ?_
 ·rintro v w6 ⟨e,rfl,hp,a6⟩;rw[ao] at a6;have ax:DS T (.error e):=.inl (by rw[←ah];exact hp)
  (repeat (first | apply QW.then_panic | apply QW.blk_panic))
  refine QW.panicD1 (rs:=[.cell 2 141,.cell 3 28]) results98 ar ?_;refine(LR L E _ _ _ _ (hL.ext a6) (hE.ext a6)).mono ?_;rintro e' u w' ⟨rfl,rfl,ay,az,b0⟩;refine⟨rfl,rfl,[.slice none 0 0,_],⟨⟨L,rfl,Bc rfl rfl ay rfl⟩,⟨E,rfl,Bc rfl rfl az rfl⟩,trivial⟩,?_,(ab.trans a6).step b0 Aee⟩;rw[El,if_neg a4,a5];exact⟨_,ax,rfl⟩
 rintro v w6 ⟨s1,p,rfl,hp,hr,hf,_,_,_⟩;have a6:Ah w4 w6:=by have:=hr.1;rwa [ao] at this
 have al:=HA hc hr;rw[an] at al;refine Sa ?_;refine Ap rfl rfl al ?_;rintro v w7 ⟨rfl,ac⟩;replace hr:=hr.ext ac;replace a6:=a6.trans ac;refine Sa ?_;refine LW.field1 (v:=.int .i64 (Aa c.T s1).kind) rfl rfl rfl rfl rfl rfl rfl rfl ?_;refine Sa ?_;refine Av (λhk=>?_) λhk=>?_
 ·have hk:(Aa c.T s1).kind≠0:=by simpa using hk
  have ax:DS T (.error 5):=.inr ⟨rfl,s1,p,by rw[←ah];exact hp,by rw[←ah];exact hk⟩;refine Sa ?_;refine LW.callP0 rfl rfl (GO R 5 w7) ?_ (λ_ _ hh=>hh.elim);rintro v w8 ⟨rfl,b3⟩;replace a6:=a6.trans b3
  (repeat (first | apply QW.then_panic | apply QW.blk_panic))
  refine QW.panicD1 (rs:=[.cell 2 141,.cell 3 28]) results98 ar ?_;refine(LR L E _ _ _ _ (hL.ext a6) (hE.ext a6)).mono ?_;rintro e' u w' ⟨rfl,rfl,ay,az,b0⟩;refine⟨rfl,rfl,[.slice none 0 0,_],⟨⟨L,rfl,Bc rfl rfl ay rfl⟩,⟨E,rfl,Bc rfl rfl az rfl⟩,trivial⟩,?_,(ab.trans a6).step b0 Aee⟩;rw[El,if_neg a4,a5];exact⟨_,ax,rfl⟩
 ·have hk:(Aa c.T s1).kind=0:=by simpa using hk
  obtain⟨a0,a1,a2,a3,outv,nvs,hB,ho,hm,am⟩:=hr;rw[an] at hB;rw[ao] at ho;replace hL:=hL.ext a6;replace hE:=hE.ext a6;obtain⟨q1,q2,rfl⟩:=ho.slice;refine Sa ?_;have b4:∀b,b∈Ae (Value.slice q1 nvs.length q2)→b∉[L]:=λb hb h=>by
   simp only[Aah] at h;subst h;exact absurd (Own.type ho hb hL) Aef
  have b5:∀x∈nvs,BW w7 x.kv x.node.kids:=λx hx=>(am x hx).1;have b6:=hL;refine Cu λw8 ap hL=>?_;have b7:∀b l T',Blk w7 b l T'→T'≠141→Blk w8 b l T':=λb l T' hb h=>hb.chg ap (λhm=>by simp at hm;subst hm;exact h (hb.inj b6));replace hE:=hE.chg ap Afa;replace ho:=ho.chg ap b4;have b8:∀b,b∈Ae (Value.slice q1 nvs.length q2)→b∉[E]:=λb hb h=>by
   simp only[Aah] at h;subst h;exact absurd (Own.type ho hb hE) Aef
  have b9:=hE;refine Sa ?_;refine Cu λw9 aq hE=>?_;have ba:∀b l T',Blk w8 b l T'→T'≠28→Blk w9 b l T':=λb l T' hb h=>hb.chg aq (λhm=>by simp at hm;subst hm;exact h (hb.inj b9));replace hL:=hL.chg aq AeM;replace ho:=ho.chg aq b8;have bb:Ah w w9:=((ab.trans a6).step ap Aee).step aq Aee;refine Sa ?_;refine QW.bodyD1 (rs:=[.cell 2 141,.cell 3 28]) results98 ar ?_;refine(TC L E w9).mono ?_;rintro e u w' ⟨rfl,rfl,rfl⟩;refine⟨rfl,rfl,[.slice q1 nvs.length q2,.int .i64 0],⟨⟨L,rfl,Bc rfl rfl hL rfl⟩,⟨E,rfl,Bc rfl rfl hE rfl⟩,trivial⟩,?_,bb⟩;rw[El,if_neg a4,a5];refine⟨.ok s1.out,⟨s1,p,by rw[←ah];exact hp,by rw[←ah];exact hk,rfl⟩,.slice q1 nvs.length q2,rfl,nvs,?_,hm,λx hx=>?_⟩
  ·exact ho.low (by have:=ab.size;omega)
  ·rcases b5 x hx with h | ⟨b,cap,sp,e1,hb⟩
   ·exact .inl h
   ·exact .inr ⟨b,cap,sp,e1,ba _ _ _ (b7 _ _ _ hb Aef) Aef⟩
def Mn(l:List UInt8):Bool:=decide (∀j,j<l.length→32≤Ab l j)
theorem Sm(s:List UInt8)(hs:s.length≤1000000)(w:World):A9 prog 238 [Aq s] w (λv w'=>v=.bool (Mn s)∧Ah w w'):=by
 refine AG func238 ntmps238 ?_;refine Sa ?_;refine CW.loop (ι:=Nat) (λk w'=>k≤s.length∧Ah w w'∧∀j,j<k→32≤Ab s j) (λk=>[(0,Aq s),(5,.int .i64 s.length),(6,.int .i64 k)]) (λk=>s.length - k) 0 ⟨by omega,Chg.refl _ _,by omega⟩ Bp ?_;rintro k w1 ⟨hk,hx,a0⟩;refine Sa ?_;refine Av (λh1=>?_) λh1=>?_
 ·have h1:k<s.length:=by simp at h1;omega
  refine Sa ?_;refine Av (λh2=>?_) λh2=>?_
  ·have h2:Ab s k<32:=by simpa using h2
   refine Sa ?_;refine QW.body1 rfl rfl ⟨?_,hx⟩;have:Mn s=false:=by
    simp only[Mn,decide_eq_false_iff_not];intro hh;have:=hh k h1;omega
   rw[this]
  ·have h2:¬Ab s k<32:=by simpa using h2
   refine Sa ?_;refine QW.again (k+1) ⟨by omega,hx,λj hj=>?_⟩ Bp Aeb;by_cases e:j=k
   ·subst e;omega
   ·exact a0 j Aeb
 ·have h1:k=s.length:=by simp at h1;omega
  subst h1;refine Sa ?_;refine QW.body1 rfl rfl ⟨?_,hx⟩;have:Mn s=true:=by simp only[Mn,decide_eq_true_eq];exact a0
  rw[this]
def C2(s:List UInt8):Bool:=KL s&&!AV s&&!decide (s=Dc)&&!decide (s=CL)
theorem Oa(s:List UInt8):∃x,F2 s=.tuple #[JR x,.bool (AV s)]:=by
 unfold F2;cases AV s
 ·exact⟨I9,rfl⟩
 ·exact⟨D0 s,rfl⟩
theorem Xg(s:List UInt8)(hs:s.length≤1000)(w:World)(g:Dq w):A9 prog 239 [Aq s] w (λv w'=>v=.bool (C2 s)∧Ah w w'):=by
 refine AG func239 ntmps239 ?_;refine Sa ?_;refine Ap rfl rfl (QP s hs w g) ?_;rintro v w1 ⟨rfl,hx⟩;obtain⟨x,a1⟩:=Oa s;rw[a1];refine Sa ?_;refine B1 λF w2 a5 a2 hF=>?_;have hz:=hx.size;refine Sa ?_;refine AF λw3 a3 hF=>?_;have a4:Ah w w3:=(hx.trans a2).step a3 Aee;refine Sa ?_;refine Ap rfl rfl (Pf s w3 Aeb) ?_;rintro v w4 ⟨rfl,a0⟩;replace a0:=a4.trans a0;refine Sa ?_;refine B8 (λh1=>?_) λh1=>?_
 ·have h1:KL s=true:=h1;refine Sa ?_;refine B8 (λh2=>?_) λh2=>?_
  ·have h2:AV s=false:=by simpa using h2
   refine Sa ?_;refine B8 (λh3=>?_) λh3=>?_
   ·refine Sa ?_;refine QW.body1 rfl rfl ⟨?_,a0⟩;have h3:¬s=Dc:=by simpa[Dc] using h3
    by_cases h4:s=[70,65,76,83,69]<;>simp[C2,h1,h2,h3,CL,h4]
   ·refine Sa ?_;refine QW.body1 rfl rfl ⟨?_,a0⟩;have h3:s=Dc:=by simpa[Dc] using h3
    simp[C2,h3]
  ·have h2:AV s=true:=by simpa using h2
   refine Sa ?_;refine QW.body1 rfl rfl ⟨?_,a0⟩;simp[C2,h2]
 ·have h1:KL s=false:=h1;refine Sa ?_;refine QW.body1 rfl rfl ⟨?_,a0⟩;simp[C2,h1]
def BC(k:Int):Int:=if k<1∨19<k then -2 else if k=7 then -1 else if k=8 then 1 else if 8<k then 2 else 0
theorem Vq(k:Int)(w:World):A9 prog 198 [.int .i64 k] w (λv w'=>v=.int .i64 (BC k)∧Ah w w'):=by
 refine AG func198 ntmps198 ?_;refine Sa ?_;refine B8 (λh1=>?_) λh1=>?_
 ·have h1:k<1:=by simpa using h1
  refine Sa ?_;exact QW.body1 rfl rfl ⟨by rw[BC,if_pos (.inl h1)],Chg.refl _ _⟩
 have h1:¬k<1:=by simpa using h1
 refine Sa ?_;refine Av (λh2=>?_) λh2=>?_
 ·have h2:19<k:=by simpa using h2
  refine Sa ?_;exact QW.body1 rfl rfl ⟨by rw[BC,if_pos (.inr h2)],Chg.refl _ _⟩
 have h2:¬19<k:=by simpa using h2
 have hn:¬(k<1∨19<k):=Aeb
 refine Sa ?_;refine Av (λh3=>?_) λh3=>?_
 ·have h3:k=7:=by simpa using h3
  refine Sa ?_;exact QW.body1 rfl rfl ⟨by rw[BC,if_neg hn,if_pos h3],Chg.refl _ _⟩
 have h3:¬k=7:=by simpa using h3
 refine Sa ?_;refine Av (λh4=>?_) λh4=>?_
 ·have h4:k=8:=by simpa using h4
  refine Sa ?_;exact QW.body1 rfl rfl ⟨by rw[BC,if_neg hn,if_neg h3,if_pos h4],Chg.refl _ _⟩
 have h4:¬k=8:=by simpa using h4
 refine Sa ?_;refine Av (λh5=>?_) λh5=>?_
 ·have h5:8<k:=by simpa using h5
  refine Sa ?_;exact QW.body1 rfl rfl ⟨by rw[BC,if_neg hn,if_neg h3,if_neg h4,if_pos h5],Chg.refl _ _⟩
 ·have h5:¬8<k:=by simpa using h5
  refine Sa ?_;exact QW.body1 rfl rfl ⟨by rw[BC,if_neg hn,if_neg h3,if_neg h4,if_neg h5],Chg.refl _ _⟩
def AP(w:World)(v:Value)(zs:List Int):Prop:=
 zs.length≤9223372036854775806∧(v=.slice none 0 0∧zs=[]∨∃a cap,v=.slice (some a) zs.length cap∧∀i z,zs[i]?=some z→w.cell? (a.add i)=some (.int .i64 z))
theorem AP.ext{w w':World}{v:Value}{zs:List Int}(h:AP w v zs)(x:Ah w w'):AP w' v zs:=by
 obtain⟨h0,h | ⟨a,cap,e,h⟩⟩:=h
 ·exact⟨h0,.inl h⟩
 ·exact⟨h0,.inr ⟨a,cap,e,λi z hz=>A2 x (h i z hz)⟩⟩
theorem AP.slice{w:World}{v:Value}{zs:List Int}(h:AP w v zs):∃p c,v=.slice p zs.length c:=by
 obtain⟨h0,⟨rfl,rfl⟩ | ⟨a,cap,e,h⟩⟩:=h
 ·exact⟨_,_,rfl⟩
 ·exact⟨_,_,e⟩
theorem AP.at{w:World}{p:Option Addr}{c:Nat}{zs:List Int}(h:AP w (.slice p zs.length c) zs){i:Nat}(hi:i<zs.length):∃a,p=some a∧w.cell? (a.add i)=some (.int .i64 (zs.getD i 0)):=by
 obtain⟨h0,⟨e,e2⟩ | ⟨a,cap,e,h⟩⟩:=h
 ·rw[e2] at hi;simp at hi
 ·simp only[Acn] at e;exact⟨a,e.1,h i _ (by simp[Aav hi])⟩
theorem QB{a b:List Int}{k:Nat}(ha:k<a.length)(hb:k<b.length)(h:a.take k=b.take k)(hk:a.getD k 0=b.getD k 0):a.take (k+1)=b.take (k+1):=by
 rw[AbO,AbO,h,Aav ha,Aav hb];simp[Aav ha,Aav hb] at hk;rw[hk]
theorem VI(a b:List Int)(va vb:Value)(w:World)(ha:AP w va a)(hb:AP w vb b):A9 prog 199 [va,vb] w (λv w'=>v=.bool (decide (a=b))∧Ah w w'):=by
 obtain⟨pa,ca,rfl⟩:=ha.slice;obtain⟨pb,cb,rfl⟩:=hb.slice;have a4:=ha.1;have a5:=hb.1;refine AG func199 ntmps199 ?_;refine Sa ?_;refine Av (λh1=>?_) λh1=>?_
 ·have h1:a.length≠b.length:=by simp at h1;omega
  refine Sa ?_;refine QW.body1 rfl rfl ⟨?_,Chg.refl _ _⟩;have:a≠b:=λe=>h1 (by rw[e]);simp[this]
 have h1:a.length=b.length:=by simp at h1;omega
 refine Sa ?_;refine CW.loop (ι:=Nat) (λk w'=>k≤a.length∧Ah w w'∧a.take k=b.take k) (λk=>[(0,.slice pa a.length ca),(1,.slice pb b.length cb),(12,.int .i64 a.length),(13,.int .i64 k)]) (λk=>a.length - k) 0 ⟨by omega,Chg.refl _ _,rfl⟩ Bl ?_;rintro k w1 ⟨hk,hx,a0⟩;replace ha:=ha.ext hx;replace hb:=hb.ext hx;refine Sa ?_;refine Av (λh2=>?_) λh2=>?_
 ·have h2:k<a.length:=by simp at h2;omega
  obtain⟨aa,rfl,a1⟩:=ha.at h2;obtain⟨ab,rfl,a2⟩:=hb.at (show k<b.length by omega);refine Sa ?_;refine Ig ?_;refine Sq ?_;refine QL.yields rfl rfl rfl (λ_ _=>Y.idx_addr rfl rfl rfl rfl rfl Aeb Aeb) ?_;refine QL.yields rfl rfl rfl (λw' hw=>Y.load_cell rfl (by show w'.cell? (aa.add (k*1))=_;rw[AcH];exact A2 hw a1) rfl rfl) ?_;refine Sq ?_;refine QL.yields rfl rfl rfl (λ_ _=>Y.idx_addr rfl rfl rfl rfl rfl Aeb Aeb) ?_;refine QL.yields rfl rfl rfl (λw' hw=>Y.load_cell rfl (by show w'.cell? (ab.add (k*1))=_;rw[AcH];exact A2 hw a2) rfl rfl) ?_;refine Sq ?_;refine QL.nil λw2 a3=>?_;replace hx:=hx.trans a3;refine Sa ?_;refine Av (λh3=>?_) λh3=>?_
  ·have h3:a.getD k 0≠b.getD k 0:=by simpa using h3
   refine Sa ?_;refine QW.body1 rfl rfl ⟨?_,hx⟩;have:a≠b:=λe=>h3 (by rw[e]);simp[this]
  ·have h3:a.getD k 0=b.getD k 0:=by simpa using h3
   refine Sa ?_;exact QW.again (k+1) ⟨by omega,hx,QB h2 Aeb a0 h3⟩ Bl Aeb
 ·have h2:k=a.length:=by simp at h2;omega
  subst h2;refine Sa ?_;refine QW.body1 rfl rfl ⟨?_,hx⟩;have:a=b:=by rwa [AbQ,h1,AbQ] at a0
  simp[this]
def F9(n:Aj):Bool:=
 if n.kind=1 then decide (0≤n.num) else if n.kind=3 then decide (n.num=0)||decide (n.num=1) else if n.kind=2 then Mn n.text else if n.kind=7 then C2 n.text
 else if n.kind=5 then AZ n.ref else if n.kind=6 then AZ n.ref&&(AZ n.to&&Bo n.ref n.to) else true
def A7(n:Aj):Aj:=
 if n.kind=1 then {n with num:=0} else if n.kind=3 then {n with num:=0} else if n.kind=2 then {n with text:=[]} else if n.kind=7 then {n with text:=[]}
 else if n.kind=5 then {n with ref:=A4} else if n.kind=6 then {n with ref:=A4,to:=A4} else n
def Au(n:Aj):Bool:=F9 n&&(decide ((A7 n).num=0)&&(decide ((A7 n).text=[])&&(decide ((A7 n).ref=A4)&&decide ((A7 n).to=A4))))
theorem W0(n:Aj)(p:Option Addr)(k c:Nat)(w:World)(g:Dq w)(ht:n.text.length≤1000)(hr:n.ref.sheet.length≤9223372036854775807)(hto:n.to.sheet.length≤9223372036854775807):A9 prog 200 [.agg ⟨BO ⟨n,.slice p k c⟩⟩] w (λv w'=>v=.bool (Au n)∧Ah w w'):=by
 refine AG func200 ntmps200 ?_;apply CW.seq;apply CW.region;refine Sl ?_;refine C0 λA w1 ad a6 hA=>?_;replace hA:Blk w1 A (BO ⟨n,.slice p k c⟩) 189:=hA;refine Sl ?_;apply LW.nil;apply QW.then_n;apply CW.seq;apply CW.region;refine Sl ?_;refine B1 λC w2 ae a7 hC=>?_;have af:=a6.size;have a3:A≠C:=by have:=hA.lt;omega
 replace hA:=hA.ext a7;refine Sl ?_;refine AF λw3 a8 hC=>?_;replace hC:Blk w3 C (BO ⟨n,.slice p k c⟩) 189:=hC;replace hA:=hA.chg a8 AeC;have hx:Ah w w3:=(a6.trans a7).step a8 Aee;apply LW.nil;apply QW.then_n;apply CW.seq;apply CW.region;refine Sl ?_;apply LW.nil;apply QW.then_n;have a2:w.heap.size≤C:=Aeb
 refine CW.seq_cut (ι:=Unit) (λ_ w'=>Ah w w'∧Blk w' C (BO ⟨A7 n,.slice p k c⟩) 189) (λ_=>[(3,.pointer (some ⟨C,0,none⟩)),(4,.bool (F9 n))]) ?_ ?_
 ·refine Sa ?_;refine Av (λh1=>?_) λh1=>?_
  ·have h1:n.kind=1:=by simpa using h1
   have hb:A7 n={n with num:=0}:=by simp[A7,h1]
   have ho:F9 n=decide (0≤n.num):=by simp[F9,h1]
   refine CW.drawHeld (λw'=>Blk w' A (BO ⟨n,.slice p k c⟩) 189) (λw' h=>hA.ext h) Aec λw4 a0=>?_;refine HW.take 0 rfl rfl rfl rfl (λw _=>Y.pure rfl) rfl Aec Aec Aec (λ_ _ _ h=>h) ?_;refine HW.take 1 rfl rfl rfl rfl (λw hw=>Y.load rfl hw rfl rfl rfl) rfl Aec Aec Aec (λ_ _ _ h=>h) ?_;refine HW.take 2 rfl rfl rfl rfl (λw _=>Y.pure rfl) rfl Aec Aec Aec (λ_ _ _ h=>h) ?_;refine HW.take 3 rfl rfl rfl rfl (λw _=>Y.pure rfl) rfl Aec Aec Aec (λ_ _ _ h=>h) ?_;replace hC:=hC.ext a0;refine HW.one 4 Aec rfl rfl (λhS=>?_);refine Cu λw5 a1 hC=>?_;apply LW.nil;refine QW.held (hS.chg a1 AeC) ?_;refine HW.one 5 Aec rfl rfl (λhS=>?_);refine Sl ?_;apply LW.nil;refine QW.held hS ?_;refine HW.done Aec ?_;refine Sa ?_;exact QW.head () ⟨(hx.trans a0).step a1 Ae3,by rw[hb];exact hC⟩ (An.cons rfl (An.cons (by rw[ho];rfl) An.nil))
  have h1:n.kind≠1:=by simpa using h1
  refine Sa ?_;refine Av (λh3=>?_) λh3=>?_
  ·have h3:n.kind=3:=by simpa using h3
   have hb:A7 n={n with num:=0}:=by simp[A7,h3]
   have ho:F9 n=(decide (n.num=0)||decide (n.num=1)):=by simp[F9,h3]
   refine CW.drawHeld (λw'=>Blk w' A (BO ⟨n,.slice p k c⟩) 189) (λw' h=>hA.ext h) Aec λw4 a0=>?_;replace hC:=hC.ext a0;refine HW.take 0 rfl rfl rfl rfl (λw _=>Y.pure rfl) rfl Aec Aec Aec (λ_ _ _ h=>h) ?_;refine HW.take 1 rfl rfl rfl rfl (λw hw=>Y.load rfl hw rfl rfl rfl) rfl Aec Aec Aec (λ_ _ _ h=>h) ?_;refine HW.take 2 rfl rfl rfl rfl (λw _=>Y.pure rfl) rfl Aec Aec Aec (λ_ _ _ h=>h) ?_;refine HW.take 3 rfl rfl rfl rfl (λw _=>Y.pure rfl) rfl Aec Aec Aec (λ_ _ _ h=>h) ?_;by_cases hz:n.num=0
   ·refine HW.know (t:=19) (c:=true) rfl (by simpa using hz) ?_;refine HW.skip 4 rfl rfl rfl rfl rfl rfl rfl rfl Aec Aec Aec (λ_ _ _ h=>h) ?_;refine HW.skip 5 rfl rfl rfl rfl rfl rfl rfl rfl Aec Aec Aec (λ_ _ _ h=>h) ?_;refine HW.skip 6 rfl rfl rfl rfl rfl rfl rfl rfl Aec Aec Aec (λ_ _ _ h=>h) ?_;refine HW.take 7 rfl rfl rfl rfl (λw _=>Y.pure rfl) rfl Aec Aec Aec (λ_ _ _ h=>h) ?_;refine HW.take 8 rfl rfl rfl rfl (λw _=>Y.pure rfl) rfl Aec Aec Aec (λ_ _ _ h=>h) ?_;refine HW.one 9 Aec rfl rfl (λhS=>?_);refine Cu λw5 a1 hC=>?_;apply LW.nil;refine QW.held (hS.chg a1 AeC) ?_;refine HW.one 10 Aec rfl rfl (λhS=>?_);refine Sl ?_;apply LW.nil;refine QW.held hS ?_;refine HW.done Aec ?_;refine Sa ?_;exact QW.head () ⟨(hx.trans a0).step a1 Ae3,by rw[hb];exact hC⟩ (An.cons rfl (An.cons (by rw[ho,hz];rfl) An.nil))
   ·refine HW.know (t:=19) (c:=false) rfl (by simpa using hz) ?_;refine HW.takeW 4 rfl rfl rfl rfl (λw _=>Y.pure rfl) rfl Aec Aec Aec (λ_ _ _ h=>h) ?_;refine HW.takeW 5 rfl rfl rfl rfl (λw hw=>Y.load rfl hw rfl rfl rfl) rfl Aec Aec Aec (λ_ _ _ h=>h) ?_;refine HW.takeW 6 rfl rfl rfl rfl (λw _=>Y.pure rfl) rfl Aec Aec Aec (λ_ _ _ h=>h) ?_;refine HW.take 7 rfl rfl rfl rfl (λw _=>Y.pure rfl) rfl Aec Aec Aec (λ_ _ _ h=>h) ?_;refine HW.take 8 rfl rfl rfl rfl (λw _=>Y.pure rfl) rfl Aec Aec Aec (λ_ _ _ h=>h) ?_;refine HW.one 9 Aec rfl rfl (λhS=>?_);refine Cu λw5 a1 hC=>?_;apply LW.nil;refine QW.held (hS.chg a1 AeC) ?_;refine HW.one 10 Aec rfl rfl (λhS=>?_);refine Sl ?_;apply LW.nil;refine QW.held hS ?_;refine HW.done Aec ?_;refine Sa ?_;exact QW.head () ⟨(hx.trans a0).step a1 Ae3,by rw[hb];exact hC⟩ (An.cons rfl (An.cons (by rw[ho];simp[hz];rfl) An.nil))
  have h3:n.kind≠3:=by simpa using h3
  refine Sa ?_;refine Av (λh2=>?_) λh2=>?_
  ·have h2:n.kind=2:=by simpa using h2
   have hb:A7 n={n with text:=[]}:=by simp[A7,h2]
   have ho:F9 n=Mn n.text:=by simp[F9,h2]
   refine Sa ?_;refine Ap rfl rfl (Sm n.text Aeb w3) ?_;rintro v w4 ⟨rfl,a0⟩;replace hC:=hC.ext a0;refine Sa ?_;refine Cu λw5 a1 hC=>?_;refine Sa ?_;exact QW.head () ⟨(hx.trans a0).step a1 Ae3,by rw[hb];exact hC⟩ (An.cons rfl (An.cons (by rw[ho];rfl) An.nil))
  have h2:n.kind≠2:=by simpa using h2
  refine Sa ?_;refine Av (λh7=>?_) λh7=>?_
  ·have h7:n.kind=7:=by simpa using h7
   have hb:A7 n={n with text:=[]}:=by simp[A7,h7]
   have ho:F9 n=C2 n.text:=by simp[F9,h7]
   refine Sa ?_;refine Ap rfl rfl (Xg n.text ht w3 (g.ext hx)) ?_;rintro v w4 ⟨rfl,a0⟩;replace hC:=hC.ext a0;refine Sa ?_;refine Cu λw5 a1 hC=>?_;refine Sa ?_;exact QW.head () ⟨(hx.trans a0).step a1 Ae3,by rw[hb];exact hC⟩ (An.cons rfl (An.cons (by rw[ho];rfl) An.nil))
  have h7:n.kind≠7:=by simpa using h7
  refine Sa ?_;refine Av (λh5=>?_) λh5=>?_
  ·have h5:n.kind=5:=by simpa using h5
   have hb:A7 n={n with ref:=A4}:=by simp[A7,h5]
   have ho:F9 n=AZ n.ref:=by simp[F9,h5]
   refine Sa ?_;refine LW.load_agg (cs:=AU n.ref) rfl hA rfl rfl rfl ⟨rfl,rfl,rfl,rfl,rfl,trivial⟩ rfl ?_;refine Sa ?_;refine LW.call0 (vs:=[JR n.ref]) rfl rfl (Mw n.ref Aeb w3) ?_;rintro v w4 ⟨rfl,a0⟩;replace hC:=hC.ext a0;refine Sa ?_;refine LW.store_agg (cs:=AU A4) rfl rfl rfl hC (Ab8 rfl) rfl rfl λw5 a1 hC=>?_;refine Sa ?_;exact QW.head () ⟨(hx.trans a0).step a1 Ae3,by rw[hb];exact hC⟩ (An.cons rfl (An.cons (by rw[ho];rfl) An.nil))
  have h5:n.kind≠5:=by simpa using h5
  refine Sa ?_;refine Av (λh6=>?_) λh6=>?_
  ·have h6:n.kind=6:=by simpa using h6
   have hb:A7 n={n with ref:=A4,to:=A4}:=by simp[A7,h6]
   have ho:F9 n=(AZ n.ref&&(AZ n.to&&Bo n.ref n.to)):=by simp[F9,h6]
   refine Sa ?_;refine LW.store_agg (cs:=AU A4) rfl rfl rfl hC (Ab8 rfl) rfl rfl λw4 a9 hC=>?_;replace hA:=hA.chg a9 AeC;refine Sa ?_;refine LW.store_agg (cs:=AU A4) rfl rfl rfl hC (Ab8 rfl) rfl rfl λw5 a1 hC=>?_;replace hA:=hA.chg a1 AeC;replace hC:Blk w5 C (BO ⟨{n with ref:=A4,to:=A4},.slice p k c⟩) 189:=hC;have ac:Ah w w5:=(hx.step a9 Ae3).step a1 Ae3;refine Sa ?_;refine LW.load_agg (cs:=AU n.ref) rfl hA rfl rfl rfl ⟨rfl,rfl,rfl,rfl,rfl,trivial⟩ rfl ?_;refine Sa ?_;refine LW.call0 (vs:=[JR n.ref]) rfl rfl (Mw n.ref Aeb w5) ?_;rintro v w6 ⟨rfl,a4⟩;replace hA:=hA.ext a4;replace hC:=hC.ext a4;replace a4:=ac.trans a4;refine Sa ?_;refine B8 (λk1=>?_) λk1=>?_
   ·have k1:AZ n.ref=true:=k1;refine Sa ?_;refine LW.load_agg (cs:=AU n.to) rfl hA rfl rfl rfl ⟨rfl,rfl,rfl,rfl,rfl,trivial⟩ rfl ?_;refine Sa ?_;refine LW.call0 (vs:=[JR n.to]) rfl rfl (Mw n.to Aeb w6) ?_;rintro v w7 ⟨rfl,a5⟩;replace hA:=hA.ext a5;replace hC:=hC.ext a5;replace a5:=a4.trans a5;refine Sa ?_;refine B8 (λk2=>?_) λk2=>?_
    ·have k2:AZ n.to=true:=k2;refine Sa ?_;refine LW.load_agg (cs:=AU n.ref) rfl hA rfl rfl rfl ⟨rfl,rfl,rfl,rfl,rfl,trivial⟩ rfl ?_;refine Sa ?_;refine LW.load_agg (cs:=AU n.to) rfl hA rfl rfl rfl ⟨rfl,rfl,rfl,rfl,rfl,trivial⟩ rfl ?_;refine Sa ?_;refine Ap rfl rfl (NZ n.ref n.to w7) ?_;rintro v w8 ⟨rfl,aa⟩;replace hC:=hC.ext aa;refine Sa ?_;exact QW.head () ⟨a5.trans aa,by rw[hb];exact hC⟩ (An.cons rfl (An.cons (by rw[ho,k1,k2];rfl) An.nil))
    ·have k2:AZ n.to=false:=k2;refine Sa ?_;exact QW.head () ⟨a5,by rw[hb];exact hC⟩ (An.cons rfl (An.cons (by rw[ho,k1,k2];rfl) An.nil))
   ·have k1:AZ n.ref=false:=k1;refine Sa ?_;exact QW.head () ⟨a4,by rw[hb];exact hC⟩ (An.cons rfl (An.cons (by rw[ho,k1];rfl) An.nil))
  have h6:n.kind≠6:=by simpa using h6
  have hb:A7 n=n:=by simp[A7,h1,h2,h3,h5,h6,h7]
  have ho:F9 n=true:=by simp[F9,h1,h2,h3,h5,h6,h7]
  refine Sa ?_;exact QW.head () ⟨hx,by rw[hb];exact hC⟩ (An.cons rfl (An.cons (by rw[ho];rfl) An.nil))
 rintro _ w4 ⟨a0,ab⟩;clear hA hC;refine Sa ?_;refine B8 (λq1=>?_) λq1=>?_
 ·have q1:F9 n=true:=q1;refine Sa ?_;refine B8 (λq2=>?_) λq2=>?_
  ·have q2:(A7 n).num=0:=by simpa using q2
   refine Sa ?_;refine B8 (λq3=>?_) λq3=>?_
   ·have q3:(A7 n).text=[]:=by simpa using q3
    refine Sa ?_;refine LW.load_agg (cs:=AU (A7 n).ref) rfl ab rfl rfl rfl ⟨rfl,rfl,rfl,rfl,rfl,trivial⟩ rfl ?_;refine Sa ?_;refine LW.eql_agg (ys:=AU A4) rfl rfl Nc (λw'=>PS (A7 n).ref A4 9998 w') rfl ?_;refine Sa ?_;refine B8 (λq4=>?_) λq4=>?_
    ·have q4:(A7 n).ref=A4:=by simpa using q4
     refine Sa ?_;refine LW.load_agg (cs:=AU (A7 n).to) rfl ab rfl rfl rfl ⟨rfl,rfl,rfl,rfl,rfl,trivial⟩ rfl ?_;refine Sa ?_;refine LW.eql_agg (ys:=AU A4) rfl rfl Nc (λw'=>PS (A7 n).to A4 9998 w') rfl ?_;refine Sa ?_;refine QW.body1 rfl rfl ⟨?_,a0⟩;simp[Au,q1,q2,q3,q4]
    ·have q4:¬(A7 n).ref=A4:=by simpa using q4
     refine Sa ?_;refine QW.body1 rfl rfl ⟨?_,a0⟩;simp[Au,q4]
   ·have q3:¬(A7 n).text=[]:=by simpa using q3
    refine Sa ?_;refine QW.body1 rfl rfl ⟨?_,a0⟩;simp[Au,q3]
  ·have q2:¬(A7 n).num=0:=by simpa using q2
   refine Sa ?_;refine QW.body1 rfl rfl ⟨?_,a0⟩;simp[Au,q2]
 ·have q1:F9 n=false:=q1;refine Sa ?_;refine QW.body1 rfl rfl ⟨?_,a0⟩;simp[Au,q1]
def Cv(w:World)(v:Value)(l:List Aj):Prop:=
 l.length≤100000∧(v=.slice none 0 0∧l=[]∨∃a cap,v=.slice (some a) l.length cap∧∀i nd,l[i]?=some nd→∃kv,AP w kv nd.kids∧∀j u,(BO ⟨nd,kv⟩)[j]?=some u→w.cell? ((a.add (i*14)).add j)=some u)
theorem Cv.ext{w w':World}{v:Value}{l:List Aj}(h:Cv w v l)(x:Ah w w'):Cv w' v l:=by
 obtain⟨h0,h | ⟨a,cap,e,h⟩⟩:=h
 ·exact⟨h0,.inl h⟩
 ·exact⟨h0,.inr ⟨a,cap,e,λi nd hi=>let ⟨kv,hk,hc⟩:=h i nd hi;⟨kv,hk.ext x,λj u hj=>A2 x (hc j u hj)⟩⟩⟩
theorem Cv.slice{w:World}{v:Value}{l:List Aj}(h:Cv w v l):∃p c,v=.slice p l.length c:=by
 obtain⟨h0,⟨rfl,rfl⟩ | ⟨a,cap,e,h⟩⟩:=h
 ·exact⟨_,_,rfl⟩
 ·exact⟨_,_,e⟩
theorem Cv.at{w:World}{p:Option Addr}{c:Nat}{l:List Aj}(h:Cv w (.slice p l.length c) l){i:Nat}{nd:Aj}(hi:l[i]?=some nd) :
  ∃a kp kc,p=some a∧AP w (.slice kp nd.kids.length kc) nd.kids∧∀j u,(BO ⟨nd,.slice kp nd.kids.length kc⟩)[j]?=some u→w.cell? ((a.add (i*14)).add j)=some u:=by
 obtain⟨h0,⟨e,e2⟩ | ⟨a,cap,e,h⟩⟩:=h
 ·rw[e2] at hi;simp at hi
 ·simp only[Acn] at e;obtain⟨kv,hk,hc⟩:=h i nd hi;obtain⟨kp,kc,rfl⟩:=hk.slice;exact⟨a,kp,kc,e.1,hk,hc⟩
theorem AC(l:List Int):(Ad l).length=l.length:=by simp[Ad]
theorem H1{l:List Int}{i:Nat}{z:Int}(h:l[i]?=some z):(Ad l)[i]?=some (.int .i64 z):=by simp[Ad,h]
theorem Own.from_{w:World}{lo n c:Nat}{p:Option Addr}{zs:List Int}(h:Own w lo 3 1 (.slice p n c) n (Ad zs))(hb:zs.length≤100000){i:Nat}(hi:i≤n):AP w (.slice (if c=i then p else p.map (·.add (i*1))) (n - i) (c - i)) (zs.drop i):=by
 obtain⟨hl,⟨e,hn⟩ | ⟨g,cap,sp,e,hB,h1,h2,h3⟩⟩:=h
 ·simp only[Acn] at e;obtain⟨rfl,e2,rfl⟩:=e;subst hn;have:i=0:=Aeb
  subst this;have:zs=[]:=by simpa[Ad] using hl
  subst this;exact⟨by simp,.inl ⟨by simp,rfl⟩⟩
 ·simp only[Acn] at e;obtain⟨rfl,_,rfl⟩:=e;rw[AC] at hl;have a0:zs.length=n:=Aeb
  refine⟨by simp;omega,.inr ⟨if c=i then⟨g,0,none⟩ else(⟨g,0,none⟩:Addr).add (i*1),c - i,?_,λj z hz=>?_⟩⟩
  ·rw[AcI,a0]
   split<;>rfl
  ·rw[AcB] at hz;have hj:i+j<zs.length:=by
    rcases AbW (i+j) zs.length with h | h
    ·exact h
    ·rw[AbE h] at hz;cases hz
   have a1:c≠i:=Aeb
   rw[if_neg a1,Addr.add_add];refine hB.getElem _ _ ?_;rw[Ab6 (by rw[AC];omega),AcH];exact H1 hz
theorem Own.cells{w:World}{lo n c:Nat}{p:Option Addr}{zs:List Int}(h:Own w lo 3 1 (.slice p n c) n (Ad zs)){i:Nat}(hi:i≤n):p=none∧i=0∨∃a,p=some a∧∀j u,(Ad (zs.take i))[j]?=some u→w.cell? (a.add j)=some u:=by
 obtain⟨hl,⟨e,hn⟩ | ⟨g,cap,sp,e,hB,h1,h2,h3⟩⟩:=h
 ·simp only[Acn] at e;exact .inl ⟨e.1,by omega⟩
 ·simp only[Acn] at e;refine .inr ⟨_,e.1,λj u hu=>hB.getElem _ _ ?_⟩;have e1:Ad (zs.take i)=(Ad zs).take i:=by simp[Ad,List.map_take]
  rw[e1] at hu;have hj:j<i:=by
   rcases AbW j i with h | h
   ·exact h
   ·rw[List.getElem?_take_eq_none h] at hu;cases hu
  rw[AdO hj] at hu;have a0:j<(Ad zs).length:=by
   rcases AbW j (Ad zs).length with h | h
   ·exact h
   ·rw[AbE h] at hu;cases hu
  rw[Ab6 a0];exact hu
theorem Own.cap_{w:World}{lo n c:Nat}{p:Option Addr}{zs:List Value}(h:Own w lo 3 1 (.slice p n c) n zs):n≤c:=by
 obtain⟨hl,⟨e,hn⟩ | ⟨g,cap,sp,e,hB,h1,h2,h3⟩⟩:=h
 ·omega
 ·simp only[Acn] at e;omega
def Fv(n:Aj):Int:=if BC n.kind=-1 then n.kids.length else BC n.kind
def Dp(i:Nat)(st:List Int)(n:Aj):Option (List Int):=
 if Fv n=n.kids.length∧n.kids.length≤st.length∧st.drop (st.length - n.kids.length)=n.kids∧Au n=true then some (st.take (st.length - n.kids.length)++[(i:Int)]) else none
def Bk:Nat→List Int→List Aj→Option (List Int)
 | _,st,[]=>some st
 | i,st,n::t=>match Dp i st n with
  | some st'=>Bk (i+1) st' t
  | none=>none
def BV(l:List Aj):Bool:=match Bk 0 [] l with
 | some st=>decide (st.length=1)
 | none=>false
def DN(l:List Aj):Prop:=∀nd∈l,nd.text.length≤1000∧nd.ref.sheet.length≤1000∧nd.to.sheet.length≤1000
def MN(l:List Aj):Prop:=∀nd∈l,nd.text.length≤1000∧nd.ref.sheet.length≤9223372036854775807∧nd.to.sheet.length≤9223372036854775807
theorem DN.t{l:List Aj}(h:DN l):MN l:=λnd hn=>by
 obtain⟨h1,h2,h3⟩:=h nd hn;exact⟨h1,by omega,by omega⟩
theorem QQ(l:List Aj)(v:Value)(w:World)(g:Dq w)(hN:Cv w v l)(hs:MN l):A9 prog 155 [v] w (λv' w'=>v'=.bool (BV l)∧Ah w w'):=by
 obtain⟨p,c,rfl⟩:=hN.slice;have hl:=hN.1;refine AG func155 ntmps155 ?_;refine Sa ?_;refine CW.loop (ι:=Nat×List Int×Option Addr×Nat) (λx w'=>x.1≤l.length∧x.2.1.length≤x.1∧Ah w w'∧Bk 0 [] l=Bk x.1 x.2.1 (l.drop x.1)∧Own w' w.heap.size 3 1 (.slice x.2.2.1 x.2.1.length x.2.2.2) x.2.1.length (Ad x.2.1))
  (λx=>[(3,.slice x.2.2.1 x.2.1.length x.2.2.2),(8,.slice p l.length c),(9,.int .i64 l.length),(10,.int .i64 x.1)]) (λx=>l.length - x.1) (0,[],none,0) ⟨by omega,by simp,Chg.refl _ _,rfl,Own.nil _ _ _ _⟩ Bl ?_
 rintro⟨i,st,sp,sc⟩ w1 ⟨hi,ae,hx,a1,ho⟩;dsimp only at hi ae a1 ho ⊢;replace hN:=hN.ext hx;refine Sa ?_;refine Av (λh1=>?_) λh1=>?_
 ·have h1:i<l.length:=by simp at h1;omega
  obtain⟨nd,a6⟩:∃nd,l[i]?=some nd:=⟨_,Aav h1⟩;obtain⟨a,kp,kc,rfl,hk,a4⟩:=hN.at a6;obtain⟨af,ag,ah⟩:=hs nd (Ab4 a6);refine Sa ?_;refine LW.idx_addr rfl rfl rfl rfl rfl Aeb Aeb rfl ?_;refine LW.load_cells (cs:=BO ⟨nd,.slice kp nd.kids.length kc⟩) rfl a4 rfl rfl rfl rfl ?_;refine Sa ?_;refine B1 λC w2 al ab hC=>?_;refine Sa ?_;refine AF λw3 ai hC=>?_;replace hC:Blk w3 C (BO ⟨nd,.slice kp nd.kids.length kc⟩) 189:=hC;refine Sa ?_;refine Ap rfl rfl (Vq nd.kind w3) ?_;rintro v w4 ⟨rfl,ac⟩;replace hC:=hC.ext ac;have aj:=hx.size;have ak:=ab.size;have a3:Ah w1 w4:=(ab.step ai Aee).trans ac;replace hk:=hk.ext a3;replace ho:=ho.ext a3;replace hx:=hx.trans a3;refine Sl ?_;apply LW.nil;apply QW.then_n;refine CW.seq_cut (ι:=Unit) (λ_ w'=>w'=w4) (λ_=>[(3,.slice sp st.length sc),(4,.int .i64 i),(5,.pointer (some ⟨C,0,none⟩)),(6,.int .i64 (Fv nd)),(8,.slice (some a) l.length c),(9,.int .i64 l.length),(10,.int .i64 i)]) ?_ ?_
  ·refine Sa ?_;refine Av (λh2=>?_) λh2=>?_
   ·have h2:BC nd.kind=-1:=by simpa using h2
    refine Sa ?_;exact QW.head () rfl (by have:Fv nd=nd.kids.length:=if_pos h2;rw[this];exact(An.cons rfl (An.cons rfl (An.cons rfl (An.cons rfl (An.cons rfl (An.cons rfl (An.cons rfl (An.nil)))))))))
   ·have h2:¬BC nd.kind=-1:=by simpa using h2
    refine Sa ?_;exact QW.head () rfl (by have:Fv nd=BC nd.kind:=if_neg h2;rw[this];exact(An.cons rfl (An.cons rfl (An.cons rfl (An.cons rfl (An.cons rfl (An.cons rfl (An.cons rfl (An.nil)))))))))
  rintro _ w5 rfl;have am:=hk.1;refine Sa ?_;refine CW.drawHeld (λw'=>Blk w' C (BO ⟨nd,.slice kp nd.kids.length kc⟩) 189) (λw' h=>hC.ext h) Aec λw6 a7=>?_;replace hC:=hC.ext a7;replace hk:=hk.ext a7;replace ho:=ho.ext a7;replace hx:=hx.trans a7;refine Sh ?_;have a2:l.drop i=nd::l.drop (i+1):=by rw[Acp h1];congr 1;rw[Aav h1] at a6;exact Ab9 a6
  have a0:¬(Fv nd=nd.kids.length∧nd.kids.length≤st.length∧st.drop (st.length - nd.kids.length)=nd.kids∧Au nd=true)→Bk i st (l.drop i)=none:=λh=>by rw[a2,Bk,Dp,if_neg h]
  by_cases n1:Fv nd=nd.kids.length
  case neg=>
   refine HW.know (t:=34) (c:=true) rfl (by simpa using n1) ?_;refine Sh ?_;refine HW.done Aec ?_;refine Sa ?_;refine QW.body1 rfl rfl ⟨?_,hx⟩;rw[BV,a1,a0 (λh=>n1 h.1)]
  by_cases n2:nd.kids.length≤st.length
  case neg=>
   refine HW.know (t:=34) (c:=false) rfl (by simpa using n1) ?_;refine Sh ?_;refine HW.know (t:=38) (c:=true) rfl Aee ?_;refine Sh ?_;refine HW.done Aec ?_;refine Sa ?_;refine QW.body1 rfl rfl ⟨?_,hx⟩;rw[BV,a1,a0 (λh=>n2 h.2.1)]
  refine HW.know (t:=34) (c:=false) rfl (by simpa using n1) ?_;refine Sh ?_;refine HW.know (t:=38) (c:=false) rfl Aee ?_;refine Sh ?_;refine HW.takeW 12 rfl rfl rfl rfl (λw _=>Y.slice_from (i:=st.length - nd.kids.length) rfl Aep rfl rfl rfl Aeb) rfl Aec Aec Aec (λ_ _ _ h=>h) ?_;refine Sh ?_;refine HW.one 15 Aec rfl rfl (λhS=>?_);refine Sl ?_;refine Ap rfl rfl (VI (st.drop (st.length - nd.kids.length)) nd.kids _ _ w6 (Own.from_ ho Aeb Aeb) hk) ?_;rintro v w7 ⟨rfl,a8⟩;refine Sl ?_;apply LW.nil;replace hC:=hC.ext a8;replace hk:=hk.ext a8;replace ho:=ho.ext a8;replace hx:=hx.trans a8;refine QW.held hC ?_;by_cases n3:st.drop (st.length - nd.kids.length)=nd.kids
  case neg=>
   refine HW.know (t:=44) (c:=false) rfl (by simpa using n3) ?_;refine Sh ?_;refine HW.done Aec ?_;refine Sa ?_;refine QW.body1 rfl rfl ⟨?_,hx⟩;rw[BV,a1,a0 (λh=>n3 h.2.2.1)]
  refine HW.know (t:=44) (c:=true) rfl (by simpa using n3) ?_;refine Sh ?_;refine HW.one 20 Aec rfl rfl (λhS=>?_);refine Sl ?_;refine Ap rfl rfl (W0 nd kp nd.kids.length kc w7 (g.ext hx) af ag ah) ?_;rintro v w8 ⟨rfl,a9⟩;refine Sl ?_;apply LW.nil;replace hC:=hC.ext a9;replace ho:=ho.ext a9;replace hx:=hx.trans a9;refine QW.held hC ?_;by_cases n4:Au nd=true
  case neg=>
   refine HW.know (t:=49) (c:=false) rfl (by simpa using n4) ?_;refine Sh ?_;refine HW.done Aec ?_;refine Sa ?_;refine QW.body1 rfl rfl ⟨?_,hx⟩;rw[BV,a1,a0 (λh=>n4 h.2.2.2)]
  refine HW.know (t:=49) (c:=true) rfl n4 ?_;refine Sh ?_;refine HW.done Aec ?_;refine Sa ?_;refine LW.slice_to (i:=st.length - nd.kids.length) rfl Aep Aep rfl rfl rfl ?_ rfl ?_
  ·have:=Own.cap_ ho;omega
  refine Sa ?_;refine CR λB w9 an ad hB=>?_;replace ho:=ho.ext ad;replace hx:=hx.trans ad;refine LW.append_full (xs:=Ad (st.take (st.length - nd.kids.length))) (lo:=w.heap.size) rfl rfl rfl rfl rfl Aei ?_ (Own.cells ho Aeb) hx.size hB Aei Aei Aei ?_ rfl λv' ao aa a5=>?_
  ·rw[AC,Acj];show _=(st.length - nd.kids.length)*1;omega
  ·show(st.length - nd.kids.length+1)*(8+1)≤_;omega
  refine Sa ?_;obtain⟨p',c',rfl⟩:=a5.slice;have e1:Ad (st.take (st.length - nd.kids.length))++[.int .i64 (i:Int)]=Ad (st.take (st.length - nd.kids.length)++[(i:Int)]):=by simp[Ad]
  have e2:(st.take (st.length - nd.kids.length)++[(i:Int)]).length=st.length - nd.kids.length+1:=by simp
  refine QW.again (i+1,st.take (st.length - nd.kids.length)++[(i:Int)],p',c') ⟨by omega,by rw[e2];omega,hx.trans aa,?_,?_⟩ ?_ Aeb
  ·rw[a1,a2,Bk,Dp,if_pos ⟨n1,n2,n3,n4⟩]
  ·dsimp only;rw[e2,←e1];exact a5
  ·dsimp only;rw[e2];exact Bl
 ·have h1:i=l.length:=by simp at h1;omega
  subst h1;refine Sa ?_;refine QW.body1 rfl rfl ⟨?_,hx⟩;rw[Ad2] at a1;rw[BV,a1];have:decide ((st.length:Int)=1)=decide (st.length=1):=decide_eq_decide.mpr Aeb;exact congrArg Value.bool this
theorem Xu(l:List Aj)(v:Value)(w:World)(g:Dq w)(hN:Cv w v l)(hs:DN l):A9 prog 155 [v] w (λv' w'=>v'=.bool (BV l)∧Ah w w'):=QQ l v w g hN hs.t
end Go.Proofs.YtcjjcnecopnpcaaGreatDoor
