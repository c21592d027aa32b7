/-
  Joined by program out of the texts Open OpenS RShow PShow.
-/
import Derived.Test.YtcjjcnecopnpcaaGreatDoorMyA
import Derived.Test.YtcjjcnecopnpcaaGreatDoorTab
import Derived.ProofKit
import Derived.Lib.SmallJoins
import Derived.Test.YtcjjcnecopnpcaaGreatDoorMyB
import Derived.ChangeSlices
import Derived.WideShapes
import Derived.Test.YtcjjcnecopnpcaaGreatDoorMyC
import Derived.Test.YtcjjcnecopnpcaaGreatDoorMyE
import Derived.Test.YtcjjcnecopnpcaaGreatDoorMyD
import Derived.Lib.SplitLaws
namespace Go.Proofs.YtcjjcnecopnpcaaGreatDoor
open Tryz
open Go Go.E Go.ChangeShapes Go.WideShapes Go.ChangeAt Go.RowKit Go.Joins Go.ChangeMaps
theorem QX{b:ByteArray}(h:b.size≤maxLen):b.data.toList.length≤9223372036854775807:=by
 have e:b.data.toList.length=b.size:=Array.length_toList;rw[e];exact h
open Go Go.E
def Iv(c:UInt8):List UInt8:=if c=34 then[34,34] else[c]
theorem JQ(s:List UInt8):DV s=34::s.flatMap Iv++[34]:=rfl
theorem Rj{s:List UInt8}{i:Nat}(h:i<s.length):(s.take (i+1)).flatMap Iv=(s.take i).flatMap Iv++Iv s[i]:=by
 rw[JZ h,Acb];simp
theorem XH(s:List UInt8):(s.flatMap Iv).length≤2*s.length:=by
 have:=LA s;rw[JQ] at this;simp only[Aa9,Abe,Ab3] at this;omega
theorem X8{s:List UInt8}{i:Nat}(h:i<s.length):ch (Ab s i)=s[i]:=by
 rw[B2 h];unfold ch;simp
theorem W9(s:List UInt8)(hs:s.length≤1000)(w:World):A9 prog 180 [Aq s] w (λv w'=>v=Aq (DV s)∧Ah w w'):=by
 refine AG func180 ntmps180 ?_;refine Sa ?_;refine CR λA w0 ad a7 a5=>?_;replace a5:Blk w0 A [.int .u8 34] 5:=a5;have ae:=a7.size;refine Sa ?_;refine CW.loop (ι:=Nat×Value) (λk w'=>k.1≤s.length∧Ah w w'∧Own w' w.heap.size 5 1 k.2 (34::(s.take k.1).flatMap Iv).length (AH (34::(s.take k.1).flatMap Iv))) (λk=>[(0,Aq s),(3,k.2),(4,.int .i64 (k.1:Int))]) (λk=>s.length - k.1) (0,.slice (some ⟨A,0,none⟩) 1 1) ⟨by simp,a7,⟨rfl,.inr ⟨A,1,[],rfl,a5,by simp,by simp,by omega⟩⟩⟩ Bp ?_;rintro⟨i,v⟩ w1 ⟨hi,hx,a1⟩;dsimp only at hi a1;have af:((s.take i).flatMap Iv).length≤2*i:=by
  have h1:=XH (s.take i);have h2:(s.take i).length≤i:=Ad9 _ _;omega
 generalize ho:34::(s.take i).flatMap Iv=out at a1;have ag:out.length≤2001:=by rw[←ho];simp only[Abe];omega
 have hz:=hx.size;show CW _ _ _ _ _ [(0,Aq s),(3,v),(4,.int .i64 (i:Int))] _;refine Sa ?_;refine Av (λh1=>?_) λh1=>?_;rotate_left
 ·have h1:i=s.length:=by simp at h1;omega
  refine Sa ?_;refine CR λB w2 a8 a2 hB=>?_;replace a1:=a1.ext a2;replace hx:=hx.trans a2;have a9:=a2.size;refine Sa ?_;refine LW.append rfl rfl rfl rfl rfl rfl a1 Aeb hB rfl rfl rfl Aet rfl ?_;intro v' w3 a4 a0 aa;replace hx:=hx.step a4 (λk hk=>(a1.lt hk).1);refine Sa ?_;replace a0:Own w3 w.heap.size 5 1 v' (out++[ch 34]).length (AH (out++[ch 34])):=Ff Aeb Aeb a0;refine LW.string_own rfl a0 rfl rfl rfl rfl rfl rfl rfl ?_;refine Sa ?_;refine QW.body1 rfl rfl ⟨?_,hx⟩;rw[←ho,h1,AbQ,JQ];rfl
 have h1:i<s.length:=by simp at h1;omega
 have ab:=CQ s i;refine Sa ?_;refine Av (λh2=>?_) λh2=>?_
 ·have h2:Ab s i=34:=by simpa using h2
  refine Sa ?_;refine CR λB w2 a8 a2 hB=>?_;replace a1:=a1.ext a2;replace hx:=hx.trans a2;have a9:=a2.size;refine Sa ?_;refine LW.append rfl rfl rfl rfl rfl rfl a1 Aeb hB rfl rfl rfl Aet rfl ?_;intro v' w3 a4 a0 aa;replace hx:=hx.step a4 (λk hk=>(a1.lt hk).1);refine Sa ?_;replace a0:Own w3 w.heap.size 5 1 v' (out++[ch 34]).length (AH (out++[ch 34])):=Ff Aeb Aeb a0;have ah:=hx.size;refine Sa ?_;refine CR λC w4 ai a6 hC=>?_;replace a0:=a0.ext a6;replace hx:=hx.trans a6;have aj:=a6.size;refine Sa ?_;refine LW.append rfl rfl rfl rfl rfl rfl a0 Aeb hC rfl rfl rfl (by show((out++[ch 34]).length+1)*2≤140737488355328;simp;omega) rfl ?_;intro v2 w5 ac a3 ak;replace hx:=hx.step ac (λk hk=>(a0.lt hk).1);replace a3:=Ff ab.1 Aeb a3;refine Sa ?_;refine QW.again (i+1,v2) ⟨h1,hx,?_⟩ Bp AeG;have e:34::(s.take (i+1)).flatMap Iv=out++[ch 34]++[ch (Ab s i)]:=by
   rw[Rj h1,←ho];have:s[i]=34:=by
    have:=X8 h1;rw[h2] at this;exact this.symm
   rw[X8 h1,this];simp[Iv,ch]
  dsimp only;rw[e];exact a3
 ·have h2:Ab s i≠34:=by simpa using h2
  refine Sa ?_;refine CR λB w2 a8 a2 hB=>?_;replace a1:=a1.ext a2;replace hx:=hx.trans a2;have a9:=a2.size;refine Sa ?_;refine LW.append rfl rfl rfl rfl rfl rfl a1 Aeb hB rfl rfl rfl Aet rfl ?_;intro v' w3 a4 a0 aa;replace hx:=hx.step a4 (λk hk=>(a1.lt hk).1);refine Sa ?_;replace a0:=Ff ab.1 Aeb a0;refine Sa ?_;refine QW.again (i+1,v') ⟨h1,hx,?_⟩ Bp AeG;have e:34::(s.take (i+1)).flatMap Iv=out++[ch (Ab s i)]:=by
   rw[Rj h1,←ho];have:s[i]≠34:=λh=>h2 (by rw[B2 h1,h];rfl);rw[X8 h1];simp[Iv,this]
  dsimp only;rw[e];exact a0
theorem TS(s:List UInt8)(hs:s.length≤1000000000000)(b:Bool)(w:World):A9 prog 182 [Aq s,.bool b] w (λv w'=>v=Aq (Ip b s)∧Ah w w'):=by
 refine AG func182 ntmps182 ?_;refine Sa ?_;refine Av (λh1=>?_) λh1=>?_
 ·subst h1;refine Sa ?_;exact QW.body1 rfl rfl ⟨rfl,Chg.refl _ _⟩
 ·subst h1;refine Sa ?_;exact QW.body1 rfl rfl ⟨rfl,Chg.refl _ _⟩
theorem I7(k:Int)(w:World):A9 prog 183 [.int .i64 k] w (λv w'=>v=.int .i64 (BT k:Int)∧Ah w w'):=by
 have fin:∀z:Int,(BT k:Int)=z→(Value.int .i64 z=.int .i64 (BT k:Int)∧Ah w w):=λz h=>⟨by rw[h],Chg.refl _ _⟩;refine AG func183 ntmps183 ?_;refine Sa ?_;by_cases h1:9≤k
 ·refine LW.know (t:=6) (c:=true) rfl Ae8 ?_;refine Sa ?_;refine Av (λh2=>?_) λh2=>?_
  ·have h2:k≤14:=by simpa using h2
   refine Sa ?_;exact QW.body1 rfl rfl (fin _ (by unfold BT;rw[if_neg Aeb,if_pos Aeb];rfl))
  have h2:14<k:=by simpa using h2
  refine Sa ?_;refine Av (λh3=>?_) λh3=>?_
  ·have h3:k=15:=by simpa using h3
   refine Sa ?_;exact QW.body1 rfl rfl (fin _ (by subst h3;rfl))
  have h3:k≠15:=by simpa using h3
  refine Sa ?_;by_cases h4:k=16
  ·refine LW.know (t:=16) (c:=true) rfl (by simpa using h4) ?_;refine Sa ?_;exact QW.body1 rfl rfl (fin _ (by subst h4;rfl))
  refine LW.know (t:=16) (c:=false) rfl (by simpa using h4) ?_;refine Sa ?_;refine Av (λh5=>?_) λh5=>?_
  ·have h5:k=17:=by simpa using h5
   refine Sa ?_;exact QW.body1 rfl rfl (fin _ (by subst h5;rfl))
  have h5:k≠17:=by simpa using h5
  refine Sa ?_;by_cases h6:k=18
  ·refine LW.know (t:=23) (c:=true) rfl (by simpa using h6) ?_;refine Sa ?_;exact QW.body1 rfl rfl (fin _ (by subst h6;rfl))
  refine LW.know (t:=23) (c:=false) rfl (by simpa using h6) ?_;refine Sa ?_;refine Av (λh7=>?_) λh7=>?_
  ·have h7:k=19:=by simpa using h7
   refine Sa ?_;exact QW.body1 rfl rfl (fin _ (by subst h7;rfl))
  have h7:k≠19:=by simpa using h7
  refine Sa ?_;refine CW.no rfl (decide_eq_false Aeb) ?_;refine Sa ?_;exact QW.body1 rfl rfl (fin _ (by unfold BT;rw[if_neg Aeb,if_neg Aeb,if_neg Aeb,if_neg Aeb,if_neg Aeb];rfl))
 ·refine LW.know (t:=6) (c:=false) rfl Ae8 ?_;refine Sa ?_;refine CW.no rfl (decide_eq_false Aeb) ?_;refine Sa ?_;refine LW.know (t:=16) (c:=false) rfl Aee ?_;refine Sa ?_;refine CW.no rfl (decide_eq_false Aeb) ?_;refine Sa ?_;refine LW.know (t:=23) (c:=false) rfl Aee ?_;refine Sa ?_;refine CW.no rfl (decide_eq_false Aeb) ?_;refine Sa ?_;refine Av (λh8=>?_) λh8=>?_
  ·have h8:k=8:=by simpa using h8
   refine Sa ?_;exact QW.body1 rfl rfl (fin _ (by subst h8;rfl))
  have h8:k≠8:=by simpa using h8
  refine Sa ?_;exact QW.body1 rfl rfl (fin _ (by unfold BT;rw[if_neg Aeb,if_neg Aeb,if_neg Aeb,if_neg Aeb,if_neg Aeb];rfl))
theorem Aax(k:Int)(h0:9≤k)(h1:k≤19)(w:World):A9 prog 184 [.int .i64 k] w (λv w'=>v=Aq (F3 k)∧Ah w w'):=by
 have:k=9∨k=10∨k=11∨k=12∨k=13∨k=14∨k=15∨k=16∨k=17∨k=18∨k=19:=Aeb
 refine AG func184 ntmps184 ?_;refine Sa ?_;refine CR λA w0 a1 a0 a2=>?_;rcases this with rfl | rfl | rfl | rfl | rfl | rfl | rfl | rfl | rfl | rfl | rfl
 all_goals
  refine Sz ?_;exact QW.body1 rfl rfl ⟨rfl,a0⟩
theorem PP{w:World}{a0:Addr}{cs:List Value}(hc:∀j u,cs[j]?=some u→w.cell? (a0.add j)=some u){v:Value}(h:cs[0]?=some v):w.cell? (a0.add 0)=some v:=hc 0 v h
theorem Iw{w:World}{p:Option Addr}{c:Nat}{zs:List Int}(h:AP w (.slice p zs.length c) zs){i:Nat}{z:Int}(hz:zs[i]?=some z):∃a,p=some a∧w.cell? (a.add i)=some (.int .i64 z):=by
 have hi:i<zs.length:=(Abo.1 hz).1;obtain⟨a,e,h⟩:=h.at hi;refine⟨a,e,?_⟩;rw[h,AaA,hz];rfl
theorem P3(l:List Aj)(p:Option Addr)(c:Nat)(hs:DN l):∀(m:Nat) (t:Tr false) (o i:Nat) (w:World),t.cnt≤m→t.Fit→t.Num→Ek l o t→i+1=o+t.cnt→t.text.length≤1000000000000→Cv w (.slice p l.length c) l→A9 prog 137 [.slice p l.length c,.int .i64 (i:Int)] w (λv w'=>v=Aq t.text∧Ah w w')
 | 0,t,_,_,_,hm,_,_,_,_,_,_=>absurd t.cnt_pos Aeb
 | m+1,t,o,i,w,hm,hf,hn,hl,hio,htl,hN=>by
  have ih:=P3 l p c hs m;have hnd:=hl.node;rw[show o+t.cnt - 1=i by omega] at hnd;have hi:i<l.length:=(Abo.1 hnd).1;have hsn:=hs _ (Ab4 hnd);have hl1:=hN.1
  cases t with
  | leaf n=>
   obtain⟨a,kp,kc,rfl,hk,hc⟩:=hN.at hnd;obtain⟨kd,num,text,ref,to,kids⟩:=n
   change ∀j u,(BO ⟨⟨kd,num,text,ref,to,kids⟩,.slice kp kids.length kc⟩)[j]?=some u→_ at hc
   obtain⟨k0,k1,_,hpl⟩:=hf;have ho:=Ee hpl;rw[Lw hpl k0 k1];simp only at k0 k1
   change text.length≤1000∧ref.sheet.length≤1000∧to.sheet.length≤1000 at hsn
   refine AG func137 ntmps137 ?_;refine Sa ?_;refine Lo ?_;refine LW.load_cells rfl hc rfl rfl rfl rfl ?_;refine Sa ?_;refine B1 λB w1 hbB hx1 hB=>?_;refine Sa ?_;refine AF λw2 hc2 hB=>?_;have hx:Ah w w2:=hx1.step hc2 Aee;refine Sa ?_;have:kd=1∨kd=2∨kd=3∨kd=4∨kd=5∨kd=6:=Aeb
   rcases this with rfl | rfl | rfl | rfl | rfl | rfl
   ·have au:num≤9223372036854775807:=hn ⟨1,[],num,A4,0⟩ (by simp[Tr.toks,C1]);have an:0≤num:=by simpa[F9] using ho
    refine Sa ?_;refine Ap rfl rfl (Ht num an au _) ?_;rintro v w3 ⟨rfl,a1⟩;refine Sa ?_;exact QW.body1 rfl rfl ⟨rfl,hx.trans a1⟩
   ·refine Sa ?_;refine Ap rfl rfl (W9 text Aeb _) ?_;rintro v w3 ⟨rfl,a1⟩;refine Sa ?_;exact QW.body1 rfl rfl ⟨rfl,hx.trans a1⟩
   ·refine Sa ?_;refine Av (λh3=>?_) λh3=>?_
    ·have h3:num=1:=by simpa using h3
     refine Sa ?_;exact QW.body1 rfl rfl ⟨by simp[h3,Dc],hx⟩
    ·have h3:num≠1:=by simpa using h3
     refine Sa ?_;exact QW.body1 rfl rfl ⟨by simp[h3,CL],hx⟩
   ·refine Sa ?_;exact QW.body1 rfl rfl ⟨rfl,hx⟩
   ·refine Sa ?_;refine LW.load_agg (cs:=AU ref) rfl hB rfl rfl rfl ⟨rfl,rfl,rfl,rfl,rfl,trivial⟩ rfl ?_;refine Sa ?_;refine Ap rfl rfl (Gv ref Aeb _) ?_;rintro v w3 ⟨rfl,a1⟩;refine Sa ?_;exact QW.body1 rfl rfl ⟨rfl,hx.trans a1⟩
   ·have hb:∀r:C3,(Cl r).length≤r.sheet.length+10:=λr=>by
     unfold Cl
     split
     ·exact LM Aen
     ·simp
    have b9:=hb ref;have ba:=hb to;refine Sa ?_;refine Ig ?_;refine Sq ?_;refine QL.load_agg (cs:=AU ref) rfl hB rfl rfl rfl ⟨rfl,rfl,rfl,rfl,rfl,trivial⟩ rfl ?_;refine Sq ?_;refine QL.call0 (v:=Aq (Cl ref)) rfl rfl (λw' _=>Gv ref Aeb w') ?_;refine Sq ?_;refine QL.load_agg (cs:=AU to) rfl hB rfl rfl rfl ⟨rfl,rfl,rfl,rfl,rfl,trivial⟩ rfl ?_;refine Sq ?_;refine QL.call0 (v:=Aq (Cl to)) rfl rfl (λw' _=>Gv to Aeb w') ?_;refine Sq ?_;refine QL.nil λw3 a1=>?_;refine Sa ?_
    exact QW.body1 rfl rfl ⟨rfl,hx.trans a1⟩
  | neg b=>
   have av:b.Num:=λu hu=>hn u Aev;have a5:=hl.neg;have bb:=b.cnt_pos;rw[N9] at htl ⊢;have aw:=Kk (decide (b.rank<5)) b.text;simp only[Aa9,Abe,Ab3] at htl;simp only[Tr.cnt] at hm;obtain⟨j,hj⟩:∃j,j=o+b.cnt - 1:=⟨_,rfl⟩;have a6:=a5.node;rw[←hj] at a6;have ao:j<l.length:=(Abo.1 a6).1;obtain⟨a,kp,kc,rfl,hk,hc⟩:=hN.at hnd;obtain⟨a',kp',kc',ea,-,ad⟩:=hN.at a6;obtain rfl:=Ab9 ea
   change AP w (.slice kp [((o+b.cnt - 1:Nat):Int)].length kc) [((o+b.cnt - 1:Nat):Int)] at hk
   change ∀j u,(BO ⟨{kind:=8,kids:=[((o+b.cnt - 1:Nat):Int)]},.slice kp 1 kc⟩)[j]?=some u→_ at hc
   rw[←hj] at hk hc;obtain⟨ka,rfl,a3⟩:=Iw hk (i:=0) rfl;have a7:=PP ad rfl;refine AG func137 ntmps137 ?_;refine Sa ?_;refine Lo ?_;refine LW.load_cells rfl hc rfl rfl rfl rfl ?_;refine Sa ?_;refine B1 λB w1 hbB hx1 hB=>?_;refine Sa ?_;refine AF λw2 hc2 hB=>?_;have hx:Ah w w2:=hx1.step hc2 Aee;refine Sa ?_;replace a3:=A2 hx a3;replace a7:=A2 hx a7;refine Sa ?_;refine Ig ?_;refine Sq ?_;refine Qo ?_;refine Qp a3 ?_;refine QL.call0 (v:=Aq b.text) rfl rfl (λw' hw=>ih b o j w' Aeb hf av a5 Aeb Aeb ((hN.ext hx).ext hw)) ?_;refine Sq ?_;refine Qo ?_;refine Qp a3 ?_;refine Qo ?_;refine Qn ?_;refine Qp a7 ?_;refine QL.call0 rfl rfl (λw' hw=>I7 (D7 o b).kind w') ?_;refine Sq ?_;refine QL.call0 rfl rfl (λw' hw=>TS b.text Aeb _ w') ?_;rw[Jn o b hf];have hd:decide (((b.rank:Nat):Int)<5)=decide (b.rank<5):=by rw[decide_eq_decide];omega
   rw[hd];refine Sq ?_;refine QL.nil λw3 a1=>?_;refine Sa ?_
   exact QW.body1 rfl rfl ⟨rfl,hx.trans a1⟩
  | two k b d=>
   obtain⟨ax,ae,a9,ap⟩:=hf;have aa:b.Num:=λu hu=>hn u Aer;have af:d.Num:=λu hu=>hn u Aeq;obtain⟨a5,aq⟩:=hl.two;have ad:=b.cnt_pos;have bc:=d.cnt_pos;rw[Oz] at htl ⊢;have aw:=Kk (decide (b.rank<BT k)) b.text;have bd:=Kk (decide (d.rank<BT k+1)) d.text;simp only[Aa9] at htl;simp only[Tr.cnt] at hm;obtain⟨j,hj⟩:∃j,j=o+b.cnt - 1:=⟨_,rfl⟩;obtain⟨q,hq⟩:∃q,q=o+b.cnt+d.cnt - 1:=⟨_,rfl⟩;have a6:=a5.node;have ag:=aq.node;rw[←hj] at a6;rw[←hq] at ag;have ao:j<l.length:=(Abo.1 a6).1;have be:q<l.length:=(Abo.1 ag).1;obtain⟨a,kp,kc,rfl,hk,hc⟩:=hN.at hnd;obtain⟨a',kp',kc',ea,-,ah⟩:=hN.at a6;obtain rfl:=Ab9 ea;obtain⟨a',kp',kc',ea,-,ai⟩:=hN.at ag;obtain rfl:=Ab9 ea
   change AP w (.slice kp [((o+b.cnt - 1:Nat):Int),((o+b.cnt+d.cnt - 1:Nat):Int)].length kc) [((o+b.cnt - 1:Nat):Int),((o+b.cnt+d.cnt - 1:Nat):Int)] at hk
   change ∀j u,(BO ⟨{kind:=k,kids:=[((o+b.cnt - 1:Nat):Int),((o+b.cnt+d.cnt - 1:Nat):Int)]},.slice kp 2 kc⟩)[j]?=some u→_ at hc
   rw[←hj,←hq] at hk hc;obtain⟨ka,rfl,a3⟩:=Iw hk (i:=0) rfl;obtain⟨ka',ek,aj⟩:=Iw hk (i:=1) rfl;obtain rfl:=Ab9 ek;have a7:=PP ah rfl;have ak:=PP ai rfl;refine AG func137 ntmps137 ?_;refine Sa ?_;refine Lo ?_;refine LW.load_cells rfl hc rfl rfl rfl rfl ?_;refine Sa ?_;refine B1 λB w1 hbB hx1 hB=>?_;refine Sa ?_;refine AF λw2 hc2 hB=>?_;have hx:Ah w w2:=hx1.step hc2 Aee;refine Sa ?_;replace a3:=A2 hx a3;replace aj:=A2 hx aj;refine Sa ?_;refine CW.no rfl (decide_eq_false (show ¬k=1 by omega)) ?_;refine Sa ?_;refine CW.no rfl (decide_eq_false (show ¬k=2 by omega)) ?_;refine Sa ?_;refine CW.no rfl (decide_eq_false (show ¬k=3 by omega)) ?_;refine Sa ?_;refine CW.no rfl (decide_eq_false (show ¬k=4 by omega)) ?_;refine Sa ?_;refine CW.no rfl (decide_eq_false (show ¬k=5 by omega)) ?_;refine Sa ?_;refine CW.no rfl (decide_eq_false (show ¬k=6 by omega)) ?_;refine Sa ?_;refine CW.no rfl (decide_eq_false (show ¬k=7 by omega)) ?_;refine Sa ?_;refine CW.no rfl (decide_eq_false (show ¬k=8 by omega)) ?_;refine Sa ?_;refine Ig ?_;refine Sq ?_;refine Qo ?_;refine Qp a3 ?_;refine Sq ?_;refine Qo ?_;refine Qp aj ?_;refine Sq ?_;refine QL.nil λw3 a1=>?_;replace hx:=hx.trans a1;replace hB:=hB.ext a1;replace a7:=A2 hx a7;replace ak:=A2 hx ak;refine Sa ?_;refine Ig ?_;refine Sq ?_;refine QL.call0 (v:=Aq b.text) rfl rfl (λw' hw=>ih b o j w' Aeb a9 aa a5 Aeb Aeb ((hN.ext hx).ext hw)) ?_;refine Sq ?_;refine Qo ?_;refine Qn ?_;refine Qp a7 ?_;refine QL.call0 rfl rfl (λw' hw=>I7 (D7 o b).kind w') ?_;refine Sq ?_;refine QL.call0 rfl rfl (λw' hw=>I7 k w') ?_;refine Sq ?_;refine QL.call0 rfl rfl (λw' hw=>TS b.text Aeb _ w') ?_;refine Sq ?_;refine QL.call0 rfl rfl (λw' hw=>Aax k ax ae w') ?_;rw[Jn o b a9];have ay:decide (((b.rank:Nat):Int)<((BT k:Nat):Int))=decide (b.rank<BT k):=by rw[decide_eq_decide];omega
   rw[ay];refine Sq ?_;refine QL.call0 (v:=Aq d.text) rfl rfl (λw' hw=>ih d (o+b.cnt) q w' Aeb ap af aq Aeb Aeb ((hN.ext hx).ext hw)) ?_;refine Sq ?_;refine Qo ?_;refine Qn ?_;refine Qp ak ?_;refine QL.call0 rfl rfl (λw' hw=>I7 (D7 (o+b.cnt) d).kind w') ?_;refine Sq ?_;refine QL.call0 rfl rfl (λw' hw=>I7 k w') ?_;refine Sq ?_;refine QL.call0 rfl rfl (λw' hw=>TS d.text Aeb _ w') ?_;rw[Jn (o+b.cnt) d ap];have az:decide (((d.rank:Nat):Int)≤((BT k:Nat):Int))=decide (d.rank<BT k+1):=by rw[decide_eq_decide];omega
   rw[az];refine Sq ?_;refine QL.nil λw4 a8=>?_;refine Sa ?_
   exact QW.body1 rfl rfl ⟨rfl,hx.trans a8⟩
  | call x ks=>
   have b0:=hf.2;have b1:=QZ hn;have b2:=hl.call;rw[KS x o] at htl ⊢;simp only[Aa9,Abe,Ab3] at htl;simp only[Tr.cnt] at hm;obtain⟨a,kp,kc,rfl,hk,hc⟩:=hN.at hnd
   change AP w (.slice kp (ks.kids o).length kc) (ks.kids o) at hk
   change ∀j u,(BO ⟨{kind:=7,text:=x,kids:=ks.kids o},.slice kp (ks.kids o).length kc⟩)[j]?=some u→_ at hc
   have ab:=Q5 ks b0 b1 b2;obtain⟨kids,a0⟩:∃kids,kids=ks.kids o:=⟨_,rfl⟩;rw[←a0] at hk hc;rw[Og] at a0;have b3:kids.length=(ks.row o).length:=by rw[a0];simp
   obtain⟨r,hr⟩:∃r,r=ks.row o:=⟨_,rfl⟩;rw[←hr] at ab a0 b3 htl ⊢;refine AG func137 ntmps137 ?_;refine Sa ?_;refine Lo ?_;refine LW.load_cells rfl hc rfl rfl rfl rfl ?_;refine Sa ?_;refine B1 λB w1 hbB hx1 hB=>?_;refine Sa ?_;refine AF λw2 hc2 hB=>?_;have hx:Ah w w2:=hx1.step hc2 Aee;refine Sa ?_;replace hk:=hk.ext hx;replace hN:=hN.ext hx;refine Sa ?_;refine CW.loop (ι:=Nat) (λn w'=>n≤r.length∧Ah w w'∧Ah w2 w') (λn=>[(0,.slice (some a) l.length c),(5,.pointer (some ⟨B,0,none⟩)),(6,Aq (x++([40]++He r n))),(7,.int .i64 (n:Int))]) (λn=>r.length - n) 0 ⟨by omega,hx,Chg.refl _ _⟩ Bl ?_;rintro n w3 ⟨an,a1,a4⟩;replace hB:=hB.ext a4;replace hk:=hk.ext a4;replace hN:=hN.ext a4;have ac:=Hf (r:=r) n (r.length - n) Aeb;rw[show n+(r.length - n)=r.length by omega] at ac;refine Sa ?_;refine Av (λh1=>?_) λh1=>?_;rotate_left
   ·have h1:n=r.length:=by simp at h1;omega
    subst h1;have al:(x++([40]++He r r.length)).length≤2000000000000:=by simp only[Aa9,Abe,Ab3];omega
    refine Sa ?_;refine QW.body1 rfl rfl ⟨?_,a1⟩;simp
   have h1:n<r.length:=by simp at h1;omega
   obtain⟨⟨o',b⟩,am⟩:∃y,r[n]?=some y:=⟨_,Aav h1⟩;obtain⟨a5,a9,aa,ad,b4⟩:=ab _ (Ab4 am);simp only at a5 a9 aa ad b4;have bf:=b.cnt_pos;have b5:=hk.1;obtain⟨j,hj⟩:∃j,j=o'+b.cnt - 1:=⟨_,rfl⟩;have b6:kids[n]?=some (j:Int):=by rw[a0,AbR,am,hj];rfl
   obtain⟨ka,rfl,a3⟩:=Iw hk b6;rw[show n=((n:Nat):Int).toNat*1 by omega] at a3;have a6:=a5.node;rw[←hj] at a6;have ao:j<l.length:=(Abo.1 a6).1;have a2:=LC am;simp only at a2;have b7:=Hf (r:=r) (n+1) (r.length - (n+1)) Aeb;rw[show n+1+(r.length - (n+1))=r.length by omega] at b7;have b8:=congrArg List.length a2;simp only[Aa9] at b8;have al:(x++([40]++He r n)).length≤2000000000000:=by simp only[Aa9,Abe,Ab3];omega
   refine Sa ?_;refine Av (λh2=>?_) λh2=>?_
   ·have h2:0<n:=by simp at h2;omega
    have e:x++([40]++He r (n+1))=x++([40]++He r n)++[44]++b.text:=by rw[a2,if_pos h2];simp only[Abn]
    have ar:(x++([40]++He r n)++[44]).length≤2000000000001:=by rw[Aa9];simp only[Abe,Ab3];omega
    refine Sa ?_;refine Lo ?_;refine Lp a3 ?_;refine Ap rfl rfl (ih b o' j w3 Aeb a9 aa a5 Aeb Aeb hN) ?_;rintro v w4 ⟨rfl,a8⟩;refine Sa ?_;rw[←e];refine QW.again (n+1) ⟨h1,a1.trans a8,a4.trans a8⟩ Bl Aeb
   ·have h2:¬0<n:=by simp at h2;omega
    have e:x++([40]++He r (n+1))=x++([40]++He r n)++b.text:=by rw[a2,if_neg h2];simp only[Abn,AbD]
    refine Sa ?_;refine Lo ?_;refine Lp a3 ?_;refine Ap rfl rfl (ih b o' j w3 Aeb a9 aa a5 Aeb Aeb hN) ?_;rintro v w4 ⟨rfl,a8⟩;refine Sa ?_;rw[←e];refine QW.again (n+1) ⟨h1,a1.trans a8,a4.trans a8⟩ Bl Aeb
theorem Uv(l:List Aj)(v:Value)(w:World)(hN:Cv w v l)(hs:DN l)(hkl:∀n∈l,n.kids.length≤1000000)(hnum:J1 l):A9 prog 87 [v] w (λv' w'=>v'=Aq (BN l)∧Ah w w'):=by
 obtain⟨p,c,rfl⟩:=hN.slice;have hl:=hN.1;have h0:=λw=>Pv l (.slice p l.length c) w;refine AG func87 ntmps87 ?_;refine Sa ?_;refine Ap rfl rfl (Pv l _ w hN hs hkl) ?_;rintro v w1 ⟨rfl,hx⟩;replace hN:=hN.ext hx;refine Sa ?_;refine Av (λh1=>?_) λh1=>?_
 ·have h1:BV l=false:=by simpa using h1
  refine Sa ?_;exact QW.body1 rfl rfl ⟨by rw[L9 h1],hx⟩
 have h1:BV l=true:=by simpa using h1
 obtain⟨t,rfl,hf⟩:=Ju h1;have a3:=t.cnt_pos;have a0:=t.flat_len 0;have hn:=hnum t hf rfl;have a1:=t.len_le 0 hf hn (λn hm=>(hs n hm).1);simp only[cond_false] at a1;rw[FO hf];refine Sa ?_;have e:(((t.flat 0).length:Int) - 1)=((t.cnt - 1:Nat):Int):=Aeb
 rw[e];refine Ap rfl rfl (P3 (t.flat 0) p c hs t.cnt t 0 (t.cnt - 1) w1 (Ab2 _) hf hn (Ek.whole t) Aeb Aeb hN) ?_;rintro v w2 ⟨rfl,a2⟩;refine Sa ?_;exact QW.body1 rfl rfl ⟨rfl,hx.trans a2⟩
theorem S4{c:UInt8}(hc:c≠34)(k:Nat)(s:List UInt8):Lib.replaceK [34] [34,34] k (c::s)=c::Lib.replaceK [34] [34,34] k s:=by
 cases k with
 | zero=>rfl
 | succ k=>
  have hp:([34]:List UInt8).isPrefixOf (c::s)=false:=by simp[List.isPrefixOf,Ne.symm hc]
  have a0:Lib.index (c::s) [34]=if Lib.index s [34] == -1 then -1 else Lib.index s [34]+1:=by rw[Lib.index,hp];simp
  have a1:=Lib.index_ge s [34];by_cases hm:Lib.index s [34]=-1
  ·rw[Lib.replaceK,Lib.replaceK,a0,if_pos (beq_iff_eq.2 hm),hm];simp
  ·have e:Lib.index s [34]=((Lib.index s [34]).toNat:Int):=Aeb
   rw[if_neg AeS] at a0;have e2:Lib.index (c::s) [34]=(((Lib.index s [34]).toNat+1:Nat):Int):=Aeb
   rw[Lib.replaceK_hit _ _ _ _ _ e2,Lib.replaceK_hit _ _ _ _ _ e];simp
theorem S3(k:Nat)(s:List UInt8):Lib.replaceK [34] [34,34] (k+1) (34::s)=[34,34]++Lib.replaceK [34] [34,34] k s:=by
 have a0:Lib.index (34::s) [34]=((0:Nat):Int):=by rw[Lib.index];simp[List.isPrefixOf]
 rw[Lib.replaceK_hit _ _ _ _ _ a0];simp
theorem HG:∀(s:List UInt8),Lib.replaceK [34] [34,34] (Lib.count s [34]) s=s.flatMap Iv
 | []=>by
  cases Lib.count [] [34] with
  | zero=>rfl
  | succ k=>rw[Lib.replaceK];rfl
 | c::s=>by
  by_cases h:c=34
  ·subst h;rw[Lib.count_cons_eq,Nat.add_comm,S3,HG s];rfl
  ·rw[Lib.count_cons_ne c 34 s h,S4 h,HG s];simp[Iv,h]
theorem S5(s:List UInt8):Lib.replaceAll s [34] [34,34]=s.flatMap Iv:=by
 have:Lib.replaceAll s [34] [34,34]=Lib.replaceK [34] [34,34] (Lib.count s [34]) s:=rfl;rw[this,HG]
structure Fp(w w':World):Prop where
 size:w.heap.size≤w'.heap.size
 blk:∀b l T,Blk w b l T→T≠218→T≠5→Blk w' b l T
theorem Fp.trans{a b c:World}(h:Fp a b)(k:Fp b c):Fp a c:=⟨Acd h.size k.size,λx l T hx h1 h2=>k.blk x l T (h.blk x l T hx h1 h2) h1 h2⟩
theorem Fp.ext{a b:World}(h:Ah a b):Fp a b:=⟨h.size,λ_ _ _ hx _ _=>hx.ext h⟩
theorem Fp.chg{S:List Nat}{a b:World}(h:Chg S a b)(hs:∀k∈S,∀l T,Blk a k l T→T=218∨T=5):Fp a b:=
 ⟨h.size,λx l T hx h1 h2=>hx.chg h (λhm=>by rcases hs x hm l T hx with e | e<;>contradiction)⟩
structure SC where
 l:List Aj
 p:Option Addr
 c:Nat
 b:Nat
 w0:World
structure SC.Ok(s:SC):Prop where
 nodes:Cv s.w0 (.slice s.p s.l.length s.c) s.l
 short:DN s.l
 new:s.w0.heap.size≤s.b
 glob:Dq s.w0
def Pr(s:SC)(w:World)(out:List UInt8):Prop:=
 Ah s.w0 w∧∃v,Blk w s.b [.slice s.p s.l.length s.c,v] 218∧Own w s.w0.heap.size 5 1 v out.length (AH out)
theorem Pr.ext{s:SC}{w w':World}{out:List UInt8}(h:Pr s w out)(x:Ah w w'):Pr s w' out:=by
 obtain⟨h0,v,hB,ho⟩:=h;exact⟨h0.trans x,v,hB.ext x,ho.ext x⟩
theorem Ew{s:SC}(hc:s.Ok){w:World}{out:List UInt8}(h:Pr s w out)(x:List UInt8)(hl:out.length+x.length≤10000000000000):A9 prog 242 [.pointer (some ⟨s.b,0,none⟩),Aq x] w (λv w'=>v=.tuple #[]∧Pr s w' (out++x)∧Fp w w'):=by
 obtain⟨h0,v,hB,ho⟩:=h;have hz:=h0.size;have a0:∀{w:World} {v:Value} {n:Nat} {xs l:List Value},Own w s.w0.heap.size 5 1 v n xs→Blk w s.b l 218→∀j,j∈Ae v→j∉[s.b]:=λ{w v n xs l} ho hB j hj hb=>by
  simp only[Aah] at hb;subst hb;obtain⟨_,⟨e,_⟩ | ⟨g,cap,sp,e,hg,_⟩⟩:=ho
  ·rw[e] at hj;simp[Ae] at hj
  ·rw[e] at hj;simp[Ae] at hj;exact absurd (hg.inj (hj ▸ hB)) Aef
 refine AG func242 ntmps242 ?_;refine Sa ?_;refine LW.append_str rfl rfl rfl rfl rfl rfl rfl rfl rfl ho hz (by show(out.length+x.length)*2≤_;omega) rfl ?_;intro v' w1 a2 a3 aa;have a6:Fp w w1:=Fp.chg a2 (λk hk l T hb=>.inr (by
  obtain⟨_,⟨e,_⟩ | ⟨g,cap,sp,e,hg,_⟩⟩:=ho
  ·rw[e] at hk;simp[Ae] at hk
  ·rw[e] at hk;simp[Ae] at hk;subst hk;exact hb.inj hg))
 have a7:Ah s.w0 w1:=h0.step a2 (λk hk=>(ho.lt hk).1);have a1:=hB.chg a2 (λhm=>a0 ho hB _ hm Aej);obtain⟨p1,c1,rfl⟩:=a3.slice;have a5:=a1;refine Sa ?_;refine Cu λw2 a4 a1=>?_;replace a1:Blk w2 s.b [.slice s.p s.l.length s.c,.slice p1 (out.length+x.length) c1] 218:=a1;have a8:Fp w1 w2:=Fp.chg a4 (λk hk l T hb=>by simp at hk;subst hk;exact .inl (hb.inj a5));have a9:=a3.chg a4 (a0 a3 a5);refine Sa ?_;refine QW.body_n (rs:=[]) (vs:=[]) results242 trivial rfl ⟨rfl,⟨a7.step a4 Ae6,_,a1,?_⟩,a6.trans a8⟩;have e1:AH (out++x)=AH out++AH x:=by simp[AH]
 rw[e1,Aa9];exact a9
def YJ(k:Int):List UInt8:=if k=8 then[45] else if 9≤k∧k≤19 then F3 k else[]
theorem Vm(k:Int)(w:World):A9 prog 246 [.int .i64 k] w (λv w'=>v=.tuple #[Aq (YJ k),.int .i64 (BT k:Int)]∧Ah w w'):=by
 refine AG func246 ntmps246 ?_;refine Sa ?_;refine Av (λq9=>?_) λq9=>?_
 ·have q9:k=9:=by simpa using q9
  subst q9;refine Sa ?_;exact QW.body2 rfl rfl rfl ⟨rfl,Chg.refl _ _⟩
 have q9:¬k=9:=by simpa using q9
 refine Sa ?_;refine Av (λq10=>?_) λq10=>?_
 ·have q10:k=10:=by simpa using q10
  subst q10;refine Sa ?_;exact QW.body2 rfl rfl rfl ⟨rfl,Chg.refl _ _⟩
 have q10:¬k=10:=by simpa using q10
 refine Sa ?_;refine Av (λq11=>?_) λq11=>?_
 ·have q11:k=11:=by simpa using q11
  subst q11;refine Sa ?_;exact QW.body2 rfl rfl rfl ⟨rfl,Chg.refl _ _⟩
 have q11:¬k=11:=by simpa using q11
 refine Sa ?_;refine Av (λq12=>?_) λq12=>?_
 ·have q12:k=12:=by simpa using q12
  subst q12;refine Sa ?_;exact QW.body2 rfl rfl rfl ⟨rfl,Chg.refl _ _⟩
 have q12:¬k=12:=by simpa using q12
 refine Sa ?_;refine Av (λq13=>?_) λq13=>?_
 ·have q13:k=13:=by simpa using q13
  subst q13;refine Sa ?_;exact QW.body2 rfl rfl rfl ⟨rfl,Chg.refl _ _⟩
 have q13:¬k=13:=by simpa using q13
 refine Sa ?_;refine Av (λq14=>?_) λq14=>?_
 ·have q14:k=14:=by simpa using q14
  subst q14;refine Sa ?_;exact QW.body2 rfl rfl rfl ⟨rfl,Chg.refl _ _⟩
 have q14:¬k=14:=by simpa using q14
 refine Sa ?_;refine Av (λq15=>?_) λq15=>?_
 ·have q15:k=15:=by simpa using q15
  subst q15;refine Sa ?_;exact QW.body2 rfl rfl rfl ⟨rfl,Chg.refl _ _⟩
 have q15:¬k=15:=by simpa using q15
 refine Sa ?_;refine Av (λq16=>?_) λq16=>?_
 ·have q16:k=16:=by simpa using q16
  subst q16;refine Sa ?_;exact QW.body2 rfl rfl rfl ⟨rfl,Chg.refl _ _⟩
 have q16:¬k=16:=by simpa using q16
 refine Sa ?_;refine Av (λq17=>?_) λq17=>?_
 ·have q17:k=17:=by simpa using q17
  subst q17;refine Sa ?_;exact QW.body2 rfl rfl rfl ⟨rfl,Chg.refl _ _⟩
 have q17:¬k=17:=by simpa using q17
 refine Sa ?_;refine Av (λq18=>?_) λq18=>?_
 ·have q18:k=18:=by simpa using q18
  subst q18;refine Sa ?_;exact QW.body2 rfl rfl rfl ⟨rfl,Chg.refl _ _⟩
 have q18:¬k=18:=by simpa using q18
 refine Sa ?_;refine Av (λq19=>?_) λq19=>?_
 ·have q19:k=19:=by simpa using q19
  subst q19;refine Sa ?_;exact QW.body2 rfl rfl rfl ⟨rfl,Chg.refl _ _⟩
 have q19:¬k=19:=by simpa using q19
 refine Sa ?_;refine Av (λq8=>?_) λq8=>?_
 ·have q8:k=8:=by simpa using q8
  subst q8;refine Sa ?_;exact QW.body2 rfl rfl rfl ⟨rfl,Chg.refl _ _⟩
 have q8:¬k=8:=by simpa using q8
 refine Sa ?_;refine QW.body2 rfl rfl rfl ⟨?_,Chg.refl _ _⟩;have e1:YJ k=[]:=by unfold YJ;rw[if_neg q8,if_neg Aeb]
 have e2:BT k=6:=by unfold BT;rw[if_neg q8,if_neg Aeb,if_neg Aeb,if_neg Aeb,if_neg Aeb]
 rw[e1,e2];rfl
def ND(s:SC)(f:FuncId)(t:Tr false):Prop:=∀(o i:Nat) (out:List UInt8) (w:World),t.Fit→t.Num→Ek s.l o t→i+1=o+t.cnt→out.length+t.text.length≤1000000000000→Pr s w out→A9 prog f [.pointer (some ⟨s.b,0,none⟩),.int .i64 (i:Int)] w (λv w'=>v=.tuple #[]∧Pr s w' (out++t.text)∧Fp w w')
theorem I3{s:SC}(hc:s.Ok)(t:Tr false)(ht:ND s 156 t)(least:Nat)(o i:Nat)(out:List UInt8)(w:World)(hf:t.Fit)(hn:t.Num)(hl:Ek s.l o t)(hio:i+1=o+t.cnt)(htl:out.length+(Ip (decide (t.rank<least)) t.text).length≤1000000000000)(h:Pr s w out) :
  A9 prog 245 [.pointer (some ⟨s.b,0,none⟩),.int .i64 (i:Int),.int .i64 (least:Int)] w (λv w'=>v=.tuple #[]∧Pr s w' (out++Ip (decide (t.rank<least)) t.text)∧Fp w w'):=by
 have a1:=hl.node;rw[show o+t.cnt - 1=i by omega] at a1;have hi:i<s.l.length:=(Abo.1 a1).1;have a0:=h;obtain⟨h0,v,hB,ho⟩:=h;have hN:=hc.nodes.ext h0;obtain⟨a,kp,kc,ea,-,a5⟩:=hN.at a1;rw[ea] at hB;have a6:=PP a5 rfl;have ab:=t.cnt_pos;have ac:=hN.1;have ad:=Kk (decide (t.rank<least)) t.text;refine AG func245 ntmps245 ?_;refine Sa ?_;refine Lo ?_;refine Ln ?_;refine Lp a6 ?_;refine Ap rfl rfl (Vm (D7 o t).kind w) ?_;rintro v w1 ⟨rfl,a2⟩;rw[Jn o t hf];replace a0:=a0.ext a2;refine Sa ?_;refine Av (λh1=>?_) λh1=>?_
 ·have h1:¬t.rank<least:=by simp at h1;omega
  have e:Ip (decide (t.rank<least)) t.text=t.text:=by simp[Ip,h1]
  rw[e] at htl ⊢;refine Sa ?_;refine Ap rfl rfl (ht o i out w1 hf hn hl hio htl a0) ?_;rintro v w2 ⟨rfl,a3,a4⟩;refine Sa ?_;exact QW.body (rs:=[]) (vs:=[]) results245 trivial rfl ⟨rfl,a3,(Fp.ext a2).trans a4⟩
 ·have h1:t.rank<least:=by simp at h1;omega
  have e:Ip (decide (t.rank<least)) t.text=[40]++t.text++[41]:=by simp[Ip,h1]
  rw[e] at htl ⊢;simp only[Aa9,Abe,Ab3] at htl;refine Sa ?_;refine Ap rfl rfl (Ew hc a0 [40] Aee) ?_;rintro v w2 ⟨rfl,a3,a4⟩;refine Sa ?_;refine Ap rfl rfl (ht o i _ w2 hf hn hl hio Aee a3) ?_;rintro v w3 ⟨rfl,a7,a8⟩;refine Sa ?_;refine Ap rfl rfl (Ew hc a7 [41] Aee) ?_;rintro v w4 ⟨rfl,a9,aa⟩;refine Sa ?_;refine QW.body_n (rs:=[]) (vs:=[]) results245 trivial rfl ⟨rfl,by simpa[Abn] using a9,(((Fp.ext a2).trans a4).trans a8).trans aa⟩
theorem Ow(r:C3):(Cl r).length≤r.sheet.length+10:=by
 unfold Cl
 split
 ·exact LM Aen
 ·simp
theorem W3{s:SC}(hc:s.Ok)(n:Aj)(q:Option Addr)(m k:Nat)(out:List UInt8)(w:World)(hf:(Tr.leaf n).Fit)(hn:(Tr.leaf n).Num)(hsh:n.text.length≤1000∧n.ref.sheet.length≤1000∧n.to.sheet.length≤1000)(htl:out.length+(Tr.leaf n).text.length≤1000000000000)(h:Pr s w out) :
  A9 prog 201 [.pointer (some ⟨s.b,0,none⟩),.agg ⟨BO ⟨n,.slice q m k⟩⟩] w (λv w'=>v=.tuple #[]∧Pr s w' (out++(Tr.leaf n).text)∧Fp w w'):=by
 obtain⟨kd,num,text,ref,to,kids⟩:=n;obtain⟨k0,k1,_,a8⟩:=hf;have ho:=Ee a8;rw[Lw a8 k0 k1] at htl ⊢;simp only at k0 k1;obtain⟨aa,ab,ac⟩:=hsh;simp only at aa ab ac;have a4:=h.1;have hq:=LA text;have af:=Ow ref;have ag:=Ow to;refine AG func201 ntmps201 ?_;refine Sa ?_;refine C0 λA w1 ah a3 hA=>?_;replace hA:Blk w1 A (BO ⟨⟨kd,num,text,ref,to,kids⟩,.slice q m k⟩) 189:=hA;replace h:=h.ext a3;replace a4:=a4.trans a3;have g:=hc.glob.ext a4;have:kd=1∨kd=2∨kd=3∨kd=4∨kd=5∨kd=6:=Aeb
 rcases this with rfl | rfl | rfl | rfl | rfl | rfl
 ·have ad:num≤9223372036854775807:=hn ⟨1,[],num,A4,0⟩ (by simp[Tr.toks,C1]);have ai:0≤num:=by simpa[F9] using ho
  simp only[if_true] at htl ⊢;refine Sa ?_;refine Ap rfl rfl (MI num Aeb ad _ g) ?_;rintro v w3 ⟨rfl,a0⟩;replace h:=h.ext a0;refine Sa ?_;refine Ap rfl rfl (Ew hc h _ Aeb) ?_;rintro v w4 ⟨rfl,a1,a2⟩;refine Sa ?_;exact QW.body_n (rs:=[]) (vs:=[]) results201 trivial rfl ⟨rfl,a1,(Fp.ext (a3.trans a0)).trans a2⟩
 ·simp only[Int.reduceEq,if_true,if_false] at htl ⊢;have he:=XH text;refine Sa ?_;refine Ap rfl rfl (MM text [34] [34,34] Aeb Aej Aej _ g) ?_;rintro v w3 ⟨rfl,a0⟩;rw[S5];replace h:=h.ext a0;rw[JQ] at htl ⊢;generalize text.flatMap Iv=E at he htl ⊢;simp only[Aa9,Abe,Ab3] at htl;refine Sa ?_;refine Ap rfl rfl (Ew hc h ([34]++E++[34]) Aee) ?_;rintro v w4 ⟨rfl,a1,a2⟩;refine Sa ?_;exact QW.body_n (rs:=[]) (vs:=[]) results201 trivial rfl ⟨rfl,a1,(Fp.ext (a3.trans a0)).trans a2⟩
 ·simp only[Int.reduceEq,if_true,if_false] at htl ⊢;have a5:num=0∨num=1:=by simpa[F9] using ho
  refine Sa ?_;refine CR λB w3 aj a0 hB=>?_;replace h:=h.ext a0;replace hA:=hA.ext a0;rcases a5 with rfl | rfl
  ·refine Sz ?_;refine Ap rfl rfl (Ew hc h [70,65,76,83,69] Aee) ?_;rintro v w4 ⟨rfl,a1,a2⟩;refine Sa ?_;exact QW.body_n (rs:=[]) (vs:=[]) results201 trivial rfl ⟨rfl,a1,(Fp.ext (a3.trans a0)).trans a2⟩
  ·refine Sz ?_;refine Ap rfl rfl (Ew hc h [84,82,85,69] Aee) ?_;rintro v w4 ⟨rfl,a1,a2⟩;refine Sa ?_;exact QW.body_n (rs:=[]) (vs:=[]) results201 trivial rfl ⟨rfl,a1,(Fp.ext (a3.trans a0)).trans a2⟩
 ·simp only[Int.reduceEq,if_true,if_false] at htl ⊢;refine Sa ?_;refine Ap rfl rfl (Ew hc h [35,82,69,70,33] Aee) ?_;rintro v w4 ⟨rfl,a1,a2⟩;refine Sa ?_;exact QW.body_n (rs:=[]) (vs:=[]) results201 trivial rfl ⟨rfl,a1,(Fp.ext a3).trans a2⟩
 ·simp only[Int.reduceEq,if_true,if_false] at htl ⊢;refine Sa ?_;refine LW.load_agg (cs:=AU ref) rfl hA rfl rfl rfl ⟨rfl,rfl,rfl,rfl,rfl,trivial⟩ rfl ?_;refine Sa ?_;refine Ap rfl rfl (Ke ref Aeb _ g) ?_;rintro v w3 ⟨rfl,a0⟩;replace h:=h.ext a0;refine Sa ?_;refine Ap rfl rfl (Ew hc h _ Aeb) ?_;rintro v w4 ⟨rfl,a1,a2⟩;refine Sa ?_;exact QW.body_n (rs:=[]) (vs:=[]) results201 trivial rfl ⟨rfl,a1,(Fp.ext (a3.trans a0)).trans a2⟩
 ·simp only[Int.reduceEq,if_false] at htl ⊢;simp only[Aa9,Abe,Ab3] at htl;refine Sa ?_;refine CW.drawHeld (λw'=>Blk w' A (BO ⟨⟨6,num,text,ref,to,kids⟩,.slice q m k⟩) 189) (λw' h=>hA.ext h) Aec λw2 a6=>?_;replace h:=h.ext a6;replace g:=g.ext a6;refine Sh ?_;refine HW.take 2 rfl rfl rfl rfl (λw hw=>Y.load_agg (cs:=AU ref) rfl hw rfl rfl rfl ⟨rfl,rfl,rfl,rfl,rfl,trivial⟩) rfl Aec Aec Aec (λ_ _ _ h=>h) ?_;refine HW.take 5 rfl rfl rfl rfl (λw _=>Y.pure rfl) rfl Aec Aec Aec (λ_ _ _ h=>h) ?_;refine HW.take 6 rfl rfl rfl rfl (λw hw=>Y.load_agg (cs:=AU to) rfl hw rfl rfl rfl ⟨rfl,rfl,rfl,rfl,rfl,trivial⟩) rfl Aec Aec Aec (λ_ _ _ h=>h) ?_;refine HW.one 3 Aec rfl rfl (λhS=>?_);refine Ap rfl rfl (Ke ref Aeb _ g) ?_;rintro v w3 ⟨rfl,a0⟩;replace h:=h.ext a0;replace g:=g.ext a0;apply LW.nil;refine QW.held (hS.ext a0) ?_;refine HW.take 4 rfl rfl rfl rfl (λw _=>Y.go rfl Ael) rfl Aec Aec Aec (λ_ _ _ h=>h) ?_;refine HW.one 7 Aec rfl rfl (λhS=>?_);refine Ap rfl rfl (Ke to Aeb _ g) ?_;rintro v w4 ⟨rfl,a7⟩;replace h:=h.ext a7;apply LW.nil;refine QW.held (hS.ext a7) ?_;refine HW.take 8 rfl rfl rfl rfl (λw _=>Y.go rfl Ael) rfl Aec Aec Aec (λ_ _ _ h=>h) ?_;refine HW.one 9 Aec rfl rfl (λhS=>?_);refine Ap rfl rfl (Ew hc h (Cl ref++[58]++Cl to) Ae4) ?_;rintro v w5 ⟨rfl,ae,a9⟩;apply LW.nil;refine QW.held (a9.blk _ _ _ hS Aef Aef) ?_;refine HW.done Aec ?_;refine Sa ?_;exact QW.body_n (rs:=[]) (vs:=[]) results201 trivial rfl ⟨rfl,ae,(Fp.ext (((a3.trans a6).trans a0).trans a7)).trans a9⟩
theorem Us{s:SC}(hc:s.Ok)(b:Tr false)(hb:ND s 156 b)(o:Nat)(q:Option Addr)(k:Nat)(out:List UInt8)(w:World)(hf:b.Fit)(hn:b.Num)(hl:Ek s.l o b)(hk:AP s.w0 (.slice q 1 k) [((o+b.cnt - 1:Nat):Int)])(htl:out.length+(Tr.neg b).text.length≤1000000000000)(h:Pr s w out) :
  A9 prog 203 [.pointer (some ⟨s.b,0,none⟩),.agg ⟨BO ⟨{kind:=8,kids:=[((o+b.cnt - 1:Nat):Int)]},.slice q 1 k⟩⟩] w (λv w'=>v=.tuple #[]∧Pr s w' (out++(Tr.neg b).text)∧Fp w w'):=by
 have a6:=b.cnt_pos;rw[N9] at htl ⊢;simp only[Aa9,Abe,Ab3] at htl;obtain⟨j,hj⟩:∃j,j=o+b.cnt - 1:=⟨_,rfl⟩;rw[←hj] at hk ⊢;obtain⟨ka,rfl,a0⟩:=Iw (p:=q) (c:=k) (zs:=[(j:Int)]) hk (i:=0) rfl;refine AG func203 ntmps203 ?_;refine Sa ?_;refine C0 λA w1 a7 a1 hA=>?_;replace hA:Blk w1 A (BO ⟨{kind:=8,kids:=[(j:Int)]},.slice (some ka) 1 k⟩) 189:=hA;replace h:=h.ext a1;refine Sa ?_;refine Ap rfl rfl (Ew hc h [45] Aee) ?_;rintro v w2 ⟨rfl,a2,a3⟩;replace hA:=a3.blk _ _ _ hA Aef Aef;replace a0:=A2 a2.1 a0;refine Sa ?_;refine Lo ?_;refine Lp a0 ?_;refine Ap rfl rfl (I3 hc b hb 5 o j _ w2 hf hn hl Aeb Ae4 a2) ?_;rintro v w3 ⟨rfl,a4,a5⟩;refine Sa ?_;exact QW.body_n (rs:=[]) (vs:=[]) results203 trivial rfl ⟨rfl,by simpa only[Abn] using a4,((Fp.ext a1).trans a3).trans a5⟩
theorem Y3{s:SC}(hc:s.Ok)(x:Int)(b d:Tr false)(hb:ND s 156 b)(hd:ND s 156 d)(o:Nat)(q:Option Addr)(k:Nat)(out:List UInt8)(w:World)(hx9:9≤x)(hx19:x≤19)(hfb:b.Fit)(hnb:b.Num)(hfd:d.Fit)(hnd:d.Num)(hlb:Ek s.l o b)(hld:Ek s.l (o+b.cnt) d)(hk:AP s.w0 (.slice q 2 k) [((o+b.cnt - 1:Nat):Int),((o+b.cnt+d.cnt - 1:Nat):Int)])(htl:out.length+(Tr.two x b d).text.length≤1000000000000)(h:Pr s w out) :
  A9 prog 204 [.pointer (some ⟨s.b,0,none⟩),.agg ⟨BO ⟨{kind:=x,kids:=[((o+b.cnt - 1:Nat):Int),((o+b.cnt+d.cnt - 1:Nat):Int)]},.slice q 2 k⟩⟩] w (λv w'=>v=.tuple #[]∧Pr s w' (out++(Tr.two x b d).text)∧Fp w w'):=by
 have ab:=b.cnt_pos;have ac:=d.cnt_pos;have a7:YJ x=F3 x:=by unfold YJ;rw[if_neg Aeb,if_pos ⟨hx9,hx19⟩]
 have ad:BT x≤10:=by unfold BT;split<;>(try split)<;>(try split)<;>(try split)<;>(try split)<;>omega
 rw[Oz] at htl ⊢;simp only[Aa9] at htl;obtain⟨j,hj⟩:∃j,j=o+b.cnt - 1:=⟨_,rfl⟩;obtain⟨y,hy⟩:∃y,y=o+b.cnt+d.cnt - 1:=⟨_,rfl⟩;rw[←hj,←hy] at hk ⊢;obtain⟨ka,rfl,a0⟩:=Iw (p:=q) (c:=k) (zs:=[(j:Int),(y:Int)]) hk (i:=0) rfl;obtain⟨ka',ek,a1⟩:=Iw (p:=some ka) (c:=k) (zs:=[(j:Int),(y:Int)]) hk (i:=1) rfl;obtain rfl:=Ab9 ek;refine AG func204 ntmps204 ?_;refine Sa ?_;refine C0 λA w1 ae a3 hA=>?_;replace hA:Blk w1 A (BO ⟨{kind:=x,kids:=[(j:Int),(y:Int)]},.slice (some ka) 2 k⟩) 189:=hA;replace h:=h.ext a3;refine Sa ?_;refine Ap rfl rfl (Vm x w1) ?_;rintro v w2 ⟨rfl,a2⟩;rw[a7];replace h:=h.ext a2;replace hA:=hA.ext a2;replace a0:=A2 h.1 a0;refine Sa ?_;refine Lo ?_;refine Lp a0 ?_;refine Sa ?_;refine Ap rfl rfl (I3 hc b hb (BT x) o j _ w2 hfb hnb hlb Aeb Aeb h) ?_;rintro v w3 ⟨rfl,a8,a4⟩;replace hA:=a4.blk _ _ _ hA Aef Aef;refine Sa ?_;refine Ap rfl rfl (Ew hc a8 (F3 x) (by simp only[Aa9];omega)) ?_;rintro v w4 ⟨rfl,a5,a6⟩;replace hA:=a6.blk _ _ _ hA Aef Aef;replace a1:=A2 a5.1 a1;refine Sa ?_;refine Lo ?_;refine Lp a1 ?_;refine Sa ?_;have er:((BT x:Nat):Int)+1=((BT x+1:Nat):Int):=Aeb
 rw[er];refine Ap rfl rfl (I3 hc d hd (BT x+1) (o+b.cnt) y _ w4 hfd hnd hld Aeb (by simp only[Aa9];omega) a5) ?_;rintro v w5 ⟨rfl,a9,aa⟩;refine Sa ?_;exact QW.body_n (rs:=[]) (vs:=[]) results204 trivial rfl ⟨rfl,by simpa only[Abn] using a9,(((Fp.ext (a3.trans a2)).trans a4).trans a6).trans aa⟩
theorem Wz{s:SC}(hc:s.Ok)(x:List UInt8)(ks:Tr true)(hks:∀(b:Tr false),b.cnt≤ks.cnt→ND s 156 b)(o:Nat)(q:Option Addr)(k:Nat)(out:List UInt8)(w:World)(hfk:ks.Fit)(hnk:ks.Num)(hlk:Ek s.l o ks)(hk:AP s.w0 (.slice q (ks.kids o).length k) (ks.kids o))(htl:out.length+(Tr.call x ks).text.length≤1000000000000)(h:Pr s w out) :
  A9 prog 202 [.pointer (some ⟨s.b,0,none⟩),.agg ⟨BO ⟨{kind:=7,text:=x,kids:=ks.kids o},.slice q (ks.kids o).length k⟩⟩] w (λv w'=>v=.tuple #[]∧Pr s w' (out++(Tr.call x ks).text)∧Fp w w'):=by
 rw[KS x o] at htl ⊢;simp only[Aa9,Abe,Ab3] at htl;have a2:=Q5 ks hfk hnk hlk;obtain⟨kids,a1⟩:∃kids,kids=ks.kids o:=⟨_,rfl⟩;rw[←a1] at hk ⊢;rw[Og] at a1;have aj:kids.length=(ks.row o).length:=by rw[a1];simp
 obtain⟨r,hr⟩:∃r,r=ks.row o:=⟨_,rfl⟩;rw[←hr] at a2 a1 aj htl ⊢;have ak:=hk.1;refine AG func202 ntmps202 ?_;refine Sa ?_;refine C0 λA w1 ap ai hA=>?_;replace hA:Blk w1 A (BO ⟨{kind:=7,text:=x,kids:=kids},.slice q kids.length k⟩) 189:=hA;replace h:=h.ext ai;refine Sa ?_;refine Ap rfl rfl (Ew hc h (x++[40]) Ae4) ?_;rintro v w2 ⟨rfl,al,a5⟩;replace hA:=a5.blk _ _ _ hA Aef Aef;replace a5:=(Fp.ext ai).trans a5;refine Sa ?_;refine CW.loop (ι:=Nat) (λn w'=>n≤r.length∧Pr s w' (out++(x++[40])++He r n)∧Fp w w') (λn=>[(0,.pointer (some ⟨s.b,0,none⟩)),(12,.slice q kids.length k),(13,.int .i64 (kids.length:Int)),(14,.int .i64 (n:Int))]) (λn=>r.length - n) 0 ⟨by omega,by simpa only[He,AbD] using al,a5⟩ Bl ?_;rintro n w3 ⟨aq,a6,a8⟩;have a3:=Hf (r:=r) n (r.length - n) Aeb;rw[show n+(r.length - n)=r.length by omega] at a3;refine Sa ?_;refine Av (λh1=>?_) λh1=>?_;rotate_left
 ·have h1:n=r.length:=by simp at h1;omega
  subst h1;refine Sa ?_;refine Ap rfl rfl (Ew hc a6 [41] Ae4) ?_;rintro v w4 ⟨rfl,a9,aa⟩;refine Sa ?_;exact QW.body_n (rs:=[]) (vs:=[]) results202 trivial rfl ⟨rfl,by simpa only[Abn] using a9,a8.trans aa⟩
 have h1:n<r.length:=by simp at h1;omega
 obtain⟨⟨o',b⟩,ab⟩:∃y,r[n]?=some y:=⟨_,Aav h1⟩;obtain⟨ac,ad,ae,af,am⟩:=a2 _ (Ab4 ab);simp only at ac ad ae af am;have ar:=b.cnt_pos;obtain⟨j,hj⟩:∃j,j=o'+b.cnt - 1:=⟨_,rfl⟩;have an:kids[n]?=some (j:Int):=by rw[a1,AbR,ab,hj];rfl
 obtain⟨ka,rfl,a7⟩:=Iw hk an;rw[show n=((n:Nat):Int).toNat*1 by omega] at a7;replace a7:=A2 a6.1 a7;have a0:=LC ab;simp only at a0;have ao:=Hf (r:=r) (n+1) (r.length - (n+1)) Aeb;rw[show n+1+(r.length - (n+1))=r.length by omega] at ao;have a4:=congrArg List.length a0;simp only[Aa9] at a4;refine Sa ?_;refine Lo ?_;refine Lp a7 ?_;refine Sa ?_;refine Av (λh2=>?_) λh2=>?_
 ·have h2:0<n:=by simp at h2;omega
  rw[if_pos h2] at a4 a0;simp only[Abe,Ab3] at a4;refine Sa ?_;refine Ap rfl rfl (Ew hc a6 [44] Ae4) ?_;rintro v w4 ⟨rfl,a9,aa⟩;refine Sa ?_;refine Ap rfl rfl (hks b af o' j _ w4 ad ae ac Aeb Ae4 a9) ?_;rintro v w5 ⟨rfl,ag,ah⟩;refine Sa ?_;refine QW.again (n+1) ⟨h1,?_,(a8.trans aa).trans ah⟩ Bl Aeb;rw[a0]
  simpa only[Abn] using ag
 ·have h2:¬0<n:=by simp at h2;omega
  rw[if_neg h2] at a4 a0;simp only[Ab3] at a4;refine Sa ?_;refine Ap rfl rfl (hks b af o' j _ w3 ad ae ac Aeb Ae4 a6) ?_;rintro v w5 ⟨rfl,ag,ah⟩;refine Sa ?_;refine QW.again (n+1) ⟨h1,?_,a8.trans ah⟩ Bl Aeb;rw[a0]
  simpa only[Abn,AbD] using ag
theorem UV{s:SC}(hc:s.Ok):∀(m:Nat) (t:Tr false),t.cnt≤m→ND s 156 t
 | 0,t,hm=>absurd t.cnt_pos Aeb
 | m+1,t,hm=>by
  intro o i out w hf hn hl hio htl h;have ih:=UV hc m;have hnd:=hl.node;rw[show o+t.cnt - 1=i by omega] at hnd;have hi:i<s.l.length:=(Abo.1 hnd).1;have hsn:=hc.short _ (Ab4 hnd);have hN:=hc.nodes;have hl1:=hN.1;obtain⟨a,kp,kc,ea,hk,hc0⟩:=hN.at hnd;have hpr:=h;obtain⟨h0,v,hB,ho⟩:=h;rw[ea] at hB;have hcl:∀j u,(BO ⟨D7 o t,.slice kp (D7 o t).kids.length kc⟩)[j]?=some u→w.cell? ((a.add (i*14)).add j)=some u:=λj u hu=>A2 h0 (hc0 j u hu)
  cases t with
  | leaf n=>
   have k0:=hf.1;have k1:=hf.2.1
   change ∀j u,(BO ⟨n,.slice kp n.kids.length kc⟩)[j]?=some u→_ at hcl
   refine AG func156 ntmps156 ?_;refine Sa ?_;refine Lo ?_;refine LW.load_cells rfl hcl rfl rfl rfl rfl ?_;refine Sa ?_;refine B1 λA w1 hbA hx1 hA=>?_;refine Sa ?_;refine AF λw2 hc2 hA=>?_;have hx2:Ah w w2:=hx1.step hc2 Aee;replace hpr:=hpr.ext hx2;refine Sa ?_;refine CW.no rfl (decide_eq_false (show ¬n.kind=7 by omega)) ?_;refine Sa ?_;refine CW.no rfl (decide_eq_false (show ¬n.kind=8 by omega)) ?_;refine Sa ?_;refine CW.no rfl (decide_eq_false (show ¬(8:Int)<n.kind by omega)) ?_;refine Sa ?_;refine LW.call (f:=201) (fs:=[]) (cs:=[]) rfl rfl rfl (W3 hc n kp n.kids.length kc out w2 hf hn hsn htl hpr) ?_;rintro v w3 ⟨rfl,hp3,hf3⟩;refine Sa ?_
   exact QW.body_n (rs:=[]) (vs:=[]) results156 trivial rfl ⟨rfl,hp3,(Fp.ext hx2).trans hf3⟩
  | neg b=>
   change ∀j u,(BO ⟨{kind:=8,kids:=[((o+b.cnt - 1:Nat):Int)]},.slice kp 1 kc⟩)[j]?=some u→_ at hcl
   simp only[Tr.cnt] at hm;refine AG func156 ntmps156 ?_;refine Sa ?_;refine Lo ?_;refine LW.load_cells rfl hcl rfl rfl rfl rfl ?_;refine Sa ?_;refine B1 λA w1 hbA hx1 hA=>?_;refine Sa ?_;refine AF λw2 hc2 hA=>?_;have hx2:Ah w w2:=hx1.step hc2 Aee;replace hpr:=hpr.ext hx2;refine Sa ?_;refine LW.call (f:=203) (fs:=[]) (cs:=[]) rfl rfl rfl (Us hc b (ih b Aeb) o kp kc out w2 hf (λu hu=>hn u Aev) hl.neg hk htl hpr) ?_;rintro v w3 ⟨rfl,hp3,hf3⟩;refine Sa ?_
   exact QW.body_n (rs:=[]) (vs:=[]) results156 trivial rfl ⟨rfl,hp3,(Fp.ext hx2).trans hf3⟩
  | two x b d=>
   obtain⟨hk9,hk19,hfb,hfd⟩:=hf
   change ∀j u,(BO ⟨{kind:=x,kids:=[((o+b.cnt - 1:Nat):Int),((o+b.cnt+d.cnt - 1:Nat):Int)]},.slice kp 2 kc⟩)[j]?=some u→_ at hcl
   simp only[Tr.cnt] at hm;refine AG func156 ntmps156 ?_;refine Sa ?_;refine Lo ?_;refine LW.load_cells rfl hcl rfl rfl rfl rfl ?_;refine Sa ?_;refine B1 λA w1 hbA hx1 hA=>?_;refine Sa ?_;refine AF λw2 hc2 hA=>?_;have hx2:Ah w w2:=hx1.step hc2 Aee;replace hpr:=hpr.ext hx2;refine Sa ?_;refine CW.no rfl (decide_eq_false (show ¬x=7 by omega)) ?_;refine Sa ?_;refine CW.no rfl (decide_eq_false (show ¬x=8 by omega)) ?_;refine Sa ?_;refine CW.yes rfl (decide_eq_true (show(8:Int)<x by omega)) ?_;refine Sa ?_;refine LW.call (f:=204) (fs:=[]) (cs:=[]) rfl rfl rfl (Y3 hc x b d (ih b Aeb) (ih d Aeb) o kp kc out w2 hk9 hk19 hfb (λu hu=>hn u Aer) hfd (λu hu=>hn u Aeq) hl.two.1 hl.two.2 hk htl hpr) ?_;rintro v w3 ⟨rfl,hp3,hf3⟩;refine Sa ?_
   exact QW.body_n (rs:=[]) (vs:=[]) results156 trivial rfl ⟨rfl,hp3,(Fp.ext hx2).trans hf3⟩
  | call x ks=>
   change ∀j u,(BO ⟨{kind:=7,text:=x,kids:=ks.kids o},.slice kp (ks.kids o).length kc⟩)[j]?=some u→_ at hcl
   simp only[Tr.cnt] at hm;refine AG func156 ntmps156 ?_;refine Sa ?_;refine Lo ?_;refine LW.load_cells rfl hcl rfl rfl rfl rfl ?_;refine Sa ?_;refine B1 λA w1 hbA hx1 hA=>?_;refine Sa ?_;refine AF λw2 hc2 hA=>?_;have hx2:Ah w w2:=hx1.step hc2 Aee;replace hpr:=hpr.ext hx2;refine Sa ?_;refine LW.call (f:=202) (fs:=[]) (cs:=[]) rfl rfl rfl (Wz hc x ks (λb hb=>ih b Aeb) o kp kc out w2 hf.2 (QZ hn) hl.call hk htl hpr) ?_;rintro v w3 ⟨rfl,hp3,hf3⟩;refine Sa ?_;exact QW.body_n (rs:=[]) (vs:=[]) results156 trivial rfl ⟨rfl,hp3,(Fp.ext hx2).trans hf3⟩
theorem OK(l:List Aj)(v:Value)(w:World)(g:Dq w)(hN:Cv w v l)(hs:DN l)(hnum:J1 l):A9 prog 99 [v] w (λv' w'=>v'=Aq (BN l)∧Ah w w'):=by
 obtain⟨p,c,rfl⟩:=hN.slice;have hl:=hN.1;refine AG func99 ntmps99 ?_;refine Sa ?_;refine Ap rfl rfl (Xu l _ w g hN hs) ?_;rintro v w1 ⟨rfl,hx⟩;replace hN:=hN.ext hx;replace g:=g.ext hx;refine Sa ?_;refine Av (λh1=>?_) λh1=>?_
 ·have h1:BV l=false:=by simpa using h1
  refine Sa ?_;exact QW.body1 rfl rfl ⟨by rw[L9 h1],hx⟩
 have h1:BV l=true:=by simpa using h1
 obtain⟨t,rfl,hf⟩:=Ju h1;have a5:=t.cnt_pos;have a0:=t.flat_len 0;have hn:=hnum t hf rfl;have a1:=t.len_le 0 hf hn (λn hm=>(hs n hm).1);simp only[cond_false] at a1;rw[FO hf];refine Sa ?_;refine C0 λA w2 a6 a2 hA=>?_;replace hA:Blk w2 A [.slice p (t.flat 0).length c,.slice none 0 0] 218:=hA;have hc:SC.Ok ⟨t.flat 0,p,c,A,w1⟩:=⟨hN,hs,by simp only;omega,g⟩;have a3:Pr ⟨t.flat 0,p,c,A,w1⟩ w2 []:=⟨a2,_,hA,Own.nil _ _ _ _⟩;refine Sa ?_;have e:(((t.flat 0).length:Int) - 1)=((t.cnt - 1:Nat):Int):=Aeb
 rw[e];refine Ap rfl rfl (UV hc t.cnt t (Ab2 _) 0 (t.cnt - 1) [] w2 hf hn (Ek.whole t) Aeb Aee a3) ?_;rintro v w3 ⟨rfl,⟨a4,v,hB,ho⟩,-⟩;simp only[AbN] at ho;refine Sa ?_;refine LW.string_own rfl ho rfl rfl rfl rfl rfl rfl rfl ?_;refine Sa ?_;exact QW.body1 rfl rfl ⟨rfl,hx.trans a4⟩
end Go.Proofs.YtcjjcnecopnpcaaGreatDoor
