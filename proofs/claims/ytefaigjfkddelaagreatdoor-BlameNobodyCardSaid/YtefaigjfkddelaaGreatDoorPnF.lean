/-
  Joined by program out of the texts Open OpenS RShow PShow OpenC.
-/
import Derived.Test.YtefaigjfkddelaaGreatDoorPnA
import Derived.Test.YtefaigjfkddelaaGreatDoorTab
import Derived.ProofKit
import Derived.Lib.SmallJoins
import Derived.Test.YtefaigjfkddelaaGreatDoorPnB
import Derived.ChangeSlices
import Derived.WideShapes
import Derived.Test.YtefaigjfkddelaaGreatDoorPnC
import Derived.Test.YtefaigjfkddelaaGreatDoorPnE
import Derived.Test.YtefaigjfkddelaaGreatDoorPnD
import Derived.Lib.SplitLaws
namespace Go.Proofs.YtefaigjfkddelaaGreatDoor
open Tryz
open Go Go.E Go.ChangeShapes Go.WideShapes Go.ChangeAt Go.RowKit Go.Joins Go.ChangeMaps
theorem Aai{H:Type}{enc:TypeId×Value→H}{P:Program}{w:World}{base:Nat}{sp:Nat→Bool}{held:Bool}{t0 t1 t2 t3 t4:TypeId}{args:Array Value}{ds:List (DataW H)}{ps:List MemPlace}
  (h:DataW.TrodAll enc P w base sp held [t0,t1,t2,t3,t4] args.toList ds ps) :
  ∃v0 d0 p0 v1 d1 p1 v2 d2 p2 v3 d3 p3 v4 d4 p4,args=#[v0,v1,v2,v3,v4]∧ds=[d0,d1,d2,d3,d4]∧DataW.Trod enc P w base sp held t0 v0 d0 p0∧DataW.Trod enc P w base sp held t1 v1 d1 p1∧DataW.Trod enc P w base sp held t2 v2 d2 p2∧DataW.Trod enc P w base sp held t3 v3 d3 p3∧DataW.Trod enc P w base sp held t4 v4 d4 p4:=by
 obtain⟨l⟩:=args;obtain⟨v0,r0,d0,e0,p0,q0,a0,rfl,rfl,h0,k0⟩:=trodAll_cons h;obtain⟨v1,r1,d1,e1,p1,q1,a1,rfl,rfl,h1,k1⟩:=trodAll_cons k0;obtain⟨v2,r2,d2,e2,p2,q2,a2,rfl,rfl,h2,k2⟩:=trodAll_cons k1;obtain⟨v3,r3,d3,e3,p3,q3,a3,rfl,rfl,h3,k3⟩:=trodAll_cons k2;obtain⟨v4,r4,d4,e4,p4,q4,a4,rfl,rfl,h4,k4⟩:=trodAll_cons k3;obtain⟨rfl,rfl,rfl⟩:=trodAll_nil k4;subst a4;subst a3;subst a2;subst a1;simp only at a0;subst a0;exact⟨v0,d0,p0,v1,d1,p1,v2,d2,p2,v3,d3,p3,v4,d4,p4,rfl,rfl,h0,h1,h2,h3,h4⟩
open Go Go.E
def Iz(c:UInt8):List UInt8:=if c=34 then[34,34] else[c]
theorem JT(s:List UInt8):Ed s=34::s.flatMap Iz++[34]:=rfl
theorem R0{s:List UInt8}{i:Nat}(h:i<s.length):(s.take (i+1)).flatMap Iz=(s.take i).flatMap Iz++Iz s[i]:=by
 rw[Kb h,Adz];simp
theorem XY(s:List UInt8):(s.flatMap Iz).length≤2*s.length:=by
 have:=LN s;rw[JT] at this;simp only[Aax,AaT,AbH] at this;omega
theorem XS{s:List UInt8}{i:Nat}(h:i<s.length):ch (Ab s i)=s[i]:=by
 rw[BA h];unfold ch;simp
theorem Xa(s:List UInt8)(hs:s.length≤1000)(w:World):AF prog 117 [Am s] w (λv w'=>v=Am (Ed s)∧Ae w w'):=by
 refine AQ func117 ntmps117 ?_;refine Sa ?_;refine Cx λA w0 ad a7 a5=>?_;replace a5:Blk w0 A [.int .u8 34] 5:=a5;have ae:=a7.size;refine Sa ?_;refine CW.loop (ι:=Nat×Value) (λk w'=>k.1≤s.length∧Ae w w'∧A3 w' w.heap.size 5 1 k.2 (34::(s.take k.1).flatMap Iz).length (AM (34::(s.take k.1).flatMap Iz))) (λk=>[(0,Am s),(3,k.2),(4,.int .i64 (k.1:Int))]) (λk=>s.length - k.1) (0,.slice (some ⟨A,0,none⟩) 1 1) ⟨by simp,a7,⟨rfl,.inr ⟨A,1,[],rfl,a5,by simp,by simp,by omega⟩⟩⟩ Bh ?_;rintro⟨i,v⟩ w1 ⟨hi,hx,a1⟩;dsimp only at hi a1;have af:((s.take i).flatMap Iz).length≤2*i:=by
  have h1:=XY (s.take i);have h2:(s.take i).length≤i:=AdW _ _;omega
 generalize ho:34::(s.take i).flatMap Iz=out at a1;have ag:out.length≤2001:=by rw[←ho];simp only[AaT];omega
 have hz:=hx.size;show CW _ _ _ _ _ [(0,Am s),(3,v),(4,.int .i64 (i:Int))] _;refine Sa ?_;refine Av (λh1=>?_) λh1=>?_;rotate_left
 ·have h1:i=s.length:=by simp at h1;omega
  refine Sa ?_;refine Cx λB w2 a8 a2 hB=>?_;replace a1:=a1.ext a2;replace hx:=hx.trans a2;have a9:=a2.size;refine Sa ?_;refine LW.append rfl rfl rfl rfl rfl rfl a1 Aez hB rfl rfl rfl AeK rfl ?_;intro v' w3 a4 a0 aa;replace hx:=hx.step a4 (λk hk=>(a1.lt hk).1);refine Sa ?_;replace a0:A3 w3 w.heap.size 5 1 v' (out++[ch 34]).length (AM (out++[ch 34])):=Ft Aez Aez a0;refine LW.string_own rfl a0 rfl rfl rfl rfl rfl rfl rfl ?_;refine Sa ?_;refine QW.body1 rfl rfl ⟨?_,hx⟩;rw[←ho,h1,Acs,JT];rfl
 have h1:i<s.length:=by simp at h1;omega
 have ab:=CQ s i;refine Sa ?_;refine Av (λh2=>?_) λh2=>?_
 ·have h2:Ab s i=34:=by simpa using h2
  refine Sa ?_;refine Cx λB w2 a8 a2 hB=>?_;replace a1:=a1.ext a2;replace hx:=hx.trans a2;have a9:=a2.size;refine Sa ?_;refine LW.append rfl rfl rfl rfl rfl rfl a1 Aez hB rfl rfl rfl AeK rfl ?_;intro v' w3 a4 a0 aa;replace hx:=hx.step a4 (λk hk=>(a1.lt hk).1);refine Sa ?_;replace a0:A3 w3 w.heap.size 5 1 v' (out++[ch 34]).length (AM (out++[ch 34])):=Ft Aez Aez a0;have ah:=hx.size;refine Sa ?_;refine Cx λC w4 ai a6 hC=>?_;replace a0:=a0.ext a6;replace hx:=hx.trans a6;have aj:=a6.size;refine Sa ?_;refine LW.append rfl rfl rfl rfl rfl rfl a0 Aez hC rfl rfl rfl (by show((out++[ch 34]).length+1)*2≤140737488355328;simp;omega) rfl ?_;intro v2 w5 ac a3 ak;replace hx:=hx.step ac (λk hk=>(a0.lt hk).1);replace a3:=Ft ab.1 Aez a3;refine Sa ?_;refine QW.again (i+1,v2) ⟨h1,hx,?_⟩ Bh Afi;have e:34::(s.take (i+1)).flatMap Iz=out++[ch 34]++[ch (Ab s i)]:=by
   rw[R0 h1,←ho];have:s[i]=34:=by
    have:=XS h1;rw[h2] at this;exact this.symm
   rw[XS h1,this];simp[Iz,ch]
  dsimp only;rw[e];exact a3
 ·have h2:Ab s i≠34:=by simpa using h2
  refine Sa ?_;refine Cx λB w2 a8 a2 hB=>?_;replace a1:=a1.ext a2;replace hx:=hx.trans a2;have a9:=a2.size;refine Sa ?_;refine LW.append rfl rfl rfl rfl rfl rfl a1 Aez hB rfl rfl rfl AeK rfl ?_;intro v' w3 a4 a0 aa;replace hx:=hx.step a4 (λk hk=>(a1.lt hk).1);refine Sa ?_;replace a0:=Ft ab.1 Aez a0;refine Sa ?_;refine QW.again (i+1,v') ⟨h1,hx,?_⟩ Bh Afi;have e:34::(s.take (i+1)).flatMap Iz=out++[ch (Ab s i)]:=by
   rw[R0 h1,←ho];have:s[i]≠34:=λh=>h2 (by rw[BA h1,h];rfl);rw[XS h1];simp[Iz,this]
  dsimp only;rw[e];exact a0
theorem Uh(s:List UInt8)(hs:s.length≤1000000000000)(b:Bool)(w:World):AF prog 119 [Am s,.bool b] w (λv w'=>v=Am (Is b s)∧Ae w w'):=by
 refine AQ func119 ntmps119 ?_;refine Sa ?_;refine Av (λh1=>?_) λh1=>?_
 ·subst h1;refine Sa ?_;exact QW.body1 rfl rfl ⟨rfl,Chg.refl _ _⟩
 ·subst h1;refine Sa ?_;exact QW.body1 rfl rfl ⟨rfl,Chg.refl _ _⟩
theorem IB(k:Int)(w:World):AF prog 120 [.int .i64 k] w (λv w'=>v=.int .i64 (Cf k:Int)∧Ae w w'):=by
 have fin:∀z:Int,(Cf k:Int)=z→(Value.int .i64 z=.int .i64 (Cf k:Int)∧Ae w w):=λz h=>⟨by rw[h],Chg.refl _ _⟩;refine AQ func120 ntmps120 ?_;refine Sa ?_;by_cases h1:9≤k
 ·refine LW.know (t:=6) (c:=true) rfl Aft ?_;refine Sa ?_;refine Av (λh2=>?_) λh2=>?_
  ·have h2:k≤14:=by simpa using h2
   refine Sa ?_;exact QW.body1 rfl rfl (fin _ (by unfold Cf;rw[if_neg Aez,if_pos Aez];rfl))
  have h2:14<k:=by simpa using h2
  refine Sa ?_;refine Av (λh3=>?_) λh3=>?_
  ·have h3:k=15:=by simpa using h3
   refine Sa ?_;exact QW.body1 rfl rfl (fin _ (by subst h3;rfl))
  have h3:k≠15:=by simpa using h3
  refine Sa ?_;by_cases h4:k=16
  ·refine LW.know (t:=16) (c:=true) rfl (by simpa using h4) ?_;refine Sa ?_;exact QW.body1 rfl rfl (fin _ (by subst h4;rfl))
  refine LW.know (t:=16) (c:=false) rfl (by simpa using h4) ?_;refine Sa ?_;refine Av (λh5=>?_) λh5=>?_
  ·have h5:k=17:=by simpa using h5
   refine Sa ?_;exact QW.body1 rfl rfl (fin _ (by subst h5;rfl))
  have h5:k≠17:=by simpa using h5
  refine Sa ?_;by_cases h6:k=18
  ·refine LW.know (t:=23) (c:=true) rfl (by simpa using h6) ?_;refine Sa ?_;exact QW.body1 rfl rfl (fin _ (by subst h6;rfl))
  refine LW.know (t:=23) (c:=false) rfl (by simpa using h6) ?_;refine Sa ?_;refine Av (λh7=>?_) λh7=>?_
  ·have h7:k=19:=by simpa using h7
   refine Sa ?_;exact QW.body1 rfl rfl (fin _ (by subst h7;rfl))
  have h7:k≠19:=by simpa using h7
  refine Sa ?_;refine CW.no rfl (decide_eq_false Aez) ?_;refine Sa ?_;exact QW.body1 rfl rfl (fin _ (by unfold Cf;rw[if_neg Aez,if_neg Aez,if_neg Aez,if_neg Aez,if_neg Aez];rfl))
 ·refine LW.know (t:=6) (c:=false) rfl Aft ?_;refine Sa ?_;refine CW.no rfl (decide_eq_false Aez) ?_;refine Sa ?_;refine LW.know (t:=16) (c:=false) rfl Ae0 ?_;refine Sa ?_;refine CW.no rfl (decide_eq_false Aez) ?_;refine Sa ?_;refine LW.know (t:=23) (c:=false) rfl Ae0 ?_;refine Sa ?_;refine CW.no rfl (decide_eq_false Aez) ?_;refine Sa ?_;refine Av (λh8=>?_) λh8=>?_
  ·have h8:k=8:=by simpa using h8
   refine Sa ?_;exact QW.body1 rfl rfl (fin _ (by subst h8;rfl))
  have h8:k≠8:=by simpa using h8
  refine Sa ?_;exact QW.body1 rfl rfl (fin _ (by unfold Cf;rw[if_neg Aez,if_neg Aez,if_neg Aez,if_neg Aez,if_neg Aez];rfl))
theorem AaV(k:Int)(h0:9≤k)(h1:k≤19)(w:World):AF prog 121 [.int .i64 k] w (λv w'=>v=Am (FA k)∧Ae w w'):=by
 have:k=9∨k=10∨k=11∨k=12∨k=13∨k=14∨k=15∨k=16∨k=17∨k=18∨k=19:=Aez
 refine AQ func121 ntmps121 ?_;refine Sa ?_;refine Cx λA w0 a1 a0 a2=>?_;rcases this with rfl | rfl | rfl | rfl | rfl | rfl | rfl | rfl | rfl | rfl | rfl
 all_goals
  refine Sz ?_;exact QW.body1 rfl rfl ⟨rfl,a0⟩
theorem PO{w:World}{a0:Addr}{cs:List Value}(hc:∀j u,cs[j]?=some u→w.cell? (a0.add j)=some u){v:Value}(h:cs[0]?=some v):w.cell? (a0.add 0)=some v:=hc 0 v h
theorem I1{w:World}{p:Option Addr}{c:Nat}{zs:List Int}(h:Bs w (.slice p zs.length c) zs){i:Nat}{z:Int}(hz:zs[i]?=some z):∃a,p=some a∧w.cell? (a.add i)=some (.int .i64 z):=by
 have hi:i<zs.length:=(Aav.1 hz).1;obtain⟨a,e,h⟩:=h.at hi;refine⟨a,e,?_⟩;rw[h,AaE,hz];rfl
theorem P6(l:List Ah)(p:Option Addr)(c:Nat)(hs:DS l):∀(m:Nat) (t:Tr false) (o i:Nat) (w:World),t.cnt≤m→t.Fit→t.Num→Ew l o t→i+1=o+t.cnt→t.text.length≤1000000000000→Cg w (.slice p l.length c) l→AF prog 81 [.slice p l.length c,.int .i64 (i:Int)] w (λv w'=>v=Am t.text∧Ae w w')
 | 0,t,_,_,_,hm,_,_,_,_,_,_=>absurd t.cnt_pos Aez
 | m+1,t,o,i,w,hm,hf,hn,hl,hio,htl,hN=>by
  have ih:=P6 l p c hs m;have hnd:=hl.node;rw[show o+t.cnt - 1=i by omega] at hnd;have hi:i<l.length:=(Aav.1 hnd).1;have hsn:=hs _ (Aa9 hnd);have hl1:=hN.1
  cases t with
  | leaf n=>
   obtain⟨a,kp,kc,rfl,hk,hc⟩:=hN.at hnd;obtain⟨kd,num,text,ref,to,kids⟩:=n
   change ∀j u,(Bz ⟨⟨kd,num,text,ref,to,kids⟩,.slice kp kids.length kc⟩)[j]?=some u→_ at hc
   obtain⟨k0,k1,_,hpl⟩:=hf;have ho:=Eo hpl;rw[L9 hpl k0 k1];simp only at k0 k1
   change text.length≤1000∧ref.sheet.length≤1000∧to.sheet.length≤1000 at hsn
   refine AQ func81 ntmps81 ?_;refine Sa ?_;refine Lo ?_;refine LW.load_cells rfl hc rfl rfl rfl rfl ?_;refine Sa ?_;refine BX λB w1 hbB hx1 hB=>?_;refine Sa ?_;refine AR λw2 hc2 hB=>?_;have hx:Ae w w2:=hx1.step hc2 Ae0;refine Sa ?_;have:kd=1∨kd=2∨kd=3∨kd=4∨kd=5∨kd=6:=Aez
   rcases this with rfl | rfl | rfl | rfl | rfl | rfl
   ·have au:num≤9223372036854775807:=hn ⟨1,[],num,A6,0⟩ (by simp[Tr.toks,C9]);have an:0≤num:=by simpa[FE] using ho
    refine Sa ?_;refine Ax rfl rfl (H9 num an au _) ?_;rintro v w3 ⟨rfl,a1⟩;refine Sa ?_;exact QW.body1 rfl rfl ⟨rfl,hx.trans a1⟩
   ·refine Sa ?_;refine Ax rfl rfl (Xa text Aez _) ?_;rintro v w3 ⟨rfl,a1⟩;refine Sa ?_;exact QW.body1 rfl rfl ⟨rfl,hx.trans a1⟩
   ·refine Sa ?_;refine Av (λh3=>?_) λh3=>?_
    ·have h3:num=1:=by simpa using h3
     refine Sa ?_;exact QW.body1 rfl rfl ⟨by simp[h3,Db],hx⟩
    ·have h3:num≠1:=by simpa using h3
     refine Sa ?_;exact QW.body1 rfl rfl ⟨by simp[h3,CL],hx⟩
   ·refine Sa ?_;exact QW.body1 rfl rfl ⟨rfl,hx⟩
   ·refine Sa ?_;refine LW.load_agg (cs:=AZ ref) rfl hB rfl rfl rfl ⟨rfl,rfl,rfl,rfl,rfl,trivial⟩ rfl ?_;refine Sa ?_;refine Ax rfl rfl (Gy ref Aez _) ?_;rintro v w3 ⟨rfl,a1⟩;refine Sa ?_;exact QW.body1 rfl rfl ⟨rfl,hx.trans a1⟩
   ·have hb:∀r:C3,(Ct r).length≤r.sheet.length+10:=λr=>by
     unfold Ct
     split
     ·exact LX AeE
     ·simp
    have b9:=hb ref;have ba:=hb to;refine Sa ?_;refine HZ ?_;refine Sq ?_;refine QL.load_agg (cs:=AZ ref) rfl hB rfl rfl rfl ⟨rfl,rfl,rfl,rfl,rfl,trivial⟩ rfl ?_;refine Sq ?_;refine QL.call0 (v:=Am (Ct ref)) rfl rfl (λw' _=>Gy ref Aez w') ?_;refine Sq ?_;refine QL.load_agg (cs:=AZ to) rfl hB rfl rfl rfl ⟨rfl,rfl,rfl,rfl,rfl,trivial⟩ rfl ?_;refine Sq ?_;refine QL.call0 (v:=Am (Ct to)) rfl rfl (λw' _=>Gy to Aez w') ?_;refine Sq ?_;refine QL.nil λw3 a1=>?_;refine Sa ?_
    exact QW.body1 rfl rfl ⟨rfl,hx.trans a1⟩
  | neg b=>
   have av:b.Num:=λu hu=>hn u AeN;have a5:=hl.neg;have bb:=b.cnt_pos;rw[Oc] at htl ⊢;have aw:=Ko (decide (b.rank<5)) b.text;simp only[Aax,AaT,AbH] at htl;simp only[Tr.cnt] at hm;obtain⟨j,hj⟩:∃j,j=o+b.cnt - 1:=⟨_,rfl⟩;have a6:=a5.node;rw[←hj] at a6;have ao:j<l.length:=(Aav.1 a6).1;obtain⟨a,kp,kc,rfl,hk,hc⟩:=hN.at hnd;obtain⟨a',kp',kc',ea,-,ad⟩:=hN.at a6;obtain rfl:=Aa5 ea
   change Bs w (.slice kp [((o+b.cnt - 1:Nat):Int)].length kc) [((o+b.cnt - 1:Nat):Int)] at hk
   change ∀j u,(Bz ⟨{kind:=8,kids:=[((o+b.cnt - 1:Nat):Int)]},.slice kp 1 kc⟩)[j]?=some u→_ at hc
   rw[←hj] at hk hc;obtain⟨ka,rfl,a3⟩:=I1 hk (i:=0) rfl;have a7:=PO ad rfl;refine AQ func81 ntmps81 ?_;refine Sa ?_;refine Lo ?_;refine LW.load_cells rfl hc rfl rfl rfl rfl ?_;refine Sa ?_;refine BX λB w1 hbB hx1 hB=>?_;refine Sa ?_;refine AR λw2 hc2 hB=>?_;have hx:Ae w w2:=hx1.step hc2 Ae0;refine Sa ?_;replace a3:=Aw hx a3;replace a7:=Aw hx a7;refine Sa ?_;refine HZ ?_;refine Sq ?_;refine Qo ?_;refine Qp a3 ?_;refine QL.call0 (v:=Am b.text) rfl rfl (λw' hw=>ih b o j w' Aez hf av a5 Aez Aez ((hN.ext hx).ext hw)) ?_;refine Sq ?_;refine Qo ?_;refine Qp a3 ?_;refine Qo ?_;refine Qn ?_;refine Qp a7 ?_;refine QL.call0 rfl rfl (λw' hw=>IB (DA o b).kind w') ?_;refine Sq ?_;refine QL.call0 rfl rfl (λw' hw=>Uh b.text Aez _ w') ?_;rw[Jl o b hf];have hd:decide (((b.rank:Nat):Int)<5)=decide (b.rank<5):=by rw[decide_eq_decide];omega
   rw[hd];refine Sq ?_;refine QL.nil λw3 a1=>?_;refine Sa ?_
   exact QW.body1 rfl rfl ⟨rfl,hx.trans a1⟩
  | two k b d=>
   obtain⟨ax,ae,a9,ap⟩:=hf;have aa:b.Num:=λu hu=>hn u AeI;have af:d.Num:=λu hu=>hn u AeH;obtain⟨a5,aq⟩:=hl.two;have ad:=b.cnt_pos;have bc:=d.cnt_pos;rw[OJ] at htl ⊢;have aw:=Ko (decide (b.rank<Cf k)) b.text;have bd:=Ko (decide (d.rank<Cf k+1)) d.text;simp only[Aax] at htl;simp only[Tr.cnt] at hm;obtain⟨j,hj⟩:∃j,j=o+b.cnt - 1:=⟨_,rfl⟩;obtain⟨q,hq⟩:∃q,q=o+b.cnt+d.cnt - 1:=⟨_,rfl⟩;have a6:=a5.node;have ag:=aq.node;rw[←hj] at a6;rw[←hq] at ag;have ao:j<l.length:=(Aav.1 a6).1;have be:q<l.length:=(Aav.1 ag).1;obtain⟨a,kp,kc,rfl,hk,hc⟩:=hN.at hnd;obtain⟨a',kp',kc',ea,-,ah⟩:=hN.at a6;obtain rfl:=Aa5 ea;obtain⟨a',kp',kc',ea,-,ai⟩:=hN.at ag;obtain rfl:=Aa5 ea
   change Bs w (.slice kp [((o+b.cnt - 1:Nat):Int),((o+b.cnt+d.cnt - 1:Nat):Int)].length kc) [((o+b.cnt - 1:Nat):Int),((o+b.cnt+d.cnt - 1:Nat):Int)] at hk
   change ∀j u,(Bz ⟨{kind:=k,kids:=[((o+b.cnt - 1:Nat):Int),((o+b.cnt+d.cnt - 1:Nat):Int)]},.slice kp 2 kc⟩)[j]?=some u→_ at hc
   rw[←hj,←hq] at hk hc;obtain⟨ka,rfl,a3⟩:=I1 hk (i:=0) rfl;obtain⟨ka',ek,aj⟩:=I1 hk (i:=1) rfl;obtain rfl:=Aa5 ek;have a7:=PO ah rfl;have ak:=PO ai rfl;refine AQ func81 ntmps81 ?_;refine Sa ?_;refine Lo ?_;refine LW.load_cells rfl hc rfl rfl rfl rfl ?_;refine Sa ?_;refine BX λB w1 hbB hx1 hB=>?_;refine Sa ?_;refine AR λw2 hc2 hB=>?_;have hx:Ae w w2:=hx1.step hc2 Ae0;refine Sa ?_;replace a3:=Aw hx a3;replace aj:=Aw hx aj;refine Sa ?_;refine CW.no rfl (decide_eq_false (show ¬k=1 by omega)) ?_;refine Sa ?_;refine CW.no rfl (decide_eq_false (show ¬k=2 by omega)) ?_;refine Sa ?_;refine CW.no rfl (decide_eq_false (show ¬k=3 by omega)) ?_;refine Sa ?_;refine CW.no rfl (decide_eq_false (show ¬k=4 by omega)) ?_;refine Sa ?_;refine CW.no rfl (decide_eq_false (show ¬k=5 by omega)) ?_;refine Sa ?_;refine CW.no rfl (decide_eq_false (show ¬k=6 by omega)) ?_;refine Sa ?_;refine CW.no rfl (decide_eq_false (show ¬k=7 by omega)) ?_;refine Sa ?_;refine CW.no rfl (decide_eq_false (show ¬k=8 by omega)) ?_;refine Sa ?_;refine HZ ?_;refine Sq ?_;refine Qo ?_;refine Qp a3 ?_;refine Sq ?_;refine Qo ?_;refine Qp aj ?_;refine Sq ?_;refine QL.nil λw3 a1=>?_;replace hx:=hx.trans a1;replace hB:=hB.ext a1;replace a7:=Aw hx a7;replace ak:=Aw hx ak;refine Sa ?_;refine HZ ?_;refine Sq ?_;refine QL.call0 (v:=Am b.text) rfl rfl (λw' hw=>ih b o j w' Aez a9 aa a5 Aez Aez ((hN.ext hx).ext hw)) ?_;refine Sq ?_;refine Qo ?_;refine Qn ?_;refine Qp a7 ?_;refine QL.call0 rfl rfl (λw' hw=>IB (DA o b).kind w') ?_;refine Sq ?_;refine QL.call0 rfl rfl (λw' hw=>IB k w') ?_;refine Sq ?_;refine QL.call0 rfl rfl (λw' hw=>Uh b.text Aez _ w') ?_;refine Sq ?_;refine QL.call0 rfl rfl (λw' hw=>AaV k ax ae w') ?_;rw[Jl o b a9];have ay:decide (((b.rank:Nat):Int)<((Cf k:Nat):Int))=decide (b.rank<Cf k):=by rw[decide_eq_decide];omega
   rw[ay];refine Sq ?_;refine QL.call0 (v:=Am d.text) rfl rfl (λw' hw=>ih d (o+b.cnt) q w' Aez ap af aq Aez Aez ((hN.ext hx).ext hw)) ?_;refine Sq ?_;refine Qo ?_;refine Qn ?_;refine Qp ak ?_;refine QL.call0 rfl rfl (λw' hw=>IB (DA (o+b.cnt) d).kind w') ?_;refine Sq ?_;refine QL.call0 rfl rfl (λw' hw=>IB k w') ?_;refine Sq ?_;refine QL.call0 rfl rfl (λw' hw=>Uh d.text Aez _ w') ?_;rw[Jl (o+b.cnt) d ap];have az:decide (((d.rank:Nat):Int)≤((Cf k:Nat):Int))=decide (d.rank<Cf k+1):=by rw[decide_eq_decide];omega
   rw[az];refine Sq ?_;refine QL.nil λw4 a8=>?_;refine Sa ?_
   exact QW.body1 rfl rfl ⟨rfl,hx.trans a8⟩
  | call x ks=>
   have b0:=hf.2;have b1:=Rr hn;have b2:=hl.call;rw[Ly x o] at htl ⊢;simp only[Aax,AaT,AbH] at htl;simp only[Tr.cnt] at hm;obtain⟨a,kp,kc,rfl,hk,hc⟩:=hN.at hnd
   change Bs w (.slice kp (ks.kids o).length kc) (ks.kids o) at hk
   change ∀j u,(Bz ⟨{kind:=7,text:=x,kids:=ks.kids o},.slice kp (ks.kids o).length kc⟩)[j]?=some u→_ at hc
   have ab:=QC ks b0 b1 b2;obtain⟨kids,a0⟩:∃kids,kids=ks.kids o:=⟨_,rfl⟩;rw[←a0] at hk hc;rw[O8] at a0;have b3:kids.length=(ks.row o).length:=by rw[a0];simp
   obtain⟨r,hr⟩:∃r,r=ks.row o:=⟨_,rfl⟩;rw[←hr] at ab a0 b3 htl ⊢;refine AQ func81 ntmps81 ?_;refine Sa ?_;refine Lo ?_;refine LW.load_cells rfl hc rfl rfl rfl rfl ?_;refine Sa ?_;refine BX λB w1 hbB hx1 hB=>?_;refine Sa ?_;refine AR λw2 hc2 hB=>?_;have hx:Ae w w2:=hx1.step hc2 Ae0;refine Sa ?_;replace hk:=hk.ext hx;replace hN:=hN.ext hx;refine Sa ?_;refine CW.loop (ι:=Nat) (λn w'=>n≤r.length∧Ae w w'∧Ae w2 w') (λn=>[(0,.slice (some a) l.length c),(5,.pointer (some ⟨B,0,none⟩)),(6,Am (x++([40]++Hy r n))),(7,.int .i64 (n:Int))]) (λn=>r.length - n) 0 ⟨by omega,hx,Chg.refl _ _⟩ B9 ?_;rintro n w3 ⟨an,a1,a4⟩;replace hB:=hB.ext a4;replace hk:=hk.ext a4;replace hN:=hN.ext a4;have ac:=Hz (r:=r) n (r.length - n) Aez;rw[show n+(r.length - n)=r.length by omega] at ac;refine Sa ?_;refine Av (λh1=>?_) λh1=>?_;rotate_left
   ·have h1:n=r.length:=by simp at h1;omega
    subst h1;have al:(x++([40]++Hy r r.length)).length≤2000000000000:=by simp only[Aax,AaT,AbH];omega
    refine Sa ?_;refine QW.body1 rfl rfl ⟨?_,a1⟩;simp
   have h1:n<r.length:=by simp at h1;omega
   obtain⟨⟨o',b⟩,am⟩:∃y,r[n]?=some y:=⟨_,Aak h1⟩;obtain⟨a5,a9,aa,ad,b4⟩:=ab _ (Aa9 am);simp only at a5 a9 aa ad b4;have bf:=b.cnt_pos;have b5:=hk.1;obtain⟨j,hj⟩:∃j,j=o'+b.cnt - 1:=⟨_,rfl⟩;have b6:kids[n]?=some (j:Int):=by rw[a0,AbA,am,hj];rfl
   obtain⟨ka,rfl,a3⟩:=I1 hk b6;rw[show n=((n:Nat):Int).toNat*1 by omega] at a3;have a6:=a5.node;rw[←hj] at a6;have ao:j<l.length:=(Aav.1 a6).1;have a2:=LP am;simp only at a2;have b7:=Hz (r:=r) (n+1) (r.length - (n+1)) Aez;rw[show n+1+(r.length - (n+1))=r.length by omega] at b7;have b8:=congrArg List.length a2;simp only[Aax] at b8;have al:(x++([40]++Hy r n)).length≤2000000000000:=by simp only[Aax,AaT,AbH];omega
   refine Sa ?_;refine Av (λh2=>?_) λh2=>?_
   ·have h2:0<n:=by simp at h2;omega
    have e:x++([40]++Hy r (n+1))=x++([40]++Hy r n)++[44]++b.text:=by rw[a2,if_pos h2];simp only[Abh]
    have ar:(x++([40]++Hy r n)++[44]).length≤2000000000001:=by rw[Aax];simp only[AaT,AbH];omega
    refine Sa ?_;refine Lo ?_;refine Lp a3 ?_;refine Ax rfl rfl (ih b o' j w3 Aez a9 aa a5 Aez Aez hN) ?_;rintro v w4 ⟨rfl,a8⟩;refine Sa ?_;rw[←e];refine QW.again (n+1) ⟨h1,a1.trans a8,a4.trans a8⟩ B9 Aez
   ·have h2:¬0<n:=by simp at h2;omega
    have e:x++([40]++Hy r (n+1))=x++([40]++Hy r n)++b.text:=by rw[a2,if_neg h2];simp only[Abh,Acq]
    refine Sa ?_;refine Lo ?_;refine Lp a3 ?_;refine Ax rfl rfl (ih b o' j w3 Aez a9 aa a5 Aez Aez hN) ?_;rintro v w4 ⟨rfl,a8⟩;refine Sa ?_;rw[←e];refine QW.again (n+1) ⟨h1,a1.trans a8,a4.trans a8⟩ B9 Aez
theorem O0(l:List Ah)(v:Value)(w:World)(hN:Cg w v l)(hs:DS l)(hkl:∀n∈l,n.kids.length≤1000000)(hnum:J0 l):AF prog 57 [v] w (λv' w'=>v'=Am (BF l)∧Ae w w'):=by
 obtain⟨p,c,rfl⟩:=hN.slice;have hl:=hN.1;have h0:=λw=>P2 l (.slice p l.length c) w;refine AQ func57 ntmps57 ?_;refine Sa ?_;refine Ax rfl rfl (P2 l _ w hN hs hkl) ?_;rintro v w1 ⟨rfl,hx⟩;replace hN:=hN.ext hx;refine Sa ?_;refine Av (λh1=>?_) λh1=>?_
 ·have h1:BV l=false:=by simpa using h1
  refine Sa ?_;exact QW.body1 rfl rfl ⟨by rw[LM h1],hx⟩
 have h1:BV l=true:=by simpa using h1
 obtain⟨t,rfl,hf⟩:=Jt h1;have a3:=t.cnt_pos;have a0:=t.flat_len 0;have hn:=hnum t hf rfl;have a1:=t.len_le 0 hf hn (λn hm=>(hs n hm).1);simp only[cond_false] at a1;rw[FT hf];refine Sa ?_;have e:(((t.flat 0).length:Int) - 1)=((t.cnt - 1:Nat):Int):=Aez
 rw[e];refine Ax rfl rfl (P6 (t.flat 0) p c hs t.cnt t 0 (t.cnt - 1) w1 (Ab9 _) hf hn (Ew.whole t) Aez Aez hN) ?_;rintro v w2 ⟨rfl,a2⟩;refine Sa ?_;exact QW.body1 rfl rfl ⟨rfl,hx.trans a2⟩
theorem SI{c:UInt8}(hc:c≠34)(k:Nat)(s:List UInt8):Lib.replaceK [34] [34,34] k (c::s)=c::Lib.replaceK [34] [34,34] k s:=by
 cases k with
 | zero=>rfl
 | succ k=>
  have hp:([34]:List UInt8).isPrefixOf (c::s)=false:=by simp[List.isPrefixOf,Ne.symm hc]
  have a0:Lib.index (c::s) [34]=if Lib.index s [34] == -1 then -1 else Lib.index s [34]+1:=by rw[Lib.index,hp];simp
  have a1:=Lib.index_ge s [34];by_cases hm:Lib.index s [34]=-1
  ·rw[Lib.replaceK,Lib.replaceK,a0,if_pos (beq_iff_eq.2 hm),hm];simp
  ·have e:Lib.index s [34]=((Lib.index s [34]).toNat:Int):=Aez
   rw[if_neg (by simpa using hm)] at a0;have e2:Lib.index (c::s) [34]=(((Lib.index s [34]).toNat+1:Nat):Int):=Aez
   rw[Lib.replaceK_hit _ _ _ _ _ e2,Lib.replaceK_hit _ _ _ _ _ e];simp
theorem SH(k:Nat)(s:List UInt8):Lib.replaceK [34] [34,34] (k+1) (34::s)=[34,34]++Lib.replaceK [34] [34,34] k s:=by
 have a0:Lib.index (34::s) [34]=((0:Nat):Int):=by rw[Lib.index];simp[List.isPrefixOf]
 rw[Lib.replaceK_hit _ _ _ _ _ a0];simp
theorem HS:∀(s:List UInt8),Lib.replaceK [34] [34,34] (Lib.count s [34]) s=s.flatMap Iz
 | []=>by
  cases Lib.count [] [34] with
  | zero=>rfl
  | succ k=>rw[Lib.replaceK];rfl
 | c::s=>by
  by_cases h:c=34
  ·subst h;rw[Lib.count_cons_eq,Nat.add_comm,SH,HS s];rfl
  ·rw[Lib.count_cons_ne c 34 s h,SI h,HS s];simp[Iz,h]
theorem SJ(s:List UInt8):Lib.replaceAll s [34] [34,34]=s.flatMap Iz:=by
 have:Lib.replaceAll s [34] [34,34]=Lib.replaceK [34] [34,34] (Lib.count s [34]) s:=rfl;rw[this,HS]
structure Fp(w w':World):Prop where
 size:w.heap.size≤w'.heap.size
 blk:∀b l T,Blk w b l T→T≠134→T≠5→Blk w' b l T
theorem Fp.trans{a b c:World}(h:Fp a b)(k:Fp b c):Fp a c:=⟨Acr h.size k.size,λx l T hx h1 h2=>k.blk x l T (h.blk x l T hx h1 h2) h1 h2⟩
theorem Fp.ext{a b:World}(h:Ae a b):Fp a b:=⟨h.size,λ_ _ _ hx _ _=>hx.ext h⟩
theorem Fp.chg{S:List Nat}{a b:World}(h:Chg S a b)(hs:∀k∈S,∀l T,Blk a k l T→T=134∨T=5):Fp a b:=
 ⟨h.size,λx l T hx h1 h2=>hx.chg h (λhm=>by rcases hs x hm l T hx with e | e<;>contradiction)⟩
structure SC where
 l:List Ah
 p:Option Addr
 c:Nat
 b:Nat
 w0:World
structure SC.Ok(s:SC):Prop where
 nodes:Cg s.w0 (.slice s.p s.l.length s.c) s.l
 short:DS s.l
 new:s.w0.heap.size≤s.b
 glob:Dg s.w0
def Pr(s:SC)(w:World)(out:List UInt8):Prop:=
 Ae s.w0 w∧∃v,Blk w s.b [.slice s.p s.l.length s.c,v] 134∧A3 w s.w0.heap.size 5 1 v out.length (AM out)
theorem Pr.ext{s:SC}{w w':World}{out:List UInt8}(h:Pr s w out)(x:Ae w w'):Pr s w' out:=by
 obtain⟨h0,v,hB,ho⟩:=h;exact⟨h0.trans x,v,hB.ext x,ho.ext x⟩
theorem E7{s:SC}(hc:s.Ok){w:World}{out:List UInt8}(h:Pr s w out)(x:List UInt8)(hl:out.length+x.length≤10000000000000):AF prog 183 [.pointer (some ⟨s.b,0,none⟩),Am x] w (λv w'=>v=.tuple #[]∧Pr s w' (out++x)∧Fp w w'):=by
 obtain⟨h0,v,hB,ho⟩:=h;have hz:=h0.size;have a0:∀{w:World} {v:Value} {n:Nat} {xs l:List Value},A3 w s.w0.heap.size 5 1 v n xs→Blk w s.b l 134→∀j,j∈Ac v→j∉[s.b]:=λ{w v n xs l} ho hB j hj hb=>by
  simp only[Aaw] at hb;subst hb;obtain⟨_,⟨e,_⟩ | ⟨g,cap,sp,e,hg,_⟩⟩:=ho
  ·rw[e] at hj;simp[Ac] at hj
  ·rw[e] at hj;simp[Ac] at hj;exact absurd (hg.inj (hj ▸ hB)) Ae2
 refine AQ func183 ntmps183 ?_;refine Sa ?_;refine LW.append_str rfl rfl rfl rfl rfl rfl rfl rfl rfl ho hz (by show(out.length+x.length)*2≤_;omega) rfl ?_;intro v' w1 a2 a3 aa;have a6:Fp w w1:=Fp.chg a2 (λk hk l T hb=>.inr (by
  obtain⟨_,⟨e,_⟩ | ⟨g,cap,sp,e,hg,_⟩⟩:=ho
  ·rw[e] at hk;simp[Ac] at hk
  ·rw[e] at hk;simp[Ac] at hk;subst hk;exact hb.inj hg))
 have a7:Ae s.w0 w1:=h0.step a2 (λk hk=>(ho.lt hk).1);have a1:=hB.chg a2 (λhm=>a0 ho hB _ hm Ae7);obtain⟨p1,c1,rfl⟩:=a3.slice;have a5:=a1;refine Sa ?_;refine BO λw2 a4 a1=>?_;replace a1:Blk w2 s.b [.slice s.p s.l.length s.c,.slice p1 (out.length+x.length) c1] 134:=a1;have a8:Fp w1 w2:=Fp.chg a4 (λk hk l T hb=>by simp at hk;subst hk;exact .inl (hb.inj a5));have a9:=a3.chg a4 (a0 a3 a5);refine Sa ?_;refine QW.body_n (rs:=[]) (vs:=[]) results183 trivial rfl ⟨rfl,⟨a7.step a4 AeZ,_,a1,?_⟩,a6.trans a8⟩;have e1:AM (out++x)=AM out++AM x:=by simp[AM]
 rw[e1,Aax];exact a9
def YT(k:Int):List UInt8:=if k=8 then[45] else if 9≤k∧k≤19 then FA k else[]
theorem VH(k:Int)(w:World):AF prog 187 [.int .i64 k] w (λv w'=>v=.tuple #[Am (YT k),.int .i64 (Cf k:Int)]∧Ae w w'):=by
 refine AQ func187 ntmps187 ?_;refine Sa ?_;refine Av (λq9=>?_) λq9=>?_
 ·have q9:k=9:=by simpa using q9
  subst q9;refine Sa ?_;exact QW.body2 rfl rfl rfl ⟨rfl,Chg.refl _ _⟩
 have q9:¬k=9:=by simpa using q9
 refine Sa ?_;refine Av (λq10=>?_) λq10=>?_
 ·have q10:k=10:=by simpa using q10
  subst q10;refine Sa ?_;exact QW.body2 rfl rfl rfl ⟨rfl,Chg.refl _ _⟩
 have q10:¬k=10:=by simpa using q10
 refine Sa ?_;refine Av (λq11=>?_) λq11=>?_
 ·have q11:k=11:=by simpa using q11
  subst q11;refine Sa ?_;exact QW.body2 rfl rfl rfl ⟨rfl,Chg.refl _ _⟩
 have q11:¬k=11:=by simpa using q11
 refine Sa ?_;refine Av (λq12=>?_) λq12=>?_
 ·have q12:k=12:=by simpa using q12
  subst q12;refine Sa ?_;exact QW.body2 rfl rfl rfl ⟨rfl,Chg.refl _ _⟩
 have q12:¬k=12:=by simpa using q12
 refine Sa ?_;refine Av (λq13=>?_) λq13=>?_
 ·have q13:k=13:=by simpa using q13
  subst q13;refine Sa ?_;exact QW.body2 rfl rfl rfl ⟨rfl,Chg.refl _ _⟩
 have q13:¬k=13:=by simpa using q13
 refine Sa ?_;refine Av (λq14=>?_) λq14=>?_
 ·have q14:k=14:=by simpa using q14
  subst q14;refine Sa ?_;exact QW.body2 rfl rfl rfl ⟨rfl,Chg.refl _ _⟩
 have q14:¬k=14:=by simpa using q14
 refine Sa ?_;refine Av (λq15=>?_) λq15=>?_
 ·have q15:k=15:=by simpa using q15
  subst q15;refine Sa ?_;exact QW.body2 rfl rfl rfl ⟨rfl,Chg.refl _ _⟩
 have q15:¬k=15:=by simpa using q15
 refine Sa ?_;refine Av (λq16=>?_) λq16=>?_
 ·have q16:k=16:=by simpa using q16
  subst q16;refine Sa ?_;exact QW.body2 rfl rfl rfl ⟨rfl,Chg.refl _ _⟩
 have q16:¬k=16:=by simpa using q16
 refine Sa ?_;refine Av (λq17=>?_) λq17=>?_
 ·have q17:k=17:=by simpa using q17
  subst q17;refine Sa ?_;exact QW.body2 rfl rfl rfl ⟨rfl,Chg.refl _ _⟩
 have q17:¬k=17:=by simpa using q17
 refine Sa ?_;refine Av (λq18=>?_) λq18=>?_
 ·have q18:k=18:=by simpa using q18
  subst q18;refine Sa ?_;exact QW.body2 rfl rfl rfl ⟨rfl,Chg.refl _ _⟩
 have q18:¬k=18:=by simpa using q18
 refine Sa ?_;refine Av (λq19=>?_) λq19=>?_
 ·have q19:k=19:=by simpa using q19
  subst q19;refine Sa ?_;exact QW.body2 rfl rfl rfl ⟨rfl,Chg.refl _ _⟩
 have q19:¬k=19:=by simpa using q19
 refine Sa ?_;refine Av (λq8=>?_) λq8=>?_
 ·have q8:k=8:=by simpa using q8
  subst q8;refine Sa ?_;exact QW.body2 rfl rfl rfl ⟨rfl,Chg.refl _ _⟩
 have q8:¬k=8:=by simpa using q8
 refine Sa ?_;refine QW.body2 rfl rfl rfl ⟨?_,Chg.refl _ _⟩;have e1:YT k=[]:=by unfold YT;rw[if_neg q8,if_neg Aez]
 have e2:Cf k=6:=by unfold Cf;rw[if_neg q8,if_neg Aez,if_neg Aez,if_neg Aez,if_neg Aez]
 rw[e1,e2];rfl
def ND(s:SC)(f:FuncId)(t:Tr false):Prop:=∀(o i:Nat) (out:List UInt8) (w:World),t.Fit→t.Num→Ew s.l o t→i+1=o+t.cnt→out.length+t.text.length≤1000000000000→Pr s w out→AF prog f [.pointer (some ⟨s.b,0,none⟩),.int .i64 (i:Int)] w (λv w'=>v=.tuple #[]∧Pr s w' (out++t.text)∧Fp w w')
theorem I8{s:SC}(hc:s.Ok)(t:Tr false)(ht:ND s 96 t)(least:Nat)(o i:Nat)(out:List UInt8)(w:World)(hf:t.Fit)(hn:t.Num)(hl:Ew s.l o t)(hio:i+1=o+t.cnt)(htl:out.length+(Is (decide (t.rank<least)) t.text).length≤1000000000000)(h:Pr s w out) :
  AF prog 186 [.pointer (some ⟨s.b,0,none⟩),.int .i64 (i:Int),.int .i64 (least:Int)] w (λv w'=>v=.tuple #[]∧Pr s w' (out++Is (decide (t.rank<least)) t.text)∧Fp w w'):=by
 have a1:=hl.node;rw[show o+t.cnt - 1=i by omega] at a1;have hi:i<s.l.length:=(Aav.1 a1).1;have a0:=h;obtain⟨h0,v,hB,ho⟩:=h;have hN:=hc.nodes.ext h0;obtain⟨a,kp,kc,ea,-,a5⟩:=hN.at a1;rw[ea] at hB;have a6:=PO a5 rfl;have ab:=t.cnt_pos;have ac:=hN.1;have ad:=Ko (decide (t.rank<least)) t.text;refine AQ func186 ntmps186 ?_;refine Sa ?_;refine Lo ?_;refine Ln ?_;refine Lp a6 ?_;refine Ax rfl rfl (VH (DA o t).kind w) ?_;rintro v w1 ⟨rfl,a2⟩;rw[Jl o t hf];replace a0:=a0.ext a2;refine Sa ?_;refine Av (λh1=>?_) λh1=>?_
 ·have h1:¬t.rank<least:=by simp at h1;omega
  have e:Is (decide (t.rank<least)) t.text=t.text:=by simp[Is,h1]
  rw[e] at htl ⊢;refine Sa ?_;refine Ax rfl rfl (ht o i out w1 hf hn hl hio htl a0) ?_;rintro v w2 ⟨rfl,a3,a4⟩;refine Sa ?_;exact QW.body (rs:=[]) (vs:=[]) results186 trivial rfl ⟨rfl,a3,(Fp.ext a2).trans a4⟩
 ·have h1:t.rank<least:=by simp at h1;omega
  have e:Is (decide (t.rank<least)) t.text=[40]++t.text++[41]:=by simp[Is,h1]
  rw[e] at htl ⊢;simp only[Aax,AaT,AbH] at htl;refine Sa ?_;refine Ax rfl rfl (E7 hc a0 [40] Ae0) ?_;rintro v w2 ⟨rfl,a3,a4⟩;refine Sa ?_;refine Ax rfl rfl (ht o i _ w2 hf hn hl hio Ae0 a3) ?_;rintro v w3 ⟨rfl,a7,a8⟩;refine Sa ?_;refine Ax rfl rfl (E7 hc a7 [41] Ae0) ?_;rintro v w4 ⟨rfl,a9,aa⟩;refine Sa ?_;refine QW.body_n (rs:=[]) (vs:=[]) results186 trivial rfl ⟨rfl,by simpa[Abh] using a9,(((Fp.ext a2).trans a4).trans a8).trans aa⟩
theorem OH(r:C3):(Ct r).length≤r.sheet.length+10:=by
 unfold Ct
 split
 ·exact LX AeE
 ·simp
theorem WV{s:SC}(hc:s.Ok)(n:Ah)(q:Option Addr)(m k:Nat)(out:List UInt8)(w:World)(hf:(Tr.leaf n).Fit)(hn:(Tr.leaf n).Num)(hsh:n.text.length≤1000∧n.ref.sheet.length≤1000∧n.to.sheet.length≤1000)(htl:out.length+(Tr.leaf n).text.length≤1000000000000)(h:Pr s w out) :
  AF prog 136 [.pointer (some ⟨s.b,0,none⟩),.agg ⟨Bz ⟨n,.slice q m k⟩⟩] w (λv w'=>v=.tuple #[]∧Pr s w' (out++(Tr.leaf n).text)∧Fp w w'):=by
 obtain⟨kd,num,text,ref,to,kids⟩:=n;obtain⟨k0,k1,_,a8⟩:=hf;have ho:=Eo a8;rw[L9 a8 k0 k1] at htl ⊢;simp only at k0 k1;obtain⟨aa,ab,ac⟩:=hsh;simp only at aa ab ac;have a4:=h.1;have hq:=LN text;have af:=OH ref;have ag:=OH to;refine AQ func136 ntmps136 ?_;refine Sa ?_;refine Dq λA w1 ah a3 hA=>?_;replace hA:Blk w1 A (Bz ⟨⟨kd,num,text,ref,to,kids⟩,.slice q m k⟩) 139:=hA;replace h:=h.ext a3;replace a4:=a4.trans a3;have g:=hc.glob.ext a4;have:kd=1∨kd=2∨kd=3∨kd=4∨kd=5∨kd=6:=Aez
 rcases this with rfl | rfl | rfl | rfl | rfl | rfl
 ·have ad:num≤9223372036854775807:=hn ⟨1,[],num,A6,0⟩ (by simp[Tr.toks,C9]);have ai:0≤num:=by simpa[FE] using ho
  simp only[if_true] at htl ⊢;refine Sa ?_;refine Ax rfl rfl (MZ num Aez ad _ g) ?_;rintro v w3 ⟨rfl,a0⟩;replace h:=h.ext a0;refine Sa ?_;refine Ax rfl rfl (E7 hc h _ Aez) ?_;rintro v w4 ⟨rfl,a1,a2⟩;refine Sa ?_;exact QW.body_n (rs:=[]) (vs:=[]) results136 trivial rfl ⟨rfl,a1,(Fp.ext (a3.trans a0)).trans a2⟩
 ·simp only[Int.reduceEq,if_true,if_false] at htl ⊢;have he:=XY text;refine Sa ?_;refine Ax rfl rfl (Nb text [34] [34,34] Aez Ae7 Ae7 _ g) ?_;rintro v w3 ⟨rfl,a0⟩;rw[SJ];replace h:=h.ext a0;rw[JT] at htl ⊢;generalize text.flatMap Iz=E at he htl ⊢;simp only[Aax,AaT,AbH] at htl;refine Sa ?_;refine Ax rfl rfl (E7 hc h ([34]++E++[34]) Ae0) ?_;rintro v w4 ⟨rfl,a1,a2⟩;refine Sa ?_;exact QW.body_n (rs:=[]) (vs:=[]) results136 trivial rfl ⟨rfl,a1,(Fp.ext (a3.trans a0)).trans a2⟩
 ·simp only[Int.reduceEq,if_true,if_false] at htl ⊢;have a5:num=0∨num=1:=by simpa[FE] using ho
  refine Sa ?_;refine Cx λB w3 aj a0 hB=>?_;replace h:=h.ext a0;replace hA:=hA.ext a0;rcases a5 with rfl | rfl
  ·refine Sz ?_;refine Ax rfl rfl (E7 hc h [70,65,76,83,69] Ae0) ?_;rintro v w4 ⟨rfl,a1,a2⟩;refine Sa ?_;exact QW.body_n (rs:=[]) (vs:=[]) results136 trivial rfl ⟨rfl,a1,(Fp.ext (a3.trans a0)).trans a2⟩
  ·refine Sz ?_;refine Ax rfl rfl (E7 hc h [84,82,85,69] Ae0) ?_;rintro v w4 ⟨rfl,a1,a2⟩;refine Sa ?_;exact QW.body_n (rs:=[]) (vs:=[]) results136 trivial rfl ⟨rfl,a1,(Fp.ext (a3.trans a0)).trans a2⟩
 ·simp only[Int.reduceEq,if_true,if_false] at htl ⊢;refine Sa ?_;refine Ax rfl rfl (E7 hc h [35,82,69,70,33] Ae0) ?_;rintro v w4 ⟨rfl,a1,a2⟩;refine Sa ?_;exact QW.body_n (rs:=[]) (vs:=[]) results136 trivial rfl ⟨rfl,a1,(Fp.ext a3).trans a2⟩
 ·simp only[Int.reduceEq,if_true,if_false] at htl ⊢;refine Sa ?_;refine LW.load_agg (cs:=AZ ref) rfl hA rfl rfl rfl ⟨rfl,rfl,rfl,rfl,rfl,trivial⟩ rfl ?_;refine Sa ?_;refine Ax rfl rfl (Kg ref Aez _ g) ?_;rintro v w3 ⟨rfl,a0⟩;replace h:=h.ext a0;refine Sa ?_;refine Ax rfl rfl (E7 hc h _ Aez) ?_;rintro v w4 ⟨rfl,a1,a2⟩;refine Sa ?_;exact QW.body_n (rs:=[]) (vs:=[]) results136 trivial rfl ⟨rfl,a1,(Fp.ext (a3.trans a0)).trans a2⟩
 ·simp only[Int.reduceEq,if_false] at htl ⊢;simp only[Aax,AaT,AbH] at htl;refine Sa ?_;refine CW.drawHeld (λw'=>Blk w' A (Bz ⟨⟨6,num,text,ref,to,kids⟩,.slice q m k⟩) 139) (λw' h=>hA.ext h) Ae1 λw2 a6=>?_;replace h:=h.ext a6;replace g:=g.ext a6;refine Sh ?_;refine HW.take 2 rfl rfl rfl rfl (λw hw=>Y.load_agg (cs:=AZ ref) rfl hw rfl rfl rfl ⟨rfl,rfl,rfl,rfl,rfl,trivial⟩) rfl Ae1 Ae1 Ae1 (λ_ _ _ h=>h) ?_;refine HW.take 5 rfl rfl rfl rfl (λw _=>Y.pure rfl) rfl Ae1 Ae1 Ae1 (λ_ _ _ h=>h) ?_;refine HW.take 6 rfl rfl rfl rfl (λw hw=>Y.load_agg (cs:=AZ to) rfl hw rfl rfl rfl ⟨rfl,rfl,rfl,rfl,rfl,trivial⟩) rfl Ae1 Ae1 Ae1 (λ_ _ _ h=>h) ?_;refine HW.one 3 Ae1 rfl rfl (λhS=>?_);refine Ax rfl rfl (Kg ref Aez _ g) ?_;rintro v w3 ⟨rfl,a0⟩;replace h:=h.ext a0;replace g:=g.ext a0;apply LW.nil;refine QW.held (hS.ext a0) ?_;refine HW.take 4 rfl rfl rfl rfl (λw _=>Y.go rfl AeA) rfl Ae1 Ae1 Ae1 (λ_ _ _ h=>h) ?_;refine HW.one 7 Ae1 rfl rfl (λhS=>?_);refine Ax rfl rfl (Kg to Aez _ g) ?_;rintro v w4 ⟨rfl,a7⟩;replace h:=h.ext a7;apply LW.nil;refine QW.held (hS.ext a7) ?_;refine HW.take 8 rfl rfl rfl rfl (λw _=>Y.go rfl AeA) rfl Ae1 Ae1 Ae1 (λ_ _ _ h=>h) ?_;refine HW.one 9 Ae1 rfl rfl (λhS=>?_);refine Ax rfl rfl (E7 hc h (Ct ref++[58]++Ct to) AeY) ?_;rintro v w5 ⟨rfl,ae,a9⟩;apply LW.nil;refine QW.held (a9.blk _ _ _ hS Ae2 Ae2) ?_;refine HW.done Ae1 ?_;refine Sa ?_;exact QW.body_n (rs:=[]) (vs:=[]) results136 trivial rfl ⟨rfl,ae,(Fp.ext (((a3.trans a6).trans a0).trans a7)).trans a9⟩
theorem UA{s:SC}(hc:s.Ok)(b:Tr false)(hb:ND s 96 b)(o:Nat)(q:Option Addr)(k:Nat)(out:List UInt8)(w:World)(hf:b.Fit)(hn:b.Num)(hl:Ew s.l o b)(hk:Bs s.w0 (.slice q 1 k) [((o+b.cnt - 1:Nat):Int)])(htl:out.length+(Tr.neg b).text.length≤1000000000000)(h:Pr s w out) :
  AF prog 138 [.pointer (some ⟨s.b,0,none⟩),.agg ⟨Bz ⟨{kind:=8,kids:=[((o+b.cnt - 1:Nat):Int)]},.slice q 1 k⟩⟩] w (λv w'=>v=.tuple #[]∧Pr s w' (out++(Tr.neg b).text)∧Fp w w'):=by
 have a6:=b.cnt_pos;rw[Oc] at htl ⊢;simp only[Aax,AaT,AbH] at htl;obtain⟨j,hj⟩:∃j,j=o+b.cnt - 1:=⟨_,rfl⟩;rw[←hj] at hk ⊢;obtain⟨ka,rfl,a0⟩:=I1 (p:=q) (c:=k) (zs:=[(j:Int)]) hk (i:=0) rfl;refine AQ func138 ntmps138 ?_;refine Sa ?_;refine Dq λA w1 a7 a1 hA=>?_;replace hA:Blk w1 A (Bz ⟨{kind:=8,kids:=[(j:Int)]},.slice (some ka) 1 k⟩) 139:=hA;replace h:=h.ext a1;refine Sa ?_;refine Ax rfl rfl (E7 hc h [45] Ae0) ?_;rintro v w2 ⟨rfl,a2,a3⟩;replace hA:=a3.blk _ _ _ hA Ae2 Ae2;replace a0:=Aw a2.1 a0;refine Sa ?_;refine Lo ?_;refine Lp a0 ?_;refine Ax rfl rfl (I8 hc b hb 5 o j _ w2 hf hn hl Aez AeY a2) ?_;rintro v w3 ⟨rfl,a4,a5⟩;refine Sa ?_;exact QW.body_n (rs:=[]) (vs:=[]) results138 trivial rfl ⟨rfl,by simpa only[Abh] using a4,((Fp.ext a1).trans a3).trans a5⟩
theorem YI{s:SC}(hc:s.Ok)(x:Int)(b d:Tr false)(hb:ND s 96 b)(hd:ND s 96 d)(o:Nat)(q:Option Addr)(k:Nat)(out:List UInt8)(w:World)(hx9:9≤x)(hx19:x≤19)(hfb:b.Fit)(hnb:b.Num)(hfd:d.Fit)(hnd:d.Num)(hlb:Ew s.l o b)(hld:Ew s.l (o+b.cnt) d)(hk:Bs s.w0 (.slice q 2 k) [((o+b.cnt - 1:Nat):Int),((o+b.cnt+d.cnt - 1:Nat):Int)])(htl:out.length+(Tr.two x b d).text.length≤1000000000000)(h:Pr s w out) :
  AF prog 139 [.pointer (some ⟨s.b,0,none⟩),.agg ⟨Bz ⟨{kind:=x,kids:=[((o+b.cnt - 1:Nat):Int),((o+b.cnt+d.cnt - 1:Nat):Int)]},.slice q 2 k⟩⟩] w (λv w'=>v=.tuple #[]∧Pr s w' (out++(Tr.two x b d).text)∧Fp w w'):=by
 have ab:=b.cnt_pos;have ac:=d.cnt_pos;have a7:YT x=FA x:=by unfold YT;rw[if_neg Aez,if_pos ⟨hx9,hx19⟩]
 have ad:Cf x≤10:=by unfold Cf;split<;>(try split)<;>(try split)<;>(try split)<;>(try split)<;>omega
 rw[OJ] at htl ⊢;simp only[Aax] at htl;obtain⟨j,hj⟩:∃j,j=o+b.cnt - 1:=⟨_,rfl⟩;obtain⟨y,hy⟩:∃y,y=o+b.cnt+d.cnt - 1:=⟨_,rfl⟩;rw[←hj,←hy] at hk ⊢;obtain⟨ka,rfl,a0⟩:=I1 (p:=q) (c:=k) (zs:=[(j:Int),(y:Int)]) hk (i:=0) rfl;obtain⟨ka',ek,a1⟩:=I1 (p:=some ka) (c:=k) (zs:=[(j:Int),(y:Int)]) hk (i:=1) rfl;obtain rfl:=Aa5 ek;refine AQ func139 ntmps139 ?_;refine Sa ?_;refine Dq λA w1 ae a3 hA=>?_;replace hA:Blk w1 A (Bz ⟨{kind:=x,kids:=[(j:Int),(y:Int)]},.slice (some ka) 2 k⟩) 139:=hA;replace h:=h.ext a3;refine Sa ?_;refine Ax rfl rfl (VH x w1) ?_;rintro v w2 ⟨rfl,a2⟩;rw[a7];replace h:=h.ext a2;replace hA:=hA.ext a2;replace a0:=Aw h.1 a0;refine Sa ?_;refine Lo ?_;refine Lp a0 ?_;refine Sa ?_;refine Ax rfl rfl (I8 hc b hb (Cf x) o j _ w2 hfb hnb hlb Aez Aez h) ?_;rintro v w3 ⟨rfl,a8,a4⟩;replace hA:=a4.blk _ _ _ hA Ae2 Ae2;refine Sa ?_;refine Ax rfl rfl (E7 hc a8 (FA x) (by simp only[Aax];omega)) ?_;rintro v w4 ⟨rfl,a5,a6⟩;replace hA:=a6.blk _ _ _ hA Ae2 Ae2;replace a1:=Aw a5.1 a1;refine Sa ?_;refine Lo ?_;refine Lp a1 ?_;refine Sa ?_;have er:((Cf x:Nat):Int)+1=((Cf x+1:Nat):Int):=Aez
 rw[er];refine Ax rfl rfl (I8 hc d hd (Cf x+1) (o+b.cnt) y _ w4 hfd hnd hld Aez (by simp only[Aax];omega) a5) ?_;rintro v w5 ⟨rfl,a9,aa⟩;refine Sa ?_;exact QW.body_n (rs:=[]) (vs:=[]) results139 trivial rfl ⟨rfl,by simpa only[Abh] using a9,(((Fp.ext (a3.trans a2)).trans a4).trans a6).trans aa⟩
theorem WT{s:SC}(hc:s.Ok)(x:List UInt8)(ks:Tr true)(hks:∀(b:Tr false),b.cnt≤ks.cnt→ND s 96 b)(o:Nat)(q:Option Addr)(k:Nat)(out:List UInt8)(w:World)(hfk:ks.Fit)(hnk:ks.Num)(hlk:Ew s.l o ks)(hk:Bs s.w0 (.slice q (ks.kids o).length k) (ks.kids o))(htl:out.length+(Tr.call x ks).text.length≤1000000000000)(h:Pr s w out) :
  AF prog 137 [.pointer (some ⟨s.b,0,none⟩),.agg ⟨Bz ⟨{kind:=7,text:=x,kids:=ks.kids o},.slice q (ks.kids o).length k⟩⟩] w (λv w'=>v=.tuple #[]∧Pr s w' (out++(Tr.call x ks).text)∧Fp w w'):=by
 rw[Ly x o] at htl ⊢;simp only[Aax,AaT,AbH] at htl;have a2:=QC ks hfk hnk hlk;obtain⟨kids,a1⟩:∃kids,kids=ks.kids o:=⟨_,rfl⟩;rw[←a1] at hk ⊢;rw[O8] at a1;have aj:kids.length=(ks.row o).length:=by rw[a1];simp
 obtain⟨r,hr⟩:∃r,r=ks.row o:=⟨_,rfl⟩;rw[←hr] at a2 a1 aj htl ⊢;have ak:=hk.1;refine AQ func137 ntmps137 ?_;refine Sa ?_;refine Dq λA w1 ap ai hA=>?_;replace hA:Blk w1 A (Bz ⟨{kind:=7,text:=x,kids:=kids},.slice q kids.length k⟩) 139:=hA;replace h:=h.ext ai;refine Sa ?_;refine Ax rfl rfl (E7 hc h (x++[40]) AeY) ?_;rintro v w2 ⟨rfl,al,a5⟩;replace hA:=a5.blk _ _ _ hA Ae2 Ae2;replace a5:=(Fp.ext ai).trans a5;refine Sa ?_;refine CW.loop (ι:=Nat) (λn w'=>n≤r.length∧Pr s w' (out++(x++[40])++Hy r n)∧Fp w w') (λn=>[(0,.pointer (some ⟨s.b,0,none⟩)),(12,.slice q kids.length k),(13,.int .i64 (kids.length:Int)),(14,.int .i64 (n:Int))]) (λn=>r.length - n) 0 ⟨by omega,by simpa only[Hy,Acq] using al,a5⟩ B9 ?_;rintro n w3 ⟨aq,a6,a8⟩;have a3:=Hz (r:=r) n (r.length - n) Aez;rw[show n+(r.length - n)=r.length by omega] at a3;refine Sa ?_;refine Av (λh1=>?_) λh1=>?_;rotate_left
 ·have h1:n=r.length:=by simp at h1;omega
  subst h1;refine Sa ?_;refine Ax rfl rfl (E7 hc a6 [41] AeY) ?_;rintro v w4 ⟨rfl,a9,aa⟩;refine Sa ?_;exact QW.body_n (rs:=[]) (vs:=[]) results137 trivial rfl ⟨rfl,by simpa only[Abh] using a9,a8.trans aa⟩
 have h1:n<r.length:=by simp at h1;omega
 obtain⟨⟨o',b⟩,ab⟩:∃y,r[n]?=some y:=⟨_,Aak h1⟩;obtain⟨ac,ad,ae,af,am⟩:=a2 _ (Aa9 ab);simp only at ac ad ae af am;have ar:=b.cnt_pos;obtain⟨j,hj⟩:∃j,j=o'+b.cnt - 1:=⟨_,rfl⟩;have an:kids[n]?=some (j:Int):=by rw[a1,AbA,ab,hj];rfl
 obtain⟨ka,rfl,a7⟩:=I1 hk an;rw[show n=((n:Nat):Int).toNat*1 by omega] at a7;replace a7:=Aw a6.1 a7;have a0:=LP ab;simp only at a0;have ao:=Hz (r:=r) (n+1) (r.length - (n+1)) Aez;rw[show n+1+(r.length - (n+1))=r.length by omega] at ao;have a4:=congrArg List.length a0;simp only[Aax] at a4;refine Sa ?_;refine Lo ?_;refine Lp a7 ?_;refine Sa ?_;refine Av (λh2=>?_) λh2=>?_
 ·have h2:0<n:=by simp at h2;omega
  rw[if_pos h2] at a4 a0;simp only[AaT,AbH] at a4;refine Sa ?_;refine Ax rfl rfl (E7 hc a6 [44] AeY) ?_;rintro v w4 ⟨rfl,a9,aa⟩;refine Sa ?_;refine Ax rfl rfl (hks b af o' j _ w4 ad ae ac Aez AeY a9) ?_;rintro v w5 ⟨rfl,ag,ah⟩;refine Sa ?_;refine QW.again (n+1) ⟨h1,?_,(a8.trans aa).trans ah⟩ B9 Aez;rw[a0]
  simpa only[Abh] using ag
 ·have h2:¬0<n:=by simp at h2;omega
  rw[if_neg h2] at a4 a0;simp only[AbH] at a4;refine Sa ?_;refine Ax rfl rfl (hks b af o' j _ w3 ad ae ac Aez AeY a6) ?_;rintro v w5 ⟨rfl,ag,ah⟩;refine Sa ?_;refine QW.again (n+1) ⟨h1,?_,a8.trans ah⟩ B9 Aez;rw[a0]
  simpa only[Abh,Acq] using ag
theorem V3{s:SC}(hc:s.Ok):∀(m:Nat) (t:Tr false),t.cnt≤m→ND s 96 t
 | 0,t,hm=>absurd t.cnt_pos Aez
 | m+1,t,hm=>by
  intro o i out w hf hn hl hio htl h;have ih:=V3 hc m;have hnd:=hl.node;rw[show o+t.cnt - 1=i by omega] at hnd;have hi:i<s.l.length:=(Aav.1 hnd).1;have hsn:=hc.short _ (Aa9 hnd);have hN:=hc.nodes;have hl1:=hN.1;obtain⟨a,kp,kc,ea,hk,hc0⟩:=hN.at hnd;have hpr:=h;obtain⟨h0,v,hB,ho⟩:=h;rw[ea] at hB;have hcl:∀j u,(Bz ⟨DA o t,.slice kp (DA o t).kids.length kc⟩)[j]?=some u→w.cell? ((a.add (i*14)).add j)=some u:=λj u hu=>Aw h0 (hc0 j u hu)
  cases t with
  | leaf n=>
   have k0:=hf.1;have k1:=hf.2.1
   change ∀j u,(Bz ⟨n,.slice kp n.kids.length kc⟩)[j]?=some u→_ at hcl
   refine AQ func96 ntmps96 ?_;refine Sa ?_;refine Lo ?_;refine LW.load_cells rfl hcl rfl rfl rfl rfl ?_;refine Sa ?_;refine BX λA w1 hbA hx1 hA=>?_;refine Sa ?_;refine AR λw2 hc2 hA=>?_;have hx2:Ae w w2:=hx1.step hc2 Ae0;replace hpr:=hpr.ext hx2;refine Sa ?_;refine CW.no rfl (decide_eq_false (show ¬n.kind=7 by omega)) ?_;refine Sa ?_;refine CW.no rfl (decide_eq_false (show ¬n.kind=8 by omega)) ?_;refine Sa ?_;refine CW.no rfl (decide_eq_false (show ¬(8:Int)<n.kind by omega)) ?_;refine Sa ?_;refine LW.call (f:=136) (fs:=[]) (cs:=[]) rfl rfl rfl (WV hc n kp n.kids.length kc out w2 hf hn hsn htl hpr) ?_;rintro v w3 ⟨rfl,hp3,hf3⟩;refine Sa ?_
   exact QW.body_n (rs:=[]) (vs:=[]) results96 trivial rfl ⟨rfl,hp3,(Fp.ext hx2).trans hf3⟩
  | neg b=>
   change ∀j u,(Bz ⟨{kind:=8,kids:=[((o+b.cnt - 1:Nat):Int)]},.slice kp 1 kc⟩)[j]?=some u→_ at hcl
   simp only[Tr.cnt] at hm;refine AQ func96 ntmps96 ?_;refine Sa ?_;refine Lo ?_;refine LW.load_cells rfl hcl rfl rfl rfl rfl ?_;refine Sa ?_;refine BX λA w1 hbA hx1 hA=>?_;refine Sa ?_;refine AR λw2 hc2 hA=>?_;have hx2:Ae w w2:=hx1.step hc2 Ae0;replace hpr:=hpr.ext hx2;refine Sa ?_;refine LW.call (f:=138) (fs:=[]) (cs:=[]) rfl rfl rfl (UA hc b (ih b Aez) o kp kc out w2 hf (λu hu=>hn u AeN) hl.neg hk htl hpr) ?_;rintro v w3 ⟨rfl,hp3,hf3⟩;refine Sa ?_
   exact QW.body_n (rs:=[]) (vs:=[]) results96 trivial rfl ⟨rfl,hp3,(Fp.ext hx2).trans hf3⟩
  | two x b d=>
   obtain⟨hk9,hk19,hfb,hfd⟩:=hf
   change ∀j u,(Bz ⟨{kind:=x,kids:=[((o+b.cnt - 1:Nat):Int),((o+b.cnt+d.cnt - 1:Nat):Int)]},.slice kp 2 kc⟩)[j]?=some u→_ at hcl
   simp only[Tr.cnt] at hm;refine AQ func96 ntmps96 ?_;refine Sa ?_;refine Lo ?_;refine LW.load_cells rfl hcl rfl rfl rfl rfl ?_;refine Sa ?_;refine BX λA w1 hbA hx1 hA=>?_;refine Sa ?_;refine AR λw2 hc2 hA=>?_;have hx2:Ae w w2:=hx1.step hc2 Ae0;replace hpr:=hpr.ext hx2;refine Sa ?_;refine CW.no rfl (decide_eq_false (show ¬x=7 by omega)) ?_;refine Sa ?_;refine CW.no rfl (decide_eq_false (show ¬x=8 by omega)) ?_;refine Sa ?_;refine CW.yes rfl (decide_eq_true (show(8:Int)<x by omega)) ?_;refine Sa ?_;refine LW.call (f:=139) (fs:=[]) (cs:=[]) rfl rfl rfl (YI hc x b d (ih b Aez) (ih d Aez) o kp kc out w2 hk9 hk19 hfb (λu hu=>hn u AeI) hfd (λu hu=>hn u AeH) hl.two.1 hl.two.2 hk htl hpr) ?_;rintro v w3 ⟨rfl,hp3,hf3⟩;refine Sa ?_
   exact QW.body_n (rs:=[]) (vs:=[]) results96 trivial rfl ⟨rfl,hp3,(Fp.ext hx2).trans hf3⟩
  | call x ks=>
   change ∀j u,(Bz ⟨{kind:=7,text:=x,kids:=ks.kids o},.slice kp (ks.kids o).length kc⟩)[j]?=some u→_ at hcl
   simp only[Tr.cnt] at hm;refine AQ func96 ntmps96 ?_;refine Sa ?_;refine Lo ?_;refine LW.load_cells rfl hcl rfl rfl rfl rfl ?_;refine Sa ?_;refine BX λA w1 hbA hx1 hA=>?_;refine Sa ?_;refine AR λw2 hc2 hA=>?_;have hx2:Ae w w2:=hx1.step hc2 Ae0;replace hpr:=hpr.ext hx2;refine Sa ?_;refine LW.call (f:=137) (fs:=[]) (cs:=[]) rfl rfl rfl (WT hc x ks (λb hb=>ih b Aez) o kp kc out w2 hf.2 (Rr hn) hl.call hk htl hpr) ?_;rintro v w3 ⟨rfl,hp3,hf3⟩;refine Sa ?_;exact QW.body_n (rs:=[]) (vs:=[]) results96 trivial rfl ⟨rfl,hp3,(Fp.ext hx2).trans hf3⟩
theorem OY(l:List Ah)(v:Value)(w:World)(g:Dg w)(hN:Cg w v l)(hs:DS l)(hnum:J0 l):AF prog 68 [v] w (λv' w'=>v'=Am (BF l)∧Ae w w'):=by
 obtain⟨p,c,rfl⟩:=hN.slice;have hl:=hN.1;refine AQ func68 ntmps68 ?_;refine Sa ?_;refine Ax rfl rfl (XA l _ w g hN hs) ?_;rintro v w1 ⟨rfl,hx⟩;replace hN:=hN.ext hx;replace g:=g.ext hx;refine Sa ?_;refine Av (λh1=>?_) λh1=>?_
 ·have h1:BV l=false:=by simpa using h1
  refine Sa ?_;exact QW.body1 rfl rfl ⟨by rw[LM h1],hx⟩
 have h1:BV l=true:=by simpa using h1
 obtain⟨t,rfl,hf⟩:=Jt h1;have a5:=t.cnt_pos;have a0:=t.flat_len 0;have hn:=hnum t hf rfl;have a1:=t.len_le 0 hf hn (λn hm=>(hs n hm).1);simp only[cond_false] at a1;rw[FT hf];refine Sa ?_;refine Dq λA w2 a6 a2 hA=>?_;replace hA:Blk w2 A [.slice p (t.flat 0).length c,.slice none 0 0] 134:=hA;have hc:SC.Ok ⟨t.flat 0,p,c,A,w1⟩:=⟨hN,hs,by simp only;omega,g⟩;have a3:Pr ⟨t.flat 0,p,c,A,w1⟩ w2 []:=⟨a2,_,hA,A3.nil _ _ _ _⟩;refine Sa ?_;have e:(((t.flat 0).length:Int) - 1)=((t.cnt - 1:Nat):Int):=Aez
 rw[e];refine Ax rfl rfl (V3 hc t.cnt t (Ab9 _) 0 (t.cnt - 1) [] w2 hf hn (Ew.whole t) Aez Ae0 a3) ?_;rintro v w3 ⟨rfl,⟨a4,v,hB,ho⟩,-⟩;simp only[Acb] at ho;refine Sa ?_;refine LW.string_own rfl ho rfl rfl rfl rfl rfl rfl rfl ?_;refine Sa ?_;exact QW.body1 rfl rfl ⟨rfl,hx.trans a4⟩
set_option maxRecDepth 100000 in
theorem LJ{H:Type}{enc:TypeId×Value→H}{W:World}{b0 base:Nat}{sp:Nat→Bool}{held:Bool}{v:Value}{d:DataW H}{p:List MemPlace}{t e:TypeId}{k:IntKind}
  (ht:prog.underlying t=some (.slice e)) (he:prog.underlying e=some (.int k)) (hc:prog.cellsOf e=1)
  (hv:Value.okWide prog W .any b0 t v) (h:DataW.Trod enc prog W base sp held t v d p):∃zs,QM k W v zs∧(∀z∈zs,(Lit.int k z).wf=true)∧∃p c,v=.slice p zs.length c∧zs.length≤c:=by
 obtain⟨a,len,cap,rfl⟩:=okWide_slice ht hv;obtain⟨fuel,hf⟩:=h;rcases open_ints ht he hc hf with ⟨e1,_⟩ | ⟨a',len',cap',zs,e1,_,hl,hm,hz,_,a0,hw⟩
 ·have e2:(Value.slice a len cap)=.slice none 0 0:=by simpa[Value.cells] using e1
  rw[e2];exact⟨[],⟨by simp,.inl ⟨rfl,rfl⟩⟩,by simp,_,_,rfl,Ab9 _⟩
 ·have e2:(Value.slice a len cap)=.slice (some a') len' cap':=by simpa[Value.cells] using e1
  rw[e2];have a2:len'≤zs.length:=by rw[hz];split<;>omega
  have a4:maxLen≤9223372036854775807:=Ae2
  have a1:(zs.take len').length=len':=Ae0
  refine⟨zs.take len',⟨by omega,.inr ⟨a',cap',by rw[a1],λi z hi=>?_⟩⟩,λz hz=>hw z (Ac5 hz),_,_,by rw[a1],by rw[a1];exact hl⟩;have a3:i<len':=by
   have:=(Aav.1 hi).1;omega
  rw[AcP a3] at hi;rw[a0 i Aez];simp[hi]
end Go.Proofs.YtefaigjfkddelaaGreatDoor
