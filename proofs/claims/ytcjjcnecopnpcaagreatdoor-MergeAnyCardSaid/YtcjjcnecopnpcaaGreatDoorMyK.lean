/-
  Joined by program out of the texts Book6 Book7 Book1 Book3 Book4 Book2.
-/
import Derived.Test.YtcjjcnecopnpcaaGreatDoorMyJ
import Derived.Test.YtcjjcnecopnpcaaGreatDoorMyE
import Derived.Test.YtcjjcnecopnpcaaGreatDoorMyI
import Derived.Test.YtcjjcnecopnpcaaGreatDoorMyG
namespace Go.Proofs.YtcjjcnecopnpcaaGreatDoor
open Tryz
open Go Go.E
theorem Pn:∀(xs:List Value),(xs.map λu=>[u]).flatten=xs
 | []=>rfl
 | x::r=>by simp[Pn r]
theorem Wv{w:World}{lo:Nat}{v:Value}{l:List (List UInt8)}(h:E.Own w lo 9 1 v l.length (l.map Aq))(hl:l.length≤1000000)(hs:∀s∈l,s.length≤1000000):∃g,AD (λa=>a=⟨g,0,none⟩) w v l∧(l≠[]→lo≤g∧∃sp,Blk w g (l.map Aq++sp) 9):=by
 have h0:=h;obtain⟨hx,⟨rfl,e⟩ | ⟨g,cap,sp,rfl,hB,h1,h2,h3⟩⟩:=h
 ·have:l=[]:=AbA e;subst this;exact⟨0,Ai.nil,λh=>absurd rfl h⟩
 ·have hO:A0 1 lo 9 Aad w (.slice (some ⟨g,0,none⟩) l.length cap) l:=by
   refine⟨(l.map Aq).map λu=>[u],by simp,by simp,by rw[Pn];exact h0,λi x cs hi hc=>?_⟩;rw[AbR,AbR,hi] at hc;simp at hc;exact⟨hc.symm,hs x (Ab4 hi)⟩
  exact⟨g,hO.list hl (λb hb _=>by simp[Ae] at hb;rw[hb]),λ_=>⟨h3,sp,hB⟩⟩
theorem VK(s:Af)(rp:Option Addr)(rl rc A:Nat)(x:List UInt8)(w:World)(hA:Blk w A [Aq x] 9):A9 prog 103 [.agg ⟨Az s (.slice rp rl rc)⟩,.pointer (some ⟨A,0,none⟩)] w (λv w'=>v=.bool (decide (s.name=x))∧Ah w w'):=by
 refine AG func103 ntmps103 ?_;refine Sa ?_;refine C0 λX w1 a1 a0 hX=>?_;replace hX:Blk w1 X (Az s (.slice rp rl rc)) 46:=hX;replace hA:=hA.ext a0;refine Sa ?_;exact QW.body1 rfl rfl ⟨by simp,a0⟩
theorem PZ(b:List Af)(sv:Value)(A:Nat)(x:List UInt8)(w:World)(h:Bu w sv b)(hA:Blk w A [Aq x] 9):A9 prog 102 [sv,.func (.func 103) ⟨[]⟩ ⟨[.pointer (some ⟨A,0,none⟩)]⟩] w (λv w'=>v=.int .i64 (VU (O2 b x))∧Ah w w'):=by
 obtain⟨p,c,rfl⟩:=h.slice;have hl:=h.1;refine AG func102 ntmps102 ?_;refine Sa ?_;refine CW.loop (ι:=Nat) (λk w'=>k≤b.length∧Ah w w'∧∀i u,i<k→b[i]?=some u→u.name≠x) (λk=>[(0,.slice p b.length c),(1,.func (.func 103) ⟨[]⟩ ⟨[.pointer (some ⟨A,0,none⟩)]⟩),(7,.int .i64 b.length),(8,.int .i64 k)]) (λk=>b.length - k) 0 ⟨by omega,Chg.refl _ _,λi u h=>by omega⟩ Bl ?_;rintro k w1 ⟨hk,hx,a1⟩;replace h:=h.ext hx;replace hA:=hA.ext hx;refine Sa ?_;refine Av (λh2=>?_) λh2=>?_
 ·have h2:k<b.length:=by simp at h2;omega
  obtain⟨s,hs⟩:∃s,b[k]?=some s:=⟨_,Aav h2⟩;obtain⟨a,q,kc,rfl,-,a3,hr,a0⟩:=h.at hs;refine Sa ?_;refine Lo ?_;refine LW.load_cells rfl a0 rfl rfl rfl rfl ?_;refine Sa ?_;refine LW.call (fs:=[]) (cs:=[.pointer (some ⟨A,0,none⟩)]) rfl rfl rfl (VK s _ _ _ A x w1 hA) ?_;rintro v w2 ⟨rfl,a2⟩;refine Sa ?_;refine Av (λh3=>?_) λh3=>?_
  ·have h3:s.name=x:=by simpa using h3
   refine Sa ?_;exact QW.body1 rfl rfl ⟨by rw[X0 hs h3 a1];rfl,hx.trans a2⟩
  ·have h3:s.name≠x:=by simpa using h3
   refine Sa ?_;refine QW.again (k+1) ⟨by omega,hx.trans a2,λi u hi hu=>?_⟩ Bl Aeb;rcases AbW i k with h4 | h4
   ·exact a1 i u h4 hu
   ·obtain rfl:i=k:=by omega
    rw[hs] at hu;obtain rfl:=Ab9 hu;exact h3
 ·have h2:k=b.length:=by simp at h2;omega
  subst h2;refine Sa ?_;refine QW.body1 rfl rfl ⟨?_,hx⟩;rw[X1 (λi s hi hs=>a1 i s hi hs)];rfl
theorem Xo(b:List Af)(sv:Value)(x:List UInt8)(w:World)(h:Bu w sv b):A9 prog 70 [.agg ⟨[sv]⟩,Aq x] w (λv w'=>v=.int .i64 (VU (O2 b x))∧Ah w w'):=by
 obtain⟨p,c,rfl⟩:=h.slice;refine AG func70 ntmps70 ?_;refine Sa ?_;refine C0 λB w1 a4 a2 hB=>?_;replace hB:Blk w1 B [.slice p b.length c] 24:=hB;refine Sa ?_;refine C0 λA w2 a5 a1 hA=>?_;replace hA:Blk w2 A [Aq x] 9:=hA;replace hB:=hB.ext a1;have a0:=a2.trans a1;refine Sa ?_;refine Ap rfl rfl (PZ b _ A x w2 (h.ext a0) hA) ?_;rintro v w3 ⟨rfl,a3⟩;refine Sa ?_;exact QW.body1 rfl rfl ⟨rfl,a0.trans a3⟩
theorem GL{α:Type}{f:α→Bool}{l:List α}{k:Nat}{x:α}(h:l[k]?=some x)(hf:f x=false):l.all f=false:=by
 rw[List.all_eq_false];exact⟨x,Ab4 h,by simp[hf]⟩
theorem Kj{α:Type}{f:α→Bool}{l:List α}{k:Nat}{x:α}(h:(l.take k).all f=true)(hk:l[k]?=some x)(hf:f x=true):(l.take (k+1)).all f=true:=by
 rw[AbO,hk,List.all_append,h];simp[hf]
theorem Mz{α:Type}{f:α→Bool}{l:List α}(h:(l.take l.length).all f=true):l.all f=true:=by
 rwa [AbQ] at h
noncomputable def HX(cols:Int)(r:List (List UInt8)):Bool:=decide ((r.length:Int)=cols)&&r.all Ci
theorem DQ(s:Af):A6 s=(D5 s.name&&(decide (0≤s.cols)&&(decide (s.cols≤12)&&(decide (s.rows.length≤24)&&s.rows.all (HX s.cols))))):=by
 unfold A6 HX;simp[Bool.and_assoc]
theorem Nz:∀{b:Ao} {p:Option (List UInt8)},G0 p b=true↔∀i s,b[i]?=some s→A6 s=true∧∀q,(if i=0 then p else(b[i - 1]?).map Af.name)=some q→Op.bytesLess q s.name=true
 | [],p=>by simp[G0]
 | s::r,p=>by
  show(((match p with | none=>true | some q=>Op.bytesLess q s.name)&&A6 s&&G0 (some s.name) r)=true)↔_;rw[Abr,Abr,Nz];constructor
  ·rintro⟨⟨h1,h2⟩,h3⟩ i u hi
   cases i with
   | zero=>
    simp at hi;subst hi;refine⟨h2,λq hq=>?_⟩;rw[if_pos rfl] at hq;subst hq
    exact h1
   | succ i=>
    have h4:=h3 i u AeR;refine⟨h4.1,λq hq=>h4.2 q ?_⟩;rw[if_neg Aeb] at hq
    cases i with
    | zero=>simpa using hq
    | succ i=>simpa using hq
  ·intro h;have h0:=h 0 s rfl;refine⟨⟨?_,h0.1⟩,λi u hi=>?_⟩
   ·cases p with
    | none=>rfl
    | some q=>exact h0.2 q rfl
   ·have h4:=h (i+1) u AeR;refine⟨h4.1,λq hq=>h4.2 q ?_⟩;rw[if_neg Aeb]
    cases i with
    | zero=>simpa using hq
    | succ i=>simpa using hq
theorem Ky(s:Af)(rv:Value)(w:World)(g:Dq w)(hn:s.name.length≤1000000)(h:GK w rv s.rows):A9 prog 45 [.agg ⟨Az s rv⟩] w (λr w'=>r=.bool (A6 s)∧Ah w w'):=by
 obtain⟨p,c,rfl⟩:=h.slice;have hl:=h.1;refine AG func45 ntmps45 ?_;apply CW.seq;apply CW.region;refine Sl ?_;refine C0 λA w1 a9 a5 hA=>?_;replace hA:Blk w1 A (Az s (.slice p s.rows.length c)) 46:=hA;replace g:=g.ext a5;replace h:=h.ext a5;refine Sa ?_;refine Ap rfl rfl (QM s.name w1 Aeb) ?_;rintro v w2 ⟨rfl,a4⟩;replace g:=g.ext a4;replace h:=h.ext a4;replace hA:=hA.ext a4;have hx:=a5.trans a4;refine Sa ?_
 cases h1:D5 s.name with
 | false=>
  refine Sa ?_
  exact QW.body1 rfl rfl ⟨by rw[DQ,h1];rfl,hx⟩
 | true=>
 refine Sa ?_;by_cases h2:s.cols<0
 ·refine LW.know (t:=16) (c:=true) rfl Ae7 ?_;refine Sa ?_;exact QW.body1 rfl rfl ⟨by rw[DQ,decide_eq_false (p:=0≤s.cols) Aeb];simp,hx⟩
 refine LW.know (t:=16) (c:=false) rfl Ae7 ?_;refine Sa ?_;by_cases h3:12<s.cols
 ·refine LW.know (t:=21) (c:=true) rfl (by simpa using h3) ?_;refine Sa ?_;exact QW.body1 rfl rfl ⟨by rw[DQ,decide_eq_false (p:=s.cols≤12) Aeb];simp,hx⟩
 refine LW.know (t:=21) (c:=false) rfl (by simpa using h3) ?_;refine Sa ?_;refine Av (λh4=>?_) λh4=>?_
 ·have h4:24<s.rows.length:=by simp at h4;omega
  refine Sa ?_;exact QW.body1 rfl rfl ⟨by rw[DQ,decide_eq_false (p:=s.rows.length≤24) Aeb];simp,hx⟩
 have h4:s.rows.length≤24:=by simp at h4;omega
 have e0:A6 s=s.rows.all (HX s.cols):=by
  rw[DQ,h1,decide_eq_true (p:=0≤s.cols) Aeb,decide_eq_true (p:=s.cols≤12) Aeb,decide_eq_true h4];simp
 refine Sa ?_;refine CW.loop (ι:=Nat) (λk w'=>k≤s.rows.length∧Ah w2 w'∧(s.rows.take k).all (HX s.cols)=true) (λk=>[(1,.pointer (some ⟨A,0,none⟩)),(28,.slice p s.rows.length c),(29,.int .i64 s.rows.length),(30,.int .i64 k)]) (λk=>s.rows.length - k) 0 ⟨by omega,Chg.refl _ _,rfl⟩ Bl ?_;rintro k w3 ⟨hk,a1,a7⟩;replace h:=h.ext a1;replace hA:=hA.ext a1;replace g:=g.ext a1;replace a0:=hx.trans a1;refine Sa ?_;refine Av (λh5=>?_) λh5=>?_;rotate_left
 ·have h5:k=s.rows.length:=by simp at h5;omega
  subst h5;refine Sa ?_;exact QW.body1 rfl rfl ⟨by rw[e0,Mz a7],a0⟩
 have h5:k<s.rows.length:=by simp at h5;omega
 obtain⟨r,hr⟩:∃r,s.rows[k]?=some r:=⟨_,Aav h5⟩;obtain⟨a,q,qc,rfl,-,ht,hc⟩:=GK.at h hr;have aa:=ht.1;refine Sw ?_;refine Av (λh6=>?_) λh6=>?_
 ·have h6:(r.length:Int)≠s.cols:=by simpa using h6
  refine Sa ?_;exact QW.body1 rfl rfl ⟨by rw[e0,GL hr (by rw[HX,decide_eq_false h6];rfl)],a0⟩
 have h6:(r.length:Int)=s.cols:=by simpa using h6
 refine Sa ?_;refine CW.loop (ι:=Nat) (λj w'=>j≤r.length∧Ah w3 w'∧(r.take j).all Ci=true) (λj=>[(1,.pointer (some ⟨A,0,none⟩)),(28,.slice (some a) s.rows.length c),(29,.int .i64 s.rows.length),(30,.int .i64 k),(39,.slice q r.length qc),(40,.int .i64 r.length),(41,.int .i64 j)]) (λj=>r.length - j) 0 ⟨by omega,Chg.refl _ _,rfl⟩ Jv ?_;rintro j w4 ⟨hj,a2,a3⟩;replace ht:=ht.ext a2;replace g:=g.ext a2;refine Sa ?_;refine Av (λh7=>?_) λh7=>?_;rotate_left
 ·have h7:j=r.length:=by simp at h7;omega
  subst h7;refine Sa ?_;refine QW.again (k+1) ⟨by omega,a1.trans a2,Kj a7 hr ?_⟩ Bl Aeb;rw[HX,decide_eq_true h6,Mz a3];rfl
 have h7:j<r.length:=by simp at h7;omega
 obtain⟨t,a6⟩:∃t,r[j]?=some t:=⟨_,Aav h7⟩;obtain⟨a',rfl,-,ab,ac⟩:=FS.at ht a6;refine Sw ?_;refine Ap rfl rfl (QY t Aeb w4 g) ?_;rintro v w5 ⟨rfl,a8⟩;refine Sa ?_
 cases h8:Ci t with
 | false=>
  refine Sa ?_
  exact QW.body1 rfl rfl ⟨by rw[e0,GL hr (by rw[HX,GL a6 h8,AcU])],(a0.trans a2).trans a8⟩
 | true=>
  refine Sa ?_;exact QW.again (j+1) ⟨by omega,a2.trans a8,Kj a3 a6 h8⟩ Jv Aeb
noncomputable def Dl(b:Ao)(i:Nat):Bool:=match b[i]? with
 | none=>false
 | some s=>A6 s&&(match i with | 0=>true | j+1=>Op.bytesLess ((b[j]?).elim [] Af.name) s.name)
theorem Pi{b:Ao}(h:∀i,i<b.length→Dl b i=true):G0 none b=true:=by
 rw[Nz];intro i s hi;have hl:=(Abo.1 hi).1;have h1:=h i hl;unfold Dl at h1;rw[hi] at h1;simp only[Abr] at h1;refine⟨h1.1,λq hq=>?_⟩
 cases i with
 | zero=>simp at hq
 | succ i=>
  rw[if_neg Aeb] at hq;have h2:Op.bytesLess ((b[i]?).elim [] Af.name) s.name=true:=h1.2;simp only[AdG] at hq
  cases h3:b[i]? with
  | none=>rw[h3] at hq;simp at hq
  | some u=>
   rw[h3] at hq h2;simp at hq;rw[←hq];exact h2
theorem Gb{b:Ao}{i:Nat}(hi:i<b.length)(h:Dl b i=false):G0 none b=false:=by
 cases hm:G0 none b with
 | false=>rfl
 | true=>
  rw[Nz] at hm;have hs:=Aav hi;obtain⟨h1,h2⟩:=hm i _ hs;unfold Dl at h;rw[hs] at h;simp only[h1,Bool.true_and] at h
  cases i with
  | zero=>simp at h
  | succ i=>
   have h3:=Aav (show i<b.length by omega);have h4:=h2 (b[i]' Aeb).name (by rw[if_neg Aeb];simp only[AdG];rw[h3];rfl);have h:Op.bytesLess ((b[i]?).elim [] Af.name) b[i+1].name=false:=h;rw[h3] at h;have h:Op.bytesLess b[i].name b[i+1].name=false:=h;rw[h4] at h;cases h
theorem Vr(b:Ao)(sv:Value)(w:World)(g:Dq w)(h:C6 w sv b):A9 prog 28 [.agg ⟨[sv]⟩] w (λr w'=>r=.bool (Ay b)∧Ah w w'):=by
 obtain⟨p,c,rfl⟩:=h.slice;have hl:=h.1;refine AG func28 ntmps28 ?_;apply CW.seq;apply CW.region;refine Sl ?_;refine C0 λA w1 ad a5 hA=>?_;replace hA:Blk w1 A [.slice p b.length c] 24:=hA;replace g:=g.ext a5;replace h:=h.ext a5;refine Sa ?_;refine Av (λh4=>?_) λh4=>?_
 ·have h4:5<b.length:=by simp at h4;omega
  refine Sa ?_;exact QW.body1 rfl rfl ⟨by rw[Ay,decide_eq_false Aeb];rfl,a5⟩
 have h4:b.length≤5:=by simp at h4;omega
 have e0:Ay b=G0 none b:=by rw[Ay,decide_eq_true h4];rfl
 refine Sa ?_;refine CW.loop (ι:=Nat) (λk w'=>k≤b.length∧Ah w1 w'∧∀i,i<k→Dl b i=true) (λk=>[(1,.pointer (some ⟨A,0,none⟩)),(10,.slice p b.length c),(11,.int .i64 b.length),(12,.int .i64 k)]) (λk=>b.length - k) 0 ⟨by omega,Chg.refl _ _,by simp⟩ Bl ?_;rintro k w2 ⟨hk,a4,a7⟩;replace h:=h.ext a4;replace hA:=hA.ext a4;replace g:=g.ext a4;have a1:=a5.trans a4;refine Sa ?_;refine Av (λh5=>?_) λh5=>?_;rotate_left
 ·have h5:k=b.length:=by simp at h5;omega
  subst h5;refine Sa ?_;exact QW.body1 rfl rfl ⟨by rw[e0,Pi a7],a1⟩
 have h5:k<b.length:=by simp at h5;omega
 obtain⟨s,hs⟩:∃r,b[k]?=some r:=⟨_,Aav h5⟩;obtain⟨a,q,qc,rfl,-,a8,ht,hc⟩:=C6.at h hs;refine Sw ?_;refine B1 λX w3 ae a6 hX=>?_;have af:=hA.ext a6;have ag:A≠X:=λe=>by have:=hA.lt;omega
 have h3:=h.ext a6;have ah:=ht.ext a6;refine Sw ?_;refine AF λw4 aa hX=>?_;replace hX:Blk w4 X (Az s (.slice q s.rows.length qc)) 46:=hX;have a3:Ah w2 w4:=a6.step aa Aee;have ai:=hA.ext a3;have ab:=h.ext a3;have a9:=ht.ext a3;have g4:=g.ext a3;refine Sa ?_;refine Ig ?_;refine MO ?_
 cases k with
 | zero=>
  refine QL.know (t:=19) (c:=false) rfl Aej ?_;refine MO ?_;refine QL.call0 rfl rfl (λw5 a0=>Ky s _ w5 (g4.ext a0) a8 (a9.ext a0)) ?_;refine MO ?_;refine QL.nil λw5 a0=>?_;refine Sa ?_;refine Av (λh8=>?_) λh8=>?_
  ·have h8:A6 s=false:=by simpa using h8
   refine Sa ?_;exact QW.body1 rfl rfl ⟨by rw[e0,Gb h5 (by unfold Dl;rw[hs];show(A6 s&&true)=_;rw[h8];rfl)],(a1.trans a3).trans a0⟩
  ·have h8:A6 s=true:=by simpa using h8
   refine Sa ?_;exact QW.again (1) ⟨by omega,(a4.trans a3).trans a0,λi hi=>by
    rcases AbW i (0) with h9 | h9
    ·exact a7 i h9
    ·obtain rfl:i=0:=by omega
     unfold Dl;rw[hs];show(A6 s&&true)=_;rw[h8];rfl⟩ Bl Aeb
 | succ j=>
  obtain⟨u,hu⟩:∃u,b[j]?=some u:=⟨_,Aav Aeb⟩;obtain⟨a2,q2,qc2,e2,-,-,-,ac⟩:=C6.at ab hu;obtain rfl:=Ab9 e2;have aj:w4.cell? ((a.add ((((j+1:Nat):Int) - 1).toNat*3)).add 0)=some (Aq u.name):=by
   rw[show(((j+1:Nat):Int) - 1).toNat=((j:Nat):Int).toNat by omega];exact ac 0 _ rfl
  refine QL.know (t:=19) (c:=true) rfl Aej ?_;refine MO ?_
  cases h7:Op.bytesLess u.name s.name with
  | false=>
   refine QL.know (t:=31) (c:=true) rfl rfl ?_;refine MO ?_;refine QL.nil λw5 a0=>?_;refine Sa ?_;exact QW.body1 rfl rfl ⟨by rw[e0,Gb h5 (by
    unfold Dl;rw[hs];have e3:Op.bytesLess ((b[j]?).elim [] Af.name) s.name=false:=by rw[hu];exact h7
    show(A6 s&&Op.bytesLess ((b[j]?).elim [] Af.name) s.name)=false
    rw[e3,AcU])],(a1.trans a3).trans a0⟩
  | true=>
  have e3:Op.bytesLess ((b[j]?).elim [] Af.name) s.name=true:=by rw[hu];exact h7
  have e4:Dl b (j+1)=(A6 s&&Op.bytesLess ((b[j]?).elim [] Af.name) s.name):=by unfold Dl;rw[hs]
  refine QL.know (t:=31) (c:=false) rfl rfl ?_;refine MO ?_;refine QL.call0 rfl rfl (λw5 a0=>Ky s _ w5 (g4.ext a0) a8 (a9.ext a0)) ?_;refine MO ?_;refine QL.nil λw5 a0=>?_;refine Sa ?_;refine Av (λh8=>?_) λh8=>?_
  ·have h8:A6 s=false:=by simpa using h8
   refine Sa ?_;exact QW.body1 rfl rfl ⟨by rw[e0,Gb h5 (by rw[e4,h8];rfl)],(a1.trans a3).trans a0⟩
  ·have h8:A6 s=true:=by simpa using h8
   refine Sa ?_;exact QW.again (j+1+1) ⟨by omega,(a4.trans a3).trans a0,λi hi=>by
    rcases AbW i (j+1) with h9 | h9
    ·exact a7 i h9
    ·obtain rfl:i=j+1:=by omega
     rw[e4,h8,e3];rfl⟩ Bl Aeb
theorem MJ(b:Ao)(sv:Value)(w:World)(g:Dq w)(h:Bu w sv b):A9 prog 28 [.agg ⟨[sv]⟩] w (λr w'=>r=.bool (Ay b)∧Ah w w'):=Vr b sv w g (Ac.loose h)
theorem OC(s:Af)(rv:Value)(w:World)(hn:s.name.length≤1000000)(h:GK w rv s.rows):A9 prog 42 [.agg ⟨Az s rv⟩] w (λr w'=>r=.bool (A6 s)∧Ah w w'):=by
 obtain⟨p,c,rfl⟩:=h.slice;have hl:=h.1;refine AG func42 ntmps42 ?_;apply CW.seq;apply CW.region;refine Sl ?_;refine C0 λA w1 ab a7 hA=>?_;replace hA:Blk w1 A (Az s (.slice p s.rows.length c)) 46:=hA;replace h:=h.ext a7;refine Sa ?_;refine Ap rfl rfl (Pu s.name Aeb w1) ?_;rintro v w2 ⟨rfl,a5⟩;replace h:=h.ext a5;replace hA:=hA.ext a5;have hx:=a7.trans a5;refine Sa ?_
 cases h1:D5 s.name with
 | false=>
  refine Sa ?_
  exact QW.body1 rfl rfl ⟨by rw[DQ,h1];rfl,hx⟩
 | true=>
 refine Sa ?_;by_cases h2:s.cols<0
 ·refine LW.know (t:=14) (c:=true) rfl Ae7 ?_;refine Sa ?_;exact QW.body1 rfl rfl ⟨by rw[DQ,decide_eq_false (p:=0≤s.cols) Aeb];simp,hx⟩
 refine LW.know (t:=14) (c:=false) rfl Ae7 ?_;refine Sa ?_;by_cases h3:12<s.cols
 ·refine LW.know (t:=19) (c:=true) rfl (by simpa using h3) ?_;refine Sa ?_;exact QW.body1 rfl rfl ⟨by rw[DQ,decide_eq_false (p:=s.cols≤12) Aeb];simp,hx⟩
 refine LW.know (t:=19) (c:=false) rfl (by simpa using h3) ?_;refine Sa ?_;refine Av (λh4=>?_) λh4=>?_
 ·have h4:24<s.rows.length:=by simp at h4;omega
  refine Sa ?_;exact QW.body1 rfl rfl ⟨by rw[DQ,decide_eq_false (p:=s.rows.length≤24) Aeb];simp,hx⟩
 have h4:s.rows.length≤24:=by simp at h4;omega
 have e0:A6 s=s.rows.all (HX s.cols):=by
  rw[DQ,h1,decide_eq_true (p:=0≤s.cols) Aeb,decide_eq_true (p:=s.cols≤12) Aeb,decide_eq_true h4];simp
 refine Sa ?_;refine CW.loop (ι:=Nat) (λk w'=>k≤s.rows.length∧Ah w2 w'∧(s.rows.take k).all (HX s.cols)=true) (λk=>[(1,.pointer (some ⟨A,0,none⟩)),(3,.int .i64 k)]) (λk=>s.rows.length - k) 0 ⟨by omega,Chg.refl _ _,rfl⟩ DT ?_;rintro k w3 ⟨hk,a4,a8⟩;replace h:=h.ext a4;replace hA:=hA.ext a4;replace a0:=hx.trans a4;refine Sa ?_;refine Av (λh5=>?_) λh5=>?_;rotate_left
 ·have h5:k=s.rows.length:=by simp at h5;omega
  subst h5;refine Sa ?_;exact QW.body1 rfl rfl ⟨by rw[e0,Mz a8],a0⟩
 have h5:k<s.rows.length:=by simp at h5;omega
 obtain⟨r,hr⟩:∃r,s.rows[k]?=some r:=⟨_,Aav h5⟩;obtain⟨a,q,qc,rfl,-,ht,hc⟩:=GK.at h hr;have ac:=ht.1;refine Sa ?_;refine Ig ?_;refine MO ?_;refine QL.nil λw4 a1=>?_;replace ht:=ht.ext a1;replace h:=h.ext a1;replace hA:=hA.ext a1;have aa:=Bm a1 hc;refine Sa ?_;refine Av (λh6=>?_) λh6=>?_
 ·have h6:(r.length:Int)≠s.cols:=by simpa using h6
  refine Sa ?_;exact QW.body1 rfl rfl ⟨by rw[e0,GL hr (by rw[HX,decide_eq_false h6];rfl)],a0.trans a1⟩
 have h6:(r.length:Int)=s.cols:=by simpa using h6
 refine Sa ?_;refine CW.loop (ι:=Nat) (λj w'=>j≤r.length∧Ah w4 w'∧(r.take j).all Ci=true) (λj=>[(1,.pointer (some ⟨A,0,none⟩)),(3,.int .i64 k),(4,.int .i64 j)]) (λj=>r.length - j) 0 ⟨by omega,Chg.refl _ _,rfl⟩ Bp ?_;rintro j w5 ⟨hj,a2,a3⟩;replace ht:=ht.ext a2;replace hA:=hA.ext a2;replace ad:=Bm a2 aa;refine Sw ?_;refine Av (λh7=>?_) λh7=>?_;rotate_left
 ·have h7:j=r.length:=by simp at h7;omega
  subst h7;refine Sa ?_;refine QW.again (k+1) ⟨by omega,(a4.trans a1).trans a2,Kj a8 hr ?_⟩ DT Aeb;rw[HX,decide_eq_true h6,Mz a3];rfl
 have h7:j<r.length:=by simp at h7;omega
 obtain⟨t,a6⟩:∃t,r[j]?=some t:=⟨_,Aav h7⟩;obtain⟨a',rfl,-,ae,af⟩:=FS.at ht a6;refine Sw ?_;refine Ap rfl rfl (Q1 t Aeb w5) ?_;rintro v w6 ⟨rfl,a9⟩;refine Sa ?_
 cases h8:Ci t with
 | false=>
  refine Sa ?_
  exact QW.body1 rfl rfl ⟨by rw[e0,GL hr (by rw[HX,GL a6 h8,AcU])],((a0.trans a1).trans a2).trans a9⟩
 | true=>
  refine Sa ?_;exact QW.again (j+1) ⟨by omega,a2.trans a9,Kj a3 a6 h8⟩ Bp Aeb
theorem J7(b:Ao)(sv:Value)(w:World)(h:C6 w sv b):A9 prog 22 [.agg ⟨[sv]⟩] w (λr w'=>r=.bool (Ay b)∧Ah w w'):=by
 obtain⟨p,c,rfl⟩:=h.slice;have hl:=h.1;refine AG func22 ntmps22 ?_;apply CW.seq;apply CW.region;refine Sl ?_;refine C0 λA w1 a8 a4 hA=>?_;replace hA:Blk w1 A [.slice p b.length c] 24:=hA;replace h:=h.ext a4;refine Sa ?_;refine Av (λh4=>?_) λh4=>?_
 ·have h4:5<b.length:=by simp at h4;omega
  refine Sa ?_;exact QW.body1 rfl rfl ⟨by rw[Ay,decide_eq_false Aeb];rfl,a4⟩
 have h4:b.length≤5:=by simp at h4;omega
 have e0:Ay b=G0 none b:=by rw[Ay,decide_eq_true h4];rfl
 refine Sa ?_;refine CW.loop (ι:=Nat) (λk w'=>k≤b.length∧Ah w1 w'∧∀i,i<k→Dl b i=true) (λk=>[(1,.pointer (some ⟨A,0,none⟩)),(3,.int .i64 k)]) (λk=>b.length - k) 0 ⟨by omega,Chg.refl _ _,by simp⟩ DT ?_;rintro k w2 ⟨hk,a3,a5⟩;replace h:=h.ext a3;replace hA:=hA.ext a3;have a1:=a4.trans a3;refine Sa ?_;refine Av (λh5=>?_) λh5=>?_;rotate_left
 ·have h5:k=b.length:=by simp at h5;omega
  subst h5;refine Sa ?_;exact QW.body1 rfl rfl ⟨by rw[e0,Pi a5],a1⟩
 have h5:k<b.length:=by simp at h5;omega
 obtain⟨s,hs⟩:∃r,b[k]?=some r:=⟨_,Aav h5⟩;obtain⟨a,q,qc,rfl,-,a6,ht,hc⟩:=C6.at h hs;have a9:w2.cell? ((a.add (((k:Nat):Int).toNat*3)).add 0)=some (Aq s.name):=hc 0 _ rfl;refine Sa ?_;refine Ig ?_;refine MO ?_;refine QL.call0 rfl rfl (λw5 a0=>OC s _ w5 a6 (ht.ext a0)) ?_;refine MO ?_
 cases h8:A6 s with
 | false=>
  refine QL.know (t:=22) (c:=true) rfl rfl ?_;refine MO ?_;refine QL.nil λw5 a0=>?_;refine Sa ?_;exact QW.body1 rfl rfl ⟨by rw[e0,Gb h5 (by
   unfold Dl;rw[hs];show(A6 s&&_)=false
   rw[h8];rfl)],a1.trans a0⟩
 | true=>
 refine QL.know (t:=22) (c:=false) rfl rfl ?_;refine MO ?_
 cases k with
 | zero=>
  refine QL.know (t:=25) (c:=false) rfl Aej ?_;refine MO ?_;refine QL.nil λw5 a0=>?_;refine Sa ?_;exact QW.again 1 ⟨by omega,a3.trans a0,λi hi=>by
   obtain rfl:i=0:=by omega
   unfold Dl;rw[hs];show(A6 s&&true)=_;rw[h8];rfl⟩ DT Aeb
 | succ j=>
  obtain⟨u,hu⟩:∃u,b[j]?=some u:=⟨_,Aav Aeb⟩;obtain⟨a2,q2,qc2,e2,-,-,-,a7⟩:=C6.at h hu;obtain rfl:=Ab9 e2;have aa:w2.cell? ((a.add ((((j+1:Nat):Int) - 1).toNat*3)).add 0)=some (Aq u.name):=by
   rw[show(((j+1:Nat):Int) - 1).toNat=((j:Nat):Int).toNat by omega];exact a7 0 _ rfl
  have e4:Dl b (j+1)=(A6 s&&Op.bytesLess ((b[j]?).elim [] Af.name) s.name):=by unfold Dl;rw[hs]
  have e3:((b[j]?).elim [] Af.name)=u.name:=by rw[hu];rfl
  rw[e3,h8] at e4;refine QL.know (t:=25) (c:=true) rfl Aej ?_;refine MO ?_;refine QL.nil λw5 a0=>?_;refine Sa ?_;refine Av (λh7=>?_) λh7=>?_
  ·have h7:Op.bytesLess u.name s.name=false:=by simpa using h7
   refine Sa ?_;exact QW.body1 rfl rfl ⟨by rw[e0,Gb h5 (by rw[e4,h7];rfl)],a1.trans a0⟩
  ·have h7:Op.bytesLess u.name s.name=true:=by simpa using h7
   refine Sa ?_;exact QW.again (j+1+1) ⟨by omega,a3.trans a0,λi hi=>by
    rcases AbW i (j+1) with h9 | h9
    ·exact a5 i h9
    ·obtain rfl:i=j+1:=by omega
     rw[e4,h7];rfl⟩ DT Aeb
theorem IZ{α:Type}[DecidableEq α]{l m:List α}{k:Nat}{x y:α}(h1:l[k]?=some x)(h2:m[k]?=some y)(h:x≠y):decide (l=m)=false:=by
 rw[decide_eq_false_iff_not];rintro rfl;rw[h1] at h2;exact h (Ab9 h2)
theorem FP{α:Type}{l m:List α}{k:Nat}{x:α}(h:l.take k=m.take k)(h1:l[k]?=some x)(h2:m[k]?=some x):l.take (k+1)=m.take (k+1):=by
 rw[AbO,AbO,h,h1,h2]
theorem Hp{α:Type}[DecidableEq α]{l m:List α}(h:l.take l.length=m.take l.length)(hl:l.length=m.length):decide (l=m)=true:=by
 rw[decide_eq_true_eq];rw[AbQ,hl,AbQ] at h;exact h
theorem GT{α:Type}[DecidableEq α]{l m:List α}(h:l.length≠m.length):decide (l=m)=false:=by
 rw[decide_eq_false_iff_not];rintro rfl;exact h rfl
theorem Vz(l m:List (List UInt8))(v u:Value)(w:World)(h:Cw w v l)(h':Cw w u m):A9 prog 62 [v,u] w (λr w'=>r=.bool (decide (l=m))∧Ah w w'):=by
 obtain⟨p,c,rfl⟩:=h.slice;obtain⟨p',c',rfl⟩:=h'.slice;have hl:=h.1;have a3:=h'.1;refine AG func62 ntmps62 ?_;refine Sa ?_;refine Av (λh1=>?_) λh1=>?_
 ·have h1:l.length≠m.length:=by simp at h1;omega
  refine Sa ?_;exact QW.body1 rfl rfl ⟨by rw[GT h1],Chg.refl _ _⟩
 have h1:l.length=m.length:=by simp at h1;omega
 refine Sa ?_;refine CW.loop (ι:=Nat) (λk w'=>k≤l.length∧Ah w w'∧l.take k=m.take k) (λk=>[(0,.slice p l.length c),(1,.slice p' m.length c'),(5,.int .i64 k)]) (λk=>l.length - k) 0 ⟨by omega,Chg.refl _ _,rfl⟩ Bp ?_;rintro k w1 ⟨hk,hx,a0⟩;replace h:=h.ext hx;replace h':=h'.ext hx;refine Sa ?_;refine Av (λh2=>?_) λh2=>?_
 ·have h2:k<l.length:=by simp at h2;omega
  obtain⟨s,hs⟩:∃s,l[k]?=some s:=⟨_,Aav h2⟩;obtain⟨s',a1⟩:∃s,m[k]?=some s:=⟨_,Aav Aeb⟩;obtain⟨a,rfl,-,-,hc⟩:=AD.at h hs;obtain⟨a',rfl,-,-,a4⟩:=AD.at h' a1;refine Sa ?_;refine Ig ?_;refine MO ?_;refine QL.nil λw2 a2=>?_;replace hx:=hx.trans a2;refine Sa ?_;refine Av (λh3=>?_) λh3=>?_
  ·have h3:s≠s':=by simpa using h3
   refine Sa ?_;exact QW.body1 rfl rfl ⟨by rw[IZ hs a1 h3],hx⟩
  ·have h3:s=s':=by simpa using h3
   subst h3;refine Sa ?_;exact QW.again (k+1) ⟨by omega,hx,FP a0 hs a1⟩ Bp Aeb
 ·have h2:k=l.length:=by simp at h2;omega
  subst h2;refine Sa ?_;exact QW.body1 rfl rfl ⟨by rw[Hp a0 h1],hx⟩
theorem U0(l m:List (List UInt8))(v u:Value)(w:World)(h:Cw w v l)(h':Cw w u m):A9 prog 107 [v,u] w (λr w'=>r=.bool (decide (l=m))∧Ah w w'):=by
 obtain⟨p,c,rfl⟩:=h.slice;obtain⟨p',c',rfl⟩:=h'.slice;have hl:=h.1;have a3:=h'.1;refine AG func107 ntmps107 ?_;refine Sa ?_;refine Av (λh1=>?_) λh1=>?_
 ·have h1:l.length≠m.length:=by simp at h1;omega
  refine Sa ?_;exact QW.body1 rfl rfl ⟨by rw[GT h1],Chg.refl _ _⟩
 have h1:l.length=m.length:=by simp at h1;omega
 refine Sa ?_;refine CW.loop (ι:=Nat) (λk w'=>k≤l.length∧Ah w w'∧l.take k=m.take k) (λk=>[(0,.slice p l.length c),(1,.slice p' m.length c'),(12,.int .i64 l.length),(13,.int .i64 k)]) (λk=>l.length - k) 0 ⟨by omega,Chg.refl _ _,rfl⟩ Bl ?_;rintro k w1 ⟨hk,hx,a0⟩;replace h:=h.ext hx;replace h':=h'.ext hx;refine Sa ?_;refine Av (λh2=>?_) λh2=>?_
 ·have h2:k<l.length:=by simp at h2;omega
  obtain⟨s,hs⟩:∃s,l[k]?=some s:=⟨_,Aav h2⟩;obtain⟨s',a1⟩:∃s,m[k]?=some s:=⟨_,Aav Aeb⟩;obtain⟨a,rfl,-,-,hc⟩:=AD.at h hs;obtain⟨a',rfl,-,-,a4⟩:=AD.at h' a1;refine Sa ?_;refine Ig ?_;refine MO ?_;refine QL.nil λw2 a2=>?_;replace hx:=hx.trans a2;refine Sa ?_;refine Av (λh3=>?_) λh3=>?_
  ·have h3:s≠s':=by simpa using h3
   refine Sa ?_;exact QW.body1 rfl rfl ⟨by rw[IZ hs a1 h3],hx⟩
  ·have h3:s=s':=by simpa using h3
   subst h3;refine Sa ?_;exact QW.again (k+1) ⟨by omega,hx,FP a0 hs a1⟩ Bl Aeb
 ·have h2:k=l.length:=by simp at h2;omega
  subst h2;refine Sa ?_;exact QW.body1 rfl rfl ⟨by rw[Hp a0 h1],hx⟩
theorem Uu(l m:List (List (List UInt8)))(v u:Value)(w:World)(h:CS w v l)(h':CS w u m):A9 prog 106 [v,u,.func (.func 107) ⟨[]⟩ ⟨[]⟩] w (λr w'=>r=.bool (decide (l=m))∧Ah w w'):=by
 obtain⟨p,c,rfl⟩:=h.slice;obtain⟨p',c',rfl⟩:=h'.slice;have hl:=h.1;have a4:=h'.1;refine AG func106 ntmps106 ?_;refine Sa ?_;refine Av (λh1=>?_) λh1=>?_
 ·have h1:l.length≠m.length:=by simp at h1;omega
  refine Sa ?_;exact QW.body1 rfl rfl ⟨by rw[GT h1],Chg.refl _ _⟩
 have h1:l.length=m.length:=by simp at h1;omega
 refine Sa ?_;refine CW.loop (ι:=Nat) (λk w'=>k≤l.length∧Ah w w'∧l.take k=m.take k) (λk=>[(1,.slice p' m.length c'),(2,.func (.func 107) ⟨[]⟩ ⟨[]⟩),(15,.slice p l.length c),(16,.int .i64 l.length),(17,.int .i64 k)]) (λk=>l.length - k) 0 ⟨by omega,Chg.refl _ _,rfl⟩ CT ?_;rintro k w1 ⟨hk,hx,a0⟩;replace h:=h.ext hx;replace h':=h'.ext hx;refine Sa ?_;refine Av (λh2=>?_) λh2=>?_
 ·have h2:k<l.length:=by simp at h2;omega
  obtain⟨s,hs⟩:∃s,l[k]?=some s:=⟨_,Aav h2⟩;obtain⟨s',a1⟩:∃s,m[k]?=some s:=⟨_,Aav Aeb⟩;obtain⟨a,q,qc,rfl,-,ht,hc⟩:=BA.at h hs;obtain⟨a',q',qc',rfl,-,a2,a5⟩:=BA.at h' a1;refine Sw ?_;refine LW.call (fs:=[]) (cs:=[]) rfl rfl rfl (U0 s s' _ _ w1 ht a2) ?_;rintro v w2 ⟨rfl,a3⟩;replace hx:=hx.trans a3;refine Sa ?_;refine Av (λh3=>?_) λh3=>?_
  ·have h3:s≠s':=by simpa using h3
   refine Sa ?_;exact QW.body1 rfl rfl ⟨by rw[IZ hs a1 h3],hx⟩
  ·have h3:s=s':=by simpa using h3
   subst h3;refine Sa ?_;exact QW.again (k+1) ⟨by omega,hx,FP a0 hs a1⟩ CT Aeb
 ·have h2:k=l.length:=by simp at h2;omega
  subst h2;refine Sa ?_;exact QW.body1 rfl rfl ⟨by rw[Hp a0 h1],hx⟩
theorem Fj{s u:Af}:decide (s=u)=(decide (s.name=u.name)&&decide (s.cols=u.cols)&&decide (s.rows=u.rows)):=by
 cases s;cases u;simp[Bool.and_assoc]
theorem WJ(s u:Af)(rv uv:Value)(w:World)(h:CS w rv s.rows)(h':CS w uv u.rows):A9 prog 105 [.agg ⟨Az s rv⟩,.agg ⟨Az u uv⟩] w (λr w'=>r=.bool (decide (s=u))∧Ah w w'):=by
 refine AG func105 ntmps105 ?_;apply CW.seq;apply CW.region;refine Sl ?_;refine C0 λA w1 a3 a1 hA=>?_;replace hA:Blk w1 A (Az s rv) 46:=hA;refine Sl ?_;refine C0 λB w2 a4 a0 hB=>?_;replace hB:Blk w2 B (Az u uv) 46:=hB;replace hA:=hA.ext a0;have hx:=a1.trans a0;refine Sa ?_;by_cases h1:s.name=u.name;rotate_left
 ·refine LW.know (t:=10) (c:=false) rfl Ae8 ?_;refine Sa ?_;exact QW.body1 rfl rfl ⟨by rw[Fj,decide_eq_false h1];rfl,hx⟩
 refine LW.know (t:=10) (c:=true) rfl Ae8 ?_;refine Sa ?_;by_cases h2:s.cols=u.cols;rotate_left
 ·refine LW.know (t:=17) (c:=false) rfl Ae7 ?_;refine Sa ?_;exact QW.body1 rfl rfl ⟨by rw[Fj,decide_eq_false h2,AcU];rfl,hx⟩
 refine LW.know (t:=17) (c:=true) rfl Ae7 ?_;refine Sa ?_;refine Ap rfl rfl (Uu s.rows u.rows _ _ w2 (h.ext hx) (h'.ext hx)) ?_;rintro v w3 ⟨rfl,a2⟩;refine Sa ?_;exact QW.body1 rfl rfl ⟨by rw[Fj,decide_eq_true h1,decide_eq_true h2];rfl,hx.trans a2⟩
theorem T4(l m:Ao)(v u:Value)(w:World)(h:Bu w v l)(h':Bu w u m):A9 prog 104 [v,u,.func (.func 105) ⟨[]⟩ ⟨[]⟩] w (λr w'=>r=.bool (decide (l=m))∧Ah w w'):=by
 obtain⟨p,c,rfl⟩:=h.slice;obtain⟨p',c',rfl⟩:=h'.slice;have hl:=h.1;have ab:=h'.1;refine AG func104 ntmps104 ?_;refine Sa ?_;refine Av (λh1=>?_) λh1=>?_
 ·have h1:l.length≠m.length:=by simp at h1;omega
  refine Sa ?_;exact QW.body1 rfl rfl ⟨by rw[GT h1],Chg.refl _ _⟩
 have h1:l.length=m.length:=by simp at h1;omega
 refine Sa ?_;refine CW.loop (ι:=Nat) (λk w'=>k≤l.length∧Ah w w'∧l.take k=m.take k) (λk=>[(1,.slice p' m.length c'),(2,.func (.func 105) ⟨[]⟩ ⟨[]⟩),(15,.slice p l.length c),(16,.int .i64 l.length),(17,.int .i64 k)]) (λk=>l.length - k) 0 ⟨by omega,Chg.refl _ _,rfl⟩ CT ?_;rintro k w1 ⟨hk,hx,a0⟩;replace h:=h.ext hx;replace h':=h'.ext hx;refine Sa ?_;refine Av (λh2=>?_) λh2=>?_
 ·have h2:k<l.length:=by simp at h2;omega
  obtain⟨s,hs⟩:∃s,l[k]?=some s:=⟨_,Aav h2⟩;obtain⟨s',a1⟩:∃s,m[k]?=some s:=⟨_,Aav Aeb⟩;obtain⟨a,q,qc,rfl,-,-,ht,hc⟩:=Ac.at h hs;obtain⟨a',q',qc',rfl,-,-,a7,a3⟩:=Ac.at h' a1;refine Sw ?_;refine B1 λX w2 ac a8 hX=>?_;refine Sw ?_;refine AF λw3 a9 hX=>?_;replace hX:Blk w3 X (Az s (.slice q s.rows.length qc)) 46:=hX;have a4:Ah w1 w3:=a8.step a9 Aee;replace a3:∀j u,(Az s' (.slice q' s'.rows.length qc'))[j]?=some u→w3.cell? ((a'.add (((k:Nat):Int).toNat*3)).add j)=some u:=λj u hj=>Bm a4 (a3 j u hj);refine Sw ?_;refine B1 λY w4 ad a5 hY=>?_;have ae:X<w3.heap.size:=hX.lt;replace hX:=hX.ext a5;refine Sw ?_;refine AF λw5 a6 hY=>?_;replace hY:Blk w5 Y (Az s' (.slice q' s'.rows.length qc')) 46:=hY;replace hX:=hX.chg a6 Aee;have a2:Ah w1 w5:=a4.trans (a5.step a6 Aee);refine Sa ?_;refine LW.call (fs:=[]) (cs:=[]) rfl rfl rfl (WJ s s' _ _ w5 (ht.ext a2) (a7.ext a2)) ?_;rintro v w6 ⟨rfl,aa⟩;replace hx:=(hx.trans a2).trans aa;refine Sa ?_;refine Av (λh3=>?_) λh3=>?_
  ·have h3:s≠s':=by simpa using h3
   refine Sa ?_;exact QW.body1 rfl rfl ⟨by rw[IZ hs a1 h3],hx⟩
  ·have h3:s=s':=by simpa using h3
   subst h3;refine Sa ?_;exact QW.again (k+1) ⟨by omega,hx,FP a0 hs a1⟩ CT Aeb
 ·have h2:k=l.length:=by simp at h2;omega
  subst h2;refine Sa ?_;exact QW.body1 rfl rfl ⟨by rw[Hp a0 h1],hx⟩
theorem Vx(l m:Ao)(v u:Value)(w:World)(h:Bu w v l)(h':Bu w u m):A9 prog 71 [.agg ⟨[v]⟩,.agg ⟨[u]⟩] w (λr w'=>r=.bool (decide (l=m))∧Ah w w'):=by
 refine AG func71 ntmps71 ?_;apply CW.seq;apply CW.region;refine Sl ?_;refine C0 λA w1 a3 a1 hA=>?_;replace hA:Blk w1 A [v] 24:=hA;refine Sl ?_;refine C0 λB w2 a4 a0 hB=>?_;replace hB:Blk w2 B [u] 24:=hB;replace hA:=hA.ext a0;have hx:=a1.trans a0;refine Sa ?_;refine Ap rfl rfl (T4 l m v u w2 (h.ext hx) (h'.ext hx)) ?_;rintro v w3 ⟨rfl,a2⟩;refine Sa ?_;exact QW.body1 rfl rfl ⟨rfl,hx.trans a2⟩
theorem O6(s u:Af)(rv uv:Value)(w:World)(h:CS w rv s.rows)(h':CS w uv u.rows):A9 prog 39 [.agg ⟨Az s rv⟩,.agg ⟨Az u uv⟩] w (λr w'=>r=.bool (decide (s=u))∧Ah w w'):=by
 obtain⟨p,c,rfl⟩:=h.slice;obtain⟨p',c',rfl⟩:=h'.slice;have hl:=h.1;have a7:=h'.1;refine AG func39 ntmps39 ?_;apply CW.seq;apply CW.region;refine Sl ?_;refine C0 λA w1 a8 a5 hA=>?_;replace hA:Blk w1 A (Az s (.slice p s.rows.length c)) 46:=hA;refine Sl ?_;refine C0 λB w2 a9 a4 hB=>?_;replace hB:Blk w2 B (Az u (.slice p' u.rows.length c')) 46:=hB;replace hA:=hA.ext a4;have hx:=a5.trans a4;refine Sa ?_;by_cases h1:s.name=u.name;rotate_left
 ·refine LW.know (t:=11) (c:=true) rfl Ae8 ?_;refine Sa ?_;exact QW.body1 rfl rfl ⟨by rw[Fj,decide_eq_false h1];rfl,hx⟩
 refine LW.know (t:=11) (c:=false) rfl Ae8 ?_;refine Sa ?_;by_cases h2:s.cols=u.cols;rotate_left
 ·refine LW.know (t:=18) (c:=true) rfl Ae7 ?_;refine Sa ?_;exact QW.body1 rfl rfl ⟨by rw[Fj,decide_eq_false h2,AcU];rfl,hx⟩
 refine LW.know (t:=18) (c:=false) rfl Ae7 ?_;refine Sa ?_;refine Av (λh3=>?_) λh3=>?_
 ·have h3:s.rows.length≠u.rows.length:=by simp at h3;omega
  refine Sa ?_;exact QW.body1 rfl rfl ⟨by rw[Fj,GT h3,AcU],hx⟩
 have h3:s.rows.length=u.rows.length:=by simp at h3;omega
 refine Sa ?_;refine CW.loop (ι:=Nat) (λk w'=>k≤s.rows.length∧Ah w2 w'∧s.rows.take k=u.rows.take k) (λk=>[(2,.pointer (some ⟨A,0,none⟩)),(3,.pointer (some ⟨B,0,none⟩)),(5,.int .i64 k)]) (λk=>s.rows.length - k) 0 ⟨by omega,Chg.refl _ _,rfl⟩ Bp ?_;rintro k w3 ⟨hk,a1,a0⟩;replace h:=h.ext (hx.trans a1);replace h':=h'.ext (hx.trans a1);replace hA:=hA.ext a1;replace hB:=hB.ext a1;refine Sa ?_;refine Av (λh4=>?_) λh4=>?_
 ·have h4:k<s.rows.length:=by simp at h4;omega
  obtain⟨r,hr⟩:∃r,s.rows[k]?=some r:=⟨_,Aav h4⟩;obtain⟨r',a3⟩:∃r,u.rows[k]?=some r:=⟨_,Aav Aeb⟩;obtain⟨a,q,qc,rfl,-,ht,hc⟩:=BA.at h hr;obtain⟨a',q',qc',rfl,-,a6,aa⟩:=BA.at h' a3;refine Sa ?_;refine Ig ?_;refine MO ?_;refine QL.call0 rfl rfl (λw4 a2=>Vz r r' _ _ w4 (ht.ext a2) (a6.ext a2)) ?_;refine MO ?_;refine QL.nil λw4 a2=>?_;refine Sa ?_;refine Av (λh5=>?_) λh5=>?_
  ·have h5:r≠r':=by simpa using h5
   refine Sa ?_;exact QW.body1 rfl rfl ⟨by rw[Fj,IZ hr a3 h5,AcU],(hx.trans a1).trans a2⟩
  ·have h5:r=r':=by simpa using h5
   subst h5;refine Sa ?_;exact QW.again (k+1) ⟨by omega,a1.trans a2,FP a0 hr a3⟩ Bp Aeb
 ·have h4:k=s.rows.length:=by simp at h4;omega
  subst h4;refine Sa ?_;exact QW.body1 rfl rfl ⟨by rw[Fj,decide_eq_true h1,decide_eq_true h2,Hp a0 h3];rfl,hx.trans a1⟩
theorem F5(l m:Ao)(v u:Value)(w:World)(h:Bu w v l)(h':Bu w u m):A9 prog 17 [.agg ⟨[v]⟩,.agg ⟨[u]⟩] w (λr w'=>r=.bool (decide (l=m))∧Ah w w'):=by
 obtain⟨p,c,rfl⟩:=h.slice;obtain⟨p',c',rfl⟩:=h'.slice;have hl:=h.1;have a7:=h'.1;refine AG func17 ntmps17 ?_;apply CW.seq;apply CW.region;refine Sl ?_;refine C0 λA w1 a8 a5 hA=>?_;replace hA:Blk w1 A [.slice p l.length c] 24:=hA;refine Sl ?_;refine C0 λB w2 a9 a4 hB=>?_;replace hB:Blk w2 B [.slice p' m.length c'] 24:=hB;replace hA:=hA.ext a4;have hx:=a5.trans a4;refine Sa ?_;refine Av (λh3=>?_) λh3=>?_
 ·have h3:l.length≠m.length:=by simp at h3;omega
  refine Sa ?_;exact QW.body1 rfl rfl ⟨by rw[GT h3],hx⟩
 have h3:l.length=m.length:=by simp at h3;omega
 refine Sa ?_;refine CW.loop (ι:=Nat) (λk w'=>k≤l.length∧Ah w2 w'∧l.take k=m.take k) (λk=>[(2,.pointer (some ⟨A,0,none⟩)),(3,.pointer (some ⟨B,0,none⟩)),(5,.int .i64 k)]) (λk=>l.length - k) 0 ⟨by omega,Chg.refl _ _,rfl⟩ Bp ?_;rintro k w3 ⟨hk,a1,a0⟩;replace h:=h.ext (hx.trans a1);replace h':=h'.ext (hx.trans a1);replace hA:=hA.ext a1;replace hB:=hB.ext a1;refine Sa ?_;refine Av (λh4=>?_) λh4=>?_
 ·have h4:k<l.length:=by simp at h4;omega
  obtain⟨r,hr⟩:∃r,l[k]?=some r:=⟨_,Aav h4⟩;obtain⟨r',a3⟩:∃r,m[k]?=some r:=⟨_,Aav Aeb⟩;obtain⟨a,q,qc,rfl,-,-,ht,hc⟩:=Ac.at h hr;obtain⟨a',q',qc',rfl,-,-,a6,aa⟩:=Ac.at h' a3;refine Sa ?_;refine Ig ?_;refine MO ?_;refine QL.call0 rfl rfl (λw4 a2=>O6 r r' _ _ w4 (ht.ext a2) (a6.ext a2)) ?_;refine MO ?_;refine QL.nil λw4 a2=>?_;refine Sa ?_;refine Av (λh5=>?_) λh5=>?_
  ·have h5:r≠r':=by simpa using h5
   refine Sa ?_;exact QW.body1 rfl rfl ⟨by rw[IZ hr a3 h5],(hx.trans a1).trans a2⟩
  ·have h5:r=r':=by simpa using h5
   subst h5;refine Sa ?_;exact QW.again (k+1) ⟨by omega,a1.trans a2,FP a0 hr a3⟩ Bp Aeb
 ·have h4:k=l.length:=by simp at h4;omega
  subst h4;refine Sa ?_;exact QW.body1 rfl rfl ⟨by rw[Hp a0 h3],hx.trans a1⟩
end Go.Proofs.YtcjjcnecopnpcaaGreatDoor
