/-
  Joined by program out of the texts Book6 Book7 Book1 Book3 Book4 Book2.
-/
import Derived.Test.YtcjjcnecopnpcaaGreatDoorMzJ
import Derived.Test.YtcjjcnecopnpcaaGreatDoorMzE
import Derived.Test.YtcjjcnecopnpcaaGreatDoorMzI
import Derived.Test.YtcjjcnecopnpcaaGreatDoorMzG
namespace Go.Proofs.YtcjjcnecopnpcaaGreatDoor
open Tryz
open Go Go.E
theorem OL:∀(xs:List Value),(xs.map λu=>[u]).flatten=xs
 | []=>rfl
 | x::r=>by simp[OL r]
theorem VQ{w:World}{lo:Nat}{v:Value}{l:List (List UInt8)}(h:E.Own w lo 9 1 v l.length (l.map Av))(hl:l.length≤1000000)(hs:∀s∈l,s.length≤1000000):∃g,Ak (λa=>a=⟨g,0,none⟩) w v l∧(l≠[]→lo≤g∧∃sp,Blk w g (l.map Av++sp) 9):=by
 have h0:=h;obtain⟨hx,⟨rfl,e⟩ | ⟨g,cap,sp,rfl,hB,h1,h2,h3⟩⟩:=h
 ·have:l=[]:=AbF e;subst this;exact⟨0,Ab.nil,λh=>absurd rfl h⟩
 ·have hO:As 1 lo 9 Aag w (.slice (some ⟨g,0,none⟩) l.length cap) l:=by
   refine⟨(l.map Av).map λu=>[u],by simp,by simp,by rw[OL];exact h0,λi x cs hi hc=>?_⟩;rw[AbH,AbH,hi] at hc;simp at hc;exact⟨hc.symm,hs x (Ab7 hi)⟩
  exact⟨g,hO.list hl (λb hb _=>by simp[Ac] at hb;rw[hb]),λ_=>⟨h3,sp,hB⟩⟩
theorem Vh(s:Af)(rp:Option Addr)(rl rc A:Nat)(x:List UInt8)(w:World)(hA:Blk w A [Av x] 9):AN prog 103 [.agg ⟨Au s (.slice rp rl rc)⟩,.pointer (some ⟨A,0,none⟩)] w (λv w'=>v=.bool (decide (s.name=x))∧Ah w w'):=by
 refine Bq func103 ntmps103 ?_;refine Sa ?_;refine De λX w1 a1 a0 hX=>?_;replace hX:Blk w1 X (Au s (.slice rp rl rc)) 46:=hX;replace hA:=hA.ext a0;refine Sa ?_;exact QW.body1 rfl rfl ⟨by simp,a0⟩
theorem P4(b:List Af)(sv:Value)(A:Nat)(x:List UInt8)(w:World)(h:AR w sv b)(hA:Blk w A [Av x] 9):AN prog 102 [sv,.func (.func 103) ⟨[]⟩ ⟨[.pointer (some ⟨A,0,none⟩)]⟩] w (λv w'=>v=.int .i64 (Vs (Pq b x))∧Ah w w'):=by
 obtain⟨p,c,rfl⟩:=h.slice;have hl:=h.1;refine Bq func102 ntmps102 ?_;refine Sa ?_;refine CW.loop (ι:=Nat) (λk w'=>k≤b.length∧Ah w w'∧∀i u,i<k→b[i]?=some u→u.name≠x) (λk=>[(0,.slice p b.length c),(1,.func (.func 103) ⟨[]⟩ ⟨[.pointer (some ⟨A,0,none⟩)]⟩),(7,.int .i64 b.length),(8,.int .i64 k)]) (λk=>b.length - k) 0 ⟨by omega,Chg.refl _ _,λi u h=>by omega⟩ Bx ?_;rintro k w1 ⟨hk,hx,a1⟩;replace h:=h.ext hx;replace hA:=hA.ext hx;refine Sa ?_;refine AB (λh2=>?_) λh2=>?_
 ·have h2:k<b.length:=by simp at h2;omega
  obtain⟨s,hs⟩:∃s,b[k]?=some s:=⟨_,B7 h2⟩;obtain⟨a,q,kc,rfl,-,a3,hr,a0⟩:=h.at hs;refine Sa ?_;refine Lo ?_;refine LW.load_cells rfl a0 rfl rfl rfl rfl ?_;refine Sa ?_;refine LW.call (fs:=[]) (cs:=[.pointer (some ⟨A,0,none⟩)]) rfl rfl rfl (Vh s _ _ _ A x w1 hA) ?_;rintro v w2 ⟨rfl,a2⟩;refine Sa ?_;refine AB (λh3=>?_) λh3=>?_
  ·have h3:s.name=x:=by simpa using h3
   refine Sa ?_;exact QW.body1 rfl rfl ⟨by rw[WL hs h3 a1];rfl,hx.trans a2⟩
  ·have h3:s.name≠x:=by simpa using h3
   refine Sa ?_;refine QW.again (k+1) ⟨by omega,hx.trans a2,λi u hi hu=>?_⟩ Bx AdV;rcases Ach i k with h4 | h4
   ·exact a1 i u h4 hu
   ·obtain rfl:i=k:=by omega
    rw[hs] at hu;obtain rfl:=Ab9 hu;exact h3
 ·have h2:k=b.length:=by simp at h2;omega
  subst h2;refine Sa ?_;refine QW.body1 rfl rfl ⟨?_,hx⟩;rw[WM (λi s hi hs=>a1 i s hi hs)];rfl
theorem WD(b:List Af)(sv:Value)(x:List UInt8)(w:World)(h:AR w sv b):AN prog 70 [.agg ⟨[sv]⟩,Av x] w (λv w'=>v=.int .i64 (Vs (Pq b x))∧Ah w w'):=by
 obtain⟨p,c,rfl⟩:=h.slice;refine Bq func70 ntmps70 ?_;refine Sa ?_;refine De λB w1 a4 a2 hB=>?_;replace hB:Blk w1 B [.slice p b.length c] 24:=hB;refine Sa ?_;refine De λA w2 a5 a1 hA=>?_;replace hA:Blk w2 A [Av x] 9:=hA;replace hB:=hB.ext a1;have a0:=a2.trans a1;refine Sa ?_;refine Ar rfl rfl (P4 b _ A x w2 (h.ext a0) hA) ?_;rintro v w3 ⟨rfl,a3⟩;refine Sa ?_;exact QW.body1 rfl rfl ⟨rfl,a0.trans a3⟩
theorem Ms{α:Type}{f:α→Bool}{l:List α}{k:Nat}{x:α}(h:l[k]?=some x)(hf:f x=false):l.all f=false:=by
 rw[List.all_eq_false];exact⟨x,Ab7 h,by simp[hf]⟩
theorem Q0{α:Type}{f:α→Bool}{l:List α}{k:Nat}{x:α}(h:(l.take k).all f=true)(hk:l[k]?=some x)(hf:f x=true):(l.take (k+1)).all f=true:=by
 rw[AbU,hk,List.all_append,h];simp[hf]
theorem TK{α:Type}{f:α→Bool}{l:List α}(h:(l.take l.length).all f=true):l.all f=true:=by
 rwa [Ack] at h
noncomputable def Nx(cols:Int)(r:List (List UInt8)):Bool:=decide ((r.length:Int)=cols)&&r.all Cs
theorem Ig(s:Af):AX s=(DM s.name&&(decide (0≤s.cols)&&(decide (s.cols≤12)&&(decide (s.rows.length≤24)&&s.rows.all (Nx s.cols))))):=by
 unfold AX Nx;simp[Bool.and_assoc]
theorem MO:∀{b:Ao} {p:Option (List UInt8)},GH p b=true↔∀i s,b[i]?=some s→AX s=true∧∀q,(if i=0 then p else(b[i - 1]?).map Af.name)=some q→Op.bytesLess q s.name=true
 | [],p=>by simp[GH]
 | s::r,p=>by
  show(((match p with | none=>true | some q=>Op.bytesLess q s.name)&&AX s&&GH (some s.name) r)=true)↔_;rw[AaG,AaG,MO];constructor
  ·rintro⟨⟨h1,h2⟩,h3⟩ i u hi
   cases i with
   | zero=>
    simp at hi;subst hi;refine⟨h2,λq hq=>?_⟩;rw[if_pos rfl] at hq;subst hq
    exact h1
   | succ i=>
    have h4:=h3 i u AeF;refine⟨h4.1,λq hq=>h4.2 q ?_⟩;rw[if_neg AdV] at hq
    cases i with
    | zero=>simpa using hq
    | succ i=>simpa using hq
  ·intro h;have h0:=h 0 s rfl;refine⟨⟨?_,h0.1⟩,λi u hi=>?_⟩
   ·cases p with
    | none=>rfl
    | some q=>exact h0.2 q rfl
   ·have h4:=h (i+1) u AeF;refine⟨h4.1,λq hq=>h4.2 q ?_⟩;rw[if_neg AdV]
    cases i with
    | zero=>simpa using hq
    | succ i=>simpa using hq
theorem Kc(s:Af)(rv:Value)(w:World)(g:CT w)(hn:s.name.length≤1000000)(h:HR w rv s.rows):AN prog 45 [.agg ⟨Au s rv⟩] w (λr w'=>r=.bool (AX s)∧Ah w w'):=by
 obtain⟨p,c,rfl⟩:=h.slice;have hl:=h.1;refine Bq func45 ntmps45 ?_;apply CW.seq;apply CW.region;refine Sl ?_;refine De λA w1 a9 a5 hA=>?_;replace hA:Blk w1 A (Au s (.slice p s.rows.length c)) 46:=hA;replace g:=g.ext a5;replace h:=h.ext a5;refine Sa ?_;refine Ar rfl rfl (Qt s.name w1 AdV) ?_;rintro v w2 ⟨rfl,a4⟩;replace g:=g.ext a4;replace h:=h.ext a4;replace hA:=hA.ext a4;have hx:=a5.trans a4;refine Sa ?_
 cases h1:DM s.name with
 | false=>
  refine Sa ?_
  exact QW.body1 rfl rfl ⟨by rw[Ig,h1];rfl,hx⟩
 | true=>
 refine Sa ?_;by_cases h2:s.cols<0
 ·refine LW.know (t:=16) (c:=true) rfl AeA ?_;refine Sa ?_;exact QW.body1 rfl rfl ⟨by rw[Ig,decide_eq_false (p:=0≤s.cols) AdV];simp,hx⟩
 refine LW.know (t:=16) (c:=false) rfl AeA ?_;refine Sa ?_;by_cases h3:12<s.cols
 ·refine LW.know (t:=21) (c:=true) rfl (by simpa using h3) ?_;refine Sa ?_;exact QW.body1 rfl rfl ⟨by rw[Ig,decide_eq_false (p:=s.cols≤12) AdV];simp,hx⟩
 refine LW.know (t:=21) (c:=false) rfl (by simpa using h3) ?_;refine Sa ?_;refine AB (λh4=>?_) λh4=>?_
 ·have h4:24<s.rows.length:=by simp at h4;omega
  refine Sa ?_;exact QW.body1 rfl rfl ⟨by rw[Ig,decide_eq_false (p:=s.rows.length≤24) AdV];simp,hx⟩
 have h4:s.rows.length≤24:=by simp at h4;omega
 have e0:AX s=s.rows.all (Nx s.cols):=by
  rw[Ig,h1,decide_eq_true (p:=0≤s.cols) AdV,decide_eq_true (p:=s.cols≤12) AdV,decide_eq_true h4];simp
 refine Sa ?_;refine CW.loop (ι:=Nat) (λk w'=>k≤s.rows.length∧Ah w2 w'∧(s.rows.take k).all (Nx s.cols)=true) (λk=>[(1,.pointer (some ⟨A,0,none⟩)),(28,.slice p s.rows.length c),(29,.int .i64 s.rows.length),(30,.int .i64 k)]) (λk=>s.rows.length - k) 0 ⟨by omega,Chg.refl _ _,rfl⟩ Bx ?_;rintro k w3 ⟨hk,a1,a7⟩;replace h:=h.ext a1;replace hA:=hA.ext a1;replace g:=g.ext a1;replace a0:=hx.trans a1;refine Sa ?_;refine AB (λh5=>?_) λh5=>?_;rotate_left
 ·have h5:k=s.rows.length:=by simp at h5;omega
  subst h5;refine Sa ?_;exact QW.body1 rfl rfl ⟨by rw[e0,TK a7],a0⟩
 have h5:k<s.rows.length:=by simp at h5;omega
 obtain⟨r,hr⟩:∃r,s.rows[k]?=some r:=⟨_,B7 h5⟩;obtain⟨a,q,qc,rfl,-,ht,hc⟩:=HR.at h hr;have aa:=ht.1;refine Sw ?_;refine AB (λh6=>?_) λh6=>?_
 ·have h6:(r.length:Int)≠s.cols:=by simpa using h6
  refine Sa ?_;exact QW.body1 rfl rfl ⟨by rw[e0,Ms hr (by rw[Nx,decide_eq_false h6];rfl)],a0⟩
 have h6:(r.length:Int)=s.cols:=by simpa using h6
 refine Sa ?_;refine CW.loop (ι:=Nat) (λj w'=>j≤r.length∧Ah w3 w'∧(r.take j).all Cs=true) (λj=>[(1,.pointer (some ⟨A,0,none⟩)),(28,.slice (some a) s.rows.length c),(29,.int .i64 s.rows.length),(30,.int .i64 k),(39,.slice q r.length qc),(40,.int .i64 r.length),(41,.int .i64 j)]) (λj=>r.length - j) 0 ⟨by omega,Chg.refl _ _,rfl⟩ Dp ?_;rintro j w4 ⟨hj,a2,a3⟩;replace ht:=ht.ext a2;replace g:=g.ext a2;refine Sa ?_;refine AB (λh7=>?_) λh7=>?_;rotate_left
 ·have h7:j=r.length:=by simp at h7;omega
  subst h7;refine Sa ?_;refine QW.again (k+1) ⟨by omega,a1.trans a2,Q0 a7 hr ?_⟩ Bx AdV;rw[Nx,decide_eq_true h6,TK a3];rfl
 have h7:j<r.length:=by simp at h7;omega
 obtain⟨t,a6⟩:∃t,r[j]?=some t:=⟨_,B7 h7⟩;obtain⟨a',rfl,-,ab,ac⟩:=Gs.at ht a6;refine Sw ?_;refine Ar rfl rfl (Q5 t AdV w4 g) ?_;rintro v w5 ⟨rfl,a8⟩;refine Sa ?_
 cases h8:Cs t with
 | false=>
  refine Sa ?_
  exact QW.body1 rfl rfl ⟨by rw[e0,Ms hr (by rw[Nx,Ms a6 h8,Adl])],(a0.trans a2).trans a8⟩
 | true=>
  refine Sa ?_;exact QW.again (j+1) ⟨by omega,a2.trans a8,Q0 a3 a6 h8⟩ Dp AdV
noncomputable def EO(b:Ao)(i:Nat):Bool:=match b[i]? with
 | none=>false
 | some s=>AX s&&(match i with | 0=>true | j+1=>Op.bytesLess ((b[j]?).elim [] Af.name) s.name)
theorem V9{b:Ao}(h:∀i,i<b.length→EO b i=true):GH none b=true:=by
 rw[MO];intro i s hi;have hl:=(Abu.1 hi).1;have h1:=h i hl;unfold EO at h1;rw[hi] at h1;simp only[AaG] at h1;refine⟨h1.1,λq hq=>?_⟩
 cases i with
 | zero=>simp at hq
 | succ i=>
  rw[if_neg AdV] at hq;have h2:Op.bytesLess ((b[i]?).elim [] Af.name) s.name=true:=h1.2;simp only[Ad9] at hq
  cases h3:b[i]? with
  | none=>rw[h3] at hq;simp at hq
  | some u=>
   rw[h3] at hq h2;simp at hq;rw[←hq];exact h2
theorem J1{b:Ao}{i:Nat}(hi:i<b.length)(h:EO b i=false):GH none b=false:=by
 cases hm:GH none b with
 | false=>rfl
 | true=>
  rw[MO] at hm;have hs:=B7 hi;obtain⟨h1,h2⟩:=hm i _ hs;unfold EO at h;rw[hs] at h;simp only[h1,Bool.true_and] at h
  cases i with
  | zero=>simp at h
  | succ i=>
   have h3:=B7 (show i<b.length by omega);have h4:=h2 (b[i]' AdV).name (by rw[if_neg AdV];simp only[Ad9];rw[h3];rfl);have h:Op.bytesLess ((b[i]?).elim [] Af.name) b[i+1].name=false:=h;rw[h3] at h;have h:Op.bytesLess b[i].name b[i+1].name=false:=h;rw[h4] at h;cases h
theorem UB(b:Ao)(sv:Value)(w:World)(g:CT w)(h:Fv w sv b):AN prog 28 [.agg ⟨[sv]⟩] w (λr w'=>r=.bool (Aw b)∧Ah w w'):=by
 obtain⟨p,c,rfl⟩:=h.slice;have hl:=h.1;refine Bq func28 ntmps28 ?_;apply CW.seq;apply CW.region;refine Sl ?_;refine De λA w1 ad a5 hA=>?_;replace hA:Blk w1 A [.slice p b.length c] 24:=hA;replace g:=g.ext a5;replace h:=h.ext a5;refine Sa ?_;refine AB (λh4=>?_) λh4=>?_
 ·have h4:5<b.length:=by simp at h4;omega
  refine Sa ?_;exact QW.body1 rfl rfl ⟨by rw[Aw,decide_eq_false AdV];rfl,a5⟩
 have h4:b.length≤5:=by simp at h4;omega
 have e0:Aw b=GH none b:=by rw[Aw,decide_eq_true h4];rfl
 refine Sa ?_;refine CW.loop (ι:=Nat) (λk w'=>k≤b.length∧Ah w1 w'∧∀i,i<k→EO b i=true) (λk=>[(1,.pointer (some ⟨A,0,none⟩)),(10,.slice p b.length c),(11,.int .i64 b.length),(12,.int .i64 k)]) (λk=>b.length - k) 0 ⟨by omega,Chg.refl _ _,by simp⟩ Bx ?_;rintro k w2 ⟨hk,a4,a7⟩;replace h:=h.ext a4;replace hA:=hA.ext a4;replace g:=g.ext a4;have a1:=a5.trans a4;refine Sa ?_;refine AB (λh5=>?_) λh5=>?_;rotate_left
 ·have h5:k=b.length:=by simp at h5;omega
  subst h5;refine Sa ?_;exact QW.body1 rfl rfl ⟨by rw[e0,V9 a7],a1⟩
 have h5:k<b.length:=by simp at h5;omega
 obtain⟨s,hs⟩:∃r,b[k]?=some r:=⟨_,B7 h5⟩;obtain⟨a,q,qc,rfl,-,a8,ht,hc⟩:=Fv.at h hs;refine Sw ?_;refine Bt λX w3 ae a6 hX=>?_;have af:=hA.ext a6;have ag:A≠X:=λe=>by have:=hA.lt;omega
 have h3:=h.ext a6;have ah:=ht.ext a6;refine Sw ?_;refine AM λw4 aa hX=>?_;replace hX:Blk w4 X (Au s (.slice q s.rows.length qc)) 46:=hX;have a3:Ah w2 w4:=a6.step aa AdY;have ai:=hA.ext a3;have ab:=h.ext a3;have a9:=ht.ext a3;have g4:=g.ext a3;refine Sa ?_;refine LR ?_;refine Sd ?_
 cases k with
 | zero=>
  refine QL.know (t:=19) (c:=false) rfl Aei ?_;refine Sd ?_;refine QL.call0 rfl rfl (λw5 a0=>Kc s _ w5 (g4.ext a0) a8 (a9.ext a0)) ?_;refine Sd ?_;refine QL.nil λw5 a0=>?_;refine Sa ?_;refine AB (λh8=>?_) λh8=>?_
  ·have h8:AX s=false:=by simpa using h8
   refine Sa ?_;exact QW.body1 rfl rfl ⟨by rw[e0,J1 h5 (by unfold EO;rw[hs];show(AX s&&true)=_;rw[h8];rfl)],(a1.trans a3).trans a0⟩
  ·have h8:AX s=true:=by simpa using h8
   refine Sa ?_;exact QW.again (1) ⟨by omega,(a4.trans a3).trans a0,λi hi=>by
    rcases Ach i (0) with h9 | h9
    ·exact a7 i h9
    ·obtain rfl:i=0:=by omega
     unfold EO;rw[hs];show(AX s&&true)=_;rw[h8];rfl⟩ Bx AdV
 | succ j=>
  obtain⟨u,hu⟩:∃u,b[j]?=some u:=⟨_,B7 AdV⟩;obtain⟨a2,q2,qc2,e2,-,-,-,ac⟩:=Fv.at ab hu;obtain rfl:=Ab9 e2;have aj:w4.cell? ((a.add ((((j+1:Nat):Int) - 1).toNat*3)).add 0)=some (Av u.name):=by
   rw[show(((j+1:Nat):Int) - 1).toNat=((j:Nat):Int).toNat by omega];exact ac 0 _ rfl
  refine QL.know (t:=19) (c:=true) rfl Aei ?_;refine Sd ?_
  cases h7:Op.bytesLess u.name s.name with
  | false=>
   refine QL.know (t:=31) (c:=true) rfl rfl ?_;refine Sd ?_;refine QL.nil λw5 a0=>?_;refine Sa ?_;exact QW.body1 rfl rfl ⟨by rw[e0,J1 h5 (by
    unfold EO;rw[hs];have e3:Op.bytesLess ((b[j]?).elim [] Af.name) s.name=false:=by rw[hu];exact h7
    show(AX s&&Op.bytesLess ((b[j]?).elim [] Af.name) s.name)=false
    rw[e3,Adl])],(a1.trans a3).trans a0⟩
  | true=>
  have e3:Op.bytesLess ((b[j]?).elim [] Af.name) s.name=true:=by rw[hu];exact h7
  have e4:EO b (j+1)=(AX s&&Op.bytesLess ((b[j]?).elim [] Af.name) s.name):=by unfold EO;rw[hs]
  refine QL.know (t:=31) (c:=false) rfl rfl ?_;refine Sd ?_;refine QL.call0 rfl rfl (λw5 a0=>Kc s _ w5 (g4.ext a0) a8 (a9.ext a0)) ?_;refine Sd ?_;refine QL.nil λw5 a0=>?_;refine Sa ?_;refine AB (λh8=>?_) λh8=>?_
  ·have h8:AX s=false:=by simpa using h8
   refine Sa ?_;exact QW.body1 rfl rfl ⟨by rw[e0,J1 h5 (by rw[e4,h8];rfl)],(a1.trans a3).trans a0⟩
  ·have h8:AX s=true:=by simpa using h8
   refine Sa ?_;exact QW.again (j+1+1) ⟨by omega,(a4.trans a3).trans a0,λi hi=>by
    rcases Ach i (j+1) with h9 | h9
    ·exact a7 i h9
    ·obtain rfl:i=j+1:=by omega
     rw[e4,h8,e3];rfl⟩ Bx AdV
theorem Mm(b:Ao)(sv:Value)(w:World)(g:CT w)(h:AR w sv b):AN prog 28 [.agg ⟨[sv]⟩] w (λr w'=>r=.bool (Aw b)∧Ah w w'):=UB b sv w g (Aa.loose h)
theorem IC{α:Type}[DecidableEq α]{l m:List α}{k:Nat}{x y:α}(h1:l[k]?=some x)(h2:m[k]?=some y)(h:x≠y):decide (l=m)=false:=by
 rw[decide_eq_false_iff_not];rintro rfl;rw[h1] at h2;exact h (Ab9 h2)
theorem F9{α:Type}{l m:List α}{k:Nat}{x:α}(h:l.take k=m.take k)(h1:l[k]?=some x)(h2:m[k]?=some x):l.take (k+1)=m.take (k+1):=by
 rw[AbU,AbU,h,h1,h2]
theorem GR{α:Type}[DecidableEq α]{l m:List α}(h:l.take l.length=m.take l.length)(hl:l.length=m.length):decide (l=m)=true:=by
 rw[decide_eq_true_eq];rw[Ack,hl,Ack] at h;exact h
theorem GE{α:Type}[DecidableEq α]{l m:List α}(h:l.length≠m.length):decide (l=m)=false:=by
 rw[decide_eq_false_iff_not];rintro rfl;exact h rfl
theorem UJ(l m:List (List UInt8))(v u:Value)(w:World)(h:Bz w v l)(h':Bz w u m):AN prog 62 [v,u] w (λr w'=>r=.bool (decide (l=m))∧Ah w w'):=by
 obtain⟨p,c,rfl⟩:=h.slice;obtain⟨p',c',rfl⟩:=h'.slice;have hl:=h.1;have a3:=h'.1;refine Bq func62 ntmps62 ?_;refine Sa ?_;refine AB (λh1=>?_) λh1=>?_
 ·have h1:l.length≠m.length:=by simp at h1;omega
  refine Sa ?_;exact QW.body1 rfl rfl ⟨by rw[GE h1],Chg.refl _ _⟩
 have h1:l.length=m.length:=by simp at h1;omega
 refine Sa ?_;refine CW.loop (ι:=Nat) (λk w'=>k≤l.length∧Ah w w'∧l.take k=m.take k) (λk=>[(0,.slice p l.length c),(1,.slice p' m.length c'),(5,.int .i64 k)]) (λk=>l.length - k) 0 ⟨by omega,Chg.refl _ _,rfl⟩ CE ?_;rintro k w1 ⟨hk,hx,a0⟩;replace h:=h.ext hx;replace h':=h'.ext hx;refine Sa ?_;refine AB (λh2=>?_) λh2=>?_
 ·have h2:k<l.length:=by simp at h2;omega
  obtain⟨s,hs⟩:∃s,l[k]?=some s:=⟨_,B7 h2⟩;obtain⟨s',a1⟩:∃s,m[k]?=some s:=⟨_,B7 AdV⟩;obtain⟨a,rfl,-,-,hc⟩:=Ak.at h hs;obtain⟨a',rfl,-,-,a4⟩:=Ak.at h' a1;refine Sa ?_;refine LR ?_;refine Sd ?_;refine QL.nil λw2 a2=>?_;replace hx:=hx.trans a2;refine Sa ?_;refine AB (λh3=>?_) λh3=>?_
  ·have h3:s≠s':=by simpa using h3
   refine Sa ?_;exact QW.body1 rfl rfl ⟨by rw[IC hs a1 h3],hx⟩
  ·have h3:s=s':=by simpa using h3
   subst h3;refine Sa ?_;exact QW.again (k+1) ⟨by omega,hx,F9 a0 hs a1⟩ CE AdV
 ·have h2:k=l.length:=by simp at h2;omega
  subst h2;refine Sa ?_;exact QW.body1 rfl rfl ⟨by rw[GR a0 h1],hx⟩
theorem T7(l m:List (List UInt8))(v u:Value)(w:World)(h:Bz w v l)(h':Bz w u m):AN prog 107 [v,u] w (λr w'=>r=.bool (decide (l=m))∧Ah w w'):=by
 obtain⟨p,c,rfl⟩:=h.slice;obtain⟨p',c',rfl⟩:=h'.slice;have hl:=h.1;have a3:=h'.1;refine Bq func107 ntmps107 ?_;refine Sa ?_;refine AB (λh1=>?_) λh1=>?_
 ·have h1:l.length≠m.length:=by simp at h1;omega
  refine Sa ?_;exact QW.body1 rfl rfl ⟨by rw[GE h1],Chg.refl _ _⟩
 have h1:l.length=m.length:=by simp at h1;omega
 refine Sa ?_;refine CW.loop (ι:=Nat) (λk w'=>k≤l.length∧Ah w w'∧l.take k=m.take k) (λk=>[(0,.slice p l.length c),(1,.slice p' m.length c'),(12,.int .i64 l.length),(13,.int .i64 k)]) (λk=>l.length - k) 0 ⟨by omega,Chg.refl _ _,rfl⟩ Bx ?_;rintro k w1 ⟨hk,hx,a0⟩;replace h:=h.ext hx;replace h':=h'.ext hx;refine Sa ?_;refine AB (λh2=>?_) λh2=>?_
 ·have h2:k<l.length:=by simp at h2;omega
  obtain⟨s,hs⟩:∃s,l[k]?=some s:=⟨_,B7 h2⟩;obtain⟨s',a1⟩:∃s,m[k]?=some s:=⟨_,B7 AdV⟩;obtain⟨a,rfl,-,-,hc⟩:=Ak.at h hs;obtain⟨a',rfl,-,-,a4⟩:=Ak.at h' a1;refine Sa ?_;refine LR ?_;refine Sd ?_;refine QL.nil λw2 a2=>?_;replace hx:=hx.trans a2;refine Sa ?_;refine AB (λh3=>?_) λh3=>?_
  ·have h3:s≠s':=by simpa using h3
   refine Sa ?_;exact QW.body1 rfl rfl ⟨by rw[IC hs a1 h3],hx⟩
  ·have h3:s=s':=by simpa using h3
   subst h3;refine Sa ?_;exact QW.again (k+1) ⟨by omega,hx,F9 a0 hs a1⟩ Bx AdV
 ·have h2:k=l.length:=by simp at h2;omega
  subst h2;refine Sa ?_;exact QW.body1 rfl rfl ⟨by rw[GR a0 h1],hx⟩
theorem Tx(l m:List (List (List UInt8)))(v u:Value)(w:World)(h:Cy w v l)(h':Cy w u m):AN prog 106 [v,u,.func (.func 107) ⟨[]⟩ ⟨[]⟩] w (λr w'=>r=.bool (decide (l=m))∧Ah w w'):=by
 obtain⟨p,c,rfl⟩:=h.slice;obtain⟨p',c',rfl⟩:=h'.slice;have hl:=h.1;have a4:=h'.1;refine Bq func106 ntmps106 ?_;refine Sa ?_;refine AB (λh1=>?_) λh1=>?_
 ·have h1:l.length≠m.length:=by simp at h1;omega
  refine Sa ?_;exact QW.body1 rfl rfl ⟨by rw[GE h1],Chg.refl _ _⟩
 have h1:l.length=m.length:=by simp at h1;omega
 refine Sa ?_;refine CW.loop (ι:=Nat) (λk w'=>k≤l.length∧Ah w w'∧l.take k=m.take k) (λk=>[(1,.slice p' m.length c'),(2,.func (.func 107) ⟨[]⟩ ⟨[]⟩),(15,.slice p l.length c),(16,.int .i64 l.length),(17,.int .i64 k)]) (λk=>l.length - k) 0 ⟨by omega,Chg.refl _ _,rfl⟩ EP ?_;rintro k w1 ⟨hk,hx,a0⟩;replace h:=h.ext hx;replace h':=h'.ext hx;refine Sa ?_;refine AB (λh2=>?_) λh2=>?_
 ·have h2:k<l.length:=by simp at h2;omega
  obtain⟨s,hs⟩:∃s,l[k]?=some s:=⟨_,B7 h2⟩;obtain⟨s',a1⟩:∃s,m[k]?=some s:=⟨_,B7 AdV⟩;obtain⟨a,q,qc,rfl,-,ht,hc⟩:=Bn.at h hs;obtain⟨a',q',qc',rfl,-,a2,a5⟩:=Bn.at h' a1;refine Sw ?_;refine LW.call (fs:=[]) (cs:=[]) rfl rfl rfl (T7 s s' _ _ w1 ht a2) ?_;rintro v w2 ⟨rfl,a3⟩;replace hx:=hx.trans a3;refine Sa ?_;refine AB (λh3=>?_) λh3=>?_
  ·have h3:s≠s':=by simpa using h3
   refine Sa ?_;exact QW.body1 rfl rfl ⟨by rw[IC hs a1 h3],hx⟩
  ·have h3:s=s':=by simpa using h3
   subst h3;refine Sa ?_;exact QW.again (k+1) ⟨by omega,hx,F9 a0 hs a1⟩ EP AdV
 ·have h2:k=l.length:=by simp at h2;omega
  subst h2;refine Sa ?_;exact QW.body1 rfl rfl ⟨by rw[GR a0 h1],hx⟩
theorem Fc{s u:Af}:decide (s=u)=(decide (s.name=u.name)&&decide (s.cols=u.cols)&&decide (s.rows=u.rows)):=by
 cases s;cases u;simp[Bool.and_assoc]
theorem Wk(s u:Af)(rv uv:Value)(w:World)(h:Cy w rv s.rows)(h':Cy w uv u.rows):AN prog 105 [.agg ⟨Au s rv⟩,.agg ⟨Au u uv⟩] w (λr w'=>r=.bool (decide (s=u))∧Ah w w'):=by
 refine Bq func105 ntmps105 ?_;apply CW.seq;apply CW.region;refine Sl ?_;refine De λA w1 a3 a1 hA=>?_;replace hA:Blk w1 A (Au s rv) 46:=hA;refine Sl ?_;refine De λB w2 a4 a0 hB=>?_;replace hB:Blk w2 B (Au u uv) 46:=hB;replace hA:=hA.ext a0;have hx:=a1.trans a0;refine Sa ?_;by_cases h1:s.name=u.name;rotate_left
 ·refine LW.know (t:=10) (c:=false) rfl AeH ?_;refine Sa ?_;exact QW.body1 rfl rfl ⟨by rw[Fc,decide_eq_false h1];rfl,hx⟩
 refine LW.know (t:=10) (c:=true) rfl AeH ?_;refine Sa ?_;by_cases h2:s.cols=u.cols;rotate_left
 ·refine LW.know (t:=17) (c:=false) rfl AeA ?_;refine Sa ?_;exact QW.body1 rfl rfl ⟨by rw[Fc,decide_eq_false h2,Adl];rfl,hx⟩
 refine LW.know (t:=17) (c:=true) rfl AeA ?_;refine Sa ?_;refine Ar rfl rfl (Tx s.rows u.rows _ _ w2 (h.ext hx) (h'.ext hx)) ?_;rintro v w3 ⟨rfl,a2⟩;refine Sa ?_;exact QW.body1 rfl rfl ⟨by rw[Fc,decide_eq_true h1,decide_eq_true h2];rfl,hx.trans a2⟩
theorem St(l m:Ao)(v u:Value)(w:World)(h:AR w v l)(h':AR w u m):AN prog 104 [v,u,.func (.func 105) ⟨[]⟩ ⟨[]⟩] w (λr w'=>r=.bool (decide (l=m))∧Ah w w'):=by
 obtain⟨p,c,rfl⟩:=h.slice;obtain⟨p',c',rfl⟩:=h'.slice;have hl:=h.1;have ab:=h'.1;refine Bq func104 ntmps104 ?_;refine Sa ?_;refine AB (λh1=>?_) λh1=>?_
 ·have h1:l.length≠m.length:=by simp at h1;omega
  refine Sa ?_;exact QW.body1 rfl rfl ⟨by rw[GE h1],Chg.refl _ _⟩
 have h1:l.length=m.length:=by simp at h1;omega
 refine Sa ?_;refine CW.loop (ι:=Nat) (λk w'=>k≤l.length∧Ah w w'∧l.take k=m.take k) (λk=>[(1,.slice p' m.length c'),(2,.func (.func 105) ⟨[]⟩ ⟨[]⟩),(15,.slice p l.length c),(16,.int .i64 l.length),(17,.int .i64 k)]) (λk=>l.length - k) 0 ⟨by omega,Chg.refl _ _,rfl⟩ EP ?_;rintro k w1 ⟨hk,hx,a0⟩;replace h:=h.ext hx;replace h':=h'.ext hx;refine Sa ?_;refine AB (λh2=>?_) λh2=>?_
 ·have h2:k<l.length:=by simp at h2;omega
  obtain⟨s,hs⟩:∃s,l[k]?=some s:=⟨_,B7 h2⟩;obtain⟨s',a1⟩:∃s,m[k]?=some s:=⟨_,B7 AdV⟩;obtain⟨a,q,qc,rfl,-,-,ht,hc⟩:=Aa.at h hs;obtain⟨a',q',qc',rfl,-,-,a7,a3⟩:=Aa.at h' a1;refine Sw ?_;refine Bt λX w2 ac a8 hX=>?_;refine Sw ?_;refine AM λw3 a9 hX=>?_;replace hX:Blk w3 X (Au s (.slice q s.rows.length qc)) 46:=hX;have a4:Ah w1 w3:=a8.step a9 AdY;replace a3:∀j u,(Au s' (.slice q' s'.rows.length qc'))[j]?=some u→w3.cell? ((a'.add (((k:Nat):Int).toNat*3)).add j)=some u:=λj u hj=>BQ a4 (a3 j u hj);refine Sw ?_;refine Bt λY w4 ad a5 hY=>?_;have ae:X<w3.heap.size:=hX.lt;replace hX:=hX.ext a5;refine Sw ?_;refine AM λw5 a6 hY=>?_;replace hY:Blk w5 Y (Au s' (.slice q' s'.rows.length qc')) 46:=hY;replace hX:=hX.chg a6 AdY;have a2:Ah w1 w5:=a4.trans (a5.step a6 AdY);refine Sa ?_;refine LW.call (fs:=[]) (cs:=[]) rfl rfl rfl (Wk s s' _ _ w5 (ht.ext a2) (a7.ext a2)) ?_;rintro v w6 ⟨rfl,aa⟩;replace hx:=(hx.trans a2).trans aa;refine Sa ?_;refine AB (λh3=>?_) λh3=>?_
  ·have h3:s≠s':=by simpa using h3
   refine Sa ?_;exact QW.body1 rfl rfl ⟨by rw[IC hs a1 h3],hx⟩
  ·have h3:s=s':=by simpa using h3
   subst h3;refine Sa ?_;exact QW.again (k+1) ⟨by omega,hx,F9 a0 hs a1⟩ EP AdV
 ·have h2:k=l.length:=by simp at h2;omega
  subst h2;refine Sa ?_;exact QW.body1 rfl rfl ⟨by rw[GR a0 h1],hx⟩
theorem UG(l m:Ao)(v u:Value)(w:World)(h:AR w v l)(h':AR w u m):AN prog 71 [.agg ⟨[v]⟩,.agg ⟨[u]⟩] w (λr w'=>r=.bool (decide (l=m))∧Ah w w'):=by
 refine Bq func71 ntmps71 ?_;apply CW.seq;apply CW.region;refine Sl ?_;refine De λA w1 a3 a1 hA=>?_;replace hA:Blk w1 A [v] 24:=hA;refine Sl ?_;refine De λB w2 a4 a0 hB=>?_;replace hB:Blk w2 B [u] 24:=hB;replace hA:=hA.ext a0;have hx:=a1.trans a0;refine Sa ?_;refine Ar rfl rfl (St l m v u w2 (h.ext hx) (h'.ext hx)) ?_;rintro v w3 ⟨rfl,a2⟩;refine Sa ?_;exact QW.body1 rfl rfl ⟨rfl,hx.trans a2⟩
theorem NQ(s u:Af)(rv uv:Value)(w:World)(h:Cy w rv s.rows)(h':Cy w uv u.rows):AN prog 39 [.agg ⟨Au s rv⟩,.agg ⟨Au u uv⟩] w (λr w'=>r=.bool (decide (s=u))∧Ah w w'):=by
 obtain⟨p,c,rfl⟩:=h.slice;obtain⟨p',c',rfl⟩:=h'.slice;have hl:=h.1;have a7:=h'.1;refine Bq func39 ntmps39 ?_;apply CW.seq;apply CW.region;refine Sl ?_;refine De λA w1 a8 a5 hA=>?_;replace hA:Blk w1 A (Au s (.slice p s.rows.length c)) 46:=hA;refine Sl ?_;refine De λB w2 a9 a4 hB=>?_;replace hB:Blk w2 B (Au u (.slice p' u.rows.length c')) 46:=hB;replace hA:=hA.ext a4;have hx:=a5.trans a4;refine Sa ?_;by_cases h1:s.name=u.name;rotate_left
 ·refine LW.know (t:=11) (c:=true) rfl AeH ?_;refine Sa ?_;exact QW.body1 rfl rfl ⟨by rw[Fc,decide_eq_false h1];rfl,hx⟩
 refine LW.know (t:=11) (c:=false) rfl AeH ?_;refine Sa ?_;by_cases h2:s.cols=u.cols;rotate_left
 ·refine LW.know (t:=18) (c:=true) rfl AeA ?_;refine Sa ?_;exact QW.body1 rfl rfl ⟨by rw[Fc,decide_eq_false h2,Adl];rfl,hx⟩
 refine LW.know (t:=18) (c:=false) rfl AeA ?_;refine Sa ?_;refine AB (λh3=>?_) λh3=>?_
 ·have h3:s.rows.length≠u.rows.length:=by simp at h3;omega
  refine Sa ?_;exact QW.body1 rfl rfl ⟨by rw[Fc,GE h3,Adl],hx⟩
 have h3:s.rows.length=u.rows.length:=by simp at h3;omega
 refine Sa ?_;refine CW.loop (ι:=Nat) (λk w'=>k≤s.rows.length∧Ah w2 w'∧s.rows.take k=u.rows.take k) (λk=>[(2,.pointer (some ⟨A,0,none⟩)),(3,.pointer (some ⟨B,0,none⟩)),(5,.int .i64 k)]) (λk=>s.rows.length - k) 0 ⟨by omega,Chg.refl _ _,rfl⟩ CE ?_;rintro k w3 ⟨hk,a1,a0⟩;replace h:=h.ext (hx.trans a1);replace h':=h'.ext (hx.trans a1);replace hA:=hA.ext a1;replace hB:=hB.ext a1;refine Sa ?_;refine AB (λh4=>?_) λh4=>?_
 ·have h4:k<s.rows.length:=by simp at h4;omega
  obtain⟨r,hr⟩:∃r,s.rows[k]?=some r:=⟨_,B7 h4⟩;obtain⟨r',a3⟩:∃r,u.rows[k]?=some r:=⟨_,B7 AdV⟩;obtain⟨a,q,qc,rfl,-,ht,hc⟩:=Bn.at h hr;obtain⟨a',q',qc',rfl,-,a6,aa⟩:=Bn.at h' a3;refine Sa ?_;refine LR ?_;refine Sd ?_;refine QL.call0 rfl rfl (λw4 a2=>UJ r r' _ _ w4 (ht.ext a2) (a6.ext a2)) ?_;refine Sd ?_;refine QL.nil λw4 a2=>?_;refine Sa ?_;refine AB (λh5=>?_) λh5=>?_
  ·have h5:r≠r':=by simpa using h5
   refine Sa ?_;exact QW.body1 rfl rfl ⟨by rw[Fc,IC hr a3 h5,Adl],(hx.trans a1).trans a2⟩
  ·have h5:r=r':=by simpa using h5
   subst h5;refine Sa ?_;exact QW.again (k+1) ⟨by omega,a1.trans a2,F9 a0 hr a3⟩ CE AdV
 ·have h4:k=s.rows.length:=by simp at h4;omega
  subst h4;refine Sa ?_;exact QW.body1 rfl rfl ⟨by rw[Fc,decide_eq_true h1,decide_eq_true h2,GR a0 h3];rfl,hx.trans a1⟩
theorem JL(l m:Ao)(v u:Value)(w:World)(h:AR w v l)(h':AR w u m):AN prog 17 [.agg ⟨[v]⟩,.agg ⟨[u]⟩] w (λr w'=>r=.bool (decide (l=m))∧Ah w w'):=by
 obtain⟨p,c,rfl⟩:=h.slice;obtain⟨p',c',rfl⟩:=h'.slice;have hl:=h.1;have a7:=h'.1;refine Bq func17 ntmps17 ?_;apply CW.seq;apply CW.region;refine Sl ?_;refine De λA w1 a8 a5 hA=>?_;replace hA:Blk w1 A [.slice p l.length c] 24:=hA;refine Sl ?_;refine De λB w2 a9 a4 hB=>?_;replace hB:Blk w2 B [.slice p' m.length c'] 24:=hB;replace hA:=hA.ext a4;have hx:=a5.trans a4;refine Sa ?_;refine AB (λh3=>?_) λh3=>?_
 ·have h3:l.length≠m.length:=by simp at h3;omega
  refine Sa ?_;exact QW.body1 rfl rfl ⟨by rw[GE h3],hx⟩
 have h3:l.length=m.length:=by simp at h3;omega
 refine Sa ?_;refine CW.loop (ι:=Nat) (λk w'=>k≤l.length∧Ah w2 w'∧l.take k=m.take k) (λk=>[(2,.pointer (some ⟨A,0,none⟩)),(3,.pointer (some ⟨B,0,none⟩)),(5,.int .i64 k)]) (λk=>l.length - k) 0 ⟨by omega,Chg.refl _ _,rfl⟩ CE ?_;rintro k w3 ⟨hk,a1,a0⟩;replace h:=h.ext (hx.trans a1);replace h':=h'.ext (hx.trans a1);replace hA:=hA.ext a1;replace hB:=hB.ext a1;refine Sa ?_;refine AB (λh4=>?_) λh4=>?_
 ·have h4:k<l.length:=by simp at h4;omega
  obtain⟨r,hr⟩:∃r,l[k]?=some r:=⟨_,B7 h4⟩;obtain⟨r',a3⟩:∃r,m[k]?=some r:=⟨_,B7 AdV⟩;obtain⟨a,q,qc,rfl,-,-,ht,hc⟩:=Aa.at h hr;obtain⟨a',q',qc',rfl,-,-,a6,aa⟩:=Aa.at h' a3;refine Sa ?_;refine LR ?_;refine Sd ?_;refine QL.call0 rfl rfl (λw4 a2=>NQ r r' _ _ w4 (ht.ext a2) (a6.ext a2)) ?_;refine Sd ?_;refine QL.nil λw4 a2=>?_;refine Sa ?_;refine AB (λh5=>?_) λh5=>?_
  ·have h5:r≠r':=by simpa using h5
   refine Sa ?_;exact QW.body1 rfl rfl ⟨by rw[IC hr a3 h5],(hx.trans a1).trans a2⟩
  ·have h5:r=r':=by simpa using h5
   subst h5;refine Sa ?_;exact QW.again (k+1) ⟨by omega,a1.trans a2,F9 a0 hr a3⟩ CE AdV
 ·have h4:k=l.length:=by simp at h4;omega
  subst h4;refine Sa ?_;exact QW.body1 rfl rfl ⟨by rw[GR a0 h3],hx.trans a1⟩
end Go.Proofs.YtcjjcnecopnpcaaGreatDoor
