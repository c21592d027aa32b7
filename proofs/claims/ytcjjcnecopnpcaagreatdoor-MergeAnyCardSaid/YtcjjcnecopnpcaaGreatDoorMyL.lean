/-
  Joined by program out of the texts Ali1 Ali2 Ali3 Ali4 LcsP Lcs1 Ali5 Ali6.
-/
import Derived.Test.YtcjjcnecopnpcaaGreatDoorMyJ
import Derived.Test.YtcjjcnecopnpcaaGreatDoorMyK
import Derived.Test.YtcjjcnecopnpcaaGreatDoorMyH
import Derived.Test.YtcjjcnecopnpcaaGreatDoorMyB
import Derived.Test.YtcjjcnecopnpcaaGreatDoorMyI
import Derived.Test.YtcjjcnecopnpcaaGreatDoorMyE
namespace Go.Proofs.YtcjjcnecopnpcaaGreatDoor
open Tryz
open Go Go.E
def Uj(l:List (List UInt8)):List (List UInt8):=l.filter λs=>decide (s≠[])
theorem Qk(l:List (List UInt8)):(Uj l).length≤l.length:=List.length_filter_le _ _
theorem RQ{l:List (List UInt8)}{k:Nat}{s:List UInt8}(h:l[k]?=some s):Uj (l.take (k+1))=if s=[] then Uj (l.take k) else Uj (l.take k)++[s]:=by
 rw[AbO,h];simp only[Uj,List.filter_append,Option.toList];by_cases e:s=[]<;>simp[e]
def Ik(l:List (List UInt8)):Prop:=l.length≤100∧∀s∈l,s.length≤1000
theorem W7{s:List UInt8}(h:s.length≤1000):(JP s).length≤1010:=by
 have:=EP (n:=s.length) Aeb;rw[JP,Aa9];omega
theorem OT:∀{l:List (List UInt8)},(∀s∈l,s.length≤1000)→(l.flatMap JP).length≤l.length*1010
 | [],_=>by simp
 | s::l,h=>by
  have h1:=W7 (h s Aej);have h2:=OT (l:=l) λt ht=>h t (by simp[ht]);rw[AbV,Aa9,Abe];omega
theorem Pt{l:List (List UInt8)}(h:Ik l):(Jy l).length≤200000:=by
 have h1:=EP (n:=l.length) (by have:=h.1;omega);have h2:=OT h.2;have h3:=h.1;rw[Jy,Aa9];omega
theorem Ik.ne{l:List (List UInt8)}(h:Ik l):Ik (Uj l):=⟨Acd (Qk l) h.1,λs hs=>h.2 s ((Ac2.1 hs).1)⟩
theorem XY{r:List (List UInt8)}(h:Ik r):(EH r).length≤200000:=Pt h.ne
theorem HB{w:World}{lo:Nat}{v:Value}{l:List (List UInt8)}(h:E.Own w lo 9 1 v l.length (l.map Aq))(hl:l.length≤1000000)(hs:∀s∈l,s.length≤1000000):Cw w v l:=by
 obtain⟨g,h1,_⟩:=Wv h hl hs;exact Ai.map h1 (λ_ _=>trivial) λ_ _ _ _ h=>h
theorem Ww{w:World}{lo:Nat}{v:Value}{l:List (List UInt8)}{s:List UInt8}(h:E.Own w lo 9 1 v (l.length+1) (l.map Aq++[Aq s])):E.Own w lo 9 1 v (l++[s]).length ((l++[s]).map Aq):=by
 rw[Aa9,AbX];exact h
theorem PJ(r:List (List UInt8))(v:Value)(w:World)(h:Cw w v r)(hs:Ik r):A9 prog 161 [v] w (λu w'=>u=Aq (EH r)∧Ah w w'):=by
 obtain⟨p,c,rfl⟩:=h.slice;have a4:=hs.1;refine AG func161 ntmps161 ?_;refine Sa ?_;refine CW.loop (ι:=Nat×Value) (λx w'=>x.1≤r.length∧Ah w w'∧E.Own w' w.heap.size 9 1 x.2 (Uj (r.take x.1)).length ((Uj (r.take x.1)).map Aq)) (λx=>[(3,x.2),(6,.slice p r.length c),(7,.int .i64 r.length),(8,.int .i64 x.1)]) (λx=>r.length - x.1) (0,.slice none 0 0) ⟨by simp,Chg.refl _ _,Own.nil _ _ _ _⟩ Bl ?_;rintro⟨k,ov⟩ w1 ⟨hk,hx,hO⟩;dsimp only at hk hO;show CW _ _ _ _ _ [(3,ov),(6,.slice p r.length c),(7,.int .i64 r.length),(8,.int .i64 (k:Int))] _;have hz:=hx.size;refine Sa ?_;refine Av (λh1=>?_) λh1=>?_;rotate_left
 ·have h1:k=r.length:=by simp at h1;omega
  subst h1;rw[AbQ] at hO;refine Sa ?_;refine Ap rfl rfl (LQ (Uj r) ov w1 (HB hO (by have:=Qk r;omega) λs hm=>by have:=hs.2 s ((Ac2.1 hm).1);omega)) ?_;rintro u w2 ⟨hb,a0⟩;obtain⟨pu,cu,rfl⟩:=hb.slice;refine Sa ?_;refine LW.string_any (bs:=Jy (Uj r)) rfl rfl (Ei.bytes' hb) rfl rfl rfl rfl rfl rfl rfl ?_;refine Sa ?_;exact QW.body1 rfl rfl ⟨rfl,hx.trans a0⟩
 have h1:k<r.length:=by simp at h1;omega
 obtain⟨s,a1⟩:∃s,r[k]?=some s:=⟨_,Aav h1⟩;obtain⟨a,rfl,-,a5,hc⟩:=AD.at (AD.ext h hx) a1;refine Sw ?_;refine Av (λh2=>?_) λh2=>?_
 ·have h2:s≠[]:=by simpa using h2
  refine Sa ?_;refine CR λC w2 a6 a0 hC=>?_;refine Sa ?_;refine LW.append (lo:=w.heap.size) (k:=(Uj (r.take k)).length) rfl rfl rfl rfl rfl rfl (hO.ext a0) Ae9 hC rfl rfl rfl (by have:=Qk (r.take k);have:=Ad9 k r;show(_+1)*17≤_;omega) rfl ?_;intro v3 w3 a2 a3 _;refine Sa ?_;refine QW.again (k+1,v3) ⟨by show k+1≤_;omega,(hx.trans a0).step a2 (λb hb=>(hO.lt hb).1),?_⟩ Bl (by show r.length - (k+1)<r.length - k;omega);show E.Own _ _ _ _ v3 (Uj (r.take (k+1))).length ((Uj (r.take (k+1))).map Aq);rw[RQ a1,if_neg h2];exact Ww a3
 ·have h2:s=[]:=by simpa using h2
  refine Sa ?_;refine QW.again (k+1,ov) ⟨by show k+1≤_;omega,hx,?_⟩ Bl (by show r.length - (k+1)<r.length - k;omega);show E.Own _ _ _ _ ov (Uj (r.take (k+1))).length ((Uj (r.take (k+1))).map Aq);rw[RQ a1,if_pos h2];exact hO
structure Dy(s:Af):Prop where
 rows:s.rows.length≤100
 cols:0≤s.cols∧s.cols≤100
 wide:∀r∈s.rows,(r.length:Int)=s.cols
 cells:∀r∈s.rows,∀t∈r,t.length≤1000
theorem Dy.row{s:Af}(h:Dy s){r:List (List UInt8)}(hr:r∈s.rows):Ik r:=⟨by have:=h.wide r hr;have:=h.cols;omega,h.cells r hr⟩
theorem Ry(s:Af)(rv:Value)(w:World)(h:CS w rv s.rows)(hs:Dy s):A9 prog 160 [.agg ⟨Az s rv⟩,.func (.func 161) ⟨[]⟩ ⟨[]⟩] w (λv w'=>E.Own w' w.heap.size 9 1 v (s.rows.map EH).length ((s.rows.map EH).map Aq)∧Ah w w'):=by
 obtain⟨p,c,rfl⟩:=h.slice;have a6:=hs.rows;refine AG func160 ntmps160 ?_;apply CW.seq;apply CW.region;refine Sl ?_;refine C0 λA w1 a7 a2 hA=>?_;replace hA:Blk w1 A (Az s (.slice p s.rows.length c)) 46:=hA;refine Sa ?_;refine CW.loop (ι:=Nat×Value) (λx w'=>x.1≤s.rows.length∧Ah w w'∧E.Own w' w.heap.size 9 1 x.2 (s.rows.take x.1).length (((s.rows.take x.1).map EH).map Aq)) (λx=>[(1,.func (.func 161) ⟨[]⟩ ⟨[]⟩),(5,x.2),(9,.slice p s.rows.length c),(10,.int .i64 s.rows.length),(11,.int .i64 x.1)]) (λx=>s.rows.length - x.1) (0,.slice none 0 0) ⟨by simp,a2,Own.nil _ _ _ _⟩ CT ?_;rintro⟨k,ov⟩ w2 ⟨hk,hx,hO⟩;dsimp only at hk hO;show CW _ _ _ _ _ [(1,.func (.func 161) ⟨[]⟩ ⟨[]⟩),(5,ov),(9,.slice p s.rows.length c),(10,.int .i64 s.rows.length),(11,.int .i64 (k:Int))] _;have hz:=hx.size;refine Sa ?_;refine Av (λh1=>?_) λh1=>?_;rotate_left
 ·have h1:k=s.rows.length:=by simp at h1;omega
  subst h1;rw[AbQ] at hO;refine Sa ?_;exact QW.body1 rfl rfl ⟨by rw[AbT];exact hO,hx⟩
 have h1:k<s.rows.length:=by simp at h1;omega
 obtain⟨r,hr⟩:∃s',s.rows[k]?=some s':=⟨_,Aav h1⟩;obtain⟨a,q,qc,rfl,-,ht,hc⟩:=BA.at (BA.ext h hx) hr;have a3:=hs.row (Ab4 hr);refine Sw ?_;refine LW.call (fs:=[]) (cs:=[]) rfl rfl rfl (PJ r _ w2 ht a3) ?_;rintro v w3 ⟨rfl,a0⟩;refine Sa ?_;refine CR λC w4 a8 a1 hC=>?_;refine Sa ?_;refine LW.append (lo:=w.heap.size) (k:=(s.rows.take k).length) rfl rfl rfl rfl rfl rfl (hO.ext (a0.trans a1)) (by have:=a0.size;have:=a1.size;omega) hC rfl rfl rfl (by have:=Ad9 k s.rows;show(_+1)*17≤_;omega) rfl ?_;intro v5 w5 a4 a5 _;refine Sa ?_;refine QW.again (k+1,v5) ⟨by show k+1≤_;omega,((hx.trans a0).trans a1).step a4 (λb hb=>(hO.lt hb).1),?_⟩ CT (by show s.rows.length - (k+1)<s.rows.length - k;omega);show E.Own _ _ _ _ v5 (s.rows.take (k+1)).length (((s.rows.take (k+1)).map EH).map Aq);rw[AbO,hr];simp only[Option.toList,AbX,Ach,AcF,Aa9,Abe,Ab3,AbP];exact a5
theorem AP.at1{w:World}{p:Option Addr}{c:Nat}{zs:List Int}(h:AP w (.slice p zs.length c) zs){i:Nat}{z:Int}(hi:zs[i]?=some z):∃a,p=some a∧w.cell? (a.add (((i:Nat):Int).toNat*1))=some (.int .i64 z):=by
 obtain⟨hl,e⟩:=Abo.1 hi;obtain⟨a,h1,h2⟩:=h.at hl;refine⟨a,h1,?_⟩;rw[show((i:Nat):Int).toNat*1=i by omega,h2,AaA,hi];rfl
def EY(s:Af)(rs:List Nat)(c:Nat):List (List UInt8):=rs.map λr=>(s.rows.getD r []).getD c []
def QF(rs:List Nat):List Int:=rs.map λ(r:Nat)=>(r:Int)
theorem ZK{rs:List Nat}{k r:Nat}(h:rs[k]?=some r):(QF rs)[k]?=some (r:Int):=by simp[QF,h]
theorem UK{s:Af}(hs:Dy s){r c:Nat}(hr:r<s.rows.length)(hc:(c:Int)<s.cols):∃row t,s.rows[r]?=some row∧row[c]?=some t∧(s.rows.getD r []).getD c []=t∧t.length≤1000:=by
 have h1:=Aav hr;have hm:=Ab4 h1;have hw:=hs.wide _ hm;have h2:=Aav (l:=s.rows[r]) (i:=c) Aeb;refine⟨_,_,h1,h2,?_,hs.cells _ hm _ (Ab4 h2)⟩;rw[AaA,AaA,h1,Ac6,h2,Ac6]
theorem LS{s:Af}(hs:Dy s){rs:List Nat}(hr:∀r∈rs,r<s.rows.length)(hl:rs.length≤100){c:Nat}(hc:(c:Int)<s.cols):Ik (EY s rs c):=by
 refine⟨by simpa[EY] using hl,λt ht=>?_⟩;simp only[EY,AbZ] at ht;obtain⟨r,h1,rfl⟩:=ht;obtain⟨_,t,_,_,e,h2⟩:=UK hs (hr r h1) hc;rw[e];exact h2
theorem PQ(s:Af)(rs:List Nat)(k:Nat):(List.range (k+1)).map (Hw s rs)=(List.range k).map (Hw s rs)++[Hw s rs k]:=by simp[Acl]
set_option maxHeartbeats 1000000 in
theorem LU(s:Af)(rv iv:Value)(rs:List Nat)(w:World)(h:CS w rv s.rows)(hs:Dy s)(hi:AP w iv (QF rs))(hr:∀r∈rs,r<s.rows.length)(hl:rs.length≤100):A9 prog 162 [.agg ⟨Az s rv⟩,iv] w (λv w'=>E.Own w' w.heap.size 9 1 v (B9 s rs).length ((B9 s rs).map Aq)∧Ah w w'):=by
 obtain⟨p,c,rfl⟩:=h.slice;have a9:(QF rs).length=rs.length:=by simp[QF]
 obtain⟨ip,ic,rfl⟩:=hi.slice;have af:=hs.rows;obtain⟨ag,ah⟩:=hs.cols;obtain⟨C,hC⟩:∃C:Nat,s.cols=C:=⟨s.cols.toNat,by omega⟩;refine AG func162 ntmps162 ?_;apply CW.seq;apply CW.region;refine Sl ?_;refine C0 λA w1 ai a4 hA=>?_;replace hA:Blk w1 A (Az s (.slice p s.rows.length c)) 46:=hA;refine Sa ?_;refine CW.loop (ι:=Nat×Value) (λx w'=>x.1≤C∧Ah w1 w'∧E.Own w' w1.heap.size 9 1 x.2 ((List.range x.1).map (Hw s rs)).length (((List.range x.1).map (Hw s rs)).map Aq)) (λx=>[(1,.slice ip (QF rs).length ic),(2,.pointer (some ⟨A,0,none⟩)),(5,x.2),(11,.int .i64 s.cols),(12,.int .i64 x.1)]) (λx=>C - x.1) (0,.slice none 0 0) ⟨by simp,Chg.refl _ _,Own.nil _ _ _ _⟩ CT ?_;rintro⟨k,ov⟩ w2 ⟨hk,hx,hO⟩;dsimp only at hk hO;show CW _ _ _ _ _ [(1,.slice ip (QF rs).length ic),(2,.pointer (some ⟨A,0,none⟩)),(5,ov),(11,.int .i64 s.cols),(12,.int .i64 (k:Int))] _;have hz:=a4.size;have aj:=hx.size;rw[AbT,AcR] at hO;refine Sa ?_;refine Av (λh1=>?_) λh1=>?_;rotate_left
 ·have h1:k=C:=by simp at h1;omega
  subst h1;refine Sa ?_;refine QW.body1 rfl rfl ⟨?_,a4.trans hx⟩;have e:B9 s rs=(List.range k).map (Hw s rs):=by rw[B9,hC];rfl
  rw[e,AbT,AcR];exact hO.low hz
 have h1:k<C:=by simp at h1;omega
 replace hA:=hA.ext hx;refine Sa ?_;refine CW.loop (ι:=Nat×Value) (λx w'=>x.1≤rs.length∧Ah w2 w'∧E.Own w' w2.heap.size 9 1 x.2 x.1 (((EY s rs k).take x.1).map Aq)) (λx=>[(1,.slice ip (QF rs).length ic),(2,.pointer (some ⟨A,0,none⟩)),(5,ov),(6,.int .i64 k),(7,x.2),(11,.int .i64 s.cols),(12,.int .i64 k),(15,.slice ip (QF rs).length ic),(16,.int .i64 (QF rs).length),(17,.int .i64 x.1)]) (λx=>rs.length - x.1) (0,.slice none 0 0) ⟨by simp,Chg.refl _ _,Own.nil _ _ _ _⟩ J2 ?_;rintro⟨j,lv⟩ w3 ⟨hj,a1,hL⟩;dsimp only at hj hL;show CW _ _ _ _ _ [(1,.slice ip (QF rs).length ic),(2,.pointer (some ⟨A,0,none⟩)),(5,ov),(6,.int .i64 (k:Int)),(7,lv),(11,.int .i64 s.cols),(12,.int .i64 (k:Int)),(15,.slice ip (QF rs).length ic),(16,.int .i64 (QF rs).length),(17,.int .i64 (j:Int))] _;have ak:=a1.size;have a2:=a4.trans (hx.trans a1);replace hA:=hA.ext a1;refine Sa ?_;refine Av (λh2=>?_) λh2=>?_;rotate_left
 ·have h2:j=rs.length:=by simp[a9] at h2;omega
  subst h2;have el:(EY s rs k).take rs.length=EY s rs k:=Acq (by simp[EY]);rw[el] at hL;have aa:=LS hs hr hl (c:=k) Aeb;have ac:E.Own w3 w2.heap.size 9 1 lv (EY s rs k).length ((EY s rs k).map Aq):=by
   rw[show(EY s rs k).length=rs.length by simp[EY]];exact hL
  refine Sa ?_;refine Ap rfl rfl (LQ (EY s rs k) lv w3 (HB ac (by have:=aa.1;omega) λt ht=>by have:=aa.2 t ht;omega)) ?_;rintro u w4 ⟨hb,a5⟩;obtain⟨pu,cu,rfl⟩:=hb.slice;refine Sa ?_;refine LW.string_any (bs:=Jy (EY s rs k)) rfl rfl (Ei.bytes' hb) rfl rfl rfl rfl rfl rfl rfl ?_;refine Sa ?_;refine CR λD w5 ad a0 hD=>?_;refine Sa ?_;refine LW.append (lo:=w1.heap.size) (k:=k) rfl rfl rfl rfl rfl rfl (((hO.ext a1).ext a5).ext a0) (by have:=a5.size;have:=a0.size;omega) hD rfl rfl rfl (by show(_+1)*17≤_;omega) rfl ?_;intro v6 w6 a6 a7 _;refine Sa ?_;refine QW.again (k+1,v6) ⟨by show k+1≤_;omega,(((hx.trans a1).trans a5).trans a0).step a6 (λb hb=>(hO.lt hb).1),?_⟩ CT (by show C - (k+1)<C - k;omega)
  ·show E.Own _ _ _ _ v6 ((List.range (k+1)).map (Hw s rs)).length (((List.range (k+1)).map (Hw s rs)).map Aq);rw[PQ,Aa9,AbX,AbT,AcR];exact a7
 have h2:j<rs.length:=by simp[a9] at h2;omega
 obtain⟨r,a8⟩:∃r,rs[j]?=some r:=⟨_,Aav h2⟩;obtain⟨ia,rfl,al⟩:=AP.at1 (hi.ext a2) (ZK a8);obtain⟨row,t,a3,ab,ae,am⟩:=UK hs (hr r (Ab4 a8)) (c:=k) Aeb;obtain⟨a,q,qc,rfl,-,ht,hc⟩:=BA.at (BA.ext h a2) a3;obtain⟨a',rfl,-,-,an⟩:=AD.at ht ab;have ao:=(Abo.1 a3).1;have ap:=(Abo.1 ab).1;refine Sw ?_;refine CR λD w5 ad a0 hD=>?_;refine Sa ?_;refine LW.append (lo:=w2.heap.size) (k:=j) rfl rfl rfl rfl rfl rfl (hL.ext a0) Ae9 hD rfl rfl rfl (by show(_+1)*17≤_;omega) rfl ?_;intro v6 w6 a6 a7 _;refine Sa ?_;refine QW.again (j+1,v6) ⟨by show j+1≤_;omega,(a1.trans a0).step a6 (λb hb=>(hL.lt hb).1),?_⟩ J2 (by show rs.length - (j+1)<rs.length - j;omega);show E.Own _ _ _ _ v6 (j+1) (((EY s rs k).take (j+1)).map Aq);rw[AbO,show(EY s rs k)[j]?=some t by simp[EY,a8];simpa using ae,AbX];exact a7
theorem MX(zs:List Int)(v:Value)(w:World)(h:AP w v zs)(hl:zs.length≤100000):A9 prog 172 [v] w (λv' w'=>E.Own w' w.heap.size 3 1 v' zs.length (Ad zs)∧Ah w w'):=by
 refine AG func172 ntmps172 ?_;obtain⟨_,⟨rfl,rfl⟩ | ⟨a,cap,rfl,hc⟩⟩:=h
 ·refine Sa ?_;refine LW.eql_sn rfl rfl rfl rfl ?_;refine Sa ?_;exact QW.body1 rfl rfl ⟨E.Own.nil _ _ _ _,Chg.refl _ _⟩
 ·refine Sa ?_;refine LW.eql_sn rfl rfl rfl rfl ?_;refine Sa ?_
  (apply LW.buildSlice0;exact rfl;exact rfl;exact rfl;exact rfl;intro B w5 a3 a1 hB)
  refine Sa ?_;refine LW.append_any (lo:=w.heap.size) (xs:=[]) (news:=Ad zs) rfl rfl rfl rfl rfl rfl (⟨rfl,.inr ⟨B,0,[],rfl,hB,by simp,by simp,by omega⟩⟩) (by have:=a1.size;omega) (by rw[AC];show _=_*1;omega) (.inr ⟨a,rfl,λj u hj=>by
   simp only[Ad,AbR] at hj
   cases hg:zs[j]? with
   | none=>rw[hg] at hj;cases hj
   | some y=>
    rw[hg] at hj;obtain rfl:=Ab9 hj;exact A2 a1 (hc j y hg)⟩) (λu hu=>by
   simp only[Ad,AbZ] at hu;obtain⟨_,_,rfl⟩:=hu;rfl) (by show(0+_)*9≤_;omega) rfl ?_
  intro v' w6 a2 a0 a4;rw[AbP,AbN] at a0;refine Sa ?_;exact QW.body1 rfl rfl ⟨a0,a1.step a2 (by simp[Ae];omega)⟩
abbrev X3(zs:List Int)(x:Fin zs.length):List Value:=[.int .i64 ((x.val:Nat):Int),.int .i64 (zs.getD x.val 0)]
def GA{n:Nat}(pre:List (Fin n)):Prop:=∀i x,pre[i]?=some x→x.val+1+i=n
theorem GA.snoc{n:Nat}{pre:List (Fin n)}{x:Fin n}(h:GA (pre++[x])):GA pre∧x.val+1+pre.length=n:=by
 refine⟨λi y hi=>h i y (by rw[Ab6 (Abo.1 hi).1];exact hi),h pre.length x ?_⟩;rw[AbU (Ab2 _)];simp
theorem GA.push{n:Nat}{pre:List (Fin n)}{x:Fin n}(h:GA pre)(hx:x.val+1+pre.length=n):GA (pre++[x]):=λi y hi=>by
 rcases Adv i pre.length with h1 | h1 | h1
 ·rw[Ab6 h1] at hi;exact h i y hi
 ·subst h1;rw[AbU (Ab2 _)] at hi;simp at hi;rw[←hi];exact hx
 ·rw[AbE Aee] at hi;cases hi
theorem PH(p:Option Addr)(n c:Nat)(w:World):A9 prog 258 [.slice p n c] w (λv w'=>v=.func (.func 284) ⟨[]⟩ ⟨[.pointer (some ⟨w.heap.size,0,none⟩)]⟩∧Blk w' w.heap.size [.slice p n c] 75∧Ah w w'):=by
 refine AG func258 ntmps258 ?_;apply CW.seq;apply CW.region;refine Sl ?_;refine C0 λA w1 a0 a1 hA=>?_;subst a0;replace hA:Blk w1 w.heap.size [.slice p n c] 75:=hA;refine Sa ?_;exact QW.body1 rfl rfl ⟨rfl,hA,a1⟩
set_option maxRecDepth 8000 in
set_option maxHeartbeats 1000000 in
theorem T9(zs:List Int)(p:Option Addr)(c B:Nat)(ok:Nat→Prop)(w0:World)(hn:zs.length≤100000)(hB:Blk w0 B [.slice p zs.length c] 75)(hokB:ok B)(hz:zs.length≠0→∃a,p=some a∧ok a.block∧∀j z,zs[j]?=some z→w0.cell? (a.add (((j:Nat):Int).toNat*1))=some (.int .i64 z))(hlt:∀b,ok b→b<w0.heap.size) :
  SeqStopsK Fence.wide 3 prog 284 ⟨[.pointer (some ⟨B,0,none⟩)]⟩ (λx=>⟨X3 zs x⟩) (BM ok) (λys:List (Fin zs.length)=>ys.length=zs.length∧GA ys) (λ_=>True) zs.length w0:=by
 intro l J Jx W hW hJ ab hY h0;have hF:=U8;have a7:BM ok w0 W:=λb hb=>hW.block b (hlt b hb);refine CallsIn.enterI (args:=[.func (.yield l) #[] #[],.pointer (some ⟨B,0,none⟩)]) func284 rfl ntmps284 hF rfl rfl ?_;have ac:=a7.blk hokB hB;refine UC ?_;refine E.CI.loop (ι:=Nat×List (Fin zs.length)) (λx w'=>x.1≤zs.length∧BM ok w0 w'∧J x.2 w'∧x.1+x.2.length=zs.length∧GA x.2) (λx=>[(0,.func (.yield l) #[] #[]),(1,.pointer (some ⟨B,0,none⟩)),(3,.int .i64 ((x.1:Int) - 1))]) (λx=>x.1) (zs.length,[]) ⟨Ab2 _,a7,h0,by simp,λi x h=>by simp at h⟩ Bp ?_;rintro⟨k,pre⟩ w1 ⟨hk,a1,a2,a3,a4⟩;dsimp only at hk a2 a3 a4;show E.CI _ _ _ _ _ _ _ [(0,.func (.yield l) #[] #[]),(1,.pointer (some ⟨B,0,none⟩)),(3,.int .i64 ((k:Int) - 1))] _;have ad:=a1.blk hokB hB;refine UC ?_;refine E.CI.cond rfl (λh1=>?_) (λh1=>?_);rotate_left
 ·have h1:k=0:=by simp at h1;omega
  subst h1;refine UC ?_;exact QW.bodyI (.inr rfl) rfl ⟨⟨_,rfl⟩,.inl ⟨pre,⟨by omega,a4⟩,a2⟩⟩
 have h1:0<k:=by simp at h1;omega
 obtain⟨j,rfl⟩:∃j,k=j+1:=⟨k - 1,by omega⟩;obtain⟨z,a8⟩:∃z,zs[j]?=some z:=⟨_,Aav Aeb⟩;obtain⟨a,rfl,a5,a0⟩:=hz Aeb;have hc:=a1.cell (a:=a.add (((j:Nat):Int).toNat*1)) (by rw[D9];exact a5) (a0 j z a8);have ej:(((j+1:Nat):Int) - 1)=(j:Int):=Aeb
 rw[ej];have hy:=hY pre ⟨j,by omega⟩ w1 a2 Aeb;have ez:zs.getD j 0=z:=by rw[AaA,a8];rfl
 simp only[X3,ez] at hy;refine UC ?_;refine E.LI.yield hF rfl rfl rfl hy ?_;rintro e w2 (⟨rfl,a9,aa⟩ | ⟨rfl,a6⟩)
 ·refine⟨_,rfl,?_⟩;refine UC ?_;refine E.CI.cond rfl (λh2=>by cases h2) (λ_=>?_);refine UC ?_;refine QW.again (j,pre++[⟨j,by omega⟩]) ⟨by show j≤_;omega,a1.trans aa,a9,by simp;omega,a4.push (by show j+1+_=_;omega)⟩ ?_ (by show j<j+1;omega);exact Bp
 ·refine⟨_,rfl,?_⟩;refine UC ?_;refine E.CI.cond rfl (λ_=>?_) (λh2=>by cases h2);refine UC ?_;exact QW.bodyI (.inl rfl) rfl ⟨⟨_,rfl⟩,.inr ⟨_,trivial,a6⟩⟩
open Go Go.E Go.RowKit
theorem V5{B:Nat}{w0 w:World}{D:Nat}(o:Obj)(h:Below B w0 w)(hB:B≤w.heap.size)(hD:B≤D):Below B w0 (w.putObj D o):=
 h.grown (grownBy_putObj' w D o) hB (λk e=>by cases e;exact hD)
structure AaB(m:AN)(lo:Nat)(ok:Nat→Prop)(w w6 W:World)(A R X N:Nat)(v:Value)(pre:List (Fin m.to.length))(L:List Int)(nx:Int):Prop where
 size:w6.heap.size≤W.heap.size
 kept:BM ok w6 W
 below:Below w.heap.size w W
 bX:Blk W X [v,.int .i64 m.new] 77
 bR:Blk W R [.slice none 0 0,.int .i64 0] 77
 bN:Blk W N [.int .i64 nx] 3
 own:E.Own W lo 3 1 v m.to.length (Ad L)
 nx0:0≤nx
 nx1:nx≤1000000
 at_:GA pre→L=GM m.new m.to (m.to.length - pre.length)∧nx=CP m.new (m.to.drop (m.to.length - pre.length))
set_option maxRecDepth 8000 in
set_option maxHeartbeats 2000000 in
theorem TF(m:AN)(tv:Value)(w:World)(h:AP w tv m.to)(hl:m.to.length≤100000)(hz:∀z∈m.to,-1≤z∧z≤1000000)(hn0:0≤m.new)(hn1:m.new≤1000000):A9 prog 209 [.agg ⟨[tv,.int .i64 m.new]⟩] w (λv w'=>∃tv',v=.agg ⟨[tv',.int .i64 m.new]⟩∧E.Own w' w.heap.size 3 1 tv' m.to.length (Ad (E7 m.new 0 m.to))∧Ah w w'):=by
 obtain⟨p,c,rfl⟩:=h.slice;refine A9.enterM func209 rfl ntmps209 Aec rfl ?_;apply CW.seq;apply CW.region;refine Sl ?_;refine C0 λA w1 c5 bc hA=>?_;replace hA:Blk w1 A [.slice p m.to.length c,.int .i64 m.new] 77:=hA;refine Sa ?_;refine B1 λR w2 af ax hR=>?_;replace hA:=hA.ext ax;have a4:=bc.trans ax;have ay:=bc.size;have c6:=ax.size;have c7:=hR.lt;refine Sa ?_;refine CW.cut (ι:=Nat×Value) (λx w'=>Ah w2 w'∧Blk w' x.1 [x.2,.int .i64 m.new] 77∧E.Own w' w2.heap.size 3 1 x.2 m.to.length (Ad m.to)∧w2.heap.size≤x.1∧x.1∉Ae x.2) (λx=>[(1,.pointer (some ⟨A,0,none⟩)),(2,.pointer (some ⟨R,0,none⟩)),(3,.pointer (some ⟨x.1,0,none⟩))]) ?_ ?_
 ·apply CW.noP;refine CW.drawG (Ah w2) 7 (λw' h=>h) Aec λwa c8=>?_;refine Bw ?_;refine GW.two 2 6 Aec rfl rfl rfl rfl rfl rfl (λhS=>?_) (λhS=>?_)
  ·refine Ap rfl rfl (MX m.to _ wa (h.ext (a4.trans hS)) hl) ?_;rintro v wb ⟨hO,ag⟩;obtain⟨vp,vc,rfl⟩:=hO.slice;have a2:=hS.trans ag;have bd:=hS.size;have bn:=ag.size;apply LW.nil;refine QW.headed a2 ?_;refine Bw ?_;refine Dm 6 λhS=>?_;refine B1 λX wc a5 a6 hX=>?_;apply LW.nil;refine QW.headed (a2.trans a6) ?_;refine GW.tail rfl Aec (λhS=>?_);refine AF λwd ah hX=>?_;have ai:X∉Ae (.slice vp m.to.length vc):=λhm=>by have:=(hO.lt hm).2;omega
   refine Sa ?_;exact QW.noP_n (QW.head (X,.slice vp m.to.length vc) ⟨(a2.trans a6).step ah Aee,hX,((hO.ext a6).chg ah (λb hb=>by simp only[Aah];exact λe=>ai (e ▸ hb))).low bd,by show w2.heap.size≤X;omega,ai⟩ (An.cons rfl (An.cons rfl (An.cons rfl (An.nil)))))
  ·refine B1 λX wb a5 ag hX=>?_;have a2:=hS.trans ag;have bd:=hS.size;have bn:=ag.size;have bo:=hX.lt;apply LW.nil;refine QW.headed a2 ?_;refine Dm 2 λhS=>?_;refine Ap rfl rfl (MX m.to _ wb (h.ext (a4.trans a2)) hl) ?_;rintro v wc ⟨hO,a6⟩;obtain⟨vp,vc,rfl⟩:=hO.slice;replace hX:=hX.ext a6;apply LW.nil;refine QW.headed (a2.trans a6) ?_;refine Bw ?_;refine GW.tail rfl Aec (λhS=>?_);refine AF λwd ah hX=>?_;have ai:X∉Ae (.slice vp m.to.length vc):=λhm=>by have:=(hO.lt hm).1;omega
   refine Sa ?_;exact QW.noP_n (QW.head (X,.slice vp m.to.length vc) ⟨(a2.trans a6).step ah Aee,hX,(hO.chg ah (λb hb=>by simp only[Aah];exact λe=>ai (e ▸ hb))).low Aeb,by show w2.heap.size≤X;omega,ai⟩ (An.cons rfl (An.cons rfl (An.cons rfl (An.nil)))))
 rintro⟨X,v⟩ w3 ⟨an,hX,hO,bp,az⟩;dsimp only at hX hO bp az;have be:∀b,b∈Ae v→b<w3.heap.size:=λb hb=>(hO.lt hb).2;show CW _ _ _ _ _ [(1,.pointer (some ⟨A,0,none⟩)),(2,.pointer (some ⟨R,0,none⟩)),(3,.pointer (some ⟨X,0,none⟩))] _;replace hA:=hA.ext an;replace hR:=hR.ext an;have c9:=an.size;have bo:=hX.lt;refine Sw ?_;refine B1 λN w4 ad bf hN=>?_;have ca:=bf.size;have bq:=hN.lt;have cb:=hN;refine Sw ?_;refine Cu λw5 bg hN=>?_;replace hN:Blk w5 N [.int .i64 m.new] 3:=hN;have a1:Ah w3 w5:=bf.step bg Aee;have cc:=a1.size;replace hA:=hA.ext a1;replace hR:=hR.ext a1;replace hX:=hX.ext a1;replace hO:=hO.ext a1;refine Sw ?_;refine Ap rfl rfl (PH p m.to.length c w5) ?_;rintro u w6 ⟨rfl,bh,a7⟩;have cd:=a7.size;replace hA:=hA.ext a7;replace hR:=hR.ext a7;replace hX:=hX.ext a7;replace hN:=hN.ext a7;replace hO:=hO.ext a7;have aj:=((a4.trans an).trans a1).trans a7;have ce:=hN.lt;have cf:=bh.lt;have bi:∀j z,m.to[j]?=some z→-1≤z∧z≤1000000:=λj z hj=>hz z (Ab4 hj);refine Sa ?_;refine CW.rangeFunc (α:=Fin m.to.length) (gf:=284) (lb:=[.pointer (some ⟨w5.heap.size,0,none⟩)]) (encs:=X3 m.to) (ok:=λb=>b<w.heap.size∨b=w5.heap.size) (S:=λys=>ys.length=m.to.length∧GA ys) (Sp:=λ_=>True) (N:=m.to.length) (w0:=w6) rfl Aec (T9 m.to p c w5.heap.size _ w6 hl bh (.inr rfl) (λcg=>?_) (λb hb=>by omega)) (Below.refl _ _) (λb hb=>by omega) (λ_=>rfl) rfl
  (λpre W=>∃L nx,AaB m w2.heap.size (λb=>b<w.heap.size∨b=w5.heap.size) w w6 W A R X N v pre L nx) (λpre W W' row hb hg hr=>?_) ⟨m.to,m.new,⟨Ab2 _,BM.refl _ _,aj.toBelow,hX,hR,hN,hO,hn0,hn1,λ_=>⟨by simp[V4],by simp[CP]⟩⟩⟩ (λx=>[(2,.pointer (some ⟨R,0,none⟩)),(3,.pointer (some ⟨X,0,none⟩)),(4,.pointer (some ⟨N,0,none⟩)),(5,.int .i64 ((x.val:Nat):Int)),(6,.int .i64 (m.to.getD x.val 0))]) ?_ ?_ ?_
 ·obtain⟨z0,h0⟩:∃z,m.to[0]?=some z:=⟨_,Aav Aeb⟩;obtain⟨a,ea,br⟩:=AP.at1 h h0;refine⟨a,ea,.inl ?_,λj z hj=>?_⟩
  ·have:=Ac3 w _ br
   rwa [D9] at this
  ·obtain⟨a',e,hc⟩:=AP.at1 h hj;rw[ea] at e;obtain rfl:=Ab9 e;exact A2 aj hc
 ·obtain⟨L,nx,hb⟩:=hb;have ao:∀r,row=some r→∃o:Obj,W.heap[r]?=some o∧o.isCells=false:=λr e=>(hr r e).2;exact⟨L,nx,⟨Acd hb.size hg.size,hb.kept.trans λb ci=>hg.block b (by have:=hb.size;omega) (λe=>by have:=(hr b e.symm).1;omega),hb.below.grown hg (by have:=hb.size;omega) (λk e=>by have:=(hr k e).1;omega),hb.bX.grown hg ao,hb.bR.grown hg ao,hb.bN.grown hg ao,hb.own.grown hg ao,hb.nx0,hb.nx1,hb.at_⟩⟩
 ·intro lk pre x W K hi hK;have hF:=U8.inRound lk;show E.CI _ _ _ _ _ _ _ ((22,.int .i64 (m.to.getD x.val 0))::(21,.int .i64 ((x.val:Nat):Int))::_) _;refine UC ?_;unfold QW;exact λa ha=>hK a (ha.sub (An.cons rfl (An.cons rfl (An.cons rfl (An.cons rfl (An.cons rfl (An.nil)))))))
 ·rintro lk pre x W ⟨L,nx,hb⟩ bs;have hF:=U8.inRound lk;obtain⟨z,ap⟩:∃z,m.to[x.val]?=some z:=⟨_,Aav x.2⟩;have ez:m.to.getD x.val 0=z:=by rw[AaA,ap];rfl
  obtain⟨bt,ay⟩:=bi _ _ ap;obtain⟨aq,b0,ar,a5,af,ad,ak,b1,b2,au⟩:=hb;have cj:=x.2;have bu:=a5.lt;have bv:=ad.lt;have ck:N≠X:=Aeb
  have cl:N≠R:=Aeb
  have cm:N<w5.heap.size:=by have:=bq;have:=bg.size;omega
  have cn:w.heap.size≤N:=Aeb
  have bj:∀b,b<w.heap.size∨b=w5.heap.size→b≠N:=λb hb=>by omega
  have bk:∀b,b∈Ae v→b≠N:=λb hm=>by have:=be b hm;omega
  rw[ez];refine UC ?_;refine E.CI.cond rfl (λh1=>?_) (λh1=>?_)
  ·have h1:0≤z:=by simpa using h1
   refine UC ?_;refine E.LI.store hF rfl rfl rfl ad rfl rfl rfl λW' hc b3=>?_;replace b3:Blk W' N [.int .i64 z] 3:=b3;refine UC ?_;unfold QW;refine λ_ _=>⟨KeepsFrom.chg hc (λb hm=>by simp only[Aah] at hm;subst hm;exact⟨_,_,ad⟩),BM.chg hc (λb hm=>⟨by omega,by simp only[Aah];exact bj b hm⟩),L,z,⟨Acd aq hc.size,b0.trans (BM.chg hc (λb hm=>⟨by omega,by simp only[Aah];exact bj b hm⟩)),ar.trans (hc.below Aeb Aee),a5.chg hc Aee,af.chg hc Aee,b3,ak.chg hc (λb hm=>by simp only[Aah];exact bk b hm),h1,ay,λb4=>?_⟩⟩;obtain⟨a8,b5⟩:=b4.snoc;obtain⟨e1,e2⟩:=au a8;have e3:m.to.length - pre.length=x.val+1:=Aeb
   have e4:m.to.length - (pre++[x]).length=x.val:=Aee
   rw[e4];obtain⟨e5,e6⟩:=T6 (new:=m.new) ap h1;exact⟨by rw[e1,e3,e5],e6.symm⟩
  ·have h1:¬0≤z:=by simpa using h1
   obtain⟨b6,⟨_,bw⟩ | ⟨g,cap,sp,rfl,hG,h5,h6,h7⟩⟩:=ak
   ·omega
   have bl:(Ad L).length=L.length:=AC L;have co:=bk g AeT;have bx:g≠X:=λe=>az (by simp[Ae,e]);have bz:=hG.lt;refine UC ?_;refine E.LI.store (i:=0+((x.val:Nat):Int).toNat*1) hF (by show some (Value.pointer (some (Addr.add ⟨g,0,none⟩ (((x.val:Nat):Int).toNat*1))))=_;rw[A5]) rfl rfl hG (AbS Afu) rfl rfl λW' hc b7=>?_;replace b7:Blk W' g (Ad (L.set x.val (-1 - nx))++sp) 3:=by
    have e:(Ad L++sp).set (0+((x.val:Nat):Int).toNat*1) (.int .i64 (-1 - nx))=Ad (L.set x.val (-1 - nx))++sp:=by
     rw[show 0+((x.val:Nat):Int).toNat*1=x.val by omega,List.set_append_left _ _ Aeb];simp[Ad]
    rw[←e];exact b7
   have bm:∀b,b<w.heap.size∨b=w5.heap.size→b≠g:=λb hb=>by have:=be g AeT;omega
   refine UC ?_;unfold QW;refine λ_ _=>⟨KeepsFrom.chg hc (λb hm=>by simp only[Aah] at hm;subst hm;exact⟨_,_,hG⟩),BM.chg hc (λb hm=>⟨by omega,by simp only[Aah];exact bm b hm⟩),L.set x.val (-1 - nx),nx,⟨Acd aq hc.size,b0.trans (BM.chg hc (λb hm=>⟨by omega,by simp only[Aah];exact bm b hm⟩)),ar.trans (hc.below Aeb Aee),a5.chg hc Aee,af.chg hc Aee,ad.chg hc Aee,⟨by rw[AC,Aco,←bl];exact b6,.inr ⟨g,cap,sp,rfl,b7,h5,h6,h7⟩⟩,b1,b2,λb4=>?_⟩⟩;obtain⟨a8,b5⟩:=b4.snoc;obtain⟨e1,e2⟩:=au a8;have e3:m.to.length - pre.length=x.val+1:=Aeb
   have e4:m.to.length - (pre++[x]).length=x.val:=Aee
   rw[e4];rw[e3] at e1 e2;obtain⟨e5,e6⟩:=T7 (new:=m.new) ap h1;exact⟨by rw[e1,e2];exact e5,by rw[e2];exact e6.symm⟩
 ·intro Dd ys W hD c0 hb hK;obtain⟨c1,c2⟩:=c0;obtain⟨L,nx,aq,b0,ar,a5,af,ad,ak,-,-,au⟩:=hb;obtain⟨e1,-⟩:=au c2;rw[c1,AcQ,T8] at e1;subst e1;obtain⟨p',c',rfl⟩:=ak.slice;refine Sw ?_;refine CW.loop (ι:=Nat×List Int×Int) (λx w'=>x.1≤m.to.length∧JC m.new m.to x.1 x.2.1 x.2.2∧x.2.2≤1000001∧Blk w' X [.slice p' m.to.length c',.int .i64 m.new] 77∧E.Own w' w2.heap.size 3 1 (.slice p' m.to.length c') m.to.length (Ad (x.2.1++DH m.new (m.to.drop x.1)))∧Below w.heap.size w w'∧Blk w' R [.slice none 0 0,.int .i64 0] 77∧w'.heap[Dd]?=some (.deferred (some []))∧w6.heap.size≤w'.heap.size) (λx=>[(2,.pointer (some ⟨R,0,none⟩)),(3,.pointer (some ⟨X,0,none⟩)),(7,.int .i64 x.2.2),(33,.slice p' m.to.length c'),(34,.int .i64 m.to.length),(35,.int .i64 x.1)]) (λx=>m.to.length - x.1) (0,[],0) ⟨Ac8 _,JC.start _ _,by decide,a5,by simpa using ak,ar,af,hK,aq⟩ Ib ?_;rintro⟨j,done,free⟩ w7 ⟨hj,hP,hf,b8,ae,av,a9,aa,b9⟩;dsimp only at hj hP hf ae;show CW _ _ _ _ _ [(2,.pointer (some ⟨R,0,none⟩)),(3,.pointer (some ⟨X,0,none⟩)),(7,.int .i64 free),(33,.slice p' m.to.length c'),(34,.int .i64 m.to.length),(35,.int .i64 (j:Int))] _;refine Sw ?_;refine Av (λh1=>?_) λh1=>?_;rotate_left
  ·have h1:j=m.to.length:=by simp at h1;omega
   subst h1;rw[hP.all,Ad2] at ae;have aw:Dd<w7.heap.size:=(AcJ.1 aa).1;refine Sw ?_;refine AF λw8 a0 a9=>?_;replace a9:Blk w8 R [.slice p' m.to.length c',.int .i64 m.new] 77:=a9;have c3:=a9;have ba:w8.heap[Dd]?=some (.deferred (some [])):=(a0.block Dd aw Aee).trans aa;have c4:R∉Ae (.slice p' m.to.length c'):=λhm=>by have:=(ae.lt hm).1;omega
   refine Sw ?_;refine QW.bodyM (.inl rfl) results209 ba (vs:=[.agg ⟨[.slice p' m.to.length c',.int .i64 m.new]⟩]) ⟨⟨R,rfl,CJ rfl rfl (c3.put ba rfl) rfl (Dx.all _)⟩,trivial⟩ rfl ⟨.slice p' m.to.length c',rfl,?_,?_⟩
   ·refine E.Own.put (E.Own.low (lo:=w2.heap.size) ?_ Aeb) ba rfl;have:=ae.chg a0 (λb hb=>by simp only[Aah];exact λe=>c4 (e ▸ hb))
    simpa[DH] using this
   ·exact Ah.of_below (V5 _ (av.trans (a0.below Aeb Aee)) Ae9 Aeb)
  have h1:j<m.to.length:=by simp at h1;omega
  obtain⟨z,ab⟩:∃z,m.to[j]?=some z:=⟨_,Aav h1⟩;obtain⟨bt,ay⟩:=bi _ _ ab;obtain⟨b6,⟨_,bw⟩ | ⟨g,cap,sp,ev,hG,h5,h6,h7⟩⟩:=id ae
  ·omega
  obtain⟨rfl,-,rfl⟩:=AcN ev;have bl:(Ad (done++DH m.new (m.to.drop j))).length=m.to.length:=by rw[b6];omega
  have bb:=hP.free0;have cp:=Mj hn0 hn1 (l:=m.to.drop (j+1)) (λy hy=>(hz y (List.mem_of_mem_drop hy)).2);have a3:∀u,(if 0≤z then z else -1 - CP m.new (m.to.drop (j+1)))=u→w7.cell? ((⟨g,0,none⟩:Addr).add (((j:Nat):Int).toNat*1))=some (.int .i64 u):=λu hu=>by
   rw[A5];refine hG.cell ?_;rw[show 0+((j:Nat):Int).toNat*1=j by omega,Ab6 Aeb];have:=Zn (new:=m.new) hP.len ab;rw[hu] at this;simp only[Ad,AbR,this,AbG]
  have bz:=hG.lt;have bx:g≠X:=λe=>az (by simp[Ae,e]);have cq:g≠R:=Aeb
  have aw:Dd<w7.heap.size:=(AcJ.1 aa).1;have cr:Dd≠g:=λe=>by
   unfold Blk at hG;rw[←e,aa] at hG;cases hG
  by_cases ac:0≤z
  ·have hc:=a3 z (if_pos ac);refine Sw ?_;refine CW.yes rfl (by simpa using ac) ?_;refine Sw ?_;refine QW.again (j+1,done++[z],z+1) ⟨by show j+1≤_;omega,hP.kept ab ac,by show z+1≤_;omega,b8,?_,av,a9,aa,b9⟩ Ib AeP;show E.Own _ _ _ _ _ _ (Ad ((done++[z])++DH m.new (m.to.drop (j+1))));rw[←XP ab ac];exact ae
  ·have hc:=a3 _ (if_neg ac);have al:∀y,Chg [g] w7=Chg [g] w7∧((Ad (done++DH m.new (m.to.drop j))++sp).set (0+((j:Nat):Int).toNat*1) (.int .i64 y)=Ad ((done++[y])++DH m.new (m.to.drop (j+1)))++sp):=λy=>⟨rfl,by
    rw[show 0+((j:Nat):Int).toNat*1=j by omega,List.set_append_left _ _ Aeb,←VP hP.len ab];simp[Ad]⟩
   refine Sw ?_;refine CW.no rfl Aee ?_;refine Sw ?_;refine Av (λh2=>?_) λh2=>?_
   ·have h2:free<CP m.new (m.to.drop (j+1)):=by simp at h2;omega
    refine Sw ?_;refine LW.store (i:=0+((j:Nat):Int).toNat*1) (by show some (Value.pointer (some (Addr.add ⟨g,0,none⟩ (((j:Nat):Int).toNat*1))))=_;rw[A5]) rfl rfl hG (AbS Afu) rfl rfl λw8 a0 am=>?_;rw[(al free).2] at am;refine Sw ?_;exact QW.again (j+1,done++[free],free+1) ⟨by show j+1≤_;omega,hP.fill ab ac h2,by show free+1≤_;omega,b8.chg a0 Aee,⟨by rw[AC,Aa9,KY,AcI];have:=hP.len;simp;omega,.inr ⟨g,_,sp,rfl,am,h5,h6,h7⟩⟩,av.trans (a0.below Aeb Aee),a9.chg a0 Aee,(a0.block Dd aw Aee).trans aa,Acd b9 a0.size⟩ Ib AeP
   ·have h2:¬free<CP m.new (m.to.drop (j+1)):=by simp at h2;omega
    refine Sw ?_;refine LW.store (i:=0+((j:Nat):Int).toNat*1) (by show some (Value.pointer (some (Addr.add ⟨g,0,none⟩ (((j:Nat):Int).toNat*1))))=_;rw[A5]) rfl rfl hG (AbS Afu) rfl rfl λw8 a0 am=>?_;rw[(al (-1)).2] at am;refine Sw ?_;exact QW.again (j+1,done++[-1],free) ⟨by show j+1≤_;omega,hP.gone ab ac h2,hf,b8.chg a0 Aee,⟨by rw[AC,Aa9,KY,AcI];have:=hP.len;simp;omega,.inr ⟨g,_,sp,rfl,am,h5,h6,h7⟩⟩,av.trans (a0.below Aeb Aee),a9.chg a0 Aee,(a0.block Dd aw Aee).trans aa,Acd b9 a0.size⟩ Ib AeP
section
variable {α:Type} [DecidableEq α]
theorem M7:∀(a b:List α),Do a b≤a.length
 | [],_=>by simp[Do]
 | _::_,[]=>by simp[Do]
 | x::a,y::b=>by
  have h1:=M7 a b;have h2:=M7 a (y::b);have h3:=M7 (x::a) b;simp only[Do,Abe] at *
  split<;>omega
 termination_by a b=>a.length+b.length
theorem VZ{a b:List α}{i k:Nat}(h:a.length≤i):Do (a.drop i) (b.drop k)=0:=by
 rw[Acm h];simp[Do]
theorem Wa{a b:List α}{i k:Nat}(h:b.length≤k):Do (a.drop i) (b.drop k)=0:=by
 rw[Acm h];cases a.drop i<;>simp[Do]
omit [DecidableEq α] in
theorem Km{l:List α}{i:Nat}{x:α}(h:l[i]?=some x):l.drop i=x::l.drop (i+1):=by
 obtain⟨hi,rfl⟩:=Abo.1 h;exact Acp hi
theorem Zr{a b:List α}{i k:Nat}{x y:α}(h1:a[i]?=some x)(h2:b[k]?=some y):Do (a.drop i) (b.drop k)=if x=y then Do (a.drop (i+1)) (b.drop (k+1))+1 else max (Do (a.drop (i+1)) (b.drop k)) (Do (a.drop i) (b.drop (k+1))):=by
 rw[Km h1,Km h2];simp only[Do]
theorem Wx{a b:List α}{i k:Nat}{x y:α}(h1:a[i]?=some x)(h2:b[k]?=some y):AX (a.drop i) (b.drop k) i k=if x=y then(i,k)::AX (a.drop (i+1)) (b.drop (k+1)) (i+1) (k+1) else if Do (a.drop i) (b.drop (k+1))≤Do (a.drop (i+1)) (b.drop k) then AX (a.drop (i+1)) (b.drop k) (i+1) k else AX (a.drop i) (b.drop (k+1)) i (k+1):=by
 rw[Km h1,Km h2];simp only[AX]
theorem NR{a b:List α}{i k:Nat}(h:a.length≤i∨b.length≤k):AX (a.drop i) (b.drop k) i k=[]:=by
 rcases h with h | h
 ·rw[Acm h];simp[AX]
 ·rw[Acm h];cases a.drop i<;>simp[AX]
def GZ(a b:List α)(i j:Nat):List Int:=(List.range (b.length+1)).map λk=>if j≤k then((Do (a.drop i) (b.drop k):Nat):Int) else 0
theorem FN(a b:List α)(i j:Nat):(GZ a b i j).length=b.length+1:=by simp[GZ]
theorem Jm{a b:List α}{i j k:Nat}(h:k≤b.length):(GZ a b i j)[k]?=some (if j≤k then((Do (a.drop i) (b.drop k):Nat):Int) else 0):=by
 simp[GZ,AdA (by omega:k<b.length+1)]
theorem NT{a b:List α}{i j:Nat}(h:a.length≤i∨b.length≤j):GZ a b i j=List.replicate (b.length+1) 0:=by
 apply Acv;intro k;by_cases hk:k≤b.length
 ·have e:(if j≤k then((Do (a.drop i) (b.drop k):Nat):Int) else 0)=0:=by
   split
   ·rcases h with h | h
    ·rw[VZ h];rfl
    ·rw[Wa Aeb];rfl
   ·rfl
  rw[Jm hk,e,Adq,if_pos Aeb]
 ·rw[AbE (by rw[FN];omega),AbE Aee]
theorem Wy{a b:List α}{i j:Nat}(h:j≤b.length):(GZ a b i (j+1)).set j ((Do (a.drop i) (b.drop j):Nat):Int)=GZ a b i j:=by
 apply Acv;intro k;by_cases hk:k≤b.length
 ·rw[Adf,Jm hk,Jm hk,FN];by_cases e:j=k
  ·subst e;simp;omega
  ·rw[if_neg e];by_cases h2:j+1≤k
   ·rw[if_pos h2,if_pos Aeb]
   ·rw[if_neg h2,if_neg Aeb]
 ·rw[AbE (by rw[Aco,FN];omega),AbE (by rw[FN];omega)]
omit [DecidableEq α] in
theorem NS{a b:List α}{i k:Nat}(h1:i<a.length)(h2:k<b.length):∃x y,a[i]?=some x∧b[k]?=some y:=⟨_,_,Aav h1,Aav h2⟩
end
theorem VS{l:List Int}{k:Nat}:(Ad l)[k]?=(l[k]?).map λz=>.int .i64 z:=by simp[Ad]
theorem DU(l:List Int)(k:Nat)(z:Int):(Ad l).set k (.int .i64 z)=Ad (l.set k z):=by simp[Ad]
theorem H0(l m:List Int):Ad (l++m)=Ad l++Ad m:=by simp[Ad]
theorem PY(n:Nat):Ad (List.replicate n 0)=List.replicate n (.int .i64 0):=by simp[Ad]
def Ku(n m j r:Nat):Nat:=if m≤r then 0 else if r+1=m then j else n
def HY{α:Type}[DecidableEq α](a b:List α)(m j r:Nat):Option (List Value):=if r≤a.length then some (Ad (GZ a b r (Ku b.length m j r))) else none
theorem IC{α:Type}[DecidableEq α]{a b:List α}{m j r:Nat}(h:r≤a.length):HY a b m j r=some (Ad (GZ a b r (Ku b.length m j r))):=if_pos h
theorem Ux{α:Type}[DecidableEq α]{a b:List α}{m r:Nat}:HY a b (m+1) 0 r=HY a b m b.length r:=by
 unfold HY;by_cases h:r≤a.length
 ·rw[if_pos h,if_pos h]
  congr 3
  unfold Ku
  split<;>split<;>(try split)<;>(try split)<;>first | rfl | omega
 ·rw[if_neg h,if_neg h]
theorem ID{α:Type}[DecidableEq α]{a b:List α}{r:Nat}:(if r<a.length+1 then some (List.replicate (b.length+1) (Value.int .i64 0)) else none)=HY a b a.length b.length r:=by
 unfold HY;by_cases h:r≤a.length
 ·rw[if_pos Aeb,if_pos h]
  congr 1
  rw[←PY]
  congr 1
  unfold Ku
  split
  ·rw[NT (.inl Aeb)]
  ·split<;>rw[NT (.inr (Ab2 _))]
 ·rw[if_neg Aeb,if_neg h]
theorem Oh{α:Type}[DecidableEq α]{a b:List α}{m j r:Nat}(hm:m<a.length)(hj:j<b.length){x:List Value}(hx:x=(Ad (GZ a b m (j+1))).set j (.int .i64 ((Do (a.drop m) (b.drop j):Nat):Int))):(if r=m then some x else HY a b (m+1) (j+1) r)=HY a b (m+1) j r:=by
 by_cases h:r=m
 ·subst h;rw[if_pos rfl,IC Aeb,hx,DU,Wy Aeb,Ku,if_neg Aeb,if_pos rfl]
 ·rw[if_neg h];unfold HY;by_cases h2:r≤a.length
  ·rw[if_pos h2,if_pos h2]
   congr 3
   unfold Ku
   split
   ·rfl
   ·rw[if_neg Aeb,if_neg Aeb]
  ·rw[if_neg h2,if_neg h2]
theorem AD.bound{ok:Addr→Prop}{w:World}{v:Value}{l:List (List UInt8)}(h:AD ok w v l):AD (λa=>ok a∧a.block<w.heap.size) w v l:=by
 obtain⟨h0,h | ⟨a,c,e,hk,hc⟩⟩:=h
 ·exact⟨h0,.inl h⟩
 ·refine⟨h0,.inr ⟨a,c,e,λhn=>⟨hk hn,?_⟩,hc⟩⟩;obtain⟨a',c',e',a0⟩:=Ai.lt (m:=1) ⟨h0,.inr ⟨a,c,e,hk,hc⟩⟩ Aeb hn;rw[e] at e';obtain⟨e1,-,-⟩:=AcN e';obtain rfl:=Ab9 e1;exact a0
structure KO(a b:List (List UInt8))(av bv:Value)(lo X O:Nat)(xs:List Value)(f:Nat→Nat)(m j:Nat)(w:World):Prop where
 bX:Blk w X [av,bv,.slice (some ⟨O,0,none⟩) (a.length+1) (a.length+1)] 316
 bO:Blk w O xs 75
 len:xs.length=a.length+1
 grid:ED 3 lo w xs (HY a b m j) f [O]
theorem KO.ext{a b:List (List UInt8)}{av bv:Value}{lo X O:Nat}{xs:List Value}{f:Nat→Nat}{m j:Nat}{w w':World}(h:KO a b av bv lo X O xs f m j w)(x:Ah w w'):KO a b av bv lo X O xs f m j w':=⟨h.bX.ext x,h.bO.ext x,h.len,h.grid.ext x⟩
theorem KO.row{a b:List (List UInt8)}{av bv:Value}{lo X O:Nat}{xs:List Value}{f:Nat→Nat}{m j:Nat}{w:World}(h:KO a b av bv lo X O xs f m j w){r:Nat}(hr:r≤a.length):w.cell? ((⟨O,0,none⟩:Addr).add (r*1))=some (.slice (some ⟨f r,0,none⟩) (b.length+1) (b.length+1)):=by
 have:=h.grid.row h.bO (IC hr)
 rwa [AC,FN] at this
theorem KO.cell{a b:List (List UInt8)}{av bv:Value}{lo X O:Nat}{xs:List Value}{f:Nat→Nat}{m j:Nat}{w:World}(h:KO a b av bv lo X O xs f m j w){r k:Nat}(hr:r≤a.length)(hk:k≤b.length)(hl:Ku b.length m j r≤k):w.cell? ((⟨f r,0,none⟩:Addr).add (k*1))=some (.int .i64 ((Do (a.drop r) (b.drop k):Nat):Int)):=by
 refine h.grid.cell (IC hr) ?_;rw[VS,Jm hk,if_pos hl];rfl
set_option maxRecDepth 8000 in
set_option maxHeartbeats 2000000 in
theorem XJ(a b:List (List UInt8))(av bv:Value)(X:Nat)(w:World)(ha:AD (λx=>x.block<X) w av a)(hb:AD (λx=>x.block<X) w bv b)(hla:a.length≤200)(hlb:b.length≤200)(hX:Blk w X [av,bv,.slice none 0 0] 316) :
  A9 prog 283 [.pointer (some ⟨X,0,none⟩)] w (λv w'=>v=.tuple #[]∧Chg [X] w w'∧∃O xs f,KO a b av bv w.heap.size X O xs f 0 b.length w'):=by
 obtain⟨p,c,rfl⟩:=Ai.slice ha;obtain⟨q,d,rfl⟩:=Ai.slice hb;have bj:=hX.lt;refine AG func283 ntmps283 ?_;refine Sw ?_;refine LW.makeSlice (m:=a.length+1) rfl rfl rfl rfl rfl rfl rfl Aeb rfl rfl ?_;intro O w1 bk ai hO;replace hX:=hX.ext ai;have bl:=ai.size;have bm:=hO.lt;refine Sw ?_;refine Cu λw2 aj hX=>?_;replace hX:Blk w2 X [.slice p a.length c,.slice q b.length d,.slice (some ⟨O,0,none⟩) (a.length+1) (a.length+1)] 316:=hX;replace hO:=hO.chg aj Aee;have bn:=aj.size;have ak:Chg [X] w w2:=ai.chg.same aj;refine Sw ?_;refine CW.loop (ι:=Nat×(Nat→Nat)×List Value) (λx w'=>x.1≤a.length+1∧Chg [O] w2 w'∧Blk w' O x.2.2 75∧x.2.2.length=a.length+1∧ED 3 w2.heap.size w' x.2.2 (λr=>if r<x.1 then some (List.replicate (b.length+1) (Value.int .i64 0)) else none) x.2.1 [O]) (λx=>[(0,.pointer (some ⟨X,0,none⟩)),(19,.int .i64 ((a.length+1:Nat):Int)),(20,.int .i64 x.1)]) (λx=>a.length+1 - x.1) (0,(λ_=>0),List.replicate (a.length+1) (.slice none 0 0)) ⟨Ac8 _,Chg.refl _ _,hO,by simp,ED.none.congr rfl (λr=>by simp) (λ_=>rfl)⟩ Bp ?_;rintro⟨k,f,xs⟩ w3 ⟨hk,a9,ad,ae,hG⟩;dsimp only at hk a9 ad ae hG;show CW _ _ _ _ _ [(0,.pointer (some ⟨X,0,none⟩)),(19,.int .i64 ((a.length+1:Nat):Int)),(20,.int .i64 (k:Int))] _;have al:=hX.chg a9 Aee;have bo:=a9.size;refine Sw ?_;refine Av (λh1=>?_) λh1=>?_
 ·have h1:k<a.length+1:=by simp at h1;omega
  refine Sw ?_;refine CW.drawG (Ah w3) 12 (λw' h=>h) Aec λwa b6=>?_;refine Bw ?_;refine Dm 11 λhS=>?_;refine LW.makeSlice (m:=b.length+1) rfl rfl rfl rfl rfl rfl rfl Aeb rfl rfl ?_;intro g w4 bp b7 b8;have af:=hS.trans b7;have bq:=hS.size;apply LW.nil;refine QW.headed af ?_;refine GW.tail rfl Aec (λhS=>?_);refine Sw ?_;refine LW.store (i:=0+((k:Nat):Int).toNat*1) (by show some (Value.pointer (some (Addr.add ⟨O,0,none⟩ (((k:Nat):Int).toNat*1))))=_;rw[A5]) rfl rfl (ad.ext af) (AbS (by show _+1≤_;omega)) rfl rfl λw5 a8 aq=>?_;rw[show 0+((k:Nat):Int).toNat*1=k by omega] at aq;have b9:=(hG.ext af).other a8 Aej;have am:=b8.chg a8 Aee;have ag:=b9.put (r:=k) (g:=g) (x:=List.replicate (b.length+1) (Value.int .i64 0)) Aeb am Aeb Aee (λq y hq _=>by have:=(hG.blk q y hq).1.lt;omega);refine Sw ?_;exact QW.again (k+1,(λq=>if q=k then g else f q),xs.set k (.slice (some ⟨g,0,none⟩) (b.length+1) (b.length+1))) ⟨h1,(a9.ext af).same a8,aq,by simpa using ae,ag.congr Aej (λr=>by
   by_cases e:r=k
   ·rw[if_pos e,if_pos Aeb]
   ·rw[if_neg e];by_cases e2:r<k
    ·rw[if_pos e2,if_pos (by show r<k+1;omega)]
    ·rw[if_neg e2,if_neg (by show ¬r<k+1;omega)]) (λ_=>rfl)⟩ Bp (by show a.length+1 - (k+1)<a.length+1 - k;omega)
 have h1:k=a.length+1:=by simp at h1;omega
 subst h1;have an:Chg [X] w w3:=ak.more a9 Aee;have ar:KO a b (.slice p a.length c) (.slice q b.length d) w.heap.size X O xs f a.length b.length w3:=⟨al,ad,ae,⟨λr x hr=>(hG.congr rfl (λr=>ID) (λ_=>rfl)).val r x hr,λr x hr=>by
  obtain⟨h1,h2,h3⟩:=(hG.congr rfl (λr=>ID) (λ_=>rfl)).blk r x hr;exact⟨h1,by omega,h3⟩,(hG.congr rfl (λr=>ID) (λ_=>rfl)).inj⟩⟩
 clear hG ad al hX hO ae;have al:=ar.bX;refine Sw ?_;refine CW.loop (ι:=Nat) (λm w'=>m≤a.length∧Chg [X] w w'∧KO a b (.slice p a.length c) (.slice q b.length d) w.heap.size X O xs f m b.length w') (λm=>[(0,.pointer (some ⟨X,0,none⟩)),(3,.int .i64 ((m:Int) - 1))]) (λm=>m) a.length ⟨Ab2 _,an,ar⟩ DT ?_;rintro m w4 ⟨hm,au,ao⟩;have br:=ao.bX;refine Sw ?_;refine Av (λh2=>?_) λh2=>?_;rotate_left
 ·have h2:m=0:=by simp at h2;omega
  subst h2;refine Sw ?_;exact QW.body_n (rs:=[]) (vs:=[]) results283 trivial rfl ⟨rfl,au,O,xs,f,ao⟩
 have h2:0<m:=by simp at h2;omega
 obtain⟨i,rfl⟩:∃i,m=i+1:=⟨m - 1,by omega⟩;have ei:(((i+1:Nat):Int) - 1)=(i:Int):=Aeb
 rw[ei];refine Sw ?_;refine CW.loop (ι:=Nat) (λj w'=>j≤b.length∧Chg [X] w w'∧KO a b (.slice p a.length c) (.slice q b.length d) w.heap.size X O xs f (i+1) j w') (λj=>[(0,.pointer (some ⟨X,0,none⟩)),(3,.int .i64 (i:Int)),(4,.int .i64 ((j:Int) - 1))]) (λj=>j) b.length ⟨Ab2 _,au,ao⟩ Bp ?_;rintro j w5 ⟨hj,a8,a1⟩;have aw:=a1.bX;refine Sw ?_;refine Av (λh3=>?_) λh3=>?_;rotate_left
 ·have h3:j=0:=by simp at h3;omega
  subst h3;refine Sw ?_;exact QW.again i ⟨by omega,a8,⟨a1.bX,a1.bO,a1.len,a1.grid.congr rfl (λr=>Ux) (λ_=>rfl)⟩⟩ DT Aeb
 have h3:0<j:=by simp at h3;omega
 obtain⟨k,rfl⟩:∃k,j=k+1:=⟨j - 1,by omega⟩;have ek:(((k+1:Nat):Int) - 1)=(k:Int):=Aeb
 rw[ek];have hi:i<a.length:=Aeb
 have hk:k<b.length:=Aeb
 obtain⟨x,y,ax,ay⟩:=NS hi hk;have az:w5.cell? ((⟨O,0,none⟩:Addr).add (((i:Nat):Int).toNat*1))=some (.slice (some ⟨f i,0,none⟩) (b.length+1) (b.length+1)):=a1.row (r:=i) Aeb;have b0:w5.cell? ((⟨O,0,none⟩:Addr).add ((((i:Nat):Int)+1).toNat*1))=some (.slice (some ⟨f (i+1),0,none⟩) (b.length+1) (b.length+1)):=a1.row (r:=i+1) Aeb;have hA:w5.cell? ((⟨f (i+1),0,none⟩:Addr).add (((k:Nat):Int).toNat*1))=some (.int .i64 ((Do (a.drop (i+1)) (b.drop k):Nat):Int)):=a1.cell (r:=i+1) (k:=k) Aeb Aeb (by simp[Ku]);have hB:w5.cell? ((⟨f i,0,none⟩:Addr).add ((((k:Nat):Int)+1).toNat*1))=some (.int .i64 ((Do (a.drop i) (b.drop (k+1)):Nat):Int)):=a1.cell (r:=i) (k:=k+1) Aeb Aeb (by rw[Ku,if_neg Aeb,if_pos rfl];omega);have hC:w5.cell? ((⟨f (i+1),0,none⟩:Addr).add ((((k:Nat):Int)+1).toNat*1))=some (.int .i64 ((Do (a.drop (i+1)) (b.drop (k+1)):Nat):Int)):=a1.cell (r:=i+1) (k:=k+1) Aeb Aeb (by simp[Ku]);have ba:=M7 (a.drop (i+1)) (b.drop (k+1));rw[AcI] at ba;have a6:HY a b (i+1) (k+1) i=some (Ad (GZ a b i (k+1))):=by
  rw[IC Aeb,Ku,if_neg Aeb,if_pos rfl]
 obtain⟨b1,bb,bc⟩:=a1.grid.blk i _ a6;have aa:HY a b (i+1) (k+1) (i+1)=some (Ad (GZ a b (i+1) 0)):=by
  rw[IC Aeb,Ku,if_pos Aeb]
 have bd:f (i+1)≠f i:=λe=>by have:=a1.grid.inj _ _ _ _ aa a6 e;omega
 have a3:f i≠O:=by simpa using bc
 have bs:(Ad (GZ a b i (k+1))).length=b.length+1:=by rw[AC,FN]
 refine Sw ?_;refine CW.drawG (Ah w5) 32 (λw' h=>h) Aec λwa b6=>?_;refine Bw ?_;refine GW.tail rfl Aec (λhS=>?_);refine LW.store (i:=0+((k:Nat):Int).toNat*1) (by show some (Value.pointer (some (Addr.add ⟨f i,0,none⟩ (((k:Nat):Int).toNat*1))))=_;rw[A5]) rfl rfl (b1.ext hS) (AbS (by show _+1≤_;omega)) rfl rfl λw6 a7 ap=>?_;rw[show 0+((k:Nat):Int).toNat*1=k by omega] at ap;have a4:Chg [X] w w6:=(a8.ext hS).more a7 Aee;have b2:=(aw.ext hS).chg a7 Aee;have b3:=(a1.bO.ext hS).chg a7 (by simpa using λe:O=f i=>a3 e.symm);have ag:=(a1.grid.ext hS).set a6 a7 ap;obtain⟨xa,be,-,-,bt⟩:=AD.at (AD.chg ha a4 (λ_ a0 h0=>by simp;omega)) ax;obtain⟨ya,bf,-,-,bu⟩:=AD.at (AD.chg hb a4 (λ_ a0 h0=>by simp;omega)) ay;subst be bf;have ab:w6.cell? ((⟨O,0,none⟩:Addr).add (((i:Nat):Int).toNat*1))=some (.slice (some ⟨f i,0,none⟩) (b.length+1) (b.length+1)):=Iq a7 (by rw[D9];simpa using λe:O=f i=>a3 e.symm) (Bm hS az);have ac:w6.cell? ((⟨O,0,none⟩:Addr).add ((((i:Nat):Int)+1).toNat*1))=some (.slice (some ⟨f (i+1),0,none⟩) (b.length+1) (b.length+1)):=Iq a7 (by rw[D9];simpa using λe:O=f i=>a3 e.symm) (Bm hS b0);have b4:w6.cell? ((⟨f (i+1),0,none⟩:Addr).add ((((k:Nat):Int)+1).toNat*1))=some (.int .i64 ((Do (a.drop (i+1)) (b.drop (k+1)):Nat):Int)):=Iq a7 (by rw[D9];simpa using bd) (Bm hS hC);clear az b0 hA hB hC aw b1;refine Sw ?_;refine Ig ?_;refine MO ?_;refine QL.nil λw7 a2=>?_;have a5:=Zr ax ay;refine Sa ?_;refine Av (λh4=>?_) λh4=>?_
 ·have h4:x=y:=by simpa using h4
  rw[if_pos h4] at a5;have bg:=b2.ext a2;replace ab:=Bm a2 ab;replace ac:=Bm a2 ac;replace b4:=Bm a2 b4;have bh:=ap.ext a2;refine Sw ?_;refine CW.drawG (Ah w7) 22 (λw' h=>h) Aec λwb bw=>?_;refine Bw ?_;refine GW.tail rfl Aec (λhS=>?_);refine LW.store (i:=0+((k:Nat):Int).toNat*1) (by show some (Value.pointer (some (Addr.add ⟨f i,0,none⟩ (((k:Nat):Int).toNat*1))))=_;rw[A5]) rfl rfl (bh.ext hS) (AbS (by show _+1≤_;rw[Aco];omega)) rfl rfl λw8 ah b5=>?_;rw[show 0+((k:Nat):Int).toNat*1=k by omega] at b5;have bi:=((ag.ext a2).ext hS).set (r:=i) (k:=k) (if_pos rfl) ah b5;refine Sw ?_;refine QW.again k ⟨by omega,((a4.ext a2).ext hS).more ah Aee,(bg.ext hS).chg ah Aee,((b3.ext a2).ext hS).chg ah (by simpa using λe:O=f i=>a3 e.symm),a1.len,bi.congr rfl (λr=>?_) (λ_=>rfl)⟩ Bp Aeb;rw[←Oh (r:=r) hi hk rfl];by_cases e:r=i
  ·rw[if_pos e,if_pos e,List.set_set,a5];rfl
  ·rw[if_neg e,if_neg e,if_neg e]
 ·have h4:x≠y:=by simpa using h4
  rw[if_neg h4] at a5;refine Sw ?_;refine QW.again k ⟨by omega,a4.ext a2,b2.ext a2,b3.ext a2,a1.len,(ag.ext a2).congr rfl (λr=>?_) (λ_=>rfl)⟩ Bp Aeb;rw[←Oh (r:=r) hi hk rfl];by_cases e:r=i
  ·rw[if_pos e,if_pos e,a5]
   congr 3
   rw[Nat.max_def]
   split<;>split<;>omega
  ·rw[if_neg e,if_neg e]
set_option maxRecDepth 8000 in
set_option maxHeartbeats 1000000 in
theorem YU(a b:List (List UInt8))(av bv:Value)(lo X O:Nat)(xs:List Value)(f:Nat→Nat)(w:World)(ha:Cw w av a)(hb:Cw w bv b)(hla:a.length≤200)(hlb:b.length≤200)(hT:KO a b av bv lo X O xs f 0 b.length w) :
  A9 prog 257 [.pointer (some ⟨X,0,none⟩)] w (λv w'=>∃xv yv,v=.tuple #[xv,yv]∧E.Own w' w.heap.size 3 1 xv (AX a b 0 0).length (Ad ((AX a b 0 0).map λz=>(z.1:Int)))∧E.Own w' w.heap.size 3 1 yv (AX a b 0 0).length (Ad ((AX a b 0 0).map λz=>(z.2:Int)))∧Ah w w'):=by
 obtain⟨p,c,rfl⟩:=ha.slice;obtain⟨q,d,rfl⟩:=hb.slice;have hX:=hT.bX;refine AG func257 ntmps257 ?_;refine Sa ?_;refine CW.loop (ι:=(Nat×Nat)×List (Nat×Nat)×Value×Value) (λx w'=>x.1.1≤a.length∧x.1.2≤b.length∧Ah w w'∧x.2.1.length≤x.1.1∧x.2.1++AX (a.drop x.1.1) (b.drop x.1.2) x.1.1 x.1.2=AX a b 0 0∧E.Own w' w.heap.size 3 1 x.2.2.1 x.2.1.length (Ad (x.2.1.map λz=>(z.1:Int)))∧E.Own w' w.heap.size 3 1 x.2.2.2 x.2.1.length (Ad (x.2.1.map λz=>(z.2:Int)))∧(∀g,g∈Ae x.2.2.1→g∉Ae x.2.2.2)) (λx=>[(0,.pointer (some ⟨X,0,none⟩)),(2,x.2.2.1),(3,x.2.2.2),(4,.int .i64 x.1.1),(5,.int .i64 x.1.2)]) (λx=>(a.length - x.1.1)+(b.length - x.1.2)) ((0,0),[],.slice none 0 0,.slice none 0 0) ⟨Ac8 _,Ac8 _,Chg.refl _ _,Ab2 _,by simp,Own.nil _ _ _ _,Own.nil _ _ _ _,by simp[Ae]⟩ CT ?_;rintro⟨⟨i,k⟩,ps,xv,yv⟩ w1 ⟨hi,hk,a5,ag,a0,a4,a2,hd⟩;dsimp only at hi hk ag a0 a4 a2 hd;show CW _ _ _ _ _ [(0,.pointer (some ⟨X,0,none⟩)),(2,xv),(3,yv),(4,.int .i64 (i:Int)),(5,.int .i64 (k:Int))] _;have am:=hX.ext a5;have an:=hT.ext a5;have aw:=a5.size;refine Sw ?_;by_cases h1:i<a.length;rotate_left
 ·refine LW.know (t:=13) (c:=false) rfl Aee ?_;refine Sw ?_;rw[NR (.inl Aeb),AbD] at a0;subst a0;exact QW.body2 rfl rfl rfl ⟨xv,yv,rfl,a4,a2,a5⟩
 refine LW.know (t:=13) (c:=true) rfl Aee ?_;refine Sw ?_;refine Av (λh2=>?_) λh2=>?_;rotate_left
 ·have h2:¬k<b.length:=by simp at h2;omega
  refine Sw ?_;rw[NR (.inr Aeb),AbD] at a0;subst a0;exact QW.body2 rfl rfl rfl ⟨xv,yv,rfl,a4,a2,a5⟩
 have h2:k<b.length:=by simp at h2;omega
 obtain⟨x,y,ah,ai⟩:=NS h1 h2;obtain⟨xa,ao,-,-,ax⟩:=AD.at (AD.ext ha a5) ah;obtain⟨ya,ap,-,-,ay⟩:=AD.at (AD.ext hb a5) ai;subst ao ap;have a6:=Wx ah ai;refine Sw ?_;refine Ig ?_;refine MO ?_;refine QL.nil λw2 a3=>?_;have a7:=a5.trans a3;have az:=am.ext a3;have ab:=an.ext a3;refine Sa ?_;refine Av (λh3=>?_) λh3=>?_
 ·have h3:x=y:=by simpa using h3
  rw[if_pos h3] at a6;rw[a6] at a0;replace a4:=a4.ext a3;replace a2:=a2.ext a3;have b0:=a3.size;refine Sa ?_;refine CR λC w3 b1 a1 hC=>?_;refine Sa ?_;refine LW.append (lo:=w.heap.size) (k:=ps.length) rfl rfl rfl rfl rfl rfl (a4.ext a1) (by have:=a1.size;omega) hC rfl rfl rfl Afm rfl ?_;intro xv' w4 ac a8 aq;have ad:=(a2.ext a1).chg ac (λg hg hm=>hd g hm hg);have b2:=ac.size;have b3:=a1.size;refine Sa ?_;refine CR λF w5 b4 a9 hF=>?_;refine Sa ?_;refine LW.append (lo:=w.heap.size) (k:=ps.length) rfl rfl rfl rfl rfl rfl (ad.ext a9) (by have:=a9.size;omega) hF rfl rfl rfl Afm rfl ?_;intro yv' w6 aj ae ar;have ak:∀g,g∈Ae xv'→g∉Ae yv:=λg hg hm=>by
   rcases aq g hg with h | h
   ·exact hd g h hm
   ·have:=(a2.lt hm).2;omega
  have af:=(a8.ext a9).chg aj (λg hg hm=>ak g hg hm);refine Sa ?_;refine QW.again ((i+1,k+1),ps++[(i,k)],xv',yv') ⟨by show i+1≤_;omega,by show k+1≤_;omega,(((a7.trans a1).step ac (λb hb=>(a4.lt hb).1)).trans a9).step aj (λb hb=>(a2.lt hb).1),by simp;omega,by simpa using a0,?_,?_,λg hg hm=>?_⟩ CT (by show(a.length - (i+1))+(b.length - (k+1))<(a.length - i)+(b.length - k);omega)
  ·show E.Own _ _ _ _ xv' (ps++[(i,k)]).length (Ad ((ps++[(i,k)]).map λz=>(z.1:Int)));rw[AbX,H0,Aa9];exact af
  ·show E.Own _ _ _ _ yv' (ps++[(i,k)]).length (Ad ((ps++[(i,k)]).map λz=>(z.2:Int)));rw[AbX,H0,Aa9];exact ae
  ·have al:g∈Ae xv':=hg;have au:g∈Ae yv':=hm;rcases ar g au with h | h
   ·exact ak g al h
   ·have:=(a8.lt al).2;have:=a9.size;omega
 have h3:x≠y:=by simpa using h3
 rw[if_neg h3] at a6;have b5:w2.cell? ((⟨O,0,none⟩:Addr).add (((i:Nat):Int).toNat*1))=some (.slice (some ⟨f i,0,none⟩) (b.length+1) (b.length+1)):=ab.row (r:=i) Aeb;have b6:w2.cell? ((⟨O,0,none⟩:Addr).add ((((i:Nat):Int)+1).toNat*1))=some (.slice (some ⟨f (i+1),0,none⟩) (b.length+1) (b.length+1)):=ab.row (r:=i+1) Aeb;have hA:w2.cell? ((⟨f (i+1),0,none⟩:Addr).add (((k:Nat):Int).toNat*1))=some (.int .i64 ((Do (a.drop (i+1)) (b.drop k):Nat):Int)):=ab.cell (r:=i+1) (k:=k) Aeb Aeb (by simp[Ku]);have hB:w2.cell? ((⟨f i,0,none⟩:Addr).add ((((k:Nat):Int)+1).toNat*1))=some (.int .i64 ((Do (a.drop i) (b.drop (k+1)):Nat):Int)):=ab.cell (r:=i) (k:=k+1) Aeb Aeb (by simp[Ku]);refine Sw ?_;refine Ig ?_;refine MO ?_;refine QL.nil λw3 a1=>?_;have aa:=a7.trans a1;refine Sa ?_;refine Av (λh4=>?_) λh4=>?_
 ·have h4:Do (a.drop i) (b.drop (k+1))≤Do (a.drop (i+1)) (b.drop k):=by simp at h4;omega
  rw[a6,if_pos h4] at a0;refine Sa ?_;exact QW.again ((i+1,k),ps,xv,yv) ⟨by show i+1≤_;omega,hk,aa,by show ps.length≤i+1;omega,a0,a4.ext (a3.trans a1),a2.ext (a3.trans a1),hd⟩ CT (by show(a.length - (i+1))+(b.length - k)<(a.length - i)+(b.length - k);omega)
 ·have h4:¬Do (a.drop i) (b.drop (k+1))≤Do (a.drop (i+1)) (b.drop k):=by simp at h4;omega
  rw[a6,if_neg h4] at a0;refine Sa ?_;exact QW.again ((i,k+1),ps,xv,yv) ⟨hi,by show k+1≤_;omega,aa,ag,a0,a4.ext (a3.trans a1),a2.ext (a3.trans a1),hd⟩ CT (by show(a.length - i)+(b.length - (k+1))<(a.length - i)+(b.length - k);omega)
theorem R6(a b:List (List UInt8))(av bv:Value)(w:World)(ha:Cw w av a)(hb:Cw w bv b)(hla:a.length≤200)(hlb:b.length≤200):A9 prog 256 [av,bv] w (λv w'=>∃X O xs f lo,v=.tuple #[.pointer (some ⟨X,0,none⟩),.bool true]∧KO a b av bv lo X O xs f 0 b.length w'∧Ah w w'):=by
 obtain⟨p,c,rfl⟩:=ha.slice;obtain⟨q,d,rfl⟩:=hb.slice;have a2:=AD.bound ha;have a3:=AD.bound hb;refine AG func256 ntmps256 ?_;refine Sa ?_;refine LW.know (t:=11) (c:=false) rfl Aee ?_;refine Sa ?_;refine CW.no rfl Aee ?_;refine Sa ?_;refine C0 λX w1 a5 a1 hX=>?_;replace hX:Blk w1 X [.slice p a.length c,.slice q b.length d,.slice none 0 0] 316:=hX;refine Sa ?_;refine LW.call (fs:=[.pointer (some ⟨X,0,none⟩)]) (cs:=[]) rfl rfl rfl (XJ a b _ _ X w1 (Ai.map (AD.ext a2 a1) (λa0 h0=>by have:=h0.2;omega) λ_ _ _ _ h=>h) (Ai.map (AD.ext a3 a1) (λa0 h0=>by have:=h0.2;omega) λ_ _ _ _ h=>h) hla hlb hX) ?_;rintro v w2 ⟨rfl,a4,O,xs,f,hT⟩;refine Sa ?_;exact QW.body2 rfl rfl rfl ⟨X,O,xs,f,_,rfl,hT,a1.step a4 Aee⟩
theorem Vu(a b:List (List UInt8))(av bv:Value)(w:World)(ha:Cw w av a)(hb:Cw w bv b)(hla:a.length≤200)(hlb:b.length≤200):A9 prog 208 [av,bv] w (λv w'=>∃xv yv,v=.tuple #[xv,yv]∧E.Own w' w.heap.size 3 1 xv (AX a b 0 0).length (Ad ((AX a b 0 0).map λz=>(z.1:Int)))∧E.Own w' w.heap.size 3 1 yv (AX a b 0 0).length (Ad ((AX a b 0 0).map λz=>(z.2:Int)))∧Ah w w'):=by
 refine AG func208 ntmps208 ?_;refine Sa ?_;refine Ap rfl rfl (R6 a b av bv w ha hb hla hlb) ?_;rintro v w1 ⟨X,O,xs,f,lo,rfl,hT,a0⟩;refine Sa ?_;refine Ap rfl rfl (YU a b av bv lo X O xs f w1 (ha.ext a0) (hb.ext a0) hla hlb hT) ?_;rintro v w2 ⟨xv,yv,rfl,a1,a2,a3⟩;refine Sa ?_;exact QW.body2 rfl rfl rfl ⟨xv,yv,rfl,a1.low a0.size,a2.low a0.size,a0.trans a3⟩
theorem HC{α:Type}[DecidableEq α]:∀(a b:List α) (i k:Nat),(AX a b i k).length≤a.length
 | [],_,_,_=>by simp[AX]
 | _::_,[],_,_=>by simp[AX]
 | x::a,y::b,i,k=>by
  have h1:=HC a b (i+1) (k+1);have h2:=HC a (y::b) (i+1) k;have h3:=HC (x::a) b i (k+1);simp only[AX]
  split
  ·simp only[Abe];omega
  ·split
   ·simp only[Abe] at *;omega
   ·exact h3
 termination_by a b=>a.length+b.length
theorem Qj(n:Nat)(ps:List (Nat×Nat))(p:Nat×Nat):Ce n (ps++[p])=(Ce n ps).set p.1 (p.2:Int):=by simp[Ce]
theorem R8{n:Nat}{ps:List (Nat×Nat)}{z:Int}(hz:z∈Ce n ps):z=-1∨∃p∈ps,z=(p.2:Int):=by
 have key:∀(qs ps:List (Nat×Nat)) (l:List Int),(∀p∈ps,p∈qs)→(∀z∈l,z=-1∨∃p∈qs,z=(p.2:Int))→∀z∈ps.foldl (λl p=>l.set p.1 (p.2:Int)) l,z=-1∨∃p∈qs,z=(p.2:Int):=by
  intro qs ps
  induction ps with
  | nil=>intro l _ hl z hz;exact hl z hz
  | cons p ps ih=>
   intro l hq hl z hz;refine ih (l.set p.1 (p.2:Int)) (λp hp=>hq p (Ab5 _ hp)) (λy hy=>?_) z hz;rcases List.mem_or_eq_of_mem_set hy with h | h
   ·exact hl y h
   ·exact .inr ⟨p,hq p (AbC ..),h⟩
 exact key ps ps _ (λ_ h=>h) (λz hz=>.inl (List.mem_replicate.1 hz).2) z hz
theorem Rm(n k:Nat)(hk:k<n):(Ad (List.replicate k (-1)++List.replicate (n - k) 0)).set (0+((k:Nat):Int).toNat*1) (.int .i64 (-1))=Ad (List.replicate (k+1) (-1)++List.replicate (n - (k+1)) 0):=by
 rw[show 0+((k:Nat):Int).toNat*1=k by omega];simp only[Ad,←List.map_set];rw[Ac0 _ _ Aej,AcA,AcQ,show n - k=(n - (k+1))+1 by omega,Acy,AcX,List.replicate_succ',Abn];rfl
theorem JM{w:World}{lo n c:Nat}{p:Option Addr}{zs:List Int}(h:E.Own w lo 3 1 (.slice p n c) n (Ad zs)){i:Nat}{z:Int}(hi:zs[i]?=some z):∃g,p=some ⟨g,0,none⟩∧w.cell? ((⟨g,0,none⟩:Addr).add (((i:Nat):Int).toNat*1))=some (.int .i64 z):=by
 have a0:=(Abo.1 hi).1;have hl:=h.1;rw[AC] at hl;obtain⟨g,cap,sp,e,hB,-⟩:=h.get Aeb;obtain⟨rfl,-,rfl⟩:=AcN e;refine⟨g,rfl,?_⟩;rw[A5];refine hB.cell ?_;rw[show 0+((i:Nat):Int).toNat*1=i by omega,Ab6 (by rw[AC];exact a0)];simp[Ad,hi]
theorem X4{w:World}{T n c:Nat}{zs:List Int}{t:TypeId}(h:Blk w T (Ad zs) t)(hn:zs.length=n)(hl:n≤100000):AP w (.slice (some ⟨T,0,none⟩) n c) zs:=by
 subst hn;exact⟨by omega,.inr ⟨⟨T,0,none⟩,c,rfl,λj z hj=>by rw[A5];exact h.cell (by simp[Ad,hj])⟩⟩
set_option maxRecDepth 8000 in
set_option maxHeartbeats 2000000 in
theorem NQ(a b:List (List UInt8))(av bv:Value)(w:World)(ha:Cw w av a)(hb:Cw w bv b)(hla:a.length≤200)(hlb:b.length≤200):A9 prog 159 [av,bv] w (λv w'=>∃tv,v=.agg ⟨[tv,.int .i64 ((b.length:Nat):Int)]⟩∧E.Own w' w.heap.size 3 1 tv a.length (Ad (DE a b))∧Ah w w'):=by
 obtain⟨p,c,rfl⟩:=ha.slice;obtain⟨q,d,rfl⟩:=hb.slice;have ab:∀z∈AX a b 0 0,z.1<a.length∧z.2<b.length:=λz hz=>by have:=Jl a b 0 0 z hz;omega
 have ao:=HC a b 0 0;generalize ah:AX a b 0 0=ps at ab ao;refine AG func159 ntmps159 ?_;apply CW.seq;apply CW.region;refine Sl ?_;refine B1 λR w1 b4 ai hR=>?_;have ap:=ai.size;have b5:=hR.lt;refine Sa ?_;refine LW.makeSlice (m:=a.length) rfl rfl rfl rfl rfl rfl rfl Aeb rfl rfl ?_;intro T w2 b6 ac hT;have aq:=ac.size;have b7:=hT.lt;refine Sa ?_;refine B1 λX w3 b8 aj hX=>?_;have b9:=aj.size;have ba:=hX.lt;have bb:=hX;refine Sa ?_;refine AF λw4 ar hX=>?_;replace hX:Blk w4 X [.slice (some ⟨T,0,none⟩) a.length a.length,.int .i64 ((b.length:Nat):Int)] 77:=hX;have a0:Ah w2 w4:=aj.step ar Aee;replace hR:=(hR.ext ac).ext a0;replace hT:=hT.ext a0;have ad:Ah w w4:=(ai.trans ac).trans a0;have bc:=a0.size;have e0:List.replicate a.length (Value.int .i64 0)=Ad (List.replicate 0 (-1)++List.replicate (a.length - 0) 0):=by simp[Ad]
 rw[e0] at hT;refine Sw ?_;refine CW.loop (ι:=Nat) (λk w'=>k≤a.length∧Chg [T] w4 w'∧Blk w' T (Ad (List.replicate k (-1)++List.replicate (a.length - k) 0)) 3) (λk=>[(0,.slice p a.length c),(1,.slice q b.length d),(4,.pointer (some ⟨R,0,none⟩)),(5,.pointer (some ⟨X,0,none⟩)),(18,.int .i64 a.length),(19,.int .i64 k)]) (λk=>a.length - k) 0 ⟨by omega,Chg.refl _ _,hT⟩ Ib ?_;rintro k w5 ⟨hk,a4,ak⟩;have au:=hX.chg a4 Aee;refine Sw ?_;refine Av (λh1=>?_) λh1=>?_
 ·have h1:k<a.length:=by simp at h1;omega
  refine Sw ?_;refine LW.store (i:=0+((k:Nat):Int).toNat*1) Aex rfl rfl ak (AbS (by show _+1≤_;rw[AC,Aa9,AcA,AcA];omega)) rfl rfl λw6 aw a5=>?_;rw[Rm a.length k h1] at a5;refine Sw ?_;exact QW.again (k+1) ⟨by omega,a4.same aw,a5⟩ Ib Aeb
 have h1:k=a.length:=by simp at h1;omega
 subst h1;have a1:Ah w w5:=ad.step a4 Aee;have ax:=hR.chg a4 Aee;have bd:=a4.size;refine Sw ?_;refine Ap rfl rfl (Vu a b _ _ w5 (ha.ext a1) (hb.ext a1) hla hlb) ?_;rintro v w6 ⟨xv,yv,rfl,a9,aa,a6⟩;rw[ah] at a9 aa;obtain⟨xp,xc,rfl⟩:=a9.slice;obtain⟨yp,yc,rfl⟩:=aa.slice;have be:=a6.size;have ay:=ax.ext a6;have az:=au.ext a6;have a5:=ak.ext a6;have e1:List.replicate a.length (-1)++List.replicate (a.length - a.length) 0=Ce a.length (ps.take 0):=by simp[Ce]
 rw[e1] at a5;refine Sw ?_;refine CW.loop (ι:=Nat) (λk w'=>k≤ps.length∧Chg [T] w6 w'∧Blk w' T (Ad (Ce a.length (ps.take k))) 3) (λk=>[(4,.pointer (some ⟨R,0,none⟩)),(5,.pointer (some ⟨X,0,none⟩)),(7,.slice xp ps.length xc),(8,.slice yp ps.length yc),(34,.int .i64 ps.length),(35,.int .i64 k)]) (λk=>ps.length - k) 0 ⟨by omega,Chg.refl _ _,a5⟩ Ib ?_;rintro k w7 ⟨hk,a2,ae⟩;have bf:=az.chg a2 Aee;have a3:=ay.chg a2 Aee;have bg:∀v,∀b∈Ae v,w5.heap.size≤b→b≠T:=λ_ b _ h=>by omega
 have af:=a9.chg a2 (λb hb=>by have:=(a9.lt hb).1;simp;omega);have ag:=aa.chg a2 (λb hb=>by have:=(aa.lt hb).1;simp;omega);have bh:=a2.size;refine Sw ?_;refine Av (λh2=>?_) λh2=>?_
 ·have h2:k<ps.length:=by simp at h2;omega
  obtain⟨z,hz⟩:∃z,ps[k]?=some z:=⟨_,Aav h2⟩;obtain⟨ap,aq⟩:=ab z (Ab4 hz);obtain⟨xg,rfl,bi⟩:=JM af (i:=k) (z:=(z.1:Int)) (by simp[hz]);obtain⟨yg,rfl,bj⟩:=JM ag (i:=k) (z:=(z.2:Int)) (by simp[hz]);refine Sw ?_;refine CW.drawG (Ah w7) 11 (λw' h=>h) Aec λwa bk=>?_;refine Bw ?_;refine GW.tail rfl Aec (λhS=>?_);refine LW.store (i:=0+((z.1:Nat):Int).toNat*1) (by show some (Value.pointer (some (Addr.add ⟨T,0,none⟩ (((z.1:Nat):Int).toNat*1))))=_;rw[A5]) rfl rfl (ae.ext hS) (AbS (by show _+1≤_;rw[AC,Fb];omega)) rfl rfl λw8 b0 al=>?_;have e2:(Ad (Ce a.length (ps.take k))).set (0+((z.1:Nat):Int).toNat*1) (.int .i64 (z.2:Int))=Ad (Ce a.length (ps.take (k+1))):=by
   rw[show 0+((z.1:Nat):Int).toNat*1=z.1 by omega,DU,AbO,hz];show _=Ad (Ce a.length (ps.take k++[z]));rw[Qj]
  rw[e2] at al;refine Sw ?_;exact QW.again (k+1) ⟨by omega,(a2.ext hS).same b0,al⟩ Ib Aeb
 have h2:k=ps.length:=by simp at h2;omega
 subst h2;rw[AbQ] at ae;have a7:Ah w w7:=by
  have h1:Chg [T] w5 w7:=(a6.chg).same a2;exact a1.step h1 Aee
 have b1:AP w7 (.slice (some ⟨T,0,none⟩) a.length a.length) (Ce a.length ps):=X4 ae (Fb _ _) Aeb;have b2:∀z∈Ce a.length ps,-1≤z∧z≤1000000:=λz hz=>by
  rcases R8 hz with rfl | ⟨y,hy,rfl⟩
  ·omega
  ·have:=ab y hy;omega
 refine Sw ?_;refine Ap rfl rfl (TF ⟨Ce a.length ps,((b.length:Nat):Int)⟩ _ w7 b1 (by rw[Fb];omega) b2 (by show(0:Int)≤((b.length:Nat):Int);omega) (by show((b.length:Nat):Int)≤1000000;omega)) ?_;rintro v w8 ⟨tv,rfl,a8,am⟩;dsimp only at a8;rw[Fb] at a8;replace a3:=a3.ext am;have b3:∀b∈Ae tv,b≠R:=λb hb=>by have:=(a8.lt hb).1;omega
 obtain⟨tp,tc,rfl⟩:=a8.slice;refine Sa ?_;refine AF λw9 an a3=>?_;replace a3:Blk w9 R [.slice tp a.length tc,.int .i64 ((b.length:Nat):Int)] 77:=a3;refine Sa ?_;refine QW.body_c rfl rfl a3 rfl rfl rfl ⟨_,rfl,?_,(a7.trans am).step an Aee⟩;have h9:=(a8.chg an (λb hb=>by simp only[Aah];exact b3 b hb)).low (lo':=w.heap.size) (by have:=a7.size;omega);rw[DE,ah];exact h9
theorem Nt{s:Af}(hs:Dy s){w:World}{lo:Nat}{v:Value}(h:E.Own w lo 9 1 v (s.rows.map EH).length ((s.rows.map EH).map Aq)):Cw w v (s.rows.map EH):=
 HB h (by have:=hs.rows;simp;omega) λt ht=>by
  simp only[AbZ] at ht;obtain⟨r,hr,rfl⟩:=ht;have:=XY (hs.row hr);omega
set_option maxRecDepth 8000 in
set_option maxHeartbeats 1000000 in
theorem V1(a b:Af)(ra rb:Value)(w:World)(ha:CS w ra a.rows)(hb:CS w rb b.rows)(hsa:Dy a)(hsb:Dy b):A9 prog 108 [.agg ⟨Az a ra⟩,.agg ⟨Az b rb⟩] w (λv w'=>∃tv,v=.agg ⟨[tv,.int .i64 ((b.rows.length:Nat):Int)]⟩∧E.Own w' w.heap.size 3 1 tv a.rows.length (Ad (Bb a b))∧Ah w w'):=by
 obtain⟨p,c,rfl⟩:=ha.slice;obtain⟨q,d,rfl⟩:=hb.slice;have af:=hsa.rows;have ag:=hsb.rows;refine AG func108 ntmps108 ?_;apply CW.seq;apply CW.region;refine Sl ?_;refine C0 λA w1 ah a7 hA=>?_;replace hA:Blk w1 A (Az a (.slice p a.rows.length c)) 46:=hA;refine Sl ?_;refine C0 λB w2 ai a2 hB=>?_;replace hB:Blk w2 B (Az b (.slice q b.rows.length d)) 46:=hB;refine Sa ?_;refine B1 λR w3 aj a3 hR=>?_;replace hA:=(hA.ext a2).ext a3;replace hB:=hB.ext a3;have a0:=(a7.trans a2).trans a3;have ak:=a0.size;have al:=hR.lt;have am:w.heap.size≤R:=by have:=a7.size;have:=a2.size;omega
 refine Sa ?_;refine CW.drawG (Ah w3) 5 (λw' h=>h) Aec λwa an=>?_;refine Bw ?_;refine Dm 1 λhS=>?_;refine Ap rfl rfl (Ry a _ _ (ha.ext (a0.trans hS)) hsa) ?_;rintro v w4 ⟨a8,ac⟩;have a4:=hS.trans ac;obtain⟨kp,kc,rfl⟩:=a8.slice;apply LW.nil;refine QW.headed a4 ?_;refine Bw ?_;refine Dm 3 λhS=>?_;refine Ap rfl rfl (Ry b _ _ (hb.ext (a0.trans a4)) hsb) ?_;rintro v w5 ⟨a9,aa⟩;have a5:=a4.trans aa;obtain⟨lp,lc,rfl⟩:=a9.slice;apply LW.nil;refine QW.headed a5 ?_;refine Bw ?_;refine Dm 4 λhS=>?_;refine Ap rfl rfl (NQ _ _ _ _ w5 (Nt hsa (a8.ext aa)) (Nt hsb a9) Aee Aee) ?_;rintro v w6 ⟨tv,rfl,a1,ad⟩;have a6:=a5.trans ad;obtain⟨tp,tc,rfl⟩:=a1.slice;replace hR:=hR.ext a6;have ao:=a5.size;have e1:(a.rows.map EH).length=a.rows.length:=Aej
 have e2:(b.rows.map EH).length=b.rows.length:=Aej
 rw[e1] at a1;have ae:R∉Ae (.slice tp a.rows.length tc):=λhm=>by have:=(a1.lt hm).1;omega
 apply LW.nil;refine QW.headed a6 ?_;refine GW.tail rfl Aec (λhS=>?_);refine AF λw7 ab hR=>?_;replace hR:Blk w7 R [.slice tp a.rows.length tc,.int .i64 ((b.rows.length:Nat):Int)] 77:=by rw[←e1,←e2];exact hR
 refine Sa ?_;refine QW.body_c rfl rfl hR rfl rfl rfl ⟨_,rfl,?_,(a0.trans a6).step ab Aee⟩;exact(a1.chg ab (λb hb=>by simp only[Aah];exact λe=>ae (e ▸ hb))).low Aeb
def GB(a b:Af)(m:List Int)(i:Nat):Option (Nat×Nat):=match (m[i]?:Option Int) with
 | none=>none
 | some (k:Int)=>if 0≤k∧k<b.rows.length∧EH (a.rows.getD i [])=EH (b.rows.getD k.toNat []) then some (i,k.toNat) else none
def Cx(a b:Af)(m:List Int)(k:Nat):List (Nat×Nat):=(List.range k).filterMap (GB a b m)
theorem Ty(a b:Af)(m:List Int):Cx a b m a.rows.length=Dh a b m:=rfl
theorem Im(a b:Af)(m:List Int)(k:Nat):Cx a b m (k+1)=Cx a b m k++(GB a b m k).toList:=by
 rw[Cx,Acl,List.filterMap_append];cases h:GB a b m k<;>simp[Cx,h]
theorem V2{a b:Af}{m:List Int}{k:Nat}{p:Nat×Nat}(h:GB a b m k=some p):p.1=k∧p.2<b.rows.length:=by
 unfold GB at h
 split at h
 ·cases h
 ·split at h
  ·rename_i hc;obtain rfl:=Ab9 h;exact⟨rfl,by omega⟩
  ·cases h
theorem MR{a b:Af}{m:List Int}{k:Nat}{p:Nat×Nat}(h:p∈Cx a b m k):p.1<k∧p.2<b.rows.length:=by
 simp only[Cx,List.mem_filterMap,Ac1] at h;obtain⟨i,hi,hf⟩:=h;obtain⟨h1,h2⟩:=V2 hf;omega
theorem MQ(a b:Af)(m:List Int)(k:Nat):(Cx a b m k).length≤k:=by
 have:=List.length_filterMap_le (GB a b m) (List.range k)
 simpa[Cx] using this
theorem Np{l:List (List (List UInt8))}{i:Nat}{r:List (List UInt8)}(h:l[i]?=some r):l.getD i []=r:=by rw[AaA,h];rfl
theorem J3{s:Af}(hs:Dy s){rs:List Nat}(hr:∀r∈rs,r<s.rows.length)(hl:rs.length≤100){w:World}{lo:Nat}{v:Value}(h:E.Own w lo 9 1 v (B9 s rs).length ((B9 s rs).map Aq)):Cw w v (B9 s rs):=
 HB h (by have:=hs.cols;simp[B9];omega) λt ht=>by
  simp only[B9,AbZ,Ac1] at ht;obtain⟨k,hk,rfl⟩:=ht;have:=Pt (LS hs hr hl (c:=k) (by have:=hs.cols;omega));show(Jy (EY s rs k)).length≤_;omega
set_option maxRecDepth 8000 in
set_option maxHeartbeats 2000000 in
theorem V0(a b:Af)(ra rb mv:Value)(m:List Int)(w:World)(ha:CS w ra a.rows)(hb:CS w rb b.rows)(hsa:Dy a)(hsb:Dy b)(hm:AP w mv m)(hml:m.length=a.rows.length)(hmz:∀z∈m,-1≤z∧z<b.rows.length)(nw:Int):A9 prog 109 [.agg ⟨Az a ra⟩,.agg ⟨Az b rb⟩,.agg ⟨[mv,.int .i64 nw]⟩] w (λv w'=>∃tv,v=.agg ⟨[tv,.int .i64 ((b.cols.toNat:Nat):Int)]⟩∧E.Own w' w.heap.size 3 1 tv a.cols.toNat (Ad (D3 a b m))∧Ah w w'):=by
 obtain⟨p,c,rfl⟩:=ha.slice;obtain⟨q,d,rfl⟩:=hb.slice;obtain⟨mp,mc,rfl⟩:=hm.slice;have bl:=hsa.rows;have bm:=hsb.rows;obtain⟨b5,b6⟩:=hsa.cols;obtain⟨b7,b8⟩:=hsb.cols;refine AG func109 ntmps109 ?_;apply CW.seq;apply CW.region;refine Sl ?_;refine C0 λA w1 bn az hA=>?_;replace hA:Blk w1 A (Az a (.slice p a.rows.length c)) 46:=hA;refine Sl ?_;refine C0 λB w2 bo an hB=>?_;replace hB:Blk w2 B (Az b (.slice q b.rows.length d)) 46:=hB;refine Sl ?_;refine C0 λM w3 bp aj hM=>?_;replace hM:Blk w3 M [.slice mp m.length mc,.int .i64 nw] 77:=hM;refine Sa ?_;refine B1 λR w4 bq ak hR=>?_;replace hA:=((hA.ext an).ext aj).ext ak;replace hB:=(hB.ext aj).ext ak;replace hM:=hM.ext ak;have a9:=((az.trans an).trans aj).trans ak;have br:=a9.size;have bs:=hR.lt;have bt:w.heap.size≤R:=by have:=az.size;have:=an.size;have:=aj.size;omega
 refine Sw ?_;refine CW.loop (ι:=Nat×Value×Value) (λx w'=>x.1≤a.rows.length∧Ah w4 w'∧E.Own w' w4.heap.size 3 1 x.2.1 (Cx a b m x.1).length (Ad ((Cx a b m x.1).map λz=>(z.1:Int)))∧E.Own w' w4.heap.size 3 1 x.2.2 (Cx a b m x.1).length (Ad ((Cx a b m x.1).map λz=>(z.2:Int)))∧(∀g,g∈Ae x.2.1→g∉Ae x.2.2)) (λx=>[(3,.pointer (some ⟨A,0,none⟩)),(4,.pointer (some ⟨B,0,none⟩)),(6,.pointer (some ⟨R,0,none⟩)),(7,x.2.1),(8,x.2.2),(12,.slice mp m.length mc),(13,.int .i64 m.length),(14,.int .i64 x.1)]) (λx=>a.rows.length - x.1) (0,.slice none 0 0,.slice none 0 0) ⟨Ac8 _,Chg.refl _ _,E.Own.nil _ _ _ _,E.Own.nil _ _ _ _,by simp[Ae]⟩ Xs ?_;rintro⟨k,xv,yv⟩ w5 ⟨hk,a5,a6,a3,hd⟩;dsimp only at hk a6 a3 hd;show CW _ _ _ _ _ [(3,.pointer (some ⟨A,0,none⟩)),(4,.pointer (some ⟨B,0,none⟩)),(6,.pointer (some ⟨R,0,none⟩)),(7,xv),(8,yv),(12,.slice mp m.length mc),(13,.int .i64 m.length),(14,.int .i64 (k:Int))] _;have bu:=a5.size;have bv:=MQ a b m k;replace hA:=hA.ext a5;replace hB:=hB.ext a5;refine Sa ?_;refine Av (λh1=>?_) λh1=>?_;rotate_left
 ·have h1:k=a.rows.length:=by simp at h1;omega
  subst h1;rw[Ty] at a6 a3;have a0:=a9.trans a5;have ad:∀r∈(Dh a b m).map Prod.fst,r<a.rows.length:=λr hr=>by
   simp only[AbZ] at hr;obtain⟨z,hz,rfl⟩:=hr;exact(MR (k:=a.rows.length) hz).1
  have ae:∀r∈(Dh a b m).map Prod.snd,r<b.rows.length:=λr hr=>by
   simp only[AbZ] at hr;obtain⟨z,hz,rfl⟩:=hr;exact(MR (k:=a.rows.length) hz).2
  have bw:(Dh a b m).length≤a.rows.length:=MQ a b m a.rows.length;have b9:AP w5 xv (QF ((Dh a b m).map Prod.fst)):=by
   have e:QF ((Dh a b m).map Prod.fst)=(Dh a b m).map λz=>(z.1:Int):=by simp[QF]
   rw[e];exact Own.ints a6 Aej Aee
  have ba:AP w5 yv (QF ((Dh a b m).map Prod.snd)):=by
   have e:QF ((Dh a b m).map Prod.snd)=(Dh a b m).map λz=>(z.2:Int):=by simp[QF]
   rw[e];exact Own.ints a3 Aej Aee
  replace hR:=hR.ext a5;refine Sa ?_;refine CW.drawG (Ah w5) 7 (λw' h=>h) Aec λwa bb=>?_;refine Bw ?_;refine Dm 2 λhS=>?_;refine Ap rfl rfl (LU a _ _ _ _ (ha.ext (a0.trans hS)) hsa (b9.ext hS) ad Aee) ?_;rintro v w6 ⟨b0,ao⟩;have a7:=hS.trans ao;obtain⟨kp,kc,rfl⟩:=b0.slice;apply LW.nil;refine QW.headed a7 ?_;refine Bw ?_;refine Dm 5 λhS=>?_;refine Ap rfl rfl (LU b _ _ _ _ (hb.ext (a0.trans a7)) hsb (ba.ext a7) ae Aee) ?_;rintro v w7 ⟨b1,al⟩;have a2:=a7.trans al;obtain⟨lp,lc,rfl⟩:=b1.slice;apply LW.nil;refine QW.headed a2 ?_;refine Bw ?_;refine Dm 6 λhS=>?_;refine Ap rfl rfl (NQ _ _ _ _ w7 (J3 hsa ad Aee (b0.ext al)) (J3 hsb ae Aee b1) (by simp[B9];omega) (by simp[B9];omega)) ?_;rintro v w8 ⟨tv,rfl,am,ab⟩;have ap:=a2.trans ab;obtain⟨tp,tc,rfl⟩:=am.slice;replace hR:=hR.ext ap;have bc:=a2.size;have e1:(B9 a ((Dh a b m).map Prod.fst)).length=a.cols.toNat:=by simp[B9]
  have e2:(B9 b ((Dh a b m).map Prod.snd)).length=b.cols.toNat:=by simp[B9]
  rw[e1] at am;have bd:R∉Ae (.slice tp a.cols.toNat tc):=λhm=>by have:=(am.lt hm).1;omega
  apply LW.nil;refine QW.headed ap ?_;refine GW.tail rfl Aec (λhS=>?_);refine AF λw9 ac hR=>?_;replace hR:Blk w9 R [.slice tp a.cols.toNat tc,.int .i64 ((b.cols.toNat:Nat):Int)] 77:=by rw[←e1,←e2];exact hR
  refine Sa ?_;refine QW.body_c rfl rfl hR rfl rfl rfl ⟨_,rfl,?_,(a0.trans ap).step ac Aee⟩;exact(am.chg ac (λb hb=>by simp only[Aah];exact λe=>bd (e ▸ hb))).low Aeb
 have h1:k<a.rows.length:=by simp at h1;omega
 obtain⟨z,aq⟩:∃z,m[k]?=some z:=⟨_,Aav Aeb⟩;obtain⟨bx,bz⟩:=hmz z (Ab4 aq);have a0:=a9.trans a5;obtain⟨ma,rfl,c0⟩:=AP.at1 (hm.ext a0) aq;obtain⟨row,aa⟩:∃r,a.rows[k]?=some r:=⟨_,Aav h1⟩;obtain⟨ga,q1,c1,rfl,-,be,c3⟩:=BA.at (BA.ext ha a0) aa;have ar:=hsa.row (Ab4 aa);refine Sw ?_;refine CW.drawG (Ah w5) 30 (λw' h=>h) Aec λwa bb=>?_;refine Bw ?_;have au:GB a b m k=if 0≤z∧z<b.rows.length∧EH row=EH (b.rows.getD z.toNat []) then some (k,z.toNat) else none:=by
  rw[GB,aq,Np aa]
 have a8:∀w',Ah w5 w'→GB a b m k=none→E.Own w' w4.heap.size 3 1 xv (Cx a b m (k+1)).length (Ad ((Cx a b m (k+1)).map λz=>(z.1:Int)))∧E.Own w' w4.heap.size 3 1 yv (Cx a b m (k+1)).length (Ad ((Cx a b m (k+1)).map λz=>(z.2:Int))):=λw' hx h=>by
  rw[Im,h];simp only[Option.toList,AbD];exact⟨a6.ext hx,a3.ext hx⟩
 by_cases bf:0≤z;rotate_left
 ·refine GW.know (t:=21) (c:=false) rfl Aee ?_;refine Bw ?_;refine Gks 22 ?_;refine Bw ?_;refine Gks 28 ?_;refine Bw ?_;refine GW.tail rfl Aec (λhS=>?_);refine Sa ?_;obtain⟨h7,h8⟩:=a8 _ hS (by rw[au,if_neg Aeb]);exact QW.again (k+1,xv,yv) ⟨by show k+1≤_;omega,a5.trans hS,h7,h8,hd⟩ Xs AeK
 obtain⟨rowb,a1⟩:∃r,b.rows[z.toNat]?=some r:=⟨_,Aav Aeb⟩;obtain⟨gb,q2,c2,eq2,-,bg,bh⟩:=BA.at (BA.ext hb a0) a1;subst eq2;rw[show((z.toNat:Nat):Int).toNat=z.toNat by omega] at bh;have av:=hsb.row (Ab4 a1);refine GW.know (t:=21) (c:=true) rfl Aee ?_;refine Bw ?_;refine GW.know (t:=28) (c:=true) rfl Aee ?_;refine Bw ?_;refine GW.know (t:=35) (c:=true) rfl Aee ?_;refine Bw ?_;refine Dm 22 λhS=>?_;refine Lb ?_;refine Ap rfl rfl (PJ row _ _ (AD.ext be hS) ar) ?_;rintro v w6 ⟨rfl,ao⟩;have a7:=hS.trans ao;apply LW.nil;refine QW.headed a7 ?_;refine Bw ?_;refine Dm 28 λhS=>?_;refine Lb ?_;refine Ap rfl rfl (PJ rowb _ _ (AD.ext bg a7) av) ?_;rintro v w7 ⟨rfl,al⟩;have a2:=a7.trans al;apply LW.nil;refine QW.headed a2 ?_;refine Bw ?_;refine GW.tail rfl Aec (λhS=>?_);have af:=a5.trans a2;have bc:=a2.size;refine Sa ?_;refine Av (λh3=>?_) λh3=>?_;rotate_left
 ·have h3:EH row≠EH rowb:=by simpa using h3
  refine Sa ?_;obtain⟨h7,h8⟩:=a8 _ a2 (by rw[au,Np a1,if_neg (λh=>h3 h.2.2)]);exact QW.again (k+1,xv,yv) ⟨by show k+1≤_;omega,af,h7,h8,hd⟩ Xs AeK
 have h3:EH row=EH rowb:=by simpa using h3
 replace a6:=a6.ext a2;replace a3:=a3.ext a2;have b2:GB a b m k=some (k,z.toNat):=by rw[au,Np a1,if_pos ⟨bf,by omega,h3⟩]
 refine Sa ?_;refine CR λC w8 c4 ab hC=>?_;have c5:=ab.size;refine Sa ?_;refine LW.append (lo:=w4.heap.size) (k:=(Cx a b m k).length) rfl rfl rfl rfl rfl rfl (a6.ext ab) Aeb hC rfl rfl rfl Afm rfl ?_;intro xv' w9 ac ag bi;have aw:=(a3.ext ab).chg ac (λg hg hm=>hd g hm hg);have c6:=ac.size;refine Sa ?_;refine CR λF c7 c8 a4 hF=>?_;have bj:=a4.size;refine Sa ?_;refine LW.append (lo:=w4.heap.size) (k:=(Cx a b m k).length) rfl rfl rfl rfl rfl rfl (aw.ext a4) Aeb hF rfl rfl rfl Afm rfl ?_;intro yv' c9 ah ax ay;have b3:∀g,g∈Ae xv'→g∉Ae yv:=λg hg hm=>by
  rcases bi g hg with h | h
  ·exact hd g h hm
  ·have:=(a3.lt hm).2;omega
 have ai:=(ag.ext a4).chg ah (λg hg hm=>b3 g hg hm);refine Sa ?_;refine QW.again (k+1,xv',yv') ⟨by show k+1≤_;omega,(((af.trans ab).step ac (λb hb=>(a6.lt hb).1)).trans a4).step ah (λb hb=>(a3.lt hb).1),?_,?_,λg hg hm=>?_⟩ Xs AeK
 ·show E.Own _ _ _ _ xv' (Cx a b m (k+1)).length (Ad ((Cx a b m (k+1)).map λz=>(z.1:Int)));rw[Im,b2,AbX,H0,Aa9];exact ai
 ·show E.Own _ _ _ _ yv' (Cx a b m (k+1)).length (Ad ((Cx a b m (k+1)).map λz=>(z.2:Int)));rw[Im,b2,AbX,H0,Aa9];show E.Own _ _ _ _ yv' _ (_++[.int .i64 ((z.toNat:Nat):Int)]);rw[show((z.toNat:Nat):Int)=z by omega];exact ax
 ·have b4:g∈Ae xv':=hg;have bk:g∈Ae yv':=hm;rcases ay g bk with h | h
  ·exact b3 g b4 h
  ·have:=(ag.lt b4).2;omega
theorem Qx{α:Type}[DecidableEq α](a b:List α)(ha:a.length≤1000000)(hb:b.length≤1000000):∀z∈DE a b,-1≤z∧z<(b.length:Int):=λz hz=>by
 have hr:=(B5 (JN a b Aeb Aeb)).2.2.2;obtain⟨j,hj⟩:=Ac7 hz;have hl:=(Abo.1 hj).1;have h1:=hr j hl;have e:(DE a b).getD j 0=z:=by rw[AaA,hj];rfl
 simp only[e] at h1;rcases h1 with h1 | ⟨h1,h2,_⟩<;>omega
theorem Q6{a b:Af}(hsa:Dy a)(hsb:Dy b):∀z∈Bb a b,-1≤z∧z<b.rows.length:=λz hz=>by
 have:=hsa.rows;have:=hsb.rows;have h:=Qx (a.rows.map EH) (b.rows.map EH) Aee Aee z hz
 simpa using h
theorem JU(a b:Af):(Bb a b).length=a.rows.length:=by rw[Bb,G3,AbT]
set_option maxRecDepth 8000 in
set_option maxHeartbeats 1000000 in
theorem Il(a b:Af)(ra rb:Value)(w:World)(ha:CS w ra a.rows)(hb:CS w rb b.rows)(hsa:Dy a)(hsb:Dy b):A9 prog 72 [.agg ⟨Az a ra⟩,.agg ⟨Az b rb⟩] w (λv w'=>∃rv cv,v=.agg ⟨JX (Ag a b) rv cv⟩∧E.Own w' w.heap.size 3 1 rv a.rows.length (Ad (Bb a b))∧E.Own w' w.heap.size 3 1 cv a.cols.toNat (Ad (D3 a b (Bb a b)))∧Ah w w'):=by
 obtain⟨p,c,rfl⟩:=ha.slice;obtain⟨q,d,rfl⟩:=hb.slice;have ai:=hsa.rows;refine AG func72 ntmps72 ?_;apply CW.seq;apply CW.region;refine Sl ?_;refine C0 λA w1 aj ac hA=>?_;replace hA:Blk w1 A (Az a (.slice p a.rows.length c)) 46:=hA;refine Sl ?_;refine C0 λB w2 ak a6 hB=>?_;replace hB:Blk w2 B (Az b (.slice q b.rows.length d)) 46:=hB;refine Sa ?_;refine B1 λR w3 al a7 hR=>?_;replace hA:=(hA.ext a6).ext a7;replace hB:=hB.ext a7;have a0:=(ac.trans a6).trans a7;have am:=a0.size;have an:=hR.lt;have ao:w.heap.size≤R:=by have:=ac.size;have:=a6.size;omega
 refine Sw ?_;refine Ap rfl rfl (V1 a b _ _ w3 (ha.ext a0) (hb.ext a0) hsa hsb) ?_;rintro v w4 ⟨rv,rfl,a4,a8⟩;obtain⟨rp,rc,rfl⟩:=a4.slice;have ap:=a8.size;have a9:=a0.trans a8;refine Sa ?_;refine B1 λM w5 aq ad hM=>?_;have ar:=ad.size;have au:=hM.lt;refine Sa ?_;refine AF λw6 ae hM=>?_;replace hM:Blk w6 M [.slice rp a.rows.length rc,.int .i64 ((b.rows.length:Nat):Int)] 77:=hM;have a1:Ah w4 w6:=ad.step ae Aee;replace a4:=a4.ext a1;have a2:=a9.trans a1;have a3:=a8.trans a1;replace hA:=hA.ext a3;replace hB:=hB.ext a3;replace hR:=hR.ext a3;have hI:AP w6 (.slice rp a.rows.length rc) (Bb a b):=Own.ints a4 (JU a b) (by rw[JU];omega);have av:=a1.size;refine Sa ?_;refine CW.drawG (Ah w6) 8 (λw' h=>h) Aec λwa aw=>?_;refine Bw ?_;refine Dm 6 λhS=>?_;refine Ap rfl rfl (V0 a b _ _ _ (Bb a b) wa (ha.ext (a2.trans hS)) (hb.ext (a2.trans hS)) hsa hsb (hI.ext hS) (JU a b) (Q6 hsa hsb) _) ?_;rintro v w7 ⟨cv,rfl,aa,af⟩;obtain⟨cp,cc,rfl⟩:=aa.slice;have a5:=hS.trans af;have ax:=hS.size;apply LW.nil;refine QW.headed a5 ?_;refine Bw ?_;refine GW.tail rfl Aec (λhS=>?_);replace hR:=hR.ext a5;refine AF λw8 ab hR=>?_;replace hR:Blk w8 R (JX (Ag a b) (.slice rp a.rows.length rc) (.slice cp a.cols.toNat cc)) 79:=hR;have ag:R∉Ae (.slice rp a.rows.length rc):=λhm=>by have:=(a4.lt hm).1;omega
 have ah:R∉Ae (.slice cp a.cols.toNat cc):=λhm=>by have:=(aa.lt hm).1;omega
 refine Sa ?_;refine QW.body_c rfl rfl hR rfl rfl rfl ⟨_,_,rfl,?_,?_,(a2.trans a5).step ab Aee⟩
 ·exact((a4.ext a5).chg ab (λb hb=>by simp only[Aah];exact λe=>ag (e ▸ hb))).low Aeb
 ·exact(aa.chg ab (λb hb=>by simp only[Aah];exact λe=>ah (e ▸ hb))).low Aeb
end Go.Proofs.YtcjjcnecopnpcaaGreatDoor
