/-
  Joined by program out of the texts Ali1 Ali2 Ali3 Ali4 LcsP Lcs1 Ali5 Ali6.
-/
import Derived.Test.YtcjjcnecopnpcaaGreatDoorMxJ
import Derived.Test.YtcjjcnecopnpcaaGreatDoorMxK
import Derived.Test.YtcjjcnecopnpcaaGreatDoorMxH
import Derived.Test.YtcjjcnecopnpcaaGreatDoorMxB
import Derived.Test.YtcjjcnecopnpcaaGreatDoorMxI
import Derived.Test.YtcjjcnecopnpcaaGreatDoorMxE
namespace Go.Proofs.YtcjjcnecopnpcaaGreatDoor
open Tryz
open Go Go.E
def Tq(l:List (List UInt8)):List (List UInt8):=l.filter λs=>decide (s≠[])
theorem Px(l:List (List UInt8)):(Tq l).length≤l.length:=List.length_filter_le _ _
theorem Rh{l:List (List UInt8)}{k:Nat}{s:List UInt8}(h:l[k]?=some s):Tq (l.take (k+1))=if s=[] then Tq (l.take k) else Tq (l.take k)++[s]:=by
 rw[Ab7,h];simp only[Tq,List.filter_append,Option.toList];by_cases e:s=[]<;>simp[e]
def HI(l:List (List UInt8)):Prop:=l.length≤100∧∀s∈l,s.length≤1000
theorem VY{s:List UInt8}(h:s.length≤1000):(EX s).length≤1010:=by
 have:=E4 (n:=s.length) AdE;rw[EX,Aaq];omega
theorem On:∀{l:List (List UInt8)},(∀s∈l,s.length≤1000)→(l.flatMap EX).length≤l.length*1010
 | [],_=>by simp
 | s::l,h=>by
  have h1:=VY (h s AdM);have h2:=On (l:=l) λt ht=>h t (by simp[ht]);rw[Ab6,Aaq,AaL];omega
theorem OG{l:List (List UInt8)}(h:HI l):(EW l).length≤200000:=by
 have h1:=E4 (n:=l.length) (by have:=h.1;omega);have h2:=On h.2;have h3:=h.1;rw[EW,Aaq];omega
theorem HI.ne{l:List (List UInt8)}(h:HI l):HI (Tq l):=⟨Abr (Px l) h.1,λs hs=>h.2 s ((Acj.1 hs).1)⟩
theorem Xu{r:List (List UInt8)}(h:HI r):(CG r).length≤200000:=OG h.ne
theorem Hb{w:World}{lo:Nat}{v:Value}{l:List (List UInt8)}(h:E.Own w lo 9 1 v l.length (l.map Ao))(hl:l.length≤1000000)(hs:∀s∈l,s.length≤1000000):Ce w v l:=by
 obtain⟨g,h1,_⟩:=OB h hl hs;exact Ab.map h1 (λ_ _=>trivial) λ_ _ _ _ h=>h
theorem VM{w:World}{lo:Nat}{v:Value}{l:List (List UInt8)}{s:List UInt8}(h:E.Own w lo 9 1 v (l.length+1) (l.map Ao++[Ao s])):E.Own w lo 9 1 v (l++[s]).length ((l++[s]).map Ao):=by
 rw[Aaq,AbG];exact h
theorem Pd(r:List (List UInt8))(v:Value)(w:World)(h:Ce w v r)(hs:HI r):AF prog 161 [v] w (λu w'=>u=Ao (CG r)∧Ai w w'):=by
 obtain⟨p,c,rfl⟩:=h.slice;have a4:=hs.1;refine Bj func161 ntmps161 ?_;refine Sa ?_;refine CW.loop (ι:=Nat×Value) (λx w'=>x.1≤r.length∧Ai w w'∧E.Own w' w.heap.size 9 1 x.2 (Tq (r.take x.1)).length ((Tq (r.take x.1)).map Ao)) (λx=>[(3,x.2),(6,.slice p r.length c),(7,.int .i64 r.length),(8,.int .i64 x.1)]) (λx=>r.length - x.1) (0,.slice none 0 0) ⟨by simp,Chg.refl _ _,Own.nil _ _ _ _⟩ Bx ?_;rintro⟨k,ov⟩ w1 ⟨hk,hx,hO⟩;dsimp only at hk hO;show CW _ _ _ _ _ [(3,ov),(6,.slice p r.length c),(7,.int .i64 r.length),(8,.int .i64 (k:Int))] _;have hz:=hx.size;refine Sa ?_;refine A8 (λh1=>?_) λh1=>?_;rotate_left
 ·have h1:k=r.length:=by simp at h1;omega
  subst h1;rw[AbH] at hO;refine Sa ?_;refine Ay rfl rfl (Lr (Tq r) ov w1 (Hb hO (by have:=Px r;omega) λs hm=>by have:=hs.2 s ((Acj.1 hm).1);omega)) ?_;rintro u w2 ⟨hb,a0⟩;obtain⟨pu,cu,rfl⟩:=hb.slice;refine Sa ?_;refine LW.string_any (bs:=EW (Tq r)) rfl rfl (DT.bytes' hb) rfl rfl rfl rfl rfl rfl rfl ?_;refine Sa ?_;exact QW.body1 rfl rfl ⟨rfl,hx.trans a0⟩
 have h1:k<r.length:=by simp at h1;omega
 obtain⟨s,a1⟩:∃s,r[k]?=some s:=⟨_,Aap h1⟩;obtain⟨a,rfl,-,a5,hc⟩:=A2.at (A2.ext h hx) a1;refine Sw ?_;refine A8 (λh2=>?_) λh2=>?_
 ·have h2:s≠[]:=by simpa using h2
  refine Sa ?_;refine Dt λC w2 a6 a0 hC=>?_;refine Sa ?_;refine LW.append (lo:=w.heap.size) (k:=(Tq (r.take k)).length) rfl rfl rfl rfl rfl rfl (hO.ext a0) Aes hC rfl rfl rfl (by have:=Px (r.take k);have:=List.length_take_le k r;show(_+1)*17≤_;omega) rfl ?_;intro v3 w3 a2 a3 _;refine Sa ?_;refine QW.again (k+1,v3) ⟨by show k+1≤_;omega,(hx.trans a0).step a2 (λb hb=>(hO.lt hb).1),?_⟩ Bx (by show r.length - (k+1)<r.length - k;omega);show E.Own _ _ _ _ v3 (Tq (r.take (k+1))).length ((Tq (r.take (k+1))).map Ao);rw[Rh a1,if_neg h2];exact VM a3
 ·have h2:s=[]:=by simpa using h2
  refine Sa ?_;refine QW.again (k+1,ov) ⟨by show k+1≤_;omega,hx,?_⟩ Bx (by show r.length - (k+1)<r.length - k;omega);show E.Own _ _ _ _ ov (Tq (r.take (k+1))).length ((Tq (r.take (k+1))).map Ao);rw[Rh a1,if_pos h2];exact hO
structure Dk(s:Ae):Prop where
 rows:s.rows.length≤100
 cols:0≤s.cols∧s.cols≤100
 wide:∀r∈s.rows,(r.length:Int)=s.cols
 cells:∀r∈s.rows,∀t∈r,t.length≤1000
theorem Dk.row{s:Ae}(h:Dk s){r:List (List UInt8)}(hr:r∈s.rows):HI r:=⟨by have:=h.wide r hr;have:=h.cols;omega,h.cells r hr⟩
theorem QP(s:Ae)(rv:Value)(w:World)(h:BA w rv s.rows)(hs:Dk s):AF prog 160 [.agg ⟨Am s rv⟩,.func (.func 161) ⟨[]⟩ ⟨[]⟩] w (λv w'=>E.Own w' w.heap.size 9 1 v (s.rows.map CG).length ((s.rows.map CG).map Ao)∧Ai w w'):=by
 obtain⟨p,c,rfl⟩:=h.slice;have a6:=hs.rows;refine Bj func160 ntmps160 ?_;apply CW.seq;apply CW.region;refine Sl ?_;refine CM λA w1 a7 a2 hA=>?_;replace hA:Blk w1 A (Am s (.slice p s.rows.length c)) 46:=hA;refine Sa ?_;refine CW.loop (ι:=Nat×Value) (λx w'=>x.1≤s.rows.length∧Ai w w'∧E.Own w' w.heap.size 9 1 x.2 (s.rows.take x.1).length (((s.rows.take x.1).map CG).map Ao)) (λx=>[(1,.func (.func 161) ⟨[]⟩ ⟨[]⟩),(5,x.2),(9,.slice p s.rows.length c),(10,.int .i64 s.rows.length),(11,.int .i64 x.1)]) (λx=>s.rows.length - x.1) (0,.slice none 0 0) ⟨by simp,a2,Own.nil _ _ _ _⟩ Et ?_;rintro⟨k,ov⟩ w2 ⟨hk,hx,hO⟩;dsimp only at hk hO;show CW _ _ _ _ _ [(1,.func (.func 161) ⟨[]⟩ ⟨[]⟩),(5,ov),(9,.slice p s.rows.length c),(10,.int .i64 s.rows.length),(11,.int .i64 (k:Int))] _;have hz:=hx.size;refine Sa ?_;refine A8 (λh1=>?_) λh1=>?_;rotate_left
 ·have h1:k=s.rows.length:=by simp at h1;omega
  subst h1;rw[AbH] at hO;refine Sa ?_;exact QW.body1 rfl rfl ⟨by rw[AbA];exact hO,hx⟩
 have h1:k<s.rows.length:=by simp at h1;omega
 obtain⟨r,hr⟩:∃s',s.rows[k]?=some s':=⟨_,Aap h1⟩;obtain⟨a,q,qc,rfl,-,ht,hc⟩:=Bb.at (Bb.ext h hx) hr;have a3:=hs.row (Abn hr);refine Sw ?_;refine LW.call (fs:=[]) (cs:=[]) rfl rfl rfl (Pd r _ w2 ht a3) ?_;rintro v w3 ⟨rfl,a0⟩;refine Sa ?_;refine Dt λC w4 a8 a1 hC=>?_;refine Sa ?_;refine LW.append (lo:=w.heap.size) (k:=(s.rows.take k).length) rfl rfl rfl rfl rfl rfl (hO.ext (a0.trans a1)) (by have:=a0.size;have:=a1.size;omega) hC rfl rfl rfl (by have:=List.length_take_le k s.rows;show(_+1)*17≤_;omega) rfl ?_;intro v5 w5 a4 a5 _;refine Sa ?_;refine QW.again (k+1,v5) ⟨by show k+1≤_;omega,((hx.trans a0).trans a1).step a4 (λb hb=>(hO.lt hb).1),?_⟩ Et (by show s.rows.length - (k+1)<s.rows.length - k;omega);show E.Own _ _ _ _ v5 (s.rows.take (k+1)).length (((s.rows.take (k+1)).map CG).map Ao);rw[Ab7,hr];simp only[Option.toList,AbG,AbK,Acm,Aaq,AaL,Abl,AbC];exact a5
theorem AY.at1{w:World}{p:Option Addr}{c:Nat}{zs:List Int}(h:AY w (.slice p zs.length c) zs){i:Nat}{z:Int}(hi:zs[i]?=some z):∃a,p=some a∧w.cell? (a.add (((i:Nat):Int).toNat*1))=some (.int .i64 z):=by
 obtain⟨hl,e⟩:=Abg.1 hi;obtain⟨a,h1,h2⟩:=h.at hl;refine⟨a,h1,?_⟩;rw[show((i:Nat):Int).toNat*1=i by omega,h2,AaF,hi];rfl
def EH(s:Ae)(rs:List Nat)(c:Nat):List (List UInt8):=rs.map λr=>(s.rows.getD r []).getD c []
def PV(rs:List Nat):List Int:=rs.map λ(r:Nat)=>(r:Int)
theorem Zw{rs:List Nat}{k r:Nat}(h:rs[k]?=some r):(PV rs)[k]?=some (r:Int):=by simp[PV,h]
theorem Ug{s:Ae}(hs:Dk s){r c:Nat}(hr:r<s.rows.length)(hc:(c:Int)<s.cols):∃row t,s.rows[r]?=some row∧row[c]?=some t∧(s.rows.getD r []).getD c []=t∧t.length≤1000:=by
 have h1:=Aap hr;have hm:=Abn h1;have hw:=hs.wide _ hm;have h2:=Aap (l:=s.rows[r]) (i:=c) AdE;refine⟨_,_,h1,h2,?_,hs.cells _ hm _ (Abn h2)⟩;rw[AaF,AaF,h1,Ac2,h2,Ac2]
theorem Lz{s:Ae}(hs:Dk s){rs:List Nat}(hr:∀r∈rs,r<s.rows.length)(hl:rs.length≤100){c:Nat}(hc:(c:Int)<s.cols):HI (EH s rs c):=by
 refine⟨by simpa[EH] using hl,λt ht=>?_⟩;simp only[EH,AbE] at ht;obtain⟨r,h1,rfl⟩:=ht;obtain⟨_,t,_,_,e,h2⟩:=Ug hs (hr r h1) hc;rw[e];exact h2
theorem Pj(s:Ae)(rs:List Nat)(k:Nat):(List.range (k+1)).map (Gg s rs)=(List.range k).map (Gg s rs)++[Gg s rs k]:=by simp[AbJ]
set_option maxHeartbeats 1000000 in
theorem L0(s:Ae)(rv iv:Value)(rs:List Nat)(w:World)(h:BA w rv s.rows)(hs:Dk s)(hi:AY w iv (PV rs))(hr:∀r∈rs,r<s.rows.length)(hl:rs.length≤100):AF prog 162 [.agg ⟨Am s rv⟩,iv] w (λv w'=>E.Own w' w.heap.size 9 1 v (Bf s rs).length ((Bf s rs).map Ao)∧Ai w w'):=by
 obtain⟨p,c,rfl⟩:=h.slice;have a9:(PV rs).length=rs.length:=by simp[PV]
 obtain⟨ip,ic,rfl⟩:=hi.slice;have af:=hs.rows;obtain⟨ag,ah⟩:=hs.cols;obtain⟨C,hC⟩:∃C:Nat,s.cols=C:=⟨s.cols.toNat,by omega⟩;refine Bj func162 ntmps162 ?_;apply CW.seq;apply CW.region;refine Sl ?_;refine CM λA w1 ai a4 hA=>?_;replace hA:Blk w1 A (Am s (.slice p s.rows.length c)) 46:=hA;refine Sa ?_;refine CW.loop (ι:=Nat×Value) (λx w'=>x.1≤C∧Ai w1 w'∧E.Own w' w1.heap.size 9 1 x.2 ((List.range x.1).map (Gg s rs)).length (((List.range x.1).map (Gg s rs)).map Ao)) (λx=>[(1,.slice ip (PV rs).length ic),(2,.pointer (some ⟨A,0,none⟩)),(5,x.2),(11,.int .i64 s.cols),(12,.int .i64 x.1)]) (λx=>C - x.1) (0,.slice none 0 0) ⟨by simp,Chg.refl _ _,Own.nil _ _ _ _⟩ Et ?_;rintro⟨k,ov⟩ w2 ⟨hk,hx,hO⟩;dsimp only at hk hO;show CW _ _ _ _ _ [(1,.slice ip (PV rs).length ic),(2,.pointer (some ⟨A,0,none⟩)),(5,ov),(11,.int .i64 s.cols),(12,.int .i64 (k:Int))] _;have hz:=a4.size;have aj:=hx.size;rw[AbA,Ac8] at hO;refine Sa ?_;refine A8 (λh1=>?_) λh1=>?_;rotate_left
 ·have h1:k=C:=by simp at h1;omega
  subst h1;refine Sa ?_;refine QW.body1 rfl rfl ⟨?_,a4.trans hx⟩;have e:Bf s rs=(List.range k).map (Gg s rs):=by rw[Bf,hC];rfl
  rw[e,AbA,Ac8];exact hO.low hz
 have h1:k<C:=by simp at h1;omega
 replace hA:=hA.ext hx;refine Sa ?_;refine CW.loop (ι:=Nat×Value) (λx w'=>x.1≤rs.length∧Ai w2 w'∧E.Own w' w2.heap.size 9 1 x.2 x.1 (((EH s rs k).take x.1).map Ao)) (λx=>[(1,.slice ip (PV rs).length ic),(2,.pointer (some ⟨A,0,none⟩)),(5,ov),(6,.int .i64 k),(7,x.2),(11,.int .i64 s.cols),(12,.int .i64 k),(15,.slice ip (PV rs).length ic),(16,.int .i64 (PV rs).length),(17,.int .i64 x.1)]) (λx=>rs.length - x.1) (0,.slice none 0 0) ⟨by simp,Chg.refl _ _,Own.nil _ _ _ _⟩ Hx ?_;rintro⟨j,lv⟩ w3 ⟨hj,a1,hL⟩;dsimp only at hj hL;show CW _ _ _ _ _ [(1,.slice ip (PV rs).length ic),(2,.pointer (some ⟨A,0,none⟩)),(5,ov),(6,.int .i64 (k:Int)),(7,lv),(11,.int .i64 s.cols),(12,.int .i64 (k:Int)),(15,.slice ip (PV rs).length ic),(16,.int .i64 (PV rs).length),(17,.int .i64 (j:Int))] _;have ak:=a1.size;have a2:=a4.trans (hx.trans a1);replace hA:=hA.ext a1;refine Sa ?_;refine A8 (λh2=>?_) λh2=>?_;rotate_left
 ·have h2:j=rs.length:=by simp[a9] at h2;omega
  subst h2;have el:(EH s rs k).take rs.length=EH s rs k:=Acy (by simp[EH]);rw[el] at hL;have aa:=Lz hs hr hl (c:=k) AdE;have ac:E.Own w3 w2.heap.size 9 1 lv (EH s rs k).length ((EH s rs k).map Ao):=by
   rw[show(EH s rs k).length=rs.length by simp[EH]];exact hL
  refine Sa ?_;refine Ay rfl rfl (Lr (EH s rs k) lv w3 (Hb ac (by have:=aa.1;omega) λt ht=>by have:=aa.2 t ht;omega)) ?_;rintro u w4 ⟨hb,a5⟩;obtain⟨pu,cu,rfl⟩:=hb.slice;refine Sa ?_;refine LW.string_any (bs:=EW (EH s rs k)) rfl rfl (DT.bytes' hb) rfl rfl rfl rfl rfl rfl rfl ?_;refine Sa ?_;refine Dt λD w5 ad a0 hD=>?_;refine Sa ?_;refine LW.append (lo:=w1.heap.size) (k:=k) rfl rfl rfl rfl rfl rfl (((hO.ext a1).ext a5).ext a0) (by have:=a5.size;have:=a0.size;omega) hD rfl rfl rfl (by show(_+1)*17≤_;omega) rfl ?_;intro v6 w6 a6 a7 _;refine Sa ?_;refine QW.again (k+1,v6) ⟨by show k+1≤_;omega,(((hx.trans a1).trans a5).trans a0).step a6 (λb hb=>(hO.lt hb).1),?_⟩ Et (by show C - (k+1)<C - k;omega)
  ·show E.Own _ _ _ _ v6 ((List.range (k+1)).map (Gg s rs)).length (((List.range (k+1)).map (Gg s rs)).map Ao);rw[Pj,Aaq,AbG,AbA,Ac8];exact a7
 have h2:j<rs.length:=by simp[a9] at h2;omega
 obtain⟨r,a8⟩:∃r,rs[j]?=some r:=⟨_,Aap h2⟩;obtain⟨ia,rfl,al⟩:=AY.at1 (hi.ext a2) (Zw a8);obtain⟨row,t,a3,ab,ae,am⟩:=Ug hs (hr r (Abn a8)) (c:=k) AdE;obtain⟨a,q,qc,rfl,-,ht,hc⟩:=Bb.at (Bb.ext h a2) a3;obtain⟨a',rfl,-,-,an⟩:=A2.at ht ab;have ao:=(Abg.1 a3).1;have ap:=(Abg.1 ab).1;refine Sw ?_;refine Dt λD w5 ad a0 hD=>?_;refine Sa ?_;refine LW.append (lo:=w2.heap.size) (k:=j) rfl rfl rfl rfl rfl rfl (hL.ext a0) Aes hD rfl rfl rfl (by show(_+1)*17≤_;omega) rfl ?_;intro v6 w6 a6 a7 _;refine Sa ?_;refine QW.again (j+1,v6) ⟨by show j+1≤_;omega,(a1.trans a0).step a6 (λb hb=>(hL.lt hb).1),?_⟩ Hx (by show rs.length - (j+1)<rs.length - j;omega);show E.Own _ _ _ _ v6 (j+1) (((EH s rs k).take (j+1)).map Ao);rw[Ab7,show(EH s rs k)[j]?=some t by simp[EH,a8];simpa using ae,AbG];exact a7
theorem Mw(zs:List Int)(v:Value)(w:World)(h:AY w v zs)(hl:zs.length≤100000):AF prog 172 [v] w (λv' w'=>E.Own w' w.heap.size 3 1 v' zs.length (Af zs)∧Ai w w'):=by
 refine Bj func172 ntmps172 ?_;obtain⟨_,⟨rfl,rfl⟩ | ⟨a,cap,rfl,hc⟩⟩:=h
 ·refine Sa ?_;refine LW.eql_sn rfl rfl rfl rfl ?_;refine Sa ?_;exact QW.body1 rfl rfl ⟨E.Own.nil _ _ _ _,Chg.refl _ _⟩
 ·refine Sa ?_;refine LW.eql_sn rfl rfl rfl rfl ?_;refine Sa ?_
  (apply LW.buildSlice0;exact rfl;exact rfl;exact rfl;exact rfl;intro B w5 a3 a1 hB)
  refine Sa ?_;refine LW.append_any (lo:=w.heap.size) (xs:=[]) (news:=Af zs) rfl rfl rfl rfl rfl rfl (⟨rfl,.inr ⟨B,0,[],rfl,hB,by simp,by simp,by omega⟩⟩) (by have:=a1.size;omega) (by rw[A9];show _=_*1;omega) (.inr ⟨a,rfl,λj u hj=>by
   simp only[Af,Ab1] at hj
   cases hg:zs[j]? with
   | none=>rw[hg] at hj;cases hj
   | some y=>
    rw[hg] at hj;obtain rfl:=Abm hj;exact A0 a1 (hc j y hg)⟩) (λu hu=>by
   simp only[Af,AbE] at hu;obtain⟨_,_,rfl⟩:=hu;rfl) (by show(0+_)*9≤_;omega) rfl ?_
  intro v' w6 a2 a0 a4;rw[AbC,Ab5] at a0;refine Sa ?_;exact QW.body1 rfl rfl ⟨a0,a1.step a2 (by simp[Ac];omega)⟩
abbrev WK(zs:List Int)(x:Fin zs.length):List Value:=[.int .i64 ((x.val:Nat):Int),.int .i64 (zs.getD x.val 0)]
def Gc{n:Nat}(pre:List (Fin n)):Prop:=∀i x,pre[i]?=some x→x.val+1+i=n
theorem Gc.snoc{n:Nat}{pre:List (Fin n)}{x:Fin n}(h:Gc (pre++[x])):Gc pre∧x.val+1+pre.length=n:=by
 refine⟨λi y hi=>h i y (by rw[Abk (Abg.1 hi).1];exact hi),h pre.length x ?_⟩;rw[Abx (Abi _)];simp
theorem Gc.push{n:Nat}{pre:List (Fin n)}{x:Fin n}(h:Gc pre)(hx:x.val+1+pre.length=n):Gc (pre++[x]):=λi y hi=>by
 rcases Ac7 i pre.length with h1 | h1 | h1
 ·rw[Abk h1] at hi;exact h i y hi
 ·subst h1;rw[Abx (Abi _)] at hi;simp at hi;rw[←hi];exact hx
 ·rw[Abs AdG] at hi;cases hi
theorem Pb(p:Option Addr)(n c:Nat)(w:World):AF prog 258 [.slice p n c] w (λv w'=>v=.func (.func 284) ⟨[]⟩ ⟨[.pointer (some ⟨w.heap.size,0,none⟩)]⟩∧Blk w' w.heap.size [.slice p n c] 75∧Ai w w'):=by
 refine Bj func258 ntmps258 ?_;apply CW.seq;apply CW.region;refine Sl ?_;refine CM λA w1 a0 a1 hA=>?_;subst a0;replace hA:Blk w1 w.heap.size [.slice p n c] 75:=hA;refine Sa ?_;exact QW.body1 rfl rfl ⟨rfl,hA,a1⟩
set_option maxRecDepth 8000 in
set_option maxHeartbeats 1000000 in
theorem S9(zs:List Int)(p:Option Addr)(c B:Nat)(ok:Nat→Prop)(w0:World)(hn:zs.length≤100000)(hB:Blk w0 B [.slice p zs.length c] 75)(hokB:ok B)(hz:zs.length≠0→∃a,p=some a∧ok a.block∧∀j z,zs[j]?=some z→w0.cell? (a.add (((j:Nat):Int).toNat*1))=some (.int .i64 z))(hlt:∀b,ok b→b<w0.heap.size) :
  SeqStopsK Fence.wide 3 prog 284 ⟨[.pointer (some ⟨B,0,none⟩)]⟩ (λx=>⟨WK zs x⟩) (B8 ok) (λys:List (Fin zs.length)=>ys.length=zs.length∧Gc ys) (λ_=>True) zs.length w0:=by
 intro l J Jx W hW hJ ab hY h0;have hF:=TP;have a7:B8 ok w0 W:=λb hb=>hW.block b (hlt b hb);refine CallsIn.enterI (args:=[.func (.yield l) #[] #[],.pointer (some ⟨B,0,none⟩)]) func284 rfl ntmps284 hF rfl rfl ?_;have ac:=a7.blk hokB hB;refine TU ?_;refine E.CI.loop (ι:=Nat×List (Fin zs.length)) (λx w'=>x.1≤zs.length∧B8 ok w0 w'∧J x.2 w'∧x.1+x.2.length=zs.length∧Gc x.2) (λx=>[(0,.func (.yield l) #[] #[]),(1,.pointer (some ⟨B,0,none⟩)),(3,.int .i64 ((x.1:Int) - 1))]) (λx=>x.1) (zs.length,[]) ⟨Abi _,a7,h0,by simp,λi x h=>by simp at h⟩ CF ?_;rintro⟨k,pre⟩ w1 ⟨hk,a1,a2,a3,a4⟩;dsimp only at hk a2 a3 a4;show E.CI _ _ _ _ _ _ _ [(0,.func (.yield l) #[] #[]),(1,.pointer (some ⟨B,0,none⟩)),(3,.int .i64 ((k:Int) - 1))] _;have ad:=a1.blk hokB hB;refine TU ?_;refine E.CI.cond rfl (λh1=>?_) (λh1=>?_);rotate_left
 ·have h1:k=0:=by simp at h1;omega
  subst h1;refine TU ?_;exact QW.bodyI (.inr rfl) rfl ⟨⟨_,rfl⟩,.inl ⟨pre,⟨by omega,a4⟩,a2⟩⟩
 have h1:0<k:=by simp at h1;omega
 obtain⟨j,rfl⟩:∃j,k=j+1:=⟨k - 1,by omega⟩;obtain⟨z,a8⟩:∃z,zs[j]?=some z:=⟨_,Aap AdE⟩;obtain⟨a,rfl,a5,a0⟩:=hz AdE;have hc:=a1.cell (a:=a.add (((j:Nat):Int).toNat*1)) (by rw[BF];exact a5) (a0 j z a8);have ej:(((j+1:Nat):Int) - 1)=(j:Int):=AdE
 rw[ej];have hy:=hY pre ⟨j,by omega⟩ w1 a2 AdE;have ez:zs.getD j 0=z:=by rw[AaF,a8];rfl
 simp only[WK,ez] at hy;refine TU ?_;refine E.LI.yield hF rfl rfl rfl hy ?_;rintro e w2 (⟨rfl,a9,aa⟩ | ⟨rfl,a6⟩)
 ·refine⟨_,rfl,?_⟩;refine TU ?_;refine E.CI.cond rfl (λh2=>by cases h2) (λ_=>?_);refine TU ?_;refine QW.again (j,pre++[⟨j,by omega⟩]) ⟨by show j≤_;omega,a1.trans aa,a9,by simp;omega,a4.push (by show j+1+_=_;omega)⟩ ?_ (by show j<j+1;omega);exact CF
 ·refine⟨_,rfl,?_⟩;refine TU ?_;refine E.CI.cond rfl (λ_=>?_) (λh2=>by cases h2);refine TU ?_;exact QW.bodyI (.inl rfl) rfl ⟨⟨_,rfl⟩,.inr ⟨_,trivial,a6⟩⟩
open Go Go.E Go.RowKit
theorem UW{B:Nat}{w0 w:World}{D:Nat}(o:Obj)(h:Below B w0 w)(hB:B≤w.heap.size)(hD:B≤D):Below B w0 (w.putObj D o):=
 h.grown (grownBy_putObj' w D o) hB (λk e=>by cases e;exact hD)
structure Aas(m:AH)(lo:Nat)(ok:Nat→Prop)(w w6 W:World)(A R X N:Nat)(v:Value)(pre:List (Fin m.to.length))(L:List Int)(nx:Int):Prop where
 size:w6.heap.size≤W.heap.size
 kept:B8 ok w6 W
 below:Below w.heap.size w W
 bX:Blk W X [v,.int .i64 m.new] 77
 bR:Blk W R [.slice none 0 0,.int .i64 0] 77
 bN:Blk W N [.int .i64 nx] 3
 own:E.Own W lo 3 1 v m.to.length (Af L)
 nx0:0≤nx
 nx1:nx≤1000000
 at_:Gc pre→L=Gn m.new m.to (m.to.length - pre.length)∧nx=CD m.new (m.to.drop (m.to.length - pre.length))
set_option maxRecDepth 8000 in
set_option maxHeartbeats 2000000 in
theorem SI(m:AH)(tv:Value)(w:World)(h:AY w tv m.to)(hl:m.to.length≤100000)(hz:∀z∈m.to,-1≤z∧z≤1000000)(hn0:0≤m.new)(hn1:m.new≤1000000):AF prog 209 [.agg ⟨[tv,.int .i64 m.new]⟩] w (λv w'=>∃tv',v=.agg ⟨[tv',.int .i64 m.new]⟩∧E.Own w' w.heap.size 3 1 tv' m.to.length (Af (En m.new 0 m.to))∧Ai w w'):=by
 obtain⟨p,c,rfl⟩:=h.slice;refine AF.enterM func209 rfl ntmps209 AdF rfl ?_;apply CW.seq;apply CW.region;refine Sl ?_;refine CM λA w1 c5 bc hA=>?_;replace hA:Blk w1 A [.slice p m.to.length c,.int .i64 m.new] 77:=hA;refine Sa ?_;refine Bo λR w2 af ax hR=>?_;replace hA:=hA.ext ax;have a4:=bc.trans ax;have ay:=bc.size;have c6:=ax.size;have c7:=hR.lt;refine Sa ?_;refine CW.cut (ι:=Nat×Value) (λx w'=>Ai w2 w'∧Blk w' x.1 [x.2,.int .i64 m.new] 77∧E.Own w' w2.heap.size 3 1 x.2 m.to.length (Af m.to)∧w2.heap.size≤x.1∧x.1∉Ac x.2) (λx=>[(1,.pointer (some ⟨A,0,none⟩)),(2,.pointer (some ⟨R,0,none⟩)),(3,.pointer (some ⟨x.1,0,none⟩))]) ?_ ?_
 ·apply CW.noP;refine CW.drawG (Ai w2) 7 (λw' h=>h) AdF λwa c8=>?_;refine AJ ?_;refine GW.two 2 6 AdF rfl rfl rfl rfl rfl rfl (λhS=>?_) (λhS=>?_)
  ·refine Ay rfl rfl (Mw m.to _ wa (h.ext (a4.trans hS)) hl) ?_;rintro v wb ⟨hO,ag⟩;obtain⟨vp,vc,rfl⟩:=hO.slice;have a2:=hS.trans ag;have bd:=hS.size;have bn:=ag.size;apply LW.nil;refine QW.headed a2 ?_;refine AJ ?_;refine BE 6 λhS=>?_;refine Bo λX wc a5 a6 hX=>?_;apply LW.nil;refine QW.headed (a2.trans a6) ?_;refine GW.tail rfl AdF (λhS=>?_);refine AD λwd ah hX=>?_;have ai:X∉Ac (.slice vp m.to.length vc):=λhm=>by have:=(hO.lt hm).2;omega
   refine Sa ?_;exact QW.noP_n (QW.head (X,.slice vp m.to.length vc) ⟨(a2.trans a6).step ah AdG,hX,((hO.ext a6).chg ah (λb hb=>by simp only[Aad];exact λe=>ai (e ▸ hb))).low bd,by show w2.heap.size≤X;omega,ai⟩ (Al.cons rfl (Al.cons rfl (Al.cons rfl (Al.nil)))))
  ·refine Bo λX wb a5 ag hX=>?_;have a2:=hS.trans ag;have bd:=hS.size;have bn:=ag.size;have bo:=hX.lt;apply LW.nil;refine QW.headed a2 ?_;refine BE 2 λhS=>?_;refine Ay rfl rfl (Mw m.to _ wb (h.ext (a4.trans a2)) hl) ?_;rintro v wc ⟨hO,a6⟩;obtain⟨vp,vc,rfl⟩:=hO.slice;replace hX:=hX.ext a6;apply LW.nil;refine QW.headed (a2.trans a6) ?_;refine AJ ?_;refine GW.tail rfl AdF (λhS=>?_);refine AD λwd ah hX=>?_;have ai:X∉Ac (.slice vp m.to.length vc):=λhm=>by have:=(hO.lt hm).1;omega
   refine Sa ?_;exact QW.noP_n (QW.head (X,.slice vp m.to.length vc) ⟨(a2.trans a6).step ah AdG,hX,(hO.chg ah (λb hb=>by simp only[Aad];exact λe=>ai (e ▸ hb))).low AdE,by show w2.heap.size≤X;omega,ai⟩ (Al.cons rfl (Al.cons rfl (Al.cons rfl (Al.nil)))))
 rintro⟨X,v⟩ w3 ⟨an,hX,hO,bp,az⟩;dsimp only at hX hO bp az;have be:∀b,b∈Ac v→b<w3.heap.size:=λb hb=>(hO.lt hb).2;show CW _ _ _ _ _ [(1,.pointer (some ⟨A,0,none⟩)),(2,.pointer (some ⟨R,0,none⟩)),(3,.pointer (some ⟨X,0,none⟩))] _;replace hA:=hA.ext an;replace hR:=hR.ext an;have c9:=an.size;have bo:=hX.lt;refine Sw ?_;refine Bo λN w4 ad bf hN=>?_;have ca:=bf.size;have bq:=hN.lt;have cb:=hN;refine Sw ?_;refine CR λw5 bg hN=>?_;replace hN:Blk w5 N [.int .i64 m.new] 3:=hN;have a1:Ai w3 w5:=bf.step bg AdG;have cc:=a1.size;replace hA:=hA.ext a1;replace hR:=hR.ext a1;replace hX:=hX.ext a1;replace hO:=hO.ext a1;refine Sw ?_;refine Ay rfl rfl (Pb p m.to.length c w5) ?_;rintro u w6 ⟨rfl,bh,a7⟩;have cd:=a7.size;replace hA:=hA.ext a7;replace hR:=hR.ext a7;replace hX:=hX.ext a7;replace hN:=hN.ext a7;replace hO:=hO.ext a7;have aj:=((a4.trans an).trans a1).trans a7;have ce:=hN.lt;have cf:=bh.lt;have bi:∀j z,m.to[j]?=some z→-1≤z∧z≤1000000:=λj z hj=>hz z (Abn hj);refine Sa ?_;refine CW.rangeFunc (α:=Fin m.to.length) (gf:=284) (lb:=[.pointer (some ⟨w5.heap.size,0,none⟩)]) (encs:=WK m.to) (ok:=λb=>b<w.heap.size∨b=w5.heap.size) (S:=λys=>ys.length=m.to.length∧Gc ys) (Sp:=λ_=>True) (N:=m.to.length) (w0:=w6) rfl AdF (S9 m.to p c w5.heap.size _ w6 hl bh (.inr rfl) (λcg=>?_) (λb hb=>by omega)) (Below.refl _ _) (λb hb=>by omega) (λ_=>rfl) rfl
  (λpre W=>∃L nx,Aas m w2.heap.size (λb=>b<w.heap.size∨b=w5.heap.size) w w6 W A R X N v pre L nx) (λpre W W' row hb hg hr=>?_) ⟨m.to,m.new,⟨Abi _,B8.refl _ _,aj.toBelow,hX,hR,hN,hO,hn0,hn1,λ_=>⟨by simp[UV],by simp[CD]⟩⟩⟩ (λx=>[(2,.pointer (some ⟨R,0,none⟩)),(3,.pointer (some ⟨X,0,none⟩)),(4,.pointer (some ⟨N,0,none⟩)),(5,.int .i64 ((x.val:Nat):Int)),(6,.int .i64 (m.to.getD x.val 0))]) ?_ ?_ ?_
 ·obtain⟨z0,h0⟩:∃z,m.to[0]?=some z:=⟨_,Aap AdE⟩;obtain⟨a,ea,br⟩:=AY.at1 h h0;refine⟨a,ea,.inl ?_,λj z hj=>?_⟩
  ·have:=AbO w _ br
   rwa [BF] at this
  ·obtain⟨a',e,hc⟩:=AY.at1 h hj;rw[ea] at e;obtain rfl:=Abm e;exact A0 aj hc
 ·obtain⟨L,nx,hb⟩:=hb;have ao:∀r,row=some r→∃o:Obj,W.heap[r]?=some o∧o.isCells=false:=λr e=>(hr r e).2;exact⟨L,nx,⟨Abr hb.size hg.size,hb.kept.trans λb ci=>hg.block b (by have:=hb.size;omega) (λe=>by have:=(hr b e.symm).1;omega),hb.below.grown hg (by have:=hb.size;omega) (λk e=>by have:=(hr k e).1;omega),hb.bX.grown hg ao,hb.bR.grown hg ao,hb.bN.grown hg ao,hb.own.grown hg ao,hb.nx0,hb.nx1,hb.at_⟩⟩
 ·intro lk pre x W K hi hK;have hF:=TP.inRound lk;show E.CI _ _ _ _ _ _ _ ((22,.int .i64 (m.to.getD x.val 0))::(21,.int .i64 ((x.val:Nat):Int))::_) _;refine TU ?_;unfold QW;exact λa ha=>hK a (ha.sub (Al.cons rfl (Al.cons rfl (Al.cons rfl (Al.cons rfl (Al.cons rfl (Al.nil)))))))
 ·rintro lk pre x W ⟨L,nx,hb⟩ bs;have hF:=TP.inRound lk;obtain⟨z,ap⟩:∃z,m.to[x.val]?=some z:=⟨_,Aap x.2⟩;have ez:m.to.getD x.val 0=z:=by rw[AaF,ap];rfl
  obtain⟨bt,ay⟩:=bi _ _ ap;obtain⟨aq,b0,ar,a5,af,ad,ak,b1,b2,au⟩:=hb;have cj:=x.2;have bu:=a5.lt;have bv:=ad.lt;have ck:N≠X:=AdE
  have cl:N≠R:=AdE
  have cm:N<w5.heap.size:=by have:=bq;have:=bg.size;omega
  have cn:w.heap.size≤N:=AdE
  have bj:∀b,b<w.heap.size∨b=w5.heap.size→b≠N:=λb hb=>by omega
  have bk:∀b,b∈Ac v→b≠N:=λb hm=>by have:=be b hm;omega
  rw[ez];refine TU ?_;refine E.CI.cond rfl (λh1=>?_) (λh1=>?_)
  ·have h1:0≤z:=by simpa using h1
   refine TU ?_;refine E.LI.store hF rfl rfl rfl ad rfl rfl rfl λW' hc b3=>?_;replace b3:Blk W' N [.int .i64 z] 3:=b3;refine TU ?_;unfold QW;refine λ_ _=>⟨KeepsFrom.chg hc (λb hm=>by simp only[Aad] at hm;subst hm;exact⟨_,_,ad⟩),B8.chg hc (λb hm=>⟨by omega,by simp only[Aad];exact bj b hm⟩),L,z,⟨Abr aq hc.size,b0.trans (B8.chg hc (λb hm=>⟨by omega,by simp only[Aad];exact bj b hm⟩)),ar.trans (hc.below AdE AdG),a5.chg hc AdG,af.chg hc AdG,b3,ak.chg hc (λb hm=>by simp only[Aad];exact bk b hm),h1,ay,λb4=>?_⟩⟩;obtain⟨a8,b5⟩:=b4.snoc;obtain⟨e1,e2⟩:=au a8;have e3:m.to.length - pre.length=x.val+1:=AdE
   have e4:m.to.length - (pre++[x]).length=x.val:=AdG
   rw[e4];obtain⟨e5,e6⟩:=S6 (new:=m.new) ap h1;exact⟨by rw[e1,e3,e5],e6.symm⟩
  ·have h1:¬0≤z:=by simpa using h1
   obtain⟨b6,⟨_,bw⟩ | ⟨g,cap,sp,rfl,hG,h5,h6,h7⟩⟩:=ak
   ·omega
   have bl:(Af L).length=L.length:=A9 L;have co:=bk g Aet;have bx:g≠X:=λe=>az (by simp[Ac,e]);have bz:=hG.lt;refine TU ?_;refine E.LI.store (i:=0+((x.val:Nat):Int).toNat*1) hF (by show some (Value.pointer (some (Addr.add ⟨g,0,none⟩ (((x.val:Nat):Int).toNat*1))))=_;rw[Au]) rfl rfl hG (AbD Ae6) rfl rfl λW' hc b7=>?_;replace b7:Blk W' g (Af (L.set x.val (-1 - nx))++sp) 3:=by
    have e:(Af L++sp).set (0+((x.val:Nat):Int).toNat*1) (.int .i64 (-1 - nx))=Af (L.set x.val (-1 - nx))++sp:=by
     rw[show 0+((x.val:Nat):Int).toNat*1=x.val by omega,List.set_append_left _ _ AdE];simp[Af]
    rw[←e];exact b7
   have bm:∀b,b<w.heap.size∨b=w5.heap.size→b≠g:=λb hb=>by have:=be g Aet;omega
   refine TU ?_;unfold QW;refine λ_ _=>⟨KeepsFrom.chg hc (λb hm=>by simp only[Aad] at hm;subst hm;exact⟨_,_,hG⟩),B8.chg hc (λb hm=>⟨by omega,by simp only[Aad];exact bm b hm⟩),L.set x.val (-1 - nx),nx,⟨Abr aq hc.size,b0.trans (B8.chg hc (λb hm=>⟨by omega,by simp only[Aad];exact bm b hm⟩)),ar.trans (hc.below AdE AdG),a5.chg hc AdG,af.chg hc AdG,ad.chg hc AdG,⟨by rw[A9,AbS,←bl];exact b6,.inr ⟨g,cap,sp,rfl,b7,h5,h6,h7⟩⟩,b1,b2,λb4=>?_⟩⟩;obtain⟨a8,b5⟩:=b4.snoc;obtain⟨e1,e2⟩:=au a8;have e3:m.to.length - pre.length=x.val+1:=AdE
   have e4:m.to.length - (pre++[x]).length=x.val:=AdG
   rw[e4];rw[e3] at e1 e2;obtain⟨e5,e6⟩:=S7 (new:=m.new) ap h1;exact⟨by rw[e1,e2];exact e5,by rw[e2];exact e6.symm⟩
 ·intro Dd ys W hD c0 hb hK;obtain⟨c1,c2⟩:=c0;obtain⟨L,nx,aq,b0,ar,a5,af,ad,ak,-,-,au⟩:=hb;obtain⟨e1,-⟩:=au c2;rw[c1,Acz,S8] at e1;subst e1;obtain⟨p',c',rfl⟩:=ak.slice;refine Sw ?_;refine CW.loop (ι:=Nat×List Int×Int) (λx w'=>x.1≤m.to.length∧Jk m.new m.to x.1 x.2.1 x.2.2∧x.2.2≤1000001∧Blk w' X [.slice p' m.to.length c',.int .i64 m.new] 77∧E.Own w' w2.heap.size 3 1 (.slice p' m.to.length c') m.to.length (Af (x.2.1++D3 m.new (m.to.drop x.1)))∧Below w.heap.size w w'∧Blk w' R [.slice none 0 0,.int .i64 0] 77∧w'.heap[Dd]?=some (.deferred (some []))∧w6.heap.size≤w'.heap.size) (λx=>[(2,.pointer (some ⟨R,0,none⟩)),(3,.pointer (some ⟨X,0,none⟩)),(7,.int .i64 x.2.2),(33,.slice p' m.to.length c'),(34,.int .i64 m.to.length),(35,.int .i64 x.1)]) (λx=>m.to.length - x.1) (0,[],0) ⟨Acn _,Jk.start _ _,by decide,a5,by simpa using ak,ar,af,hK,aq⟩ NM ?_;rintro⟨j,done,free⟩ w7 ⟨hj,hP,hf,b8,ae,av,a9,aa,b9⟩;dsimp only at hj hP hf ae;show CW _ _ _ _ _ [(2,.pointer (some ⟨R,0,none⟩)),(3,.pointer (some ⟨X,0,none⟩)),(7,.int .i64 free),(33,.slice p' m.to.length c'),(34,.int .i64 m.to.length),(35,.int .i64 (j:Int))] _;refine Sw ?_;refine A8 (λh1=>?_) λh1=>?_;rotate_left
  ·have h1:j=m.to.length:=by simp at h1;omega
   subst h1;rw[hP.all,Ad4] at ae;have aw:Dd<w7.heap.size:=(Ac3.1 aa).1;refine Sw ?_;refine AD λw8 a0 a9=>?_;replace a9:Blk w8 R [.slice p' m.to.length c',.int .i64 m.new] 77:=a9;have c3:=a9;have ba:w8.heap[Dd]?=some (.deferred (some [])):=(a0.block Dd aw AdG).trans aa;have c4:R∉Ac (.slice p' m.to.length c'):=λhm=>by have:=(ae.lt hm).1;omega
   refine Sw ?_;refine QW.bodyM (.inl rfl) results209 ba (vs:=[.agg ⟨[.slice p' m.to.length c',.int .i64 m.new]⟩]) ⟨⟨R,rfl,C4 rfl rfl (c3.put ba rfl) rfl (Dz.all _)⟩,trivial⟩ rfl ⟨.slice p' m.to.length c',rfl,?_,?_⟩
   ·refine E.Own.put (E.Own.low (lo:=w2.heap.size) ?_ AdE) ba rfl;have:=ae.chg a0 (λb hb=>by simp only[Aad];exact λe=>c4 (e ▸ hb))
    simpa[D3] using this
   ·exact Ai.of_below (UW _ (av.trans (a0.below AdE AdG)) Aes AdE)
  have h1:j<m.to.length:=by simp at h1;omega
  obtain⟨z,ab⟩:∃z,m.to[j]?=some z:=⟨_,Aap h1⟩;obtain⟨bt,ay⟩:=bi _ _ ab;obtain⟨b6,⟨_,bw⟩ | ⟨g,cap,sp,ev,hG,h5,h6,h7⟩⟩:=id ae
  ·omega
  obtain⟨rfl,-,rfl⟩:=Acw ev;have bl:(Af (done++D3 m.new (m.to.drop j))).length=m.to.length:=by rw[b6];omega
  have bb:=hP.free0;have cp:=LB hn0 hn1 (l:=m.to.drop (j+1)) (λy hy=>(hz y (List.mem_of_mem_drop hy)).2);have a3:∀u,(if 0≤z then z else -1 - CD m.new (m.to.drop (j+1)))=u→w7.cell? ((⟨g,0,none⟩:Addr).add (((j:Nat):Int).toNat*1))=some (.int .i64 u):=λu hu=>by
   rw[Au];refine hG.cell ?_;rw[show 0+((j:Nat):Int).toNat*1=j by omega,Abk AdE];have:=YI (new:=m.new) hP.len ab;rw[hu] at this;simp only[Af,Ab1,this,Ab3]
  have bz:=hG.lt;have bx:g≠X:=λe=>az (by simp[Ac,e]);have cq:g≠R:=AdE
  have aw:Dd<w7.heap.size:=(Ac3.1 aa).1;have cr:Dd≠g:=λe=>by
   unfold Blk at hG;rw[←e,aa] at hG;cases hG
  by_cases ac:0≤z
  ·have hc:=a3 z (if_pos ac);refine Sw ?_;refine CW.yes rfl (by simpa using ac) ?_;refine Sw ?_;refine QW.again (j+1,done++[z],z+1) ⟨by show j+1≤_;omega,hP.kept ab ac,by show z+1≤_;omega,b8,?_,av,a9,aa,b9⟩ NM Aeo;show E.Own _ _ _ _ _ _ (Af ((done++[z])++D3 m.new (m.to.drop (j+1))));rw[←Xk ab ac];exact ae
  ·have hc:=a3 _ (if_neg ac);have al:∀y,Chg [g] w7=Chg [g] w7∧((Af (done++D3 m.new (m.to.drop j))++sp).set (0+((j:Nat):Int).toNat*1) (.int .i64 y)=Af ((done++[y])++D3 m.new (m.to.drop (j+1)))++sp):=λy=>⟨rfl,by
    rw[show 0+((j:Nat):Int).toNat*1=j by omega,List.set_append_left _ _ AdE,←Vv hP.len ab];simp[Af]⟩
   refine Sw ?_;refine CW.no rfl AdG ?_;refine Sw ?_;refine A8 (λh2=>?_) λh2=>?_
   ·have h2:free<CD m.new (m.to.drop (j+1)):=by simp at h2;omega
    refine Sw ?_;refine LW.store (i:=0+((j:Nat):Int).toNat*1) (by show some (Value.pointer (some (Addr.add ⟨g,0,none⟩ (((j:Nat):Int).toNat*1))))=_;rw[Au]) rfl rfl hG (AbD Ae6) rfl rfl λw8 a0 am=>?_;rw[(al free).2] at am;refine Sw ?_;exact QW.again (j+1,done++[free],free+1) ⟨by show j+1≤_;omega,hP.fill ab ac h2,by show free+1≤_;omega,b8.chg a0 AdG,⟨by rw[A9,Aaq,KA,Acq];have:=hP.len;simp;omega,.inr ⟨g,_,sp,rfl,am,h5,h6,h7⟩⟩,av.trans (a0.below AdE AdG),a9.chg a0 AdG,(a0.block Dd aw AdG).trans aa,Abr b9 a0.size⟩ NM Aeo
   ·have h2:¬free<CD m.new (m.to.drop (j+1)):=by simp at h2;omega
    refine Sw ?_;refine LW.store (i:=0+((j:Nat):Int).toNat*1) (by show some (Value.pointer (some (Addr.add ⟨g,0,none⟩ (((j:Nat):Int).toNat*1))))=_;rw[Au]) rfl rfl hG (AbD Ae6) rfl rfl λw8 a0 am=>?_;rw[(al (-1)).2] at am;refine Sw ?_;exact QW.again (j+1,done++[-1],free) ⟨by show j+1≤_;omega,hP.gone ab ac h2,hf,b8.chg a0 AdG,⟨by rw[A9,Aaq,KA,Acq];have:=hP.len;simp;omega,.inr ⟨g,_,sp,rfl,am,h5,h6,h7⟩⟩,av.trans (a0.below AdE AdG),a9.chg a0 AdG,(a0.block Dd aw AdG).trans aa,Abr b9 a0.size⟩ NM Aeo
section
variable {α:Type} [DecidableEq α]
theorem Ma:∀(a b:List α),C0 a b≤a.length
 | [],_=>by simp[C0]
 | _::_,[]=>by simp[C0]
 | x::a,y::b=>by
  have h1:=Ma a b;have h2:=Ma a (y::b);have h3:=Ma (x::a) b;simp only[C0,AaL] at *
  split<;>omega
 termination_by a b=>a.length+b.length
theorem V4{a b:List α}{i k:Nat}(h:a.length≤i):C0 (a.drop i) (b.drop k)=0:=by
 rw[AbU h];simp[C0]
theorem V5{a b:List α}{i k:Nat}(h:b.length≤k):C0 (a.drop i) (b.drop k)=0:=by
 rw[AbU h];cases a.drop i<;>simp[C0]
omit [DecidableEq α] in
theorem JL{l:List α}{i:Nat}{x:α}(h:l[i]?=some x):l.drop i=x::l.drop (i+1):=by
 obtain⟨hi,rfl⟩:=Abg.1 h;exact Ace hi
theorem YP{a b:List α}{i k:Nat}{x y:α}(h1:a[i]?=some x)(h2:b[k]?=some y):C0 (a.drop i) (b.drop k)=if x=y then C0 (a.drop (i+1)) (b.drop (k+1))+1 else max (C0 (a.drop (i+1)) (b.drop k)) (C0 (a.drop i) (b.drop (k+1))):=by
 rw[JL h1,JL h2];simp only[C0]
theorem VN{a b:List α}{i k:Nat}{x y:α}(h1:a[i]?=some x)(h2:b[k]?=some y):AC (a.drop i) (b.drop k) i k=if x=y then(i,k)::AC (a.drop (i+1)) (b.drop (k+1)) (i+1) (k+1) else if C0 (a.drop i) (b.drop (k+1))≤C0 (a.drop (i+1)) (b.drop k) then AC (a.drop (i+1)) (b.drop k) (i+1) k else AC (a.drop i) (b.drop (k+1)) i (k+1):=by
 rw[JL h1,JL h2];simp only[AC]
theorem Nf{a b:List α}{i k:Nat}(h:a.length≤i∨b.length≤k):AC (a.drop i) (b.drop k) i k=[]:=by
 rcases h with h | h
 ·rw[AbU h];simp[AC]
 ·rw[AbU h];cases a.drop i<;>simp[AC]
def G7(a b:List α)(i j:Nat):List Int:=(List.range (b.length+1)).map λk=>if j≤k then((C0 (a.drop i) (b.drop k):Nat):Int) else 0
theorem Fw(a b:List α)(i j:Nat):(G7 a b i j).length=b.length+1:=by simp[G7]
theorem II{a b:List α}{i j k:Nat}(h:k≤b.length):(G7 a b i j)[k]?=some (if j≤k then((C0 (a.drop i) (b.drop k):Nat):Int) else 0):=by
 simp[G7,AbX (by omega:k<b.length+1)]
theorem Nh{a b:List α}{i j:Nat}(h:a.length≤i∨b.length≤j):G7 a b i j=List.replicate (b.length+1) 0:=by
 apply AbT;intro k;by_cases hk:k≤b.length
 ·have e:(if j≤k then((C0 (a.drop i) (b.drop k):Nat):Int) else 0)=0:=by
   split
   ·rcases h with h | h
    ·rw[V4 h];rfl
    ·rw[V5 AdE];rfl
   ·rfl
  rw[II hk,e,AcZ,if_pos AdE]
 ·rw[Abs (by rw[Fw];omega),Abs AdG]
theorem VO{a b:List α}{i j:Nat}(h:j≤b.length):(G7 a b i (j+1)).set j ((C0 (a.drop i) (b.drop j):Nat):Int)=G7 a b i j:=by
 apply AbT;intro k;by_cases hk:k≤b.length
 ·rw[AcI,II hk,II hk,Fw];by_cases e:j=k
  ·subst e;simp;omega
  ·rw[if_neg e];by_cases h2:j+1≤k
   ·rw[if_pos h2,if_pos AdE]
   ·rw[if_neg h2,if_neg AdE]
 ·rw[Abs (by rw[AbS,Fw];omega),Abs (by rw[Fw];omega)]
omit [DecidableEq α] in
theorem Ng{a b:List α}{i k:Nat}(h1:i<a.length)(h2:k<b.length):∃x y,a[i]?=some x∧b[k]?=some y:=⟨_,_,Aap h1,Aap h2⟩
end
theorem Vy{l:List Int}{k:Nat}:(Af l)[k]?=(l[k]?).map λz=>.int .i64 z:=by simp[Af]
theorem DG(l:List Int)(k:Nat)(z:Int):(Af l).set k (.int .i64 z)=Af (l.set k z):=by simp[Af]
theorem GP(l m:List Int):Af (l++m)=Af l++Af m:=by simp[Af]
theorem Ps(n:Nat):Af (List.replicate n 0)=List.replicate n (.int .i64 0):=by simp[Af]
def JT(n m j r:Nat):Nat:=if m≤r then 0 else if r+1=m then j else n
def H8{α:Type}[DecidableEq α](a b:List α)(m j r:Nat):Option (List Value):=if r≤a.length then some (Af (G7 a b r (JT b.length m j r))) else none
theorem Ie{α:Type}[DecidableEq α]{a b:List α}{m j r:Nat}(h:r≤a.length):H8 a b m j r=some (Af (G7 a b r (JT b.length m j r))):=if_pos h
theorem TB{α:Type}[DecidableEq α]{a b:List α}{m r:Nat}:H8 a b (m+1) 0 r=H8 a b m b.length r:=by
 unfold H8;by_cases h:r≤a.length
 ·rw[if_pos h,if_pos h]
  congr 3
  unfold JT
  split<;>split<;>(try split)<;>(try split)<;>first | rfl | omega
 ·rw[if_neg h,if_neg h]
theorem Ig{α:Type}[DecidableEq α]{a b:List α}{r:Nat}:(if r<a.length+1 then some (List.replicate (b.length+1) (Value.int .i64 0)) else none)=H8 a b a.length b.length r:=by
 unfold H8;by_cases h:r≤a.length
 ·rw[if_pos AdE,if_pos h]
  congr 1
  rw[←Ps]
  congr 1
  unfold JT
  split
  ·rw[Nh (.inl AdE)]
  ·split<;>rw[Nh (.inr (Abi _))]
 ·rw[if_neg AdE,if_neg h]
theorem Nx{α:Type}[DecidableEq α]{a b:List α}{m j r:Nat}(hm:m<a.length)(hj:j<b.length){x:List Value}(hx:x=(Af (G7 a b m (j+1))).set j (.int .i64 ((C0 (a.drop m) (b.drop j):Nat):Int))):(if r=m then some x else H8 a b (m+1) (j+1) r)=H8 a b (m+1) j r:=by
 by_cases h:r=m
 ·subst h;rw[if_pos rfl,Ie AdE,hx,DG,VO AdE,JT,if_neg AdE,if_pos rfl]
 ·rw[if_neg h];unfold H8;by_cases h2:r≤a.length
  ·rw[if_pos h2,if_pos h2]
   congr 3
   unfold JT
   split
   ·rfl
   ·rw[if_neg AdE,if_neg AdE]
  ·rw[if_neg h2,if_neg h2]
theorem A2.bound{ok:Addr→Prop}{w:World}{v:Value}{l:List (List UInt8)}(h:A2 ok w v l):A2 (λa=>ok a∧a.block<w.heap.size) w v l:=by
 obtain⟨h0,h | ⟨a,c,e,hk,hc⟩⟩:=h
 ·exact⟨h0,.inl h⟩
 ·refine⟨h0,.inr ⟨a,c,e,λhn=>⟨hk hn,?_⟩,hc⟩⟩;obtain⟨a',c',e',a0⟩:=Ab.lt (m:=1) ⟨h0,.inr ⟨a,c,e,hk,hc⟩⟩ AdE hn;rw[e] at e';obtain⟨e1,-,-⟩:=Acw e';obtain rfl:=Abm e1;exact a0
structure K0(a b:List (List UInt8))(av bv:Value)(lo X O:Nat)(xs:List Value)(f:Nat→Nat)(m j:Nat)(w:World):Prop where
 bX:Blk w X [av,bv,.slice (some ⟨O,0,none⟩) (a.length+1) (a.length+1)] 316
 bO:Blk w O xs 75
 len:xs.length=a.length+1
 grid:Er 3 lo w xs (H8 a b m j) f [O]
theorem K0.ext{a b:List (List UInt8)}{av bv:Value}{lo X O:Nat}{xs:List Value}{f:Nat→Nat}{m j:Nat}{w w':World}(h:K0 a b av bv lo X O xs f m j w)(x:Ai w w'):K0 a b av bv lo X O xs f m j w':=⟨h.bX.ext x,h.bO.ext x,h.len,h.grid.ext x⟩
theorem K0.row{a b:List (List UInt8)}{av bv:Value}{lo X O:Nat}{xs:List Value}{f:Nat→Nat}{m j:Nat}{w:World}(h:K0 a b av bv lo X O xs f m j w){r:Nat}(hr:r≤a.length):w.cell? ((⟨O,0,none⟩:Addr).add (r*1))=some (.slice (some ⟨f r,0,none⟩) (b.length+1) (b.length+1)):=by
 have:=h.grid.row h.bO (Ie hr)
 rwa [A9,Fw] at this
theorem K0.cell{a b:List (List UInt8)}{av bv:Value}{lo X O:Nat}{xs:List Value}{f:Nat→Nat}{m j:Nat}{w:World}(h:K0 a b av bv lo X O xs f m j w){r k:Nat}(hr:r≤a.length)(hk:k≤b.length)(hl:JT b.length m j r≤k):w.cell? ((⟨f r,0,none⟩:Addr).add (k*1))=some (.int .i64 ((C0 (a.drop r) (b.drop k):Nat):Int)):=by
 refine h.grid.cell (Ie hr) ?_;rw[Vy,II hk,if_pos hl];rfl
set_option maxRecDepth 8000 in
set_option maxHeartbeats 2000000 in
theorem Xc(a b:List (List UInt8))(av bv:Value)(X:Nat)(w:World)(ha:A2 (λx=>x.block<X) w av a)(hb:A2 (λx=>x.block<X) w bv b)(hla:a.length≤200)(hlb:b.length≤200)(hX:Blk w X [av,bv,.slice none 0 0] 316) :
  AF prog 283 [.pointer (some ⟨X,0,none⟩)] w (λv w'=>v=.tuple #[]∧Chg [X] w w'∧∃O xs f,K0 a b av bv w.heap.size X O xs f 0 b.length w'):=by
 obtain⟨p,c,rfl⟩:=Ab.slice ha;obtain⟨q,d,rfl⟩:=Ab.slice hb;have bj:=hX.lt;refine Bj func283 ntmps283 ?_;refine Sw ?_;refine LW.makeSlice (m:=a.length+1) rfl rfl rfl rfl rfl rfl rfl AdE rfl rfl ?_;intro O w1 bk ai hO;replace hX:=hX.ext ai;have bl:=ai.size;have bm:=hO.lt;refine Sw ?_;refine CR λw2 aj hX=>?_;replace hX:Blk w2 X [.slice p a.length c,.slice q b.length d,.slice (some ⟨O,0,none⟩) (a.length+1) (a.length+1)] 316:=hX;replace hO:=hO.chg aj AdG;have bn:=aj.size;have ak:Chg [X] w w2:=ai.chg.same aj;refine Sw ?_;refine CW.loop (ι:=Nat×(Nat→Nat)×List Value) (λx w'=>x.1≤a.length+1∧Chg [O] w2 w'∧Blk w' O x.2.2 75∧x.2.2.length=a.length+1∧Er 3 w2.heap.size w' x.2.2 (λr=>if r<x.1 then some (List.replicate (b.length+1) (Value.int .i64 0)) else none) x.2.1 [O]) (λx=>[(0,.pointer (some ⟨X,0,none⟩)),(19,.int .i64 ((a.length+1:Nat):Int)),(20,.int .i64 x.1)]) (λx=>a.length+1 - x.1) (0,(λ_=>0),List.replicate (a.length+1) (.slice none 0 0)) ⟨Acn _,Chg.refl _ _,hO,by simp,Er.none.congr rfl (λr=>by simp) (λ_=>rfl)⟩ CF ?_;rintro⟨k,f,xs⟩ w3 ⟨hk,a9,ad,ae,hG⟩;dsimp only at hk a9 ad ae hG;show CW _ _ _ _ _ [(0,.pointer (some ⟨X,0,none⟩)),(19,.int .i64 ((a.length+1:Nat):Int)),(20,.int .i64 (k:Int))] _;have al:=hX.chg a9 AdG;have bo:=a9.size;refine Sw ?_;refine A8 (λh1=>?_) λh1=>?_
 ·have h1:k<a.length+1:=by simp at h1;omega
  refine Sw ?_;refine CW.drawG (Ai w3) 12 (λw' h=>h) AdF λwa b6=>?_;refine AJ ?_;refine BE 11 λhS=>?_;refine LW.makeSlice (m:=b.length+1) rfl rfl rfl rfl rfl rfl rfl AdE rfl rfl ?_;intro g w4 bp b7 b8;have af:=hS.trans b7;have bq:=hS.size;apply LW.nil;refine QW.headed af ?_;refine GW.tail rfl AdF (λhS=>?_);refine Sw ?_;refine LW.store (i:=0+((k:Nat):Int).toNat*1) (by show some (Value.pointer (some (Addr.add ⟨O,0,none⟩ (((k:Nat):Int).toNat*1))))=_;rw[Au]) rfl rfl (ad.ext af) (AbD (by show _+1≤_;omega)) rfl rfl λw5 a8 aq=>?_;rw[show 0+((k:Nat):Int).toNat*1=k by omega] at aq;have b9:=(hG.ext af).other a8 AdM;have am:=b8.chg a8 AdG;have ag:=b9.put (r:=k) (g:=g) (x:=List.replicate (b.length+1) (Value.int .i64 0)) AdE am AdE AdG (λq y hq _=>by have:=(hG.blk q y hq).1.lt;omega);refine Sw ?_;exact QW.again (k+1,(λq=>if q=k then g else f q),xs.set k (.slice (some ⟨g,0,none⟩) (b.length+1) (b.length+1))) ⟨h1,(a9.ext af).same a8,aq,by simpa using ae,ag.congr AdM (λr=>by
   by_cases e:r=k
   ·rw[if_pos e,if_pos AdE]
   ·rw[if_neg e];by_cases e2:r<k
    ·rw[if_pos e2,if_pos (by show r<k+1;omega)]
    ·rw[if_neg e2,if_neg (by show ¬r<k+1;omega)]) (λ_=>rfl)⟩ CF (by show a.length+1 - (k+1)<a.length+1 - k;omega)
 have h1:k=a.length+1:=by simp at h1;omega
 subst h1;have an:Chg [X] w w3:=ak.more a9 AdG;have ar:K0 a b (.slice p a.length c) (.slice q b.length d) w.heap.size X O xs f a.length b.length w3:=⟨al,ad,ae,⟨λr x hr=>(hG.congr rfl (λr=>Ig) (λ_=>rfl)).val r x hr,λr x hr=>by
  obtain⟨h1,h2,h3⟩:=(hG.congr rfl (λr=>Ig) (λ_=>rfl)).blk r x hr;exact⟨h1,by omega,h3⟩,(hG.congr rfl (λr=>Ig) (λ_=>rfl)).inj⟩⟩
 clear hG ad al hX hO ae;have al:=ar.bX;refine Sw ?_;refine CW.loop (ι:=Nat) (λm w'=>m≤a.length∧Chg [X] w w'∧K0 a b (.slice p a.length c) (.slice q b.length d) w.heap.size X O xs f m b.length w') (λm=>[(0,.pointer (some ⟨X,0,none⟩)),(3,.int .i64 ((m:Int) - 1))]) (λm=>m) a.length ⟨Abi _,an,ar⟩ LN ?_;rintro m w4 ⟨hm,au,ao⟩;have br:=ao.bX;refine Sw ?_;refine A8 (λh2=>?_) λh2=>?_;rotate_left
 ·have h2:m=0:=by simp at h2;omega
  subst h2;refine Sw ?_;exact QW.body_n (rs:=[]) (vs:=[]) results283 trivial rfl ⟨rfl,au,O,xs,f,ao⟩
 have h2:0<m:=by simp at h2;omega
 obtain⟨i,rfl⟩:∃i,m=i+1:=⟨m - 1,by omega⟩;have ei:(((i+1:Nat):Int) - 1)=(i:Int):=AdE
 rw[ei];refine Sw ?_;refine CW.loop (ι:=Nat) (λj w'=>j≤b.length∧Chg [X] w w'∧K0 a b (.slice p a.length c) (.slice q b.length d) w.heap.size X O xs f (i+1) j w') (λj=>[(0,.pointer (some ⟨X,0,none⟩)),(3,.int .i64 (i:Int)),(4,.int .i64 ((j:Int) - 1))]) (λj=>j) b.length ⟨Abi _,au,ao⟩ CF ?_;rintro j w5 ⟨hj,a8,a1⟩;have aw:=a1.bX;refine Sw ?_;refine A8 (λh3=>?_) λh3=>?_;rotate_left
 ·have h3:j=0:=by simp at h3;omega
  subst h3;refine Sw ?_;exact QW.again i ⟨by omega,a8,⟨a1.bX,a1.bO,a1.len,a1.grid.congr rfl (λr=>TB) (λ_=>rfl)⟩⟩ LN AdE
 have h3:0<j:=by simp at h3;omega
 obtain⟨k,rfl⟩:∃k,j=k+1:=⟨j - 1,by omega⟩;have ek:(((k+1:Nat):Int) - 1)=(k:Int):=AdE
 rw[ek];have hi:i<a.length:=AdE
 have hk:k<b.length:=AdE
 obtain⟨x,y,ax,ay⟩:=Ng hi hk;have az:w5.cell? ((⟨O,0,none⟩:Addr).add (((i:Nat):Int).toNat*1))=some (.slice (some ⟨f i,0,none⟩) (b.length+1) (b.length+1)):=a1.row (r:=i) AdE;have b0:w5.cell? ((⟨O,0,none⟩:Addr).add ((((i:Nat):Int)+1).toNat*1))=some (.slice (some ⟨f (i+1),0,none⟩) (b.length+1) (b.length+1)):=a1.row (r:=i+1) AdE;have hA:w5.cell? ((⟨f (i+1),0,none⟩:Addr).add (((k:Nat):Int).toNat*1))=some (.int .i64 ((C0 (a.drop (i+1)) (b.drop k):Nat):Int)):=a1.cell (r:=i+1) (k:=k) AdE AdE (by simp[JT]);have hB:w5.cell? ((⟨f i,0,none⟩:Addr).add ((((k:Nat):Int)+1).toNat*1))=some (.int .i64 ((C0 (a.drop i) (b.drop (k+1)):Nat):Int)):=a1.cell (r:=i) (k:=k+1) AdE AdE (by rw[JT,if_neg AdE,if_pos rfl];omega);have hC:w5.cell? ((⟨f (i+1),0,none⟩:Addr).add ((((k:Nat):Int)+1).toNat*1))=some (.int .i64 ((C0 (a.drop (i+1)) (b.drop (k+1)):Nat):Int)):=a1.cell (r:=i+1) (k:=k+1) AdE AdE (by simp[JT]);have ba:=Ma (a.drop (i+1)) (b.drop (k+1));rw[Acq] at ba;have a6:H8 a b (i+1) (k+1) i=some (Af (G7 a b i (k+1))):=by
  rw[Ie AdE,JT,if_neg AdE,if_pos rfl]
 obtain⟨b1,bb,bc⟩:=a1.grid.blk i _ a6;have aa:H8 a b (i+1) (k+1) (i+1)=some (Af (G7 a b (i+1) 0)):=by
  rw[Ie AdE,JT,if_pos AdE]
 have bd:f (i+1)≠f i:=λe=>by have:=a1.grid.inj _ _ _ _ aa a6 e;omega
 have a3:f i≠O:=by simpa using bc
 have bs:(Af (G7 a b i (k+1))).length=b.length+1:=by rw[A9,Fw]
 refine Sw ?_;refine CW.drawG (Ai w5) 32 (λw' h=>h) AdF λwa b6=>?_;refine AJ ?_;refine GW.tail rfl AdF (λhS=>?_);refine LW.store (i:=0+((k:Nat):Int).toNat*1) (by show some (Value.pointer (some (Addr.add ⟨f i,0,none⟩ (((k:Nat):Int).toNat*1))))=_;rw[Au]) rfl rfl (b1.ext hS) (AbD (by show _+1≤_;omega)) rfl rfl λw6 a7 ap=>?_;rw[show 0+((k:Nat):Int).toNat*1=k by omega] at ap;have a4:Chg [X] w w6:=(a8.ext hS).more a7 AdG;have b2:=(aw.ext hS).chg a7 AdG;have b3:=(a1.bO.ext hS).chg a7 (by simpa using λe:O=f i=>a3 e.symm);have ag:=(a1.grid.ext hS).set a6 a7 ap;obtain⟨xa,be,-,-,bt⟩:=A2.at (A2.chg ha a4 (λ_ a0 h0=>by simp;omega)) ax;obtain⟨ya,bf,-,-,bu⟩:=A2.at (A2.chg hb a4 (λ_ a0 h0=>by simp;omega)) ay;subst be bf;have ab:w6.cell? ((⟨O,0,none⟩:Addr).add (((i:Nat):Int).toNat*1))=some (.slice (some ⟨f i,0,none⟩) (b.length+1) (b.length+1)):=Gs a7 (by rw[BF];simpa using λe:O=f i=>a3 e.symm) (BH hS az);have ac:w6.cell? ((⟨O,0,none⟩:Addr).add ((((i:Nat):Int)+1).toNat*1))=some (.slice (some ⟨f (i+1),0,none⟩) (b.length+1) (b.length+1)):=Gs a7 (by rw[BF];simpa using λe:O=f i=>a3 e.symm) (BH hS b0);have b4:w6.cell? ((⟨f (i+1),0,none⟩:Addr).add ((((k:Nat):Int)+1).toNat*1))=some (.int .i64 ((C0 (a.drop (i+1)) (b.drop (k+1)):Nat):Int)):=Gs a7 (by rw[BF];simpa using bd) (BH hS hC);clear az b0 hA hB hC aw b1;refine Sw ?_;refine LU ?_;refine Sk ?_;refine QL.nil λw7 a2=>?_;have a5:=YP ax ay;refine Sa ?_;refine A8 (λh4=>?_) λh4=>?_
 ·have h4:x=y:=by simpa using h4
  rw[if_pos h4] at a5;have bg:=b2.ext a2;replace ab:=BH a2 ab;replace ac:=BH a2 ac;replace b4:=BH a2 b4;have bh:=ap.ext a2;refine Sw ?_;refine CW.drawG (Ai w7) 22 (λw' h=>h) AdF λwb bw=>?_;refine AJ ?_;refine GW.tail rfl AdF (λhS=>?_);refine LW.store (i:=0+((k:Nat):Int).toNat*1) (by show some (Value.pointer (some (Addr.add ⟨f i,0,none⟩ (((k:Nat):Int).toNat*1))))=_;rw[Au]) rfl rfl (bh.ext hS) (AbD (by show _+1≤_;rw[AbS];omega)) rfl rfl λw8 ah b5=>?_;rw[show 0+((k:Nat):Int).toNat*1=k by omega] at b5;have bi:=((ag.ext a2).ext hS).set (r:=i) (k:=k) (if_pos rfl) ah b5;refine Sw ?_;refine QW.again k ⟨by omega,((a4.ext a2).ext hS).more ah AdG,(bg.ext hS).chg ah AdG,((b3.ext a2).ext hS).chg ah (by simpa using λe:O=f i=>a3 e.symm),a1.len,bi.congr rfl (λr=>?_) (λ_=>rfl)⟩ CF AdE;rw[←Nx (r:=r) hi hk rfl];by_cases e:r=i
  ·rw[if_pos e,if_pos e,List.set_set,a5];rfl
  ·rw[if_neg e,if_neg e,if_neg e]
 ·have h4:x≠y:=by simpa using h4
  rw[if_neg h4] at a5;refine Sw ?_;refine QW.again k ⟨by omega,a4.ext a2,b2.ext a2,b3.ext a2,a1.len,(ag.ext a2).congr rfl (λr=>?_) (λ_=>rfl)⟩ CF AdE;rw[←Nx (r:=r) hi hk rfl];by_cases e:r=i
  ·rw[if_pos e,if_pos e,a5]
   congr 3
   rw[Nat.max_def]
   split<;>split<;>omega
  ·rw[if_neg e,if_neg e]
set_option maxRecDepth 8000 in
set_option maxHeartbeats 1000000 in
theorem Y0(a b:List (List UInt8))(av bv:Value)(lo X O:Nat)(xs:List Value)(f:Nat→Nat)(w:World)(ha:Ce w av a)(hb:Ce w bv b)(hla:a.length≤200)(hlb:b.length≤200)(hT:K0 a b av bv lo X O xs f 0 b.length w) :
  AF prog 257 [.pointer (some ⟨X,0,none⟩)] w (λv w'=>∃xv yv,v=.tuple #[xv,yv]∧E.Own w' w.heap.size 3 1 xv (AC a b 0 0).length (Af ((AC a b 0 0).map λz=>(z.1:Int)))∧E.Own w' w.heap.size 3 1 yv (AC a b 0 0).length (Af ((AC a b 0 0).map λz=>(z.2:Int)))∧Ai w w'):=by
 obtain⟨p,c,rfl⟩:=ha.slice;obtain⟨q,d,rfl⟩:=hb.slice;have hX:=hT.bX;refine Bj func257 ntmps257 ?_;refine Sa ?_;refine CW.loop (ι:=(Nat×Nat)×List (Nat×Nat)×Value×Value) (λx w'=>x.1.1≤a.length∧x.1.2≤b.length∧Ai w w'∧x.2.1.length≤x.1.1∧x.2.1++AC (a.drop x.1.1) (b.drop x.1.2) x.1.1 x.1.2=AC a b 0 0∧E.Own w' w.heap.size 3 1 x.2.2.1 x.2.1.length (Af (x.2.1.map λz=>(z.1:Int)))∧E.Own w' w.heap.size 3 1 x.2.2.2 x.2.1.length (Af (x.2.1.map λz=>(z.2:Int)))∧(∀g,g∈Ac x.2.2.1→g∉Ac x.2.2.2)) (λx=>[(0,.pointer (some ⟨X,0,none⟩)),(2,x.2.2.1),(3,x.2.2.2),(4,.int .i64 x.1.1),(5,.int .i64 x.1.2)]) (λx=>(a.length - x.1.1)+(b.length - x.1.2)) ((0,0),[],.slice none 0 0,.slice none 0 0) ⟨Acn _,Acn _,Chg.refl _ _,Abi _,by simp,Own.nil _ _ _ _,Own.nil _ _ _ _,by simp[Ac]⟩ Et ?_;rintro⟨⟨i,k⟩,ps,xv,yv⟩ w1 ⟨hi,hk,a5,ag,a0,a4,a2,hd⟩;dsimp only at hi hk ag a0 a4 a2 hd;show CW _ _ _ _ _ [(0,.pointer (some ⟨X,0,none⟩)),(2,xv),(3,yv),(4,.int .i64 (i:Int)),(5,.int .i64 (k:Int))] _;have am:=hX.ext a5;have an:=hT.ext a5;have aw:=a5.size;refine Sw ?_;by_cases h1:i<a.length;rotate_left
 ·refine LW.know (t:=13) (c:=false) rfl AdG ?_;refine Sw ?_;rw[Nf (.inl AdE),Aby] at a0;subst a0;exact QW.body2 rfl rfl rfl ⟨xv,yv,rfl,a4,a2,a5⟩
 refine LW.know (t:=13) (c:=true) rfl AdG ?_;refine Sw ?_;refine A8 (λh2=>?_) λh2=>?_;rotate_left
 ·have h2:¬k<b.length:=by simp at h2;omega
  refine Sw ?_;rw[Nf (.inr AdE),Aby] at a0;subst a0;exact QW.body2 rfl rfl rfl ⟨xv,yv,rfl,a4,a2,a5⟩
 have h2:k<b.length:=by simp at h2;omega
 obtain⟨x,y,ah,ai⟩:=Ng h1 h2;obtain⟨xa,ao,-,-,ax⟩:=A2.at (A2.ext ha a5) ah;obtain⟨ya,ap,-,-,ay⟩:=A2.at (A2.ext hb a5) ai;subst ao ap;have a6:=VN ah ai;refine Sw ?_;refine LU ?_;refine Sk ?_;refine QL.nil λw2 a3=>?_;have a7:=a5.trans a3;have az:=am.ext a3;have ab:=an.ext a3;refine Sa ?_;refine A8 (λh3=>?_) λh3=>?_
 ·have h3:x=y:=by simpa using h3
  rw[if_pos h3] at a6;rw[a6] at a0;replace a4:=a4.ext a3;replace a2:=a2.ext a3;have b0:=a3.size;refine Sa ?_;refine Dt λC w3 b1 a1 hC=>?_;refine Sa ?_;refine LW.append (lo:=w.heap.size) (k:=ps.length) rfl rfl rfl rfl rfl rfl (a4.ext a1) (by have:=a1.size;omega) hC rfl rfl rfl Ae2 rfl ?_;intro xv' w4 ac a8 aq;have ad:=(a2.ext a1).chg ac (λg hg hm=>hd g hm hg);have b2:=ac.size;have b3:=a1.size;refine Sa ?_;refine Dt λF w5 b4 a9 hF=>?_;refine Sa ?_;refine LW.append (lo:=w.heap.size) (k:=ps.length) rfl rfl rfl rfl rfl rfl (ad.ext a9) (by have:=a9.size;omega) hF rfl rfl rfl Ae2 rfl ?_;intro yv' w6 aj ae ar;have ak:∀g,g∈Ac xv'→g∉Ac yv:=λg hg hm=>by
   rcases aq g hg with h | h
   ·exact hd g h hm
   ·have:=(a2.lt hm).2;omega
  have af:=(a8.ext a9).chg aj (λg hg hm=>ak g hg hm);refine Sa ?_;refine QW.again ((i+1,k+1),ps++[(i,k)],xv',yv') ⟨by show i+1≤_;omega,by show k+1≤_;omega,(((a7.trans a1).step ac (λb hb=>(a4.lt hb).1)).trans a9).step aj (λb hb=>(a2.lt hb).1),by simp;omega,by simpa using a0,?_,?_,λg hg hm=>?_⟩ Et (by show(a.length - (i+1))+(b.length - (k+1))<(a.length - i)+(b.length - k);omega)
  ·show E.Own _ _ _ _ xv' (ps++[(i,k)]).length (Af ((ps++[(i,k)]).map λz=>(z.1:Int)));rw[AbG,GP,Aaq];exact af
  ·show E.Own _ _ _ _ yv' (ps++[(i,k)]).length (Af ((ps++[(i,k)]).map λz=>(z.2:Int)));rw[AbG,GP,Aaq];exact ae
  ·have al:g∈Ac xv':=hg;have au:g∈Ac yv':=hm;rcases ar g au with h | h
   ·exact ak g al h
   ·have:=(a8.lt al).2;have:=a9.size;omega
 have h3:x≠y:=by simpa using h3
 rw[if_neg h3] at a6;have b5:w2.cell? ((⟨O,0,none⟩:Addr).add (((i:Nat):Int).toNat*1))=some (.slice (some ⟨f i,0,none⟩) (b.length+1) (b.length+1)):=ab.row (r:=i) AdE;have b6:w2.cell? ((⟨O,0,none⟩:Addr).add ((((i:Nat):Int)+1).toNat*1))=some (.slice (some ⟨f (i+1),0,none⟩) (b.length+1) (b.length+1)):=ab.row (r:=i+1) AdE;have hA:w2.cell? ((⟨f (i+1),0,none⟩:Addr).add (((k:Nat):Int).toNat*1))=some (.int .i64 ((C0 (a.drop (i+1)) (b.drop k):Nat):Int)):=ab.cell (r:=i+1) (k:=k) AdE AdE (by simp[JT]);have hB:w2.cell? ((⟨f i,0,none⟩:Addr).add ((((k:Nat):Int)+1).toNat*1))=some (.int .i64 ((C0 (a.drop i) (b.drop (k+1)):Nat):Int)):=ab.cell (r:=i) (k:=k+1) AdE AdE (by simp[JT]);refine Sw ?_;refine LU ?_;refine Sk ?_;refine QL.nil λw3 a1=>?_;have aa:=a7.trans a1;refine Sa ?_;refine A8 (λh4=>?_) λh4=>?_
 ·have h4:C0 (a.drop i) (b.drop (k+1))≤C0 (a.drop (i+1)) (b.drop k):=by simp at h4;omega
  rw[a6,if_pos h4] at a0;refine Sa ?_;exact QW.again ((i+1,k),ps,xv,yv) ⟨by show i+1≤_;omega,hk,aa,by show ps.length≤i+1;omega,a0,a4.ext (a3.trans a1),a2.ext (a3.trans a1),hd⟩ Et (by show(a.length - (i+1))+(b.length - k)<(a.length - i)+(b.length - k);omega)
 ·have h4:¬C0 (a.drop i) (b.drop (k+1))≤C0 (a.drop (i+1)) (b.drop k):=by simp at h4;omega
  rw[a6,if_neg h4] at a0;refine Sa ?_;exact QW.again ((i,k+1),ps,xv,yv) ⟨hi,by show k+1≤_;omega,aa,ag,a0,a4.ext (a3.trans a1),a2.ext (a3.trans a1),hd⟩ Et (by show(a.length - i)+(b.length - (k+1))<(a.length - i)+(b.length - k);omega)
theorem QT(a b:List (List UInt8))(av bv:Value)(w:World)(ha:Ce w av a)(hb:Ce w bv b)(hla:a.length≤200)(hlb:b.length≤200):AF prog 256 [av,bv] w (λv w'=>∃X O xs f lo,v=.tuple #[.pointer (some ⟨X,0,none⟩),.bool true]∧K0 a b av bv lo X O xs f 0 b.length w'∧Ai w w'):=by
 obtain⟨p,c,rfl⟩:=ha.slice;obtain⟨q,d,rfl⟩:=hb.slice;have a2:=A2.bound ha;have a3:=A2.bound hb;refine Bj func256 ntmps256 ?_;refine Sa ?_;refine LW.know (t:=11) (c:=false) rfl AdG ?_;refine Sa ?_;refine CW.no rfl AdG ?_;refine Sa ?_;refine CM λX w1 a5 a1 hX=>?_;replace hX:Blk w1 X [.slice p a.length c,.slice q b.length d,.slice none 0 0] 316:=hX;refine Sa ?_;refine LW.call (fs:=[.pointer (some ⟨X,0,none⟩)]) (cs:=[]) rfl rfl rfl (Xc a b _ _ X w1 (Ab.map (A2.ext a2 a1) (λa0 h0=>by have:=h0.2;omega) λ_ _ _ _ h=>h) (Ab.map (A2.ext a3 a1) (λa0 h0=>by have:=h0.2;omega) λ_ _ _ _ h=>h) hla hlb hX) ?_;rintro v w2 ⟨rfl,a4,O,xs,f,hT⟩;refine Sa ?_;exact QW.body2 rfl rfl rfl ⟨X,O,xs,f,_,rfl,hT,a1.step a4 AdG⟩
theorem UM(a b:List (List UInt8))(av bv:Value)(w:World)(ha:Ce w av a)(hb:Ce w bv b)(hla:a.length≤200)(hlb:b.length≤200):AF prog 208 [av,bv] w (λv w'=>∃xv yv,v=.tuple #[xv,yv]∧E.Own w' w.heap.size 3 1 xv (AC a b 0 0).length (Af ((AC a b 0 0).map λz=>(z.1:Int)))∧E.Own w' w.heap.size 3 1 yv (AC a b 0 0).length (Af ((AC a b 0 0).map λz=>(z.2:Int)))∧Ai w w'):=by
 refine Bj func208 ntmps208 ?_;refine Sa ?_;refine Ay rfl rfl (QT a b av bv w ha hb hla hlb) ?_;rintro v w1 ⟨X,O,xs,f,lo,rfl,hT,a0⟩;refine Sa ?_;refine Ay rfl rfl (Y0 a b av bv lo X O xs f w1 (ha.ext a0) (hb.ext a0) hla hlb hT) ?_;rintro v w2 ⟨xv,yv,rfl,a1,a2,a3⟩;refine Sa ?_;exact QW.body2 rfl rfl rfl ⟨xv,yv,rfl,a1.low a0.size,a2.low a0.size,a0.trans a3⟩
theorem Hf{α:Type}[DecidableEq α]:∀(a b:List α) (i k:Nat),(AC a b i k).length≤a.length
 | [],_,_,_=>by simp[AC]
 | _::_,[],_,_=>by simp[AC]
 | x::a,y::b,i,k=>by
  have h1:=Hf a b (i+1) (k+1);have h2:=Hf a (y::b) (i+1) k;have h3:=Hf (x::a) b i (k+1);simp only[AC]
  split
  ·simp only[AaL];omega
  ·split
   ·simp only[AaL] at *;omega
   ·exact h3
 termination_by a b=>a.length+b.length
theorem Pw(n:Nat)(ps:List (Nat×Nat))(p:Nat×Nat):BK n (ps++[p])=(BK n ps).set p.1 (p.2:Int):=by simp[BK]
theorem QX{n:Nat}{ps:List (Nat×Nat)}{z:Int}(hz:z∈BK n ps):z=-1∨∃p∈ps,z=(p.2:Int):=by
 have key:∀(qs ps:List (Nat×Nat)) (l:List Int),(∀p∈ps,p∈qs)→(∀z∈l,z=-1∨∃p∈qs,z=(p.2:Int))→∀z∈ps.foldl (λl p=>l.set p.1 (p.2:Int)) l,z=-1∨∃p∈qs,z=(p.2:Int):=by
  intro qs ps
  induction ps with
  | nil=>intro l _ hl z hz;exact hl z hz
  | cons p ps ih=>
   intro l hq hl z hz;refine ih (l.set p.1 (p.2:Int)) (λp hp=>hq p (Abj _ hp)) (λy hy=>?_) z hz;rcases List.mem_or_eq_of_mem_set hy with h | h
   ·exact hl y h
   ·exact .inr ⟨p,hq p (Abo ..),h⟩
 exact key ps ps _ (λ_ h=>h) (λz hz=>.inl (List.mem_replicate.1 hz).2) z hz
theorem QC(n k:Nat)(hk:k<n):(Af (List.replicate k (-1)++List.replicate (n - k) 0)).set (0+((k:Nat):Int).toNat*1) (.int .i64 (-1))=Af (List.replicate (k+1) (-1)++List.replicate (n - (k+1)) 0):=by
 rw[show 0+((k:Nat):Int).toNat*1=k by omega];simp only[Af,←List.map_set];rw[Ach _ _ AdM,Acp,Acz,show n - k=(n - (k+1))+1 by omega,Acf,AcA,List.replicate_succ',AaR];rfl
theorem Jz{w:World}{lo n c:Nat}{p:Option Addr}{zs:List Int}(h:E.Own w lo 3 1 (.slice p n c) n (Af zs)){i:Nat}{z:Int}(hi:zs[i]?=some z):∃g,p=some ⟨g,0,none⟩∧w.cell? ((⟨g,0,none⟩:Addr).add (((i:Nat):Int).toNat*1))=some (.int .i64 z):=by
 have a0:=(Abg.1 hi).1;have hl:=h.1;rw[A9] at hl;obtain⟨g,cap,sp,e,hB,-⟩:=h.get AdE;obtain⟨rfl,-,rfl⟩:=Acw e;refine⟨g,rfl,?_⟩;rw[Au];refine hB.cell ?_;rw[show 0+((i:Nat):Int).toNat*1=i by omega,Abk (by rw[A9];exact a0)];simp[Af,hi]
theorem WL{w:World}{T n c:Nat}{zs:List Int}{t:TypeId}(h:Blk w T (Af zs) t)(hn:zs.length=n)(hl:n≤100000):AY w (.slice (some ⟨T,0,none⟩) n c) zs:=by
 subst hn;exact⟨by omega,.inr ⟨⟨T,0,none⟩,c,rfl,λj z hj=>by rw[Au];exact h.cell (by simp[Af,hj])⟩⟩
set_option maxRecDepth 8000 in
set_option maxHeartbeats 2000000 in
theorem Nd(a b:List (List UInt8))(av bv:Value)(w:World)(ha:Ce w av a)(hb:Ce w bv b)(hla:a.length≤200)(hlb:b.length≤200):AF prog 159 [av,bv] w (λv w'=>∃tv,v=.agg ⟨[tv,.int .i64 ((b.length:Nat):Int)]⟩∧E.Own w' w.heap.size 3 1 tv a.length (Af (Cp a b))∧Ai w w'):=by
 obtain⟨p,c,rfl⟩:=ha.slice;obtain⟨q,d,rfl⟩:=hb.slice;have ab:∀z∈AC a b 0 0,z.1<a.length∧z.2<b.length:=λz hz=>by have:=IH a b 0 0 z hz;omega
 have ao:=Hf a b 0 0;generalize ah:AC a b 0 0=ps at ab ao;refine Bj func159 ntmps159 ?_;apply CW.seq;apply CW.region;refine Sl ?_;refine Bo λR w1 b4 ai hR=>?_;have ap:=ai.size;have b5:=hR.lt;refine Sa ?_;refine LW.makeSlice (m:=a.length) rfl rfl rfl rfl rfl rfl rfl AdE rfl rfl ?_;intro T w2 b6 ac hT;have aq:=ac.size;have b7:=hT.lt;refine Sa ?_;refine Bo λX w3 b8 aj hX=>?_;have b9:=aj.size;have ba:=hX.lt;have bb:=hX;refine Sa ?_;refine AD λw4 ar hX=>?_;replace hX:Blk w4 X [.slice (some ⟨T,0,none⟩) a.length a.length,.int .i64 ((b.length:Nat):Int)] 77:=hX;have a0:Ai w2 w4:=aj.step ar AdG;replace hR:=(hR.ext ac).ext a0;replace hT:=hT.ext a0;have ad:Ai w w4:=(ai.trans ac).trans a0;have bc:=a0.size;have e0:List.replicate a.length (Value.int .i64 0)=Af (List.replicate 0 (-1)++List.replicate (a.length - 0) 0):=by simp[Af]
 rw[e0] at hT;refine Sw ?_;refine CW.loop (ι:=Nat) (λk w'=>k≤a.length∧Chg [T] w4 w'∧Blk w' T (Af (List.replicate k (-1)++List.replicate (a.length - k) 0)) 3) (λk=>[(0,.slice p a.length c),(1,.slice q b.length d),(4,.pointer (some ⟨R,0,none⟩)),(5,.pointer (some ⟨X,0,none⟩)),(18,.int .i64 a.length),(19,.int .i64 k)]) (λk=>a.length - k) 0 ⟨by omega,Chg.refl _ _,hT⟩ NM ?_;rintro k w5 ⟨hk,a4,ak⟩;have au:=hX.chg a4 AdG;refine Sw ?_;refine A8 (λh1=>?_) λh1=>?_
 ·have h1:k<a.length:=by simp at h1;omega
  refine Sw ?_;refine LW.store (i:=0+((k:Nat):Int).toNat*1) AdV rfl rfl ak (AbD (by show _+1≤_;rw[A9,Aaq,Acp,Acp];omega)) rfl rfl λw6 aw a5=>?_;rw[QC a.length k h1] at a5;refine Sw ?_;exact QW.again (k+1) ⟨by omega,a4.same aw,a5⟩ NM AdE
 have h1:k=a.length:=by simp at h1;omega
 subst h1;have a1:Ai w w5:=ad.step a4 AdG;have ax:=hR.chg a4 AdG;have bd:=a4.size;refine Sw ?_;refine Ay rfl rfl (UM a b _ _ w5 (ha.ext a1) (hb.ext a1) hla hlb) ?_;rintro v w6 ⟨xv,yv,rfl,a9,aa,a6⟩;rw[ah] at a9 aa;obtain⟨xp,xc,rfl⟩:=a9.slice;obtain⟨yp,yc,rfl⟩:=aa.slice;have be:=a6.size;have ay:=ax.ext a6;have az:=au.ext a6;have a5:=ak.ext a6;have e1:List.replicate a.length (-1)++List.replicate (a.length - a.length) 0=BK a.length (ps.take 0):=by simp[BK]
 rw[e1] at a5;refine Sw ?_;refine CW.loop (ι:=Nat) (λk w'=>k≤ps.length∧Chg [T] w6 w'∧Blk w' T (Af (BK a.length (ps.take k))) 3) (λk=>[(4,.pointer (some ⟨R,0,none⟩)),(5,.pointer (some ⟨X,0,none⟩)),(7,.slice xp ps.length xc),(8,.slice yp ps.length yc),(34,.int .i64 ps.length),(35,.int .i64 k)]) (λk=>ps.length - k) 0 ⟨by omega,Chg.refl _ _,a5⟩ NM ?_;rintro k w7 ⟨hk,a2,ae⟩;have bf:=az.chg a2 AdG;have a3:=ay.chg a2 AdG;have bg:∀v,∀b∈Ac v,w5.heap.size≤b→b≠T:=λ_ b _ h=>by omega
 have af:=a9.chg a2 (λb hb=>by have:=(a9.lt hb).1;simp;omega);have ag:=aa.chg a2 (λb hb=>by have:=(aa.lt hb).1;simp;omega);have bh:=a2.size;refine Sw ?_;refine A8 (λh2=>?_) λh2=>?_
 ·have h2:k<ps.length:=by simp at h2;omega
  obtain⟨z,hz⟩:∃z,ps[k]?=some z:=⟨_,Aap h2⟩;obtain⟨ap,aq⟩:=ab z (Abn hz);obtain⟨xg,rfl,bi⟩:=Jz af (i:=k) (z:=(z.1:Int)) (by simp[hz]);obtain⟨yg,rfl,bj⟩:=Jz ag (i:=k) (z:=(z.2:Int)) (by simp[hz]);refine Sw ?_;refine CW.drawG (Ai w7) 11 (λw' h=>h) AdF λwa bk=>?_;refine AJ ?_;refine GW.tail rfl AdF (λhS=>?_);refine LW.store (i:=0+((z.1:Nat):Int).toNat*1) (by show some (Value.pointer (some (Addr.add ⟨T,0,none⟩ (((z.1:Nat):Int).toNat*1))))=_;rw[Au]) rfl rfl (ae.ext hS) (AbD (by show _+1≤_;rw[A9,EJ];omega)) rfl rfl λw8 b0 al=>?_;have e2:(Af (BK a.length (ps.take k))).set (0+((z.1:Nat):Int).toNat*1) (.int .i64 (z.2:Int))=Af (BK a.length (ps.take (k+1))):=by
   rw[show 0+((z.1:Nat):Int).toNat*1=z.1 by omega,DG,Ab7,hz];show _=Af (BK a.length (ps.take k++[z]));rw[Pw]
  rw[e2] at al;refine Sw ?_;exact QW.again (k+1) ⟨by omega,(a2.ext hS).same b0,al⟩ NM AdE
 have h2:k=ps.length:=by simp at h2;omega
 subst h2;rw[AbH] at ae;have a7:Ai w w7:=by
  have h1:Chg [T] w5 w7:=(a6.chg).same a2;exact a1.step h1 AdG
 have b1:AY w7 (.slice (some ⟨T,0,none⟩) a.length a.length) (BK a.length ps):=WL ae (EJ _ _) AdE;have b2:∀z∈BK a.length ps,-1≤z∧z≤1000000:=λz hz=>by
  rcases QX hz with rfl | ⟨y,hy,rfl⟩
  ·omega
  ·have:=ab y hy;omega
 refine Sw ?_;refine Ay rfl rfl (SI ⟨BK a.length ps,((b.length:Nat):Int)⟩ _ w7 b1 (by rw[EJ];omega) b2 (by show(0:Int)≤((b.length:Nat):Int);omega) (by show((b.length:Nat):Int)≤1000000;omega)) ?_;rintro v w8 ⟨tv,rfl,a8,am⟩;dsimp only at a8;rw[EJ] at a8;replace a3:=a3.ext am;have b3:∀b∈Ac tv,b≠R:=λb hb=>by have:=(a8.lt hb).1;omega
 obtain⟨tp,tc,rfl⟩:=a8.slice;refine Sa ?_;refine AD λw9 an a3=>?_;replace a3:Blk w9 R [.slice tp a.length tc,.int .i64 ((b.length:Nat):Int)] 77:=a3;refine Sa ?_;refine QW.body_c rfl rfl a3 rfl rfl rfl ⟨_,rfl,?_,(a7.trans am).step an AdG⟩;have h9:=(a8.chg an (λb hb=>by simp only[Aad];exact b3 b hb)).low (lo':=w.heap.size) (by have:=a7.size;omega);rw[Cp,ah];exact h9
theorem ME{s:Ae}(hs:Dk s){w:World}{lo:Nat}{v:Value}(h:E.Own w lo 9 1 v (s.rows.map CG).length ((s.rows.map CG).map Ao)):Ce w v (s.rows.map CG):=
 Hb h (by have:=hs.rows;simp;omega) λt ht=>by
  simp only[AbE] at ht;obtain⟨r,hr,rfl⟩:=ht;have:=Xu (hs.row hr);omega
set_option maxRecDepth 8000 in
set_option maxHeartbeats 1000000 in
theorem US(a b:Ae)(ra rb:Value)(w:World)(ha:BA w ra a.rows)(hb:BA w rb b.rows)(hsa:Dk a)(hsb:Dk b):AF prog 108 [.agg ⟨Am a ra⟩,.agg ⟨Am b rb⟩] w (λv w'=>∃tv,v=.agg ⟨[tv,.int .i64 ((b.rows.length:Nat):Int)]⟩∧E.Own w' w.heap.size 3 1 tv a.rows.length (Af (AO a b))∧Ai w w'):=by
 obtain⟨p,c,rfl⟩:=ha.slice;obtain⟨q,d,rfl⟩:=hb.slice;have af:=hsa.rows;have ag:=hsb.rows;refine Bj func108 ntmps108 ?_;apply CW.seq;apply CW.region;refine Sl ?_;refine CM λA w1 ah a7 hA=>?_;replace hA:Blk w1 A (Am a (.slice p a.rows.length c)) 46:=hA;refine Sl ?_;refine CM λB w2 ai a2 hB=>?_;replace hB:Blk w2 B (Am b (.slice q b.rows.length d)) 46:=hB;refine Sa ?_;refine Bo λR w3 aj a3 hR=>?_;replace hA:=(hA.ext a2).ext a3;replace hB:=hB.ext a3;have a0:=(a7.trans a2).trans a3;have ak:=a0.size;have al:=hR.lt;have am:w.heap.size≤R:=by have:=a7.size;have:=a2.size;omega
 refine Sa ?_;refine CW.drawG (Ai w3) 5 (λw' h=>h) AdF λwa an=>?_;refine AJ ?_;refine BE 1 λhS=>?_;refine Ay rfl rfl (QP a _ _ (ha.ext (a0.trans hS)) hsa) ?_;rintro v w4 ⟨a8,ac⟩;have a4:=hS.trans ac;obtain⟨kp,kc,rfl⟩:=a8.slice;apply LW.nil;refine QW.headed a4 ?_;refine AJ ?_;refine BE 3 λhS=>?_;refine Ay rfl rfl (QP b _ _ (hb.ext (a0.trans a4)) hsb) ?_;rintro v w5 ⟨a9,aa⟩;have a5:=a4.trans aa;obtain⟨lp,lc,rfl⟩:=a9.slice;apply LW.nil;refine QW.headed a5 ?_;refine AJ ?_;refine BE 4 λhS=>?_;refine Ay rfl rfl (Nd _ _ _ _ w5 (ME hsa (a8.ext aa)) (ME hsb a9) AdG AdG) ?_;rintro v w6 ⟨tv,rfl,a1,ad⟩;have a6:=a5.trans ad;obtain⟨tp,tc,rfl⟩:=a1.slice;replace hR:=hR.ext a6;have ao:=a5.size;have e1:(a.rows.map CG).length=a.rows.length:=AdM
 have e2:(b.rows.map CG).length=b.rows.length:=AdM
 rw[e1] at a1;have ae:R∉Ac (.slice tp a.rows.length tc):=λhm=>by have:=(a1.lt hm).1;omega
 apply LW.nil;refine QW.headed a6 ?_;refine GW.tail rfl AdF (λhS=>?_);refine AD λw7 ab hR=>?_;replace hR:Blk w7 R [.slice tp a.rows.length tc,.int .i64 ((b.rows.length:Nat):Int)] 77:=by rw[←e1,←e2];exact hR
 refine Sa ?_;refine QW.body_c rfl rfl hR rfl rfl rfl ⟨_,rfl,?_,(a0.trans a6).step ab AdG⟩;exact(a1.chg ab (λb hb=>by simp only[Aad];exact λe=>ae (e ▸ hb))).low AdE
def Gf(a b:Ae)(m:List Int)(i:Nat):Option (Nat×Nat):=match (m[i]?:Option Int) with
 | none=>none
 | some (k:Int)=>if 0≤k∧k<b.rows.length∧CG (a.rows.getD i [])=CG (b.rows.getD k.toNat []) then some (i,k.toNat) else none
def Ck(a b:Ae)(m:List Int)(k:Nat):List (Nat×Nat):=(List.range k).filterMap (Gf a b m)
theorem Sy(a b:Ae)(m:List Int):Ck a b m a.rows.length=Cl a b m:=rfl
theorem HK(a b:Ae)(m:List Int)(k:Nat):Ck a b m (k+1)=Ck a b m k++(Gf a b m k).toList:=by
 rw[Ck,AbJ,List.filterMap_append];cases h:Gf a b m k<;>simp[Ck,h]
theorem UT{a b:Ae}{m:List Int}{k:Nat}{p:Nat×Nat}(h:Gf a b m k=some p):p.1=k∧p.2<b.rows.length:=by
 unfold Gf at h
 split at h
 ·cases h
 ·split at h
  ·rename_i hc;obtain rfl:=Abm h;exact⟨rfl,by omega⟩
  ·cases h
theorem Mp{a b:Ae}{m:List Int}{k:Nat}{p:Nat×Nat}(h:p∈Ck a b m k):p.1<k∧p.2<b.rows.length:=by
 simp only[Ck,List.mem_filterMap,AbB] at h;obtain⟨i,hi,hf⟩:=h;obtain⟨h1,h2⟩:=UT hf;omega
theorem Mo(a b:Ae)(m:List Int)(k:Nat):(Ck a b m k).length≤k:=by
 have:=List.length_filterMap_le (Gf a b m) (List.range k)
 simpa[Ck] using this
theorem MA{l:List (List (List UInt8))}{i:Nat}{r:List (List UInt8)}(h:l[i]?=some r):l.getD i []=r:=by rw[AaF,h];rfl
theorem Ja{s:Ae}(hs:Dk s){rs:List Nat}(hr:∀r∈rs,r<s.rows.length)(hl:rs.length≤100){w:World}{lo:Nat}{v:Value}(h:E.Own w lo 9 1 v (Bf s rs).length ((Bf s rs).map Ao)):Ce w v (Bf s rs):=
 Hb h (by have:=hs.cols;simp[Bf];omega) λt ht=>by
  simp only[Bf,AbE,AbB] at ht;obtain⟨k,hk,rfl⟩:=ht;have:=OG (Lz hs hr hl (c:=k) (by have:=hs.cols;omega));show(EW (EH s rs k)).length≤_;omega
set_option maxRecDepth 8000 in
set_option maxHeartbeats 2000000 in
theorem UR(a b:Ae)(ra rb mv:Value)(m:List Int)(w:World)(ha:BA w ra a.rows)(hb:BA w rb b.rows)(hsa:Dk a)(hsb:Dk b)(hm:AY w mv m)(hml:m.length=a.rows.length)(hmz:∀z∈m,-1≤z∧z<b.rows.length)(nw:Int):AF prog 109 [.agg ⟨Am a ra⟩,.agg ⟨Am b rb⟩,.agg ⟨[mv,.int .i64 nw]⟩] w (λv w'=>∃tv,v=.agg ⟨[tv,.int .i64 ((b.cols.toNat:Nat):Int)]⟩∧E.Own w' w.heap.size 3 1 tv a.cols.toNat (Af (CT a b m))∧Ai w w'):=by
 obtain⟨p,c,rfl⟩:=ha.slice;obtain⟨q,d,rfl⟩:=hb.slice;obtain⟨mp,mc,rfl⟩:=hm.slice;have bl:=hsa.rows;have bm:=hsb.rows;obtain⟨b5,b6⟩:=hsa.cols;obtain⟨b7,b8⟩:=hsb.cols;refine Bj func109 ntmps109 ?_;apply CW.seq;apply CW.region;refine Sl ?_;refine CM λA w1 bn az hA=>?_;replace hA:Blk w1 A (Am a (.slice p a.rows.length c)) 46:=hA;refine Sl ?_;refine CM λB w2 bo an hB=>?_;replace hB:Blk w2 B (Am b (.slice q b.rows.length d)) 46:=hB;refine Sl ?_;refine CM λM w3 bp aj hM=>?_;replace hM:Blk w3 M [.slice mp m.length mc,.int .i64 nw] 77:=hM;refine Sa ?_;refine Bo λR w4 bq ak hR=>?_;replace hA:=((hA.ext an).ext aj).ext ak;replace hB:=(hB.ext aj).ext ak;replace hM:=hM.ext ak;have a9:=((az.trans an).trans aj).trans ak;have br:=a9.size;have bs:=hR.lt;have bt:w.heap.size≤R:=by have:=az.size;have:=an.size;have:=aj.size;omega
 refine Sw ?_;refine CW.loop (ι:=Nat×Value×Value) (λx w'=>x.1≤a.rows.length∧Ai w4 w'∧E.Own w' w4.heap.size 3 1 x.2.1 (Ck a b m x.1).length (Af ((Ck a b m x.1).map λz=>(z.1:Int)))∧E.Own w' w4.heap.size 3 1 x.2.2 (Ck a b m x.1).length (Af ((Ck a b m x.1).map λz=>(z.2:Int)))∧(∀g,g∈Ac x.2.1→g∉Ac x.2.2)) (λx=>[(3,.pointer (some ⟨A,0,none⟩)),(4,.pointer (some ⟨B,0,none⟩)),(6,.pointer (some ⟨R,0,none⟩)),(7,x.2.1),(8,x.2.2),(12,.slice mp m.length mc),(13,.int .i64 m.length),(14,.int .i64 x.1)]) (λx=>a.rows.length - x.1) (0,.slice none 0 0,.slice none 0 0) ⟨Acn _,Chg.refl _ _,E.Own.nil _ _ _ _,E.Own.nil _ _ _ _,by simp[Ac]⟩ LO ?_;rintro⟨k,xv,yv⟩ w5 ⟨hk,a5,a6,a3,hd⟩;dsimp only at hk a6 a3 hd;show CW _ _ _ _ _ [(3,.pointer (some ⟨A,0,none⟩)),(4,.pointer (some ⟨B,0,none⟩)),(6,.pointer (some ⟨R,0,none⟩)),(7,xv),(8,yv),(12,.slice mp m.length mc),(13,.int .i64 m.length),(14,.int .i64 (k:Int))] _;have bu:=a5.size;have bv:=Mo a b m k;replace hA:=hA.ext a5;replace hB:=hB.ext a5;refine Sa ?_;refine A8 (λh1=>?_) λh1=>?_;rotate_left
 ·have h1:k=a.rows.length:=by simp at h1;omega
  subst h1;rw[Sy] at a6 a3;have a0:=a9.trans a5;have ad:∀r∈(Cl a b m).map Prod.fst,r<a.rows.length:=λr hr=>by
   simp only[AbE] at hr;obtain⟨z,hz,rfl⟩:=hr;exact(Mp (k:=a.rows.length) hz).1
  have ae:∀r∈(Cl a b m).map Prod.snd,r<b.rows.length:=λr hr=>by
   simp only[AbE] at hr;obtain⟨z,hz,rfl⟩:=hr;exact(Mp (k:=a.rows.length) hz).2
  have bw:(Cl a b m).length≤a.rows.length:=Mo a b m a.rows.length;have b9:AY w5 xv (PV ((Cl a b m).map Prod.fst)):=by
   have e:PV ((Cl a b m).map Prod.fst)=(Cl a b m).map λz=>(z.1:Int):=by simp[PV]
   rw[e];exact Own.ints a6 AdM AdG
  have ba:AY w5 yv (PV ((Cl a b m).map Prod.snd)):=by
   have e:PV ((Cl a b m).map Prod.snd)=(Cl a b m).map λz=>(z.2:Int):=by simp[PV]
   rw[e];exact Own.ints a3 AdM AdG
  replace hR:=hR.ext a5;refine Sa ?_;refine CW.drawG (Ai w5) 7 (λw' h=>h) AdF λwa bb=>?_;refine AJ ?_;refine BE 2 λhS=>?_;refine Ay rfl rfl (L0 a _ _ _ _ (ha.ext (a0.trans hS)) hsa (b9.ext hS) ad AdG) ?_;rintro v w6 ⟨b0,ao⟩;have a7:=hS.trans ao;obtain⟨kp,kc,rfl⟩:=b0.slice;apply LW.nil;refine QW.headed a7 ?_;refine AJ ?_;refine BE 5 λhS=>?_;refine Ay rfl rfl (L0 b _ _ _ _ (hb.ext (a0.trans a7)) hsb (ba.ext a7) ae AdG) ?_;rintro v w7 ⟨b1,al⟩;have a2:=a7.trans al;obtain⟨lp,lc,rfl⟩:=b1.slice;apply LW.nil;refine QW.headed a2 ?_;refine AJ ?_;refine BE 6 λhS=>?_;refine Ay rfl rfl (Nd _ _ _ _ w7 (Ja hsa ad AdG (b0.ext al)) (Ja hsb ae AdG b1) (by simp[Bf];omega) (by simp[Bf];omega)) ?_;rintro v w8 ⟨tv,rfl,am,ab⟩;have ap:=a2.trans ab;obtain⟨tp,tc,rfl⟩:=am.slice;replace hR:=hR.ext ap;have bc:=a2.size;have e1:(Bf a ((Cl a b m).map Prod.fst)).length=a.cols.toNat:=by simp[Bf]
  have e2:(Bf b ((Cl a b m).map Prod.snd)).length=b.cols.toNat:=by simp[Bf]
  rw[e1] at am;have bd:R∉Ac (.slice tp a.cols.toNat tc):=λhm=>by have:=(am.lt hm).1;omega
  apply LW.nil;refine QW.headed ap ?_;refine GW.tail rfl AdF (λhS=>?_);refine AD λw9 ac hR=>?_;replace hR:Blk w9 R [.slice tp a.cols.toNat tc,.int .i64 ((b.cols.toNat:Nat):Int)] 77:=by rw[←e1,←e2];exact hR
  refine Sa ?_;refine QW.body_c rfl rfl hR rfl rfl rfl ⟨_,rfl,?_,(a0.trans ap).step ac AdG⟩;exact(am.chg ac (λb hb=>by simp only[Aad];exact λe=>bd (e ▸ hb))).low AdE
 have h1:k<a.rows.length:=by simp at h1;omega
 obtain⟨z,aq⟩:∃z,m[k]?=some z:=⟨_,Aap AdE⟩;obtain⟨bx,bz⟩:=hmz z (Abn aq);have a0:=a9.trans a5;obtain⟨ma,rfl,c0⟩:=AY.at1 (hm.ext a0) aq;obtain⟨row,aa⟩:∃r,a.rows[k]?=some r:=⟨_,Aap h1⟩;obtain⟨ga,q1,c1,rfl,-,be,c3⟩:=Bb.at (Bb.ext ha a0) aa;have ar:=hsa.row (Abn aa);refine Sw ?_;refine CW.drawG (Ai w5) 30 (λw' h=>h) AdF λwa bb=>?_;refine AJ ?_;have au:Gf a b m k=if 0≤z∧z<b.rows.length∧CG row=CG (b.rows.getD z.toNat []) then some (k,z.toNat) else none:=by
  rw[Gf,aq,MA aa]
 have a8:∀w',Ai w5 w'→Gf a b m k=none→E.Own w' w4.heap.size 3 1 xv (Ck a b m (k+1)).length (Af ((Ck a b m (k+1)).map λz=>(z.1:Int)))∧E.Own w' w4.heap.size 3 1 yv (Ck a b m (k+1)).length (Af ((Ck a b m (k+1)).map λz=>(z.2:Int))):=λw' hx h=>by
  rw[HK,h];simp only[Option.toList,Aby];exact⟨a6.ext hx,a3.ext hx⟩
 by_cases bf:0≤z;rotate_left
 ·refine GW.know (t:=21) (c:=false) rfl AdG ?_;refine AJ ?_;refine Gks 22 ?_;refine AJ ?_;refine Gks 28 ?_;refine AJ ?_;refine GW.tail rfl AdF (λhS=>?_);refine Sa ?_;obtain⟨h7,h8⟩:=a8 _ hS (by rw[au,if_neg AdE]);exact QW.again (k+1,xv,yv) ⟨by show k+1≤_;omega,a5.trans hS,h7,h8,hd⟩ LO Aej
 obtain⟨rowb,a1⟩:∃r,b.rows[z.toNat]?=some r:=⟨_,Aap AdE⟩;obtain⟨gb,q2,c2,eq2,-,bg,bh⟩:=Bb.at (Bb.ext hb a0) a1;subst eq2;rw[show((z.toNat:Nat):Int).toNat=z.toNat by omega] at bh;have av:=hsb.row (Abn a1);refine GW.know (t:=21) (c:=true) rfl AdG ?_;refine AJ ?_;refine GW.know (t:=28) (c:=true) rfl AdG ?_;refine AJ ?_;refine GW.know (t:=35) (c:=true) rfl AdG ?_;refine AJ ?_;refine BE 22 λhS=>?_;refine Lb ?_;refine Ay rfl rfl (Pd row _ _ (A2.ext be hS) ar) ?_;rintro v w6 ⟨rfl,ao⟩;have a7:=hS.trans ao;apply LW.nil;refine QW.headed a7 ?_;refine AJ ?_;refine BE 28 λhS=>?_;refine Lb ?_;refine Ay rfl rfl (Pd rowb _ _ (A2.ext bg a7) av) ?_;rintro v w7 ⟨rfl,al⟩;have a2:=a7.trans al;apply LW.nil;refine QW.headed a2 ?_;refine AJ ?_;refine GW.tail rfl AdF (λhS=>?_);have af:=a5.trans a2;have bc:=a2.size;refine Sa ?_;refine A8 (λh3=>?_) λh3=>?_;rotate_left
 ·have h3:CG row≠CG rowb:=by simpa using h3
  refine Sa ?_;obtain⟨h7,h8⟩:=a8 _ a2 (by rw[au,MA a1,if_neg (λh=>h3 h.2.2)]);exact QW.again (k+1,xv,yv) ⟨by show k+1≤_;omega,af,h7,h8,hd⟩ LO Aej
 have h3:CG row=CG rowb:=by simpa using h3
 replace a6:=a6.ext a2;replace a3:=a3.ext a2;have b2:Gf a b m k=some (k,z.toNat):=by rw[au,MA a1,if_pos ⟨bf,by omega,h3⟩]
 refine Sa ?_;refine Dt λC w8 c4 ab hC=>?_;have c5:=ab.size;refine Sa ?_;refine LW.append (lo:=w4.heap.size) (k:=(Ck a b m k).length) rfl rfl rfl rfl rfl rfl (a6.ext ab) AdE hC rfl rfl rfl Ae2 rfl ?_;intro xv' w9 ac ag bi;have aw:=(a3.ext ab).chg ac (λg hg hm=>hd g hm hg);have c6:=ac.size;refine Sa ?_;refine Dt λF c7 c8 a4 hF=>?_;have bj:=a4.size;refine Sa ?_;refine LW.append (lo:=w4.heap.size) (k:=(Ck a b m k).length) rfl rfl rfl rfl rfl rfl (aw.ext a4) AdE hF rfl rfl rfl Ae2 rfl ?_;intro yv' c9 ah ax ay;have b3:∀g,g∈Ac xv'→g∉Ac yv:=λg hg hm=>by
  rcases bi g hg with h | h
  ·exact hd g h hm
  ·have:=(a3.lt hm).2;omega
 have ai:=(ag.ext a4).chg ah (λg hg hm=>b3 g hg hm);refine Sa ?_;refine QW.again (k+1,xv',yv') ⟨by show k+1≤_;omega,(((af.trans ab).step ac (λb hb=>(a6.lt hb).1)).trans a4).step ah (λb hb=>(a3.lt hb).1),?_,?_,λg hg hm=>?_⟩ LO Aej
 ·show E.Own _ _ _ _ xv' (Ck a b m (k+1)).length (Af ((Ck a b m (k+1)).map λz=>(z.1:Int)));rw[HK,b2,AbG,GP,Aaq];exact ai
 ·show E.Own _ _ _ _ yv' (Ck a b m (k+1)).length (Af ((Ck a b m (k+1)).map λz=>(z.2:Int)));rw[HK,b2,AbG,GP,Aaq];show E.Own _ _ _ _ yv' _ (_++[.int .i64 ((z.toNat:Nat):Int)]);rw[show((z.toNat:Nat):Int)=z by omega];exact ax
 ·have b4:g∈Ac xv':=hg;have bk:g∈Ac yv':=hm;rcases ay g bk with h | h
  ·exact b3 g b4 h
  ·have:=(ag.lt b4).2;omega
theorem P6{α:Type}[DecidableEq α](a b:List α)(ha:a.length≤1000000)(hb:b.length≤1000000):∀z∈Cp a b,-1≤z∧z<(b.length:Int):=λz hz=>by
 have hr:=(Bs (J0 a b AdE AdE)).2.2.2;obtain⟨j,hj⟩:=Acl hz;have hl:=(Abg.1 hj).1;have h1:=hr j hl;have e:(Cp a b).getD j 0=z:=by rw[AaF,hj];rfl
 simp only[e] at h1;rcases h1 with h1 | ⟨h1,h2,_⟩<;>omega
theorem PF{a b:Ae}(hsa:Dk a)(hsb:Dk b):∀z∈AO a b,-1≤z∧z<b.rows.length:=λz hz=>by
 have:=hsa.rows;have:=hsb.rows;have h:=P6 (a.rows.map CG) (b.rows.map CG) AdG AdG z hz
 simpa using h
theorem J4(a b:Ae):(AO a b).length=a.rows.length:=by rw[AO,FV,AbA]
set_option maxRecDepth 8000 in
set_option maxHeartbeats 1000000 in
theorem HJ(a b:Ae)(ra rb:Value)(w:World)(ha:BA w ra a.rows)(hb:BA w rb b.rows)(hsa:Dk a)(hsb:Dk b):AF prog 72 [.agg ⟨Am a ra⟩,.agg ⟨Am b rb⟩] w (λv w'=>∃rv cv,v=.agg ⟨J7 (Ag a b) rv cv⟩∧E.Own w' w.heap.size 3 1 rv a.rows.length (Af (AO a b))∧E.Own w' w.heap.size 3 1 cv a.cols.toNat (Af (CT a b (AO a b)))∧Ai w w'):=by
 obtain⟨p,c,rfl⟩:=ha.slice;obtain⟨q,d,rfl⟩:=hb.slice;have ai:=hsa.rows;refine Bj func72 ntmps72 ?_;apply CW.seq;apply CW.region;refine Sl ?_;refine CM λA w1 aj ac hA=>?_;replace hA:Blk w1 A (Am a (.slice p a.rows.length c)) 46:=hA;refine Sl ?_;refine CM λB w2 ak a6 hB=>?_;replace hB:Blk w2 B (Am b (.slice q b.rows.length d)) 46:=hB;refine Sa ?_;refine Bo λR w3 al a7 hR=>?_;replace hA:=(hA.ext a6).ext a7;replace hB:=hB.ext a7;have a0:=(ac.trans a6).trans a7;have am:=a0.size;have an:=hR.lt;have ao:w.heap.size≤R:=by have:=ac.size;have:=a6.size;omega
 refine Sw ?_;refine Ay rfl rfl (US a b _ _ w3 (ha.ext a0) (hb.ext a0) hsa hsb) ?_;rintro v w4 ⟨rv,rfl,a4,a8⟩;obtain⟨rp,rc,rfl⟩:=a4.slice;have ap:=a8.size;have a9:=a0.trans a8;refine Sa ?_;refine Bo λM w5 aq ad hM=>?_;have ar:=ad.size;have au:=hM.lt;refine Sa ?_;refine AD λw6 ae hM=>?_;replace hM:Blk w6 M [.slice rp a.rows.length rc,.int .i64 ((b.rows.length:Nat):Int)] 77:=hM;have a1:Ai w4 w6:=ad.step ae AdG;replace a4:=a4.ext a1;have a2:=a9.trans a1;have a3:=a8.trans a1;replace hA:=hA.ext a3;replace hB:=hB.ext a3;replace hR:=hR.ext a3;have hI:AY w6 (.slice rp a.rows.length rc) (AO a b):=Own.ints a4 (J4 a b) (by rw[J4];omega);have av:=a1.size;refine Sa ?_;refine CW.drawG (Ai w6) 8 (λw' h=>h) AdF λwa aw=>?_;refine AJ ?_;refine BE 6 λhS=>?_;refine Ay rfl rfl (UR a b _ _ _ (AO a b) wa (ha.ext (a2.trans hS)) (hb.ext (a2.trans hS)) hsa hsb (hI.ext hS) (J4 a b) (PF hsa hsb) _) ?_;rintro v w7 ⟨cv,rfl,aa,af⟩;obtain⟨cp,cc,rfl⟩:=aa.slice;have a5:=hS.trans af;have ax:=hS.size;apply LW.nil;refine QW.headed a5 ?_;refine AJ ?_;refine GW.tail rfl AdF (λhS=>?_);replace hR:=hR.ext a5;refine AD λw8 ab hR=>?_;replace hR:Blk w8 R (J7 (Ag a b) (.slice rp a.rows.length rc) (.slice cp a.cols.toNat cc)) 79:=hR;have ag:R∉Ac (.slice rp a.rows.length rc):=λhm=>by have:=(a4.lt hm).1;omega
 have ah:R∉Ac (.slice cp a.cols.toNat cc):=λhm=>by have:=(aa.lt hm).1;omega
 refine Sa ?_;refine QW.body_c rfl rfl hR rfl rfl rfl ⟨_,_,rfl,?_,?_,(a2.trans a5).step ab AdG⟩
 ·exact((a4.ext a5).chg ab (λb hb=>by simp only[Aad];exact λe=>ag (e ▸ hb))).low AdE
 ·exact(aa.chg ab (λb hb=>by simp only[Aad];exact λe=>ah (e ▸ hb))).low AdE
end Go.Proofs.YtcjjcnecopnpcaaGreatDoor
