/-
  Joined by program out of the texts Ali1 Ali2 Ali3 Ali4 LcsP Lcs1 Ali5 Ali6.
-/
import Derived.Test.YtcjjcnecopnpcaaGreatDoorMzJ
import Derived.Test.YtcjjcnecopnpcaaGreatDoorMzK
import Derived.Test.YtcjjcnecopnpcaaGreatDoorMzH
import Derived.Test.YtcjjcnecopnpcaaGreatDoorMzB
import Derived.Test.YtcjjcnecopnpcaaGreatDoorMzI
import Derived.Test.YtcjjcnecopnpcaaGreatDoorMzE
namespace Go.Proofs.YtcjjcnecopnpcaaGreatDoor
open Tryz
open Go Go.E
def Tj(l:List (List UInt8)):List (List UInt8):=l.filter λs=>decide (s≠[])
theorem PF(l:List (List UInt8)):(Tj l).length≤l.length:=List.length_filter_le _ _
theorem Rk{l:List (List UInt8)}{k:Nat}{s:List UInt8}(h:l[k]?=some s):Tj (l.take (k+1))=if s=[] then Tj (l.take k) else Tj (l.take k)++[s]:=by
 rw[AbU,h];simp only[Tj,List.filter_append,Option.toList];by_cases e:s=[]<;>simp[e]
def HS(l:List (List UInt8)):Prop:=l.length≤100∧∀s∈l,s.length≤1000
theorem Wc{s:List UInt8}(h:s.length≤1000):(Fk s).length≤1010:=by
 have:=EL (n:=s.length) AdV;rw[Fk,B6];omega
theorem Ox:∀{l:List (List UInt8)},(∀s∈l,s.length≤1000)→(l.flatMap Fk).length≤l.length*1010
 | [],_=>by simp
 | s::l,h=>by
  have h1:=Wc (h s Aei);have h2:=Ox (l:=l) λt ht=>h t (by simp[ht]);rw[AbX,B6,AaF];omega
theorem OQ{l:List (List UInt8)}(h:HS l):(Fj l).length≤200000:=by
 have h1:=EL (n:=l.length) (by have:=h.1;omega);have h2:=Ox h.2;have h3:=h.1;rw[Fj,B6];omega
theorem HS.ne{l:List (List UInt8)}(h:HS l):HS (Tj l):=⟨Aci (PF l) h.1,λs hs=>h.2 s ((Ac4.1 hs).1)⟩
theorem X4{r:List (List UInt8)}(h:HS r):(D4 r).length≤200000:=OQ h.ne
theorem Hw{w:World}{lo:Nat}{v:Value}{l:List (List UInt8)}(h:E.Own w lo 9 1 v l.length (l.map Av))(hl:l.length≤1000000)(hs:∀s∈l,s.length≤1000000):Bz w v l:=by
 obtain⟨g,h1,_⟩:=VQ h hl hs;exact Ab.map h1 (λ_ _=>trivial) λ_ _ _ _ h=>h
theorem VR{w:World}{lo:Nat}{v:Value}{l:List (List UInt8)}{s:List UInt8}(h:E.Own w lo 9 1 v (l.length+1) (l.map Av++[Av s])):E.Own w lo 9 1 v (l++[s]).length ((l++[s]).map Av):=by
 rw[B6,AbT];exact h
theorem Pm(r:List (List UInt8))(v:Value)(w:World)(h:Bz w v r)(hs:HS r):AN prog 161 [v] w (λu w'=>u=Av (D4 r)∧Ah w w'):=by
 obtain⟨p,c,rfl⟩:=h.slice;have a4:=hs.1;refine Bq func161 ntmps161 ?_;refine Sa ?_;refine CW.loop (ι:=Nat×Value) (λx w'=>x.1≤r.length∧Ah w w'∧E.Own w' w.heap.size 9 1 x.2 (Tj (r.take x.1)).length ((Tj (r.take x.1)).map Av)) (λx=>[(3,x.2),(6,.slice p r.length c),(7,.int .i64 r.length),(8,.int .i64 x.1)]) (λx=>r.length - x.1) (0,.slice none 0 0) ⟨by simp,Chg.refl _ _,Own.nil _ _ _ _⟩ Bx ?_;rintro⟨k,ov⟩ w1 ⟨hk,hx,hO⟩;dsimp only at hk hO;show CW _ _ _ _ _ [(3,ov),(6,.slice p r.length c),(7,.int .i64 r.length),(8,.int .i64 (k:Int))] _;have hz:=hx.size;refine Sa ?_;refine AB (λh1=>?_) λh1=>?_;rotate_left
 ·have h1:k=r.length:=by simp at h1;omega
  subst h1;rw[Ack] at hO;refine Sa ?_;refine Ar rfl rfl (KW (Tj r) ov w1 (Hw hO (by have:=PF r;omega) λs hm=>by have:=hs.2 s ((Ac4.1 hm).1);omega)) ?_;rintro u w2 ⟨hb,a0⟩;obtain⟨pu,cu,rfl⟩:=hb.slice;refine Sa ?_;refine LW.string_any (bs:=Fj (Tj r)) rfl rfl (Ef.bytes' hb) rfl rfl rfl rfl rfl rfl rfl ?_;refine Sa ?_;exact QW.body1 rfl rfl ⟨rfl,hx.trans a0⟩
 have h1:k<r.length:=by simp at h1;omega
 obtain⟨s,a1⟩:∃s,r[k]?=some s:=⟨_,B7 h1⟩;obtain⟨a,rfl,-,a5,hc⟩:=Ak.at (Ak.ext h hx) a1;refine Sw ?_;refine AB (λh2=>?_) λh2=>?_
 ·have h2:s≠[]:=by simpa using h2
  refine Sa ?_;refine CF λC w2 a6 a0 hC=>?_;refine Sa ?_;refine LW.append (lo:=w.heap.size) (k:=(Tj (r.take k)).length) rfl rfl rfl rfl rfl rfl (hO.ext a0) AeN hC rfl rfl rfl (by have:=PF (r.take k);have:=List.length_take_le k r;show(_+1)*17≤_;omega) rfl ?_;intro v3 w3 a2 a3 _;refine Sa ?_;refine QW.again (k+1,v3) ⟨by show k+1≤_;omega,(hx.trans a0).step a2 (λb hb=>(hO.lt hb).1),?_⟩ Bx (by show r.length - (k+1)<r.length - k;omega);show E.Own _ _ _ _ v3 (Tj (r.take (k+1))).length ((Tj (r.take (k+1))).map Av);rw[Rk a1,if_neg h2];exact VR a3
 ·have h2:s=[]:=by simpa using h2
  refine Sa ?_;refine QW.again (k+1,ov) ⟨by show k+1≤_;omega,hx,?_⟩ Bx (by show r.length - (k+1)<r.length - k;omega);show E.Own _ _ _ _ ov (Tj (r.take (k+1))).length ((Tj (r.take (k+1))).map Av);rw[Rk a1,if_pos h2];exact hO
structure Dr(s:Af):Prop where
 rows:s.rows.length≤100
 cols:0≤s.cols∧s.cols≤100
 wide:∀r∈s.rows,(r.length:Int)=s.cols
 cells:∀r∈s.rows,∀t∈r,t.length≤1000
theorem Dr.row{s:Af}(h:Dr s){r:List (List UInt8)}(hr:r∈s.rows):HS r:=⟨by have:=h.wide r hr;have:=h.cols;omega,h.cells r hr⟩
theorem QT(s:Af)(rv:Value)(w:World)(h:Cy w rv s.rows)(hs:Dr s):AN prog 160 [.agg ⟨Au s rv⟩,.func (.func 161) ⟨[]⟩ ⟨[]⟩] w (λv w'=>E.Own w' w.heap.size 9 1 v (s.rows.map D4).length ((s.rows.map D4).map Av)∧Ah w w'):=by
 obtain⟨p,c,rfl⟩:=h.slice;have a6:=hs.rows;refine Bq func160 ntmps160 ?_;apply CW.seq;apply CW.region;refine Sl ?_;refine De λA w1 a7 a2 hA=>?_;replace hA:Blk w1 A (Au s (.slice p s.rows.length c)) 46:=hA;refine Sa ?_;refine CW.loop (ι:=Nat×Value) (λx w'=>x.1≤s.rows.length∧Ah w w'∧E.Own w' w.heap.size 9 1 x.2 (s.rows.take x.1).length (((s.rows.take x.1).map D4).map Av)) (λx=>[(1,.func (.func 161) ⟨[]⟩ ⟨[]⟩),(5,x.2),(9,.slice p s.rows.length c),(10,.int .i64 s.rows.length),(11,.int .i64 x.1)]) (λx=>s.rows.length - x.1) (0,.slice none 0 0) ⟨by simp,a2,Own.nil _ _ _ _⟩ EP ?_;rintro⟨k,ov⟩ w2 ⟨hk,hx,hO⟩;dsimp only at hk hO;show CW _ _ _ _ _ [(1,.func (.func 161) ⟨[]⟩ ⟨[]⟩),(5,ov),(9,.slice p s.rows.length c),(10,.int .i64 s.rows.length),(11,.int .i64 (k:Int))] _;have hz:=hx.size;refine Sa ?_;refine AB (λh1=>?_) λh1=>?_;rotate_left
 ·have h1:k=s.rows.length:=by simp at h1;omega
  subst h1;rw[Ack] at hO;refine Sa ?_;exact QW.body1 rfl rfl ⟨by rw[Abr];exact hO,hx⟩
 have h1:k<s.rows.length:=by simp at h1;omega
 obtain⟨r,hr⟩:∃s',s.rows[k]?=some s':=⟨_,B7 h1⟩;obtain⟨a,q,qc,rfl,-,ht,hc⟩:=Bn.at (Bn.ext h hx) hr;have a3:=hs.row (Ab7 hr);refine Sw ?_;refine LW.call (fs:=[]) (cs:=[]) rfl rfl rfl (Pm r _ w2 ht a3) ?_;rintro v w3 ⟨rfl,a0⟩;refine Sa ?_;refine CF λC w4 a8 a1 hC=>?_;refine Sa ?_;refine LW.append (lo:=w.heap.size) (k:=(s.rows.take k).length) rfl rfl rfl rfl rfl rfl (hO.ext (a0.trans a1)) (by have:=a0.size;have:=a1.size;omega) hC rfl rfl rfl (by have:=List.length_take_le k s.rows;show(_+1)*17≤_;omega) rfl ?_;intro v5 w5 a4 a5 _;refine Sa ?_;refine QW.again (k+1,v5) ⟨by show k+1≤_;omega,((hx.trans a0).trans a1).step a4 (λb hb=>(hO.lt hb).1),?_⟩ EP (by show s.rows.length - (k+1)<s.rows.length - k;omega);show E.Own _ _ _ _ v5 (s.rows.take (k+1)).length (((s.rows.take (k+1)).map D4).map Av);rw[AbU,hr];simp only[Option.toList,AbT,Acb,Ac3,B6,AaF,Abz,Acd];exact a5
theorem Be.at1{w:World}{p:Option Addr}{c:Nat}{zs:List Int}(h:Be w (.slice p zs.length c) zs){i:Nat}{z:Int}(hi:zs[i]?=some z):∃a,p=some a∧w.cell? (a.add (((i:Nat):Int).toNat*1))=some (.int .i64 z):=by
 obtain⟨hl,e⟩:=Abu.1 hi;obtain⟨a,h1,h2⟩:=h.at hl;refine⟨a,h1,?_⟩;rw[show((i:Nat):Int).toNat*1=i by omega,h2,AaE,hi];rfl
def ES(s:Af)(rs:List Nat)(c:Nat):List (List UInt8):=rs.map λr=>(s.rows.getD r []).getD c []
def Qk(rs:List Nat):List Int:=rs.map λ(r:Nat)=>(r:Int)
theorem ZJ{rs:List Nat}{k r:Nat}(h:rs[k]?=some r):(Qk rs)[k]?=some (r:Int):=by simp[Qk,h]
theorem TS{s:Af}(hs:Dr s){r c:Nat}(hr:r<s.rows.length)(hc:(c:Int)<s.cols):∃row t,s.rows[r]?=some row∧row[c]?=some t∧(s.rows.getD r []).getD c []=t∧t.length≤1000:=by
 have h1:=B7 hr;have hm:=Ab7 h1;have hw:=hs.wide _ hm;have h2:=B7 (l:=s.rows[r]) (i:=c) AdV;refine⟨_,_,h1,h2,?_,hs.cells _ hm _ (Ab7 h2)⟩;rw[AaE,AaE,h1,AcT,h2,AcT]
theorem Ls{s:Af}(hs:Dr s){rs:List Nat}(hr:∀r∈rs,r<s.rows.length)(hl:rs.length≤100){c:Nat}(hc:(c:Int)<s.cols):HS (ES s rs c):=by
 refine⟨by simpa[ES] using hl,λt ht=>?_⟩;simp only[ES,AbJ] at ht;obtain⟨r,h1,rfl⟩:=ht;obtain⟨_,t,_,_,e,h2⟩:=TS hs (hr r h1) hc;rw[e];exact h2
theorem Pv(s:Af)(rs:List Nat)(k:Nat):(List.range (k+1)).map (He s rs)=(List.range k).map (He s rs)++[He s rs k]:=by simp[Ace]
set_option maxHeartbeats 1000000 in
theorem Lw(s:Af)(rv iv:Value)(rs:List Nat)(w:World)(h:Cy w rv s.rows)(hs:Dr s)(hi:Be w iv (Qk rs))(hr:∀r∈rs,r<s.rows.length)(hl:rs.length≤100):AN prog 162 [.agg ⟨Au s rv⟩,iv] w (λv w'=>E.Own w' w.heap.size 9 1 v (BB s rs).length ((BB s rs).map Av)∧Ah w w'):=by
 obtain⟨p,c,rfl⟩:=h.slice;have a9:(Qk rs).length=rs.length:=by simp[Qk]
 obtain⟨ip,ic,rfl⟩:=hi.slice;have af:=hs.rows;obtain⟨ag,ah⟩:=hs.cols;obtain⟨C,hC⟩:∃C:Nat,s.cols=C:=⟨s.cols.toNat,by omega⟩;refine Bq func162 ntmps162 ?_;apply CW.seq;apply CW.region;refine Sl ?_;refine De λA w1 ai a4 hA=>?_;replace hA:Blk w1 A (Au s (.slice p s.rows.length c)) 46:=hA;refine Sa ?_;refine CW.loop (ι:=Nat×Value) (λx w'=>x.1≤C∧Ah w1 w'∧E.Own w' w1.heap.size 9 1 x.2 ((List.range x.1).map (He s rs)).length (((List.range x.1).map (He s rs)).map Av)) (λx=>[(1,.slice ip (Qk rs).length ic),(2,.pointer (some ⟨A,0,none⟩)),(5,x.2),(11,.int .i64 s.cols),(12,.int .i64 x.1)]) (λx=>C - x.1) (0,.slice none 0 0) ⟨by simp,Chg.refl _ _,Own.nil _ _ _ _⟩ EP ?_;rintro⟨k,ov⟩ w2 ⟨hk,hx,hO⟩;dsimp only at hk hO;show CW _ _ _ _ _ [(1,.slice ip (Qk rs).length ic),(2,.pointer (some ⟨A,0,none⟩)),(5,ov),(11,.int .i64 s.cols),(12,.int .i64 (k:Int))] _;have hz:=a4.size;have aj:=hx.size;rw[Abr,AcR] at hO;refine Sa ?_;refine AB (λh1=>?_) λh1=>?_;rotate_left
 ·have h1:k=C:=by simp at h1;omega
  subst h1;refine Sa ?_;refine QW.body1 rfl rfl ⟨?_,a4.trans hx⟩;have e:BB s rs=(List.range k).map (He s rs):=by rw[BB,hC];rfl
  rw[e,Abr,AcR];exact hO.low hz
 have h1:k<C:=by simp at h1;omega
 replace hA:=hA.ext hx;refine Sa ?_;refine CW.loop (ι:=Nat×Value) (λx w'=>x.1≤rs.length∧Ah w2 w'∧E.Own w' w2.heap.size 9 1 x.2 x.1 (((ES s rs k).take x.1).map Av)) (λx=>[(1,.slice ip (Qk rs).length ic),(2,.pointer (some ⟨A,0,none⟩)),(5,ov),(6,.int .i64 k),(7,x.2),(11,.int .i64 s.cols),(12,.int .i64 k),(15,.slice ip (Qk rs).length ic),(16,.int .i64 (Qk rs).length),(17,.int .i64 x.1)]) (λx=>rs.length - x.1) (0,.slice none 0 0) ⟨by simp,Chg.refl _ _,Own.nil _ _ _ _⟩ HB ?_;rintro⟨j,lv⟩ w3 ⟨hj,a1,hL⟩;dsimp only at hj hL;show CW _ _ _ _ _ [(1,.slice ip (Qk rs).length ic),(2,.pointer (some ⟨A,0,none⟩)),(5,ov),(6,.int .i64 (k:Int)),(7,lv),(11,.int .i64 s.cols),(12,.int .i64 (k:Int)),(15,.slice ip (Qk rs).length ic),(16,.int .i64 (Qk rs).length),(17,.int .i64 (j:Int))] _;have ak:=a1.size;have a2:=a4.trans (hx.trans a1);replace hA:=hA.ext a1;refine Sa ?_;refine AB (λh2=>?_) λh2=>?_;rotate_left
 ·have h2:j=rs.length:=by simp[a9] at h2;omega
  subst h2;have el:(ES s rs k).take rs.length=ES s rs k:=AcF (by simp[ES]);rw[el] at hL;have aa:=Ls hs hr hl (c:=k) AdV;have ac:E.Own w3 w2.heap.size 9 1 lv (ES s rs k).length ((ES s rs k).map Av):=by
   rw[show(ES s rs k).length=rs.length by simp[ES]];exact hL
  refine Sa ?_;refine Ar rfl rfl (KW (ES s rs k) lv w3 (Hw ac (by have:=aa.1;omega) λt ht=>by have:=aa.2 t ht;omega)) ?_;rintro u w4 ⟨hb,a5⟩;obtain⟨pu,cu,rfl⟩:=hb.slice;refine Sa ?_;refine LW.string_any (bs:=Fj (ES s rs k)) rfl rfl (Ef.bytes' hb) rfl rfl rfl rfl rfl rfl rfl ?_;refine Sa ?_;refine CF λD w5 ad a0 hD=>?_;refine Sa ?_;refine LW.append (lo:=w1.heap.size) (k:=k) rfl rfl rfl rfl rfl rfl (((hO.ext a1).ext a5).ext a0) (by have:=a5.size;have:=a0.size;omega) hD rfl rfl rfl AeY rfl ?_;intro v6 w6 a6 a7 _;refine Sa ?_;refine QW.again (k+1,v6) ⟨by show k+1≤_;omega,(((hx.trans a1).trans a5).trans a0).step a6 (λb hb=>(hO.lt hb).1),?_⟩ EP (by show C - (k+1)<C - k;omega)
  ·show E.Own _ _ _ _ v6 ((List.range (k+1)).map (He s rs)).length (((List.range (k+1)).map (He s rs)).map Av);rw[Pv,B6,AbT,Abr,AcR];exact a7
 have h2:j<rs.length:=by simp[a9] at h2;omega
 obtain⟨r,a8⟩:∃r,rs[j]?=some r:=⟨_,B7 h2⟩;obtain⟨ia,rfl,al⟩:=Be.at1 (hi.ext a2) (ZJ a8);obtain⟨row,t,a3,ab,ae,am⟩:=TS hs (hr r (Ab7 a8)) (c:=k) AdV;obtain⟨a,q,qc,rfl,-,ht,hc⟩:=Bn.at (Bn.ext h a2) a3;obtain⟨a',rfl,-,-,an⟩:=Ak.at ht ab;have ao:=(Abu.1 a3).1;have ap:=(Abu.1 ab).1;refine Sw ?_;refine CF λD w5 ad a0 hD=>?_;refine Sa ?_;refine LW.append (lo:=w2.heap.size) (k:=j) rfl rfl rfl rfl rfl rfl (hL.ext a0) AeN hD rfl rfl rfl AeY rfl ?_;intro v6 w6 a6 a7 _;refine Sa ?_;refine QW.again (j+1,v6) ⟨by show j+1≤_;omega,(a1.trans a0).step a6 (λb hb=>(hL.lt hb).1),?_⟩ HB (by show rs.length - (j+1)<rs.length - j;omega);show E.Own _ _ _ _ v6 (j+1) (((ES s rs k).take (j+1)).map Av);rw[AbU,show(ES s rs k)[j]?=some t by simp[ES,a8];simpa using ae,AbT];exact a7
theorem Mz(zs:List Int)(v:Value)(w:World)(h:Be w v zs)(hl:zs.length≤100000):AN prog 172 [v] w (λv' w'=>E.Own w' w.heap.size 3 1 v' zs.length (Ae zs)∧Ah w w'):=by
 refine Bq func172 ntmps172 ?_;obtain⟨_,⟨rfl,rfl⟩ | ⟨a,cap,rfl,hc⟩⟩:=h
 ·refine Sa ?_;refine LW.eql_sn rfl rfl rfl rfl ?_;refine Sa ?_;exact QW.body1 rfl rfl ⟨E.Own.nil _ _ _ _,Chg.refl _ _⟩
 ·refine Sa ?_;refine LW.eql_sn rfl rfl rfl rfl ?_;refine Sa ?_
  (apply LW.buildSlice0;exact rfl;exact rfl;exact rfl;exact rfl;intro B w5 a3 a1 hB)
  refine Sa ?_;refine LW.append_any (lo:=w.heap.size) (xs:=[]) (news:=Ae zs) rfl rfl rfl rfl rfl rfl (⟨rfl,.inr ⟨B,0,[],rfl,hB,by simp,by simp,by omega⟩⟩) (by have:=a1.size;omega) (by rw[AE];show _=_*1;omega) (.inr ⟨a,rfl,λj u hj=>by
   simp only[Ae,AbH] at hj
   cases hg:zs[j]? with
   | none=>rw[hg] at hj;cases hj
   | some y=>
    rw[hg] at hj;obtain rfl:=Ab9 hj;exact AC a1 (hc j y hg)⟩) (λu hu=>by
   simp only[Ae,AbJ] at hu;obtain⟨_,_,rfl⟩:=hu;rfl) (by show(0+_)*9≤_;omega) rfl ?_
  intro v' w6 a2 a0 a4;rw[Acd,AbR] at a0;refine Sa ?_;exact QW.body1 rfl rfl ⟨a0,a1.step a2 (by simp[Ac];omega)⟩
abbrev WO(zs:List Int)(x:Fin zs.length):List Value:=[.int .i64 ((x.val:Nat):Int),.int .i64 (zs.getD x.val 0)]
def Gr{n:Nat}(pre:List (Fin n)):Prop:=∀i x,pre[i]?=some x→x.val+1+i=n
theorem Gr.snoc{n:Nat}{pre:List (Fin n)}{x:Fin n}(h:Gr (pre++[x])):Gr pre∧x.val+1+pre.length=n:=by
 refine⟨λi y hi=>h i y (by rw[AbA (Abu.1 hi).1];exact hi),h pre.length x ?_⟩;rw[Aca (Abv _)];simp
theorem Gr.push{n:Nat}{pre:List (Fin n)}{x:Fin n}(h:Gr pre)(hx:x.val+1+pre.length=n):Gr (pre++[x]):=λi y hi=>by
 rcases AdD i pre.length with h1 | h1 | h1
 ·rw[AbA h1] at hi;exact h i y hi
 ·subst h1;rw[Aca (Abv _)] at hi;simp at hi;rw[←hi];exact hx
 ·rw[AbI AdY] at hi;cases hi
theorem Pk(p:Option Addr)(n c:Nat)(w:World):AN prog 258 [.slice p n c] w (λv w'=>v=.func (.func 284) ⟨[]⟩ ⟨[.pointer (some ⟨w.heap.size,0,none⟩)]⟩∧Blk w' w.heap.size [.slice p n c] 75∧Ah w w'):=by
 refine Bq func258 ntmps258 ?_;apply CW.seq;apply CW.region;refine Sl ?_;refine De λA w1 a0 a1 hA=>?_;subst a0;replace hA:Blk w1 w.heap.size [.slice p n c] 75:=hA;refine Sa ?_;exact QW.body1 rfl rfl ⟨rfl,hA,a1⟩
set_option maxRecDepth 8000 in
set_option maxHeartbeats 1000000 in
theorem S4(zs:List Int)(p:Option Addr)(c B:Nat)(ok:Nat→Prop)(w0:World)(hn:zs.length≤100000)(hB:Blk w0 B [.slice p zs.length c] 75)(hokB:ok B)(hz:zs.length≠0→∃a,p=some a∧ok a.block∧∀j z,zs[j]?=some z→w0.cell? (a.add (((j:Nat):Int).toNat*1))=some (.int .i64 z))(hlt:∀b,ok b→b<w0.heap.size) :
  SeqStopsK Fence.wide 3 prog 284 ⟨[.pointer (some ⟨B,0,none⟩)]⟩ (λx=>⟨WO zs x⟩) (BH ok) (λys:List (Fin zs.length)=>ys.length=zs.length∧Gr ys) (λ_=>True) zs.length w0:=by
 intro l J Jx W hW hJ ab hY h0;have hF:=TE;have a7:BH ok w0 W:=λb hb=>hW.block b (hlt b hb);refine CallsIn.enterI (args:=[.func (.yield l) #[] #[],.pointer (some ⟨B,0,none⟩)]) func284 rfl ntmps284 hF rfl rfl ?_;have ac:=a7.blk hokB hB;refine TI ?_;refine E.CI.loop (ι:=Nat×List (Fin zs.length)) (λx w'=>x.1≤zs.length∧BH ok w0 w'∧J x.2 w'∧x.1+x.2.length=zs.length∧Gr x.2) (λx=>[(0,.func (.yield l) #[] #[]),(1,.pointer (some ⟨B,0,none⟩)),(3,.int .i64 ((x.1:Int) - 1))]) (λx=>x.1) (zs.length,[]) ⟨Abv _,a7,h0,by simp,λi x h=>by simp at h⟩ CE ?_;rintro⟨k,pre⟩ w1 ⟨hk,a1,a2,a3,a4⟩;dsimp only at hk a2 a3 a4;show E.CI _ _ _ _ _ _ _ [(0,.func (.yield l) #[] #[]),(1,.pointer (some ⟨B,0,none⟩)),(3,.int .i64 ((k:Int) - 1))] _;have ad:=a1.blk hokB hB;refine TI ?_;refine E.CI.cond rfl (λh1=>?_) (λh1=>?_);rotate_left
 ·have h1:k=0:=by simp at h1;omega
  subst h1;refine TI ?_;exact QW.bodyI (.inr rfl) rfl ⟨⟨_,rfl⟩,.inl ⟨pre,⟨by omega,a4⟩,a2⟩⟩
 have h1:0<k:=by simp at h1;omega
 obtain⟨j,rfl⟩:∃j,k=j+1:=⟨k - 1,by omega⟩;obtain⟨z,a8⟩:∃z,zs[j]?=some z:=⟨_,B7 AdV⟩;obtain⟨a,rfl,a5,a0⟩:=hz AdV;have hc:=a1.cell (a:=a.add (((j:Nat):Int).toNat*1)) (by rw[CJ];exact a5) (a0 j z a8);have ej:(((j+1:Nat):Int) - 1)=(j:Int):=AdV
 rw[ej];have hy:=hY pre ⟨j,by omega⟩ w1 a2 AdV;have ez:zs.getD j 0=z:=by rw[AaE,a8];rfl
 simp only[WO,ez] at hy;refine TI ?_;refine E.LI.yield hF rfl rfl rfl hy ?_;rintro e w2 (⟨rfl,a9,aa⟩ | ⟨rfl,a6⟩)
 ·refine⟨_,rfl,?_⟩;refine TI ?_;refine E.CI.cond rfl (λh2=>by cases h2) (λ_=>?_);refine TI ?_;refine QW.again (j,pre++[⟨j,by omega⟩]) ⟨by show j≤_;omega,a1.trans aa,a9,by simp;omega,a4.push (by show j+1+_=_;omega)⟩ ?_ (by show j<j+1;omega);exact CE
 ·refine⟨_,rfl,?_⟩;refine TI ?_;refine E.CI.cond rfl (λ_=>?_) (λh2=>by cases h2);refine TI ?_;exact QW.bodyI (.inl rfl) rfl ⟨⟨_,rfl⟩,.inr ⟨_,trivial,a6⟩⟩
open Go Go.E Go.RowKit
theorem UP{B:Nat}{w0 w:World}{D:Nat}(o:Obj)(h:Below B w0 w)(hB:B≤w.heap.size)(hD:B≤D):Below B w0 (w.putObj D o):=
 h.grown (grownBy_putObj' w D o) hB (λk e=>by cases e;exact hD)
structure AaI(m:Bg)(lo:Nat)(ok:Nat→Prop)(w w6 W:World)(A R X N:Nat)(v:Value)(pre:List (Fin m.to.length))(L:List Int)(nx:Int):Prop where
 size:w6.heap.size≤W.heap.size
 kept:BH ok w6 W
 below:Below w.heap.size w W
 bX:Blk W X [v,.int .i64 m.new] 77
 bR:Blk W R [.slice none 0 0,.int .i64 0] 77
 bN:Blk W N [.int .i64 nx] 3
 own:E.Own W lo 3 1 v m.to.length (Ae L)
 nx0:0≤nx
 nx1:nx≤1000000
 at_:Gr pre→L=G4 m.new m.to (m.to.length - pre.length)∧nx=CZ m.new (m.to.drop (m.to.length - pre.length))
set_option maxRecDepth 8000 in
set_option maxHeartbeats 2000000 in
theorem SD(m:Bg)(tv:Value)(w:World)(h:Be w tv m.to)(hl:m.to.length≤100000)(hz:∀z∈m.to,-1≤z∧z≤1000000)(hn0:0≤m.new)(hn1:m.new≤1000000):AN prog 209 [.agg ⟨[tv,.int .i64 m.new]⟩] w (λv w'=>∃tv',v=.agg ⟨[tv',.int .i64 m.new]⟩∧E.Own w' w.heap.size 3 1 tv' m.to.length (Ae (DI m.new 0 m.to))∧Ah w w'):=by
 obtain⟨p,c,rfl⟩:=h.slice;refine AN.enterM func209 rfl ntmps209 AdX rfl ?_;apply CW.seq;apply CW.region;refine Sl ?_;refine De λA w1 c5 bc hA=>?_;replace hA:Blk w1 A [.slice p m.to.length c,.int .i64 m.new] 77:=hA;refine Sa ?_;refine Bt λR w2 af ax hR=>?_;replace hA:=hA.ext ax;have a4:=bc.trans ax;have ay:=bc.size;have c6:=ax.size;have c7:=hR.lt;refine Sa ?_;refine CW.cut (ι:=Nat×Value) (λx w'=>Ah w2 w'∧Blk w' x.1 [x.2,.int .i64 m.new] 77∧E.Own w' w2.heap.size 3 1 x.2 m.to.length (Ae m.to)∧w2.heap.size≤x.1∧x.1∉Ac x.2) (λx=>[(1,.pointer (some ⟨A,0,none⟩)),(2,.pointer (some ⟨R,0,none⟩)),(3,.pointer (some ⟨x.1,0,none⟩))]) ?_ ?_
 ·apply CW.noP;refine CW.drawG (Ah w2) 7 (λw' h=>h) AdX λwa c8=>?_;refine Ay ?_;refine GW.two 2 6 AdX rfl rfl rfl rfl rfl rfl (λhS=>?_) (λhS=>?_)
  ·refine Ar rfl rfl (Mz m.to _ wa (h.ext (a4.trans hS)) hl) ?_;rintro v wb ⟨hO,ag⟩;obtain⟨vp,vc,rfl⟩:=hO.slice;have a2:=hS.trans ag;have bd:=hS.size;have bn:=ag.size;apply LW.nil;refine QW.headed a2 ?_;refine Ay ?_;refine Bd 6 λhS=>?_;refine Bt λX wc a5 a6 hX=>?_;apply LW.nil;refine QW.headed (a2.trans a6) ?_;refine GW.tail rfl AdX (λhS=>?_);refine AM λwd ah hX=>?_;have ai:X∉Ac (.slice vp m.to.length vc):=λhm=>by have:=(hO.lt hm).2;omega
   refine Sa ?_;exact QW.noP_n (QW.head (X,.slice vp m.to.length vc) ⟨(a2.trans a6).step ah AdY,hX,((hO.ext a6).chg ah (λb hb=>by simp only[B3];exact λe=>ai (e ▸ hb))).low bd,by show w2.heap.size≤X;omega,ai⟩ (Al.cons rfl (Al.cons rfl (Al.cons rfl (Al.nil)))))
  ·refine Bt λX wb a5 ag hX=>?_;have a2:=hS.trans ag;have bd:=hS.size;have bn:=ag.size;have bo:=hX.lt;apply LW.nil;refine QW.headed a2 ?_;refine Bd 2 λhS=>?_;refine Ar rfl rfl (Mz m.to _ wb (h.ext (a4.trans a2)) hl) ?_;rintro v wc ⟨hO,a6⟩;obtain⟨vp,vc,rfl⟩:=hO.slice;replace hX:=hX.ext a6;apply LW.nil;refine QW.headed (a2.trans a6) ?_;refine Ay ?_;refine GW.tail rfl AdX (λhS=>?_);refine AM λwd ah hX=>?_;have ai:X∉Ac (.slice vp m.to.length vc):=λhm=>by have:=(hO.lt hm).1;omega
   refine Sa ?_;exact QW.noP_n (QW.head (X,.slice vp m.to.length vc) ⟨(a2.trans a6).step ah AdY,hX,(hO.chg ah (λb hb=>by simp only[B3];exact λe=>ai (e ▸ hb))).low AdV,by show w2.heap.size≤X;omega,ai⟩ (Al.cons rfl (Al.cons rfl (Al.cons rfl (Al.nil)))))
 rintro⟨X,v⟩ w3 ⟨an,hX,hO,bp,az⟩;dsimp only at hX hO bp az;have be:∀b,b∈Ac v→b<w3.heap.size:=λb hb=>(hO.lt hb).2;show CW _ _ _ _ _ [(1,.pointer (some ⟨A,0,none⟩)),(2,.pointer (some ⟨R,0,none⟩)),(3,.pointer (some ⟨X,0,none⟩))] _;replace hA:=hA.ext an;replace hR:=hR.ext an;have c9:=an.size;have bo:=hX.lt;refine Sw ?_;refine Bt λN w4 ad bf hN=>?_;have ca:=bf.size;have bq:=hN.lt;have cb:=hN;refine Sw ?_;refine D9 λw5 bg hN=>?_;replace hN:Blk w5 N [.int .i64 m.new] 3:=hN;have a1:Ah w3 w5:=bf.step bg AdY;have cc:=a1.size;replace hA:=hA.ext a1;replace hR:=hR.ext a1;replace hX:=hX.ext a1;replace hO:=hO.ext a1;refine Sw ?_;refine Ar rfl rfl (Pk p m.to.length c w5) ?_;rintro u w6 ⟨rfl,bh,a7⟩;have cd:=a7.size;replace hA:=hA.ext a7;replace hR:=hR.ext a7;replace hX:=hX.ext a7;replace hN:=hN.ext a7;replace hO:=hO.ext a7;have aj:=((a4.trans an).trans a1).trans a7;have ce:=hN.lt;have cf:=bh.lt;have bi:∀j z,m.to[j]?=some z→-1≤z∧z≤1000000:=λj z hj=>hz z (Ab7 hj);refine Sa ?_;refine CW.rangeFunc (α:=Fin m.to.length) (gf:=284) (lb:=[.pointer (some ⟨w5.heap.size,0,none⟩)]) (encs:=WO m.to) (ok:=λb=>b<w.heap.size∨b=w5.heap.size) (S:=λys=>ys.length=m.to.length∧Gr ys) (Sp:=λ_=>True) (N:=m.to.length) (w0:=w6) rfl AdX (S4 m.to p c w5.heap.size _ w6 hl bh (.inr rfl) (λcg=>?_) (λb hb=>by omega)) (Below.refl _ _) (λb hb=>by omega) (λ_=>rfl) rfl
  (λpre W=>∃L nx,AaI m w2.heap.size (λb=>b<w.heap.size∨b=w5.heap.size) w w6 W A R X N v pre L nx) (λpre W W' row hb hg hr=>?_) ⟨m.to,m.new,⟨Abv _,BH.refl _ _,aj.toBelow,hX,hR,hN,hO,hn0,hn1,λ_=>⟨by simp[UO],by simp[CZ]⟩⟩⟩ (λx=>[(2,.pointer (some ⟨R,0,none⟩)),(3,.pointer (some ⟨X,0,none⟩)),(4,.pointer (some ⟨N,0,none⟩)),(5,.int .i64 ((x.val:Nat):Int)),(6,.int .i64 (m.to.getD x.val 0))]) ?_ ?_ ?_
 ·obtain⟨z0,h0⟩:∃z,m.to[0]?=some z:=⟨_,B7 AdV⟩;obtain⟨a,ea,br⟩:=Be.at1 h h0;refine⟨a,ea,.inl ?_,λj z hj=>?_⟩
  ·have:=Ac5 w _ br
   rwa [CJ] at this
  ·obtain⟨a',e,hc⟩:=Be.at1 h hj;rw[ea] at e;obtain rfl:=Ab9 e;exact AC aj hc
 ·obtain⟨L,nx,hb⟩:=hb;have ao:∀r,row=some r→∃o:Obj,W.heap[r]?=some o∧o.isCells=false:=λr e=>(hr r e).2;exact⟨L,nx,⟨Aci hb.size hg.size,hb.kept.trans λb ci=>hg.block b (by have:=hb.size;omega) (λe=>by have:=(hr b e.symm).1;omega),hb.below.grown hg (by have:=hb.size;omega) (λk e=>by have:=(hr k e).1;omega),hb.bX.grown hg ao,hb.bR.grown hg ao,hb.bN.grown hg ao,hb.own.grown hg ao,hb.nx0,hb.nx1,hb.at_⟩⟩
 ·intro lk pre x W K hi hK;have hF:=TE.inRound lk;show E.CI _ _ _ _ _ _ _ ((22,.int .i64 (m.to.getD x.val 0))::(21,.int .i64 ((x.val:Nat):Int))::_) _;refine TI ?_;unfold QW;exact λa ha=>hK a (ha.sub (Al.cons rfl (Al.cons rfl (Al.cons rfl (Al.cons rfl (Al.cons rfl (Al.nil)))))))
 ·rintro lk pre x W ⟨L,nx,hb⟩ bs;have hF:=TE.inRound lk;obtain⟨z,ap⟩:∃z,m.to[x.val]?=some z:=⟨_,B7 x.2⟩;have ez:m.to.getD x.val 0=z:=by rw[AaE,ap];rfl
  obtain⟨bt,ay⟩:=bi _ _ ap;obtain⟨aq,b0,ar,a5,af,ad,ak,b1,b2,au⟩:=hb;have cj:=x.2;have bu:=a5.lt;have bv:=ad.lt;have ck:N≠X:=AdV
  have cl:N≠R:=AdV
  have cm:N<w5.heap.size:=by have:=bq;have:=bg.size;omega
  have cn:w.heap.size≤N:=AdV
  have bj:∀b,b<w.heap.size∨b=w5.heap.size→b≠N:=λb hb=>by omega
  have bk:∀b,b∈Ac v→b≠N:=λb hm=>by have:=be b hm;omega
  rw[ez];refine TI ?_;refine E.CI.cond rfl (λh1=>?_) (λh1=>?_)
  ·have h1:0≤z:=by simpa using h1
   refine TI ?_;refine E.LI.store hF rfl rfl rfl ad rfl rfl rfl λW' hc b3=>?_;replace b3:Blk W' N [.int .i64 z] 3:=b3;refine TI ?_;unfold QW;refine λ_ _=>⟨KeepsFrom.chg hc (λb hm=>by simp only[B3] at hm;subst hm;exact⟨_,_,ad⟩),BH.chg hc (λb hm=>⟨by omega,by simp only[B3];exact bj b hm⟩),L,z,⟨Aci aq hc.size,b0.trans (BH.chg hc (λb hm=>⟨by omega,by simp only[B3];exact bj b hm⟩)),ar.trans (hc.below AdV AdY),a5.chg hc AdY,af.chg hc AdY,b3,ak.chg hc (λb hm=>by simp only[B3];exact bk b hm),h1,ay,λb4=>?_⟩⟩;obtain⟨a8,b5⟩:=b4.snoc;obtain⟨e1,e2⟩:=au a8;have e3:m.to.length - pre.length=x.val+1:=AdV
   have e4:m.to.length - (pre++[x]).length=x.val:=AdY
   rw[e4];obtain⟨e5,e6⟩:=Sv (new:=m.new) ap h1;exact⟨by rw[e1,e3,e5],e6.symm⟩
  ·have h1:¬0≤z:=by simpa using h1
   obtain⟨b6,⟨_,bw⟩ | ⟨g,cap,sp,rfl,hG,h5,h6,h7⟩⟩:=ak
   ·omega
   have bl:(Ae L).length=L.length:=AE L;have co:=bk g AeR;have bx:g≠X:=λe=>az (by simp[Ac,e]);have bz:=hG.lt;refine TI ?_;refine E.LI.store (i:=0+((x.val:Nat):Int).toNat*1) hF (by show some (Value.pointer (some (Addr.add ⟨g,0,none⟩ (((x.val:Nat):Int).toNat*1))))=_;rw[A5]) rfl rfl hG (AbY Afg) rfl rfl λW' hc b7=>?_;replace b7:Blk W' g (Ae (L.set x.val (-1 - nx))++sp) 3:=by
    have e:(Ae L++sp).set (0+((x.val:Nat):Int).toNat*1) (.int .i64 (-1 - nx))=Ae (L.set x.val (-1 - nx))++sp:=by
     rw[show 0+((x.val:Nat):Int).toNat*1=x.val by omega,List.set_append_left _ _ AdV];simp[Ae]
    rw[←e];exact b7
   have bm:∀b,b<w.heap.size∨b=w5.heap.size→b≠g:=λb hb=>by have:=be g AeR;omega
   refine TI ?_;unfold QW;refine λ_ _=>⟨KeepsFrom.chg hc (λb hm=>by simp only[B3] at hm;subst hm;exact⟨_,_,hG⟩),BH.chg hc (λb hm=>⟨by omega,by simp only[B3];exact bm b hm⟩),L.set x.val (-1 - nx),nx,⟨Aci aq hc.size,b0.trans (BH.chg hc (λb hm=>⟨by omega,by simp only[B3];exact bm b hm⟩)),ar.trans (hc.below AdV AdY),a5.chg hc AdY,af.chg hc AdY,ad.chg hc AdY,⟨by rw[AE,Acs,←bl];exact b6,.inr ⟨g,cap,sp,rfl,b7,h5,h6,h7⟩⟩,b1,b2,λb4=>?_⟩⟩;obtain⟨a8,b5⟩:=b4.snoc;obtain⟨e1,e2⟩:=au a8;have e3:m.to.length - pre.length=x.val+1:=AdV
   have e4:m.to.length - (pre++[x]).length=x.val:=AdY
   rw[e4];rw[e3] at e1 e2;obtain⟨e5,e6⟩:=Sy (new:=m.new) ap h1;exact⟨by rw[e1,e2];exact e5,by rw[e2];exact e6.symm⟩
 ·intro Dd ys W hD c0 hb hK;obtain⟨c1,c2⟩:=c0;obtain⟨L,nx,aq,b0,ar,a5,af,ad,ak,-,-,au⟩:=hb;obtain⟨e1,-⟩:=au c2;rw[c1,AcP,S3] at e1;subst e1;obtain⟨p',c',rfl⟩:=ak.slice;refine Sw ?_;refine CW.loop (ι:=Nat×List Int×Int) (λx w'=>x.1≤m.to.length∧Jq m.new m.to x.1 x.2.1 x.2.2∧x.2.2≤1000001∧Blk w' X [.slice p' m.to.length c',.int .i64 m.new] 77∧E.Own w' w2.heap.size 3 1 (.slice p' m.to.length c') m.to.length (Ae (x.2.1++DA m.new (m.to.drop x.1)))∧Below w.heap.size w w'∧Blk w' R [.slice none 0 0,.int .i64 0] 77∧w'.heap[Dd]?=some (.deferred (some []))∧w6.heap.size≤w'.heap.size) (λx=>[(2,.pointer (some ⟨R,0,none⟩)),(3,.pointer (some ⟨X,0,none⟩)),(7,.int .i64 x.2.2),(33,.slice p' m.to.length c'),(34,.int .i64 m.to.length),(35,.int .i64 x.1)]) (λx=>m.to.length - x.1) (0,[],0) ⟨Acp _,Jq.start _ _,by decide,a5,by simpa using ak,ar,af,hK,aq⟩ LM ?_;rintro⟨j,done,free⟩ w7 ⟨hj,hP,hf,b8,ae,av,a9,aa,b9⟩;dsimp only at hj hP hf ae;show CW _ _ _ _ _ [(2,.pointer (some ⟨R,0,none⟩)),(3,.pointer (some ⟨X,0,none⟩)),(7,.int .i64 free),(33,.slice p' m.to.length c'),(34,.int .i64 m.to.length),(35,.int .i64 (j:Int))] _;refine Sw ?_;refine AB (λh1=>?_) λh1=>?_;rotate_left
  ·have h1:j=m.to.length:=by simp at h1;omega
   subst h1;rw[hP.all,AdH] at ae;have aw:Dd<w7.heap.size:=(AcI.1 aa).1;refine Sw ?_;refine AM λw8 a0 a9=>?_;replace a9:Blk w8 R [.slice p' m.to.length c',.int .i64 m.new] 77:=a9;have c3:=a9;have ba:w8.heap[Dd]?=some (.deferred (some [])):=(a0.block Dd aw AdY).trans aa;have c4:R∉Ac (.slice p' m.to.length c'):=λhm=>by have:=(ae.lt hm).1;omega
   refine Sw ?_;refine QW.bodyM (.inl rfl) results209 ba (vs:=[.agg ⟨[.slice p' m.to.length c',.int .i64 m.new]⟩]) ⟨⟨R,rfl,C5 rfl rfl (c3.put ba rfl) rfl (D7.all _)⟩,trivial⟩ rfl ⟨.slice p' m.to.length c',rfl,?_,?_⟩
   ·refine E.Own.put (E.Own.low (lo:=w2.heap.size) ?_ AdV) ba rfl;have:=ae.chg a0 (λb hb=>by simp only[B3];exact λe=>c4 (e ▸ hb))
    simpa[DA] using this
   ·exact Ah.of_below (UP _ (av.trans (a0.below AdV AdY)) AeN AdV)
  have h1:j<m.to.length:=by simp at h1;omega
  obtain⟨z,ab⟩:∃z,m.to[j]?=some z:=⟨_,B7 h1⟩;obtain⟨bt,ay⟩:=bi _ _ ab;obtain⟨b6,⟨_,bw⟩ | ⟨g,cap,sp,ev,hG,h5,h6,h7⟩⟩:=id ae
  ·omega
  obtain⟨rfl,-,rfl⟩:=AcO ev;have bl:(Ae (done++DA m.new (m.to.drop j))).length=m.to.length:=by rw[b6];omega
  have bb:=hP.free0;have cp:=L8 hn0 hn1 (l:=m.to.drop (j+1)) (λy hy=>(hz y (AbE hy)).2);have a3:∀u,(if 0≤z then z else -1 - CZ m.new (m.to.drop (j+1)))=u→w7.cell? ((⟨g,0,none⟩:Addr).add (((j:Nat):Int).toNat*1))=some (.int .i64 u):=λu hu=>by
   rw[A5];refine hG.cell ?_;rw[show 0+((j:Nat):Int).toNat*1=j by omega,AbA AdV];have:=Za (new:=m.new) hP.len ab;rw[hu] at this;simp only[Ae,AbH,this,AbM]
  have bz:=hG.lt;have bx:g≠X:=λe=>az (by simp[Ac,e]);have cq:g≠R:=AdV
  have aw:Dd<w7.heap.size:=(AcI.1 aa).1;have cr:Dd≠g:=λe=>by
   unfold Blk at hG;rw[←e,aa] at hG;cases hG
  by_cases ac:0≤z
  ·have hc:=a3 z (if_pos ac);refine Sw ?_;refine CW.yes rfl (by simpa using ac) ?_;refine Sw ?_;refine QW.again (j+1,done++[z],z+1) ⟨by show j+1≤_;omega,hP.kept ab ac,by show z+1≤_;omega,b8,?_,av,a9,aa,b9⟩ LM AeK;show E.Own _ _ _ _ _ _ (Ae ((done++[z])++DA m.new (m.to.drop (j+1))));rw[←Xv ab ac];exact ae
  ·have hc:=a3 _ (if_neg ac);have al:∀y,Chg [g] w7=Chg [g] w7∧((Ae (done++DA m.new (m.to.drop j))++sp).set (0+((j:Nat):Int).toNat*1) (.int .i64 y)=Ae ((done++[y])++DA m.new (m.to.drop (j+1)))++sp):=λy=>⟨rfl,by
    rw[show 0+((j:Nat):Int).toNat*1=j by omega,List.set_append_left _ _ AdV,←Vo hP.len ab];simp[Ae]⟩
   refine Sw ?_;refine CW.no rfl AdY ?_;refine Sw ?_;refine AB (λh2=>?_) λh2=>?_
   ·have h2:free<CZ m.new (m.to.drop (j+1)):=by simp at h2;omega
    refine Sw ?_;refine LW.store (i:=0+((j:Nat):Int).toNat*1) (by show some (Value.pointer (some (Addr.add ⟨g,0,none⟩ (((j:Nat):Int).toNat*1))))=_;rw[A5]) rfl rfl hG (AbY Afg) rfl rfl λw8 a0 am=>?_;rw[(al free).2] at am;refine Sw ?_;exact QW.again (j+1,done++[free],free+1) ⟨by show j+1≤_;omega,hP.fill ab ac h2,by show free+1≤_;omega,b8.chg a0 AdY,⟨by rw[AE,B6,K9,Abs];have:=hP.len;simp;omega,.inr ⟨g,_,sp,rfl,am,h5,h6,h7⟩⟩,av.trans (a0.below AdV AdY),a9.chg a0 AdY,(a0.block Dd aw AdY).trans aa,Aci b9 a0.size⟩ LM AeK
   ·have h2:¬free<CZ m.new (m.to.drop (j+1)):=by simp at h2;omega
    refine Sw ?_;refine LW.store (i:=0+((j:Nat):Int).toNat*1) (by show some (Value.pointer (some (Addr.add ⟨g,0,none⟩ (((j:Nat):Int).toNat*1))))=_;rw[A5]) rfl rfl hG (AbY Afg) rfl rfl λw8 a0 am=>?_;rw[(al (-1)).2] at am;refine Sw ?_;exact QW.again (j+1,done++[-1],free) ⟨by show j+1≤_;omega,hP.gone ab ac h2,hf,b8.chg a0 AdY,⟨by rw[AE,B6,K9,Abs];have:=hP.len;simp;omega,.inr ⟨g,_,sp,rfl,am,h5,h6,h7⟩⟩,av.trans (a0.below AdV AdY),a9.chg a0 AdY,(a0.block Dd aw AdY).trans aa,Aci b9 a0.size⟩ LM AeK
section
variable {α:Type} [DecidableEq α]
theorem LZ:∀(a b:List α),BI a b≤a.length
 | [],_=>by simp[BI]
 | _::_,[]=>by simp[BI]
 | x::a,y::b=>by
  have h1:=LZ a b;have h2:=LZ a (y::b);have h3:=LZ (x::a) b;simp only[BI,AaF] at *
  split<;>omega
 termination_by a b=>a.length+b.length
theorem V5{a b:List α}{i k:Nat}(h:a.length≤i):BI (a.drop i) (b.drop k)=0:=by
 rw[Acy h];simp[BI]
theorem V6{a b:List α}{i k:Nat}(h:b.length≤k):BI (a.drop i) (b.drop k)=0:=by
 rw[Acy h];cases a.drop i<;>simp[BI]
omit [DecidableEq α] in
theorem JS{l:List α}{i:Nat}{x:α}(h:l[i]?=some x):l.drop i=x::l.drop (i+1):=by
 obtain⟨hi,rfl⟩:=Abu.1 h;exact AcL hi
theorem Zi{a b:List α}{i k:Nat}{x y:α}(h1:a[i]?=some x)(h2:b[k]?=some y):BI (a.drop i) (b.drop k)=if x=y then BI (a.drop (i+1)) (b.drop (k+1))+1 else max (BI (a.drop (i+1)) (b.drop k)) (BI (a.drop i) (b.drop (k+1))):=by
 rw[JS h1,JS h2];simp only[BI]
theorem VT{a b:List α}{i k:Nat}{x y:α}(h1:a[i]?=some x)(h2:b[k]?=some y):AG (a.drop i) (b.drop k) i k=if x=y then(i,k)::AG (a.drop (i+1)) (b.drop (k+1)) (i+1) (k+1) else if BI (a.drop i) (b.drop (k+1))≤BI (a.drop (i+1)) (b.drop k) then AG (a.drop (i+1)) (b.drop k) (i+1) k else AG (a.drop i) (b.drop (k+1)) i (k+1):=by
 rw[JS h1,JS h2];simp only[AG]
theorem Ni{a b:List α}{i k:Nat}(h:a.length≤i∨b.length≤k):AG (a.drop i) (b.drop k) i k=[]:=by
 rcases h with h | h
 ·rw[Acy h];simp[AG]
 ·rw[Acy h];cases a.drop i<;>simp[AG]
def GM(a b:List α)(i j:Nat):List Int:=(List.range (b.length+1)).map λk=>if j≤k then((BI (a.drop i) (b.drop k):Nat):Int) else 0
theorem F7(a b:List α)(i j:Nat):(GM a b i j).length=b.length+1:=by simp[GM]
theorem IY{a b:List α}{i j k:Nat}(h:k≤b.length):(GM a b i j)[k]?=some (if j≤k then((BI (a.drop i) (b.drop k):Nat):Int) else 0):=by
 simp[GM,Adp (by omega:k<b.length+1)]
theorem Nk{a b:List α}{i j:Nat}(h:a.length≤i∨b.length≤j):GM a b i j=List.replicate (b.length+1) 0:=by
 apply AcC;intro k;by_cases hk:k≤b.length
 ·have e:(if j≤k then((BI (a.drop i) (b.drop k):Nat):Int) else 0)=0:=by
   split
   ·rcases h with h | h
    ·rw[V5 h];rfl
    ·rw[V6 AdV];rfl
   ·rfl
  rw[IY hk,e,AdL,if_pos AdV]
 ·rw[AbI (by rw[F7];omega),AbI AdY]
theorem VU{a b:List α}{i j:Nat}(h:j≤b.length):(GM a b i (j+1)).set j ((BI (a.drop i) (b.drop j):Nat):Int)=GM a b i j:=by
 apply AcC;intro k;by_cases hk:k≤b.length
 ·rw[List.getElem?_set,IY hk,IY hk,F7];by_cases e:j=k
  ·subst e;simp;omega
  ·rw[if_neg e];by_cases h2:j+1≤k
   ·rw[if_pos h2,if_pos AdV]
   ·rw[if_neg h2,if_neg AdV]
 ·rw[AbI (by rw[Acs,F7];omega),AbI (by rw[F7];omega)]
omit [DecidableEq α] in
theorem Nj{a b:List α}{i k:Nat}(h1:i<a.length)(h2:k<b.length):∃x y,a[i]?=some x∧b[k]?=some y:=⟨_,_,B7 h1,B7 h2⟩
end
theorem Vq{l:List Int}{k:Nat}:(Ae l)[k]?=(l[k]?).map λz=>.int .i64 z:=by simp[Ae]
theorem DR(l:List Int)(k:Nat)(z:Int):(Ae l).set k (.int .i64 z)=Ae (l.set k z):=by simp[Ae]
theorem Hj(l m:List Int):Ae (l++m)=Ae l++Ae m:=by simp[Ae]
theorem P3(n:Nat):Ae (List.replicate n 0)=List.replicate n (.int .i64 0):=by simp[Ae]
def Ka(n m j r:Nat):Nat:=if m≤r then 0 else if r+1=m then j else n
def HL{α:Type}[DecidableEq α](a b:List α)(m j r:Nat):Option (List Value):=if r≤a.length then some (Ae (GM a b r (Ka b.length m j r))) else none
theorem Ir{α:Type}[DecidableEq α]{a b:List α}{m j r:Nat}(h:r≤a.length):HL a b m j r=some (Ae (GM a b r (Ka b.length m j r))):=if_pos h
theorem T4{α:Type}[DecidableEq α]{a b:List α}{m r:Nat}:HL a b (m+1) 0 r=HL a b m b.length r:=by
 unfold HL;by_cases h:r≤a.length
 ·rw[if_pos h,if_pos h]
  congr 3
  unfold Ka
  split<;>split<;>(try split)<;>(try split)<;>first | rfl | omega
 ·rw[if_neg h,if_neg h]
theorem Is{α:Type}[DecidableEq α]{a b:List α}{r:Nat}:(if r<a.length+1 then some (List.replicate (b.length+1) (Value.int .i64 0)) else none)=HL a b a.length b.length r:=by
 unfold HL;by_cases h:r≤a.length
 ·rw[if_pos AdV,if_pos h]
  congr 1
  rw[←P3]
  congr 1
  unfold Ka
  split
  ·rw[Nk (.inl AdV)]
  ·split<;>rw[Nk (.inr (Abv _))]
 ·rw[if_neg AdV,if_neg h]
theorem Ny{α:Type}[DecidableEq α]{a b:List α}{m j r:Nat}(hm:m<a.length)(hj:j<b.length){x:List Value}(hx:x=(Ae (GM a b m (j+1))).set j (.int .i64 ((BI (a.drop m) (b.drop j):Nat):Int))):(if r=m then some x else HL a b (m+1) (j+1) r)=HL a b (m+1) j r:=by
 by_cases h:r=m
 ·subst h;rw[if_pos rfl,Ir AdV,hx,DR,VU AdV,Ka,if_neg AdV,if_pos rfl]
 ·rw[if_neg h];unfold HL;by_cases h2:r≤a.length
  ·rw[if_pos h2,if_pos h2]
   congr 3
   unfold Ka
   split
   ·rfl
   ·rw[if_neg AdV,if_neg AdV]
  ·rw[if_neg h2,if_neg h2]
theorem Ak.bound{ok:Addr→Prop}{w:World}{v:Value}{l:List (List UInt8)}(h:Ak ok w v l):Ak (λa=>ok a∧a.block<w.heap.size) w v l:=by
 obtain⟨h0,h | ⟨a,c,e,hk,hc⟩⟩:=h
 ·exact⟨h0,.inl h⟩
 ·refine⟨h0,.inr ⟨a,c,e,λhn=>⟨hk hn,?_⟩,hc⟩⟩;obtain⟨a',c',e',a0⟩:=Ab.lt (m:=1) ⟨h0,.inr ⟨a,c,e,hk,hc⟩⟩ AdV hn;rw[e] at e';obtain⟨e1,-,-⟩:=AcO e';obtain rfl:=Ab9 e1;exact a0
structure K3(a b:List (List UInt8))(av bv:Value)(lo X O:Nat)(xs:List Value)(f:Nat→Nat)(m j:Nat)(w:World):Prop where
 bX:Blk w X [av,bv,.slice (some ⟨O,0,none⟩) (a.length+1) (a.length+1)] 316
 bO:Blk w O xs 75
 len:xs.length=a.length+1
 grid:E7 3 lo w xs (HL a b m j) f [O]
theorem K3.ext{a b:List (List UInt8)}{av bv:Value}{lo X O:Nat}{xs:List Value}{f:Nat→Nat}{m j:Nat}{w w':World}(h:K3 a b av bv lo X O xs f m j w)(x:Ah w w'):K3 a b av bv lo X O xs f m j w':=⟨h.bX.ext x,h.bO.ext x,h.len,h.grid.ext x⟩
theorem K3.row{a b:List (List UInt8)}{av bv:Value}{lo X O:Nat}{xs:List Value}{f:Nat→Nat}{m j:Nat}{w:World}(h:K3 a b av bv lo X O xs f m j w){r:Nat}(hr:r≤a.length):w.cell? ((⟨O,0,none⟩:Addr).add (r*1))=some (.slice (some ⟨f r,0,none⟩) (b.length+1) (b.length+1)):=by
 have:=h.grid.row h.bO (Ir hr)
 rwa [AE,F7] at this
theorem K3.cell{a b:List (List UInt8)}{av bv:Value}{lo X O:Nat}{xs:List Value}{f:Nat→Nat}{m j:Nat}{w:World}(h:K3 a b av bv lo X O xs f m j w){r k:Nat}(hr:r≤a.length)(hk:k≤b.length)(hl:Ka b.length m j r≤k):w.cell? ((⟨f r,0,none⟩:Addr).add (k*1))=some (.int .i64 ((BI (a.drop r) (b.drop k):Nat):Int)):=by
 refine h.grid.cell (Ir hr) ?_;rw[Vq,IY hk,if_pos hl];rfl
set_option maxRecDepth 8000 in
set_option maxHeartbeats 2000000 in
theorem Xl(a b:List (List UInt8))(av bv:Value)(X:Nat)(w:World)(ha:Ak (λx=>x.block<X) w av a)(hb:Ak (λx=>x.block<X) w bv b)(hla:a.length≤200)(hlb:b.length≤200)(hX:Blk w X [av,bv,.slice none 0 0] 316) :
  AN prog 283 [.pointer (some ⟨X,0,none⟩)] w (λv w'=>v=.tuple #[]∧Chg [X] w w'∧∃O xs f,K3 a b av bv w.heap.size X O xs f 0 b.length w'):=by
 obtain⟨p,c,rfl⟩:=Ab.slice ha;obtain⟨q,d,rfl⟩:=Ab.slice hb;have bj:=hX.lt;refine Bq func283 ntmps283 ?_;refine Sw ?_;refine LW.makeSlice (m:=a.length+1) rfl rfl rfl rfl rfl rfl rfl AdV rfl rfl ?_;intro O w1 bk ai hO;replace hX:=hX.ext ai;have bl:=ai.size;have bm:=hO.lt;refine Sw ?_;refine D9 λw2 aj hX=>?_;replace hX:Blk w2 X [.slice p a.length c,.slice q b.length d,.slice (some ⟨O,0,none⟩) (a.length+1) (a.length+1)] 316:=hX;replace hO:=hO.chg aj AdY;have bn:=aj.size;have ak:Chg [X] w w2:=ai.chg.same aj;refine Sw ?_;refine CW.loop (ι:=Nat×(Nat→Nat)×List Value) (λx w'=>x.1≤a.length+1∧Chg [O] w2 w'∧Blk w' O x.2.2 75∧x.2.2.length=a.length+1∧E7 3 w2.heap.size w' x.2.2 (λr=>if r<x.1 then some (List.replicate (b.length+1) (Value.int .i64 0)) else none) x.2.1 [O]) (λx=>[(0,.pointer (some ⟨X,0,none⟩)),(19,.int .i64 ((a.length+1:Nat):Int)),(20,.int .i64 x.1)]) (λx=>a.length+1 - x.1) (0,(λ_=>0),List.replicate (a.length+1) (.slice none 0 0)) ⟨Acp _,Chg.refl _ _,hO,by simp,E7.none.congr rfl (λr=>by simp) (λ_=>rfl)⟩ CE ?_;rintro⟨k,f,xs⟩ w3 ⟨hk,a9,ad,ae,hG⟩;dsimp only at hk a9 ad ae hG;show CW _ _ _ _ _ [(0,.pointer (some ⟨X,0,none⟩)),(19,.int .i64 ((a.length+1:Nat):Int)),(20,.int .i64 (k:Int))] _;have al:=hX.chg a9 AdY;have bo:=a9.size;refine Sw ?_;refine AB (λh1=>?_) λh1=>?_
 ·have h1:k<a.length+1:=by simp at h1;omega
  refine Sw ?_;refine CW.drawG (Ah w3) 12 (λw' h=>h) AdX λwa b6=>?_;refine Ay ?_;refine Bd 11 λhS=>?_;refine LW.makeSlice (m:=b.length+1) rfl rfl rfl rfl rfl rfl rfl AdV rfl rfl ?_;intro g w4 bp b7 b8;have af:=hS.trans b7;have bq:=hS.size;apply LW.nil;refine QW.headed af ?_;refine GW.tail rfl AdX (λhS=>?_);refine Sw ?_;refine LW.store (i:=0+((k:Nat):Int).toNat*1) (by show some (Value.pointer (some (Addr.add ⟨O,0,none⟩ (((k:Nat):Int).toNat*1))))=_;rw[A5]) rfl rfl (ad.ext af) (AbY (by show _+1≤_;omega)) rfl rfl λw5 a8 aq=>?_;rw[show 0+((k:Nat):Int).toNat*1=k by omega] at aq;have b9:=(hG.ext af).other a8 Aei;have am:=b8.chg a8 AdY;have ag:=b9.put (r:=k) (g:=g) (x:=List.replicate (b.length+1) (Value.int .i64 0)) AdV am AdV AdY (λq y hq _=>by have:=(hG.blk q y hq).1.lt;omega);refine Sw ?_;exact QW.again (k+1,(λq=>if q=k then g else f q),xs.set k (.slice (some ⟨g,0,none⟩) (b.length+1) (b.length+1))) ⟨h1,(a9.ext af).same a8,aq,by simpa using ae,ag.congr Aei (λr=>by
   by_cases e:r=k
   ·rw[if_pos e,if_pos AdV]
   ·rw[if_neg e];by_cases e2:r<k
    ·rw[if_pos e2,if_pos (by show r<k+1;omega)]
    ·rw[if_neg e2,if_neg (by show ¬r<k+1;omega)]) (λ_=>rfl)⟩ CE (by show a.length+1 - (k+1)<a.length+1 - k;omega)
 have h1:k=a.length+1:=by simp at h1;omega
 subst h1;have an:Chg [X] w w3:=ak.more a9 AdY;have ar:K3 a b (.slice p a.length c) (.slice q b.length d) w.heap.size X O xs f a.length b.length w3:=⟨al,ad,ae,⟨λr x hr=>(hG.congr rfl (λr=>Is) (λ_=>rfl)).val r x hr,λr x hr=>by
  obtain⟨h1,h2,h3⟩:=(hG.congr rfl (λr=>Is) (λ_=>rfl)).blk r x hr;exact⟨h1,by omega,h3⟩,(hG.congr rfl (λr=>Is) (λ_=>rfl)).inj⟩⟩
 clear hG ad al hX hO ae;have al:=ar.bX;refine Sw ?_;refine CW.loop (ι:=Nat) (λm w'=>m≤a.length∧Chg [X] w w'∧K3 a b (.slice p a.length c) (.slice q b.length d) w.heap.size X O xs f m b.length w') (λm=>[(0,.pointer (some ⟨X,0,none⟩)),(3,.int .i64 ((m:Int) - 1))]) (λm=>m) a.length ⟨Abv _,an,ar⟩ LK ?_;rintro m w4 ⟨hm,au,ao⟩;have br:=ao.bX;refine Sw ?_;refine AB (λh2=>?_) λh2=>?_;rotate_left
 ·have h2:m=0:=by simp at h2;omega
  subst h2;refine Sw ?_;exact QW.body_n (rs:=[]) (vs:=[]) results283 trivial rfl ⟨rfl,au,O,xs,f,ao⟩
 have h2:0<m:=by simp at h2;omega
 obtain⟨i,rfl⟩:∃i,m=i+1:=⟨m - 1,by omega⟩;have ei:(((i+1:Nat):Int) - 1)=(i:Int):=AdV
 rw[ei];refine Sw ?_;refine CW.loop (ι:=Nat) (λj w'=>j≤b.length∧Chg [X] w w'∧K3 a b (.slice p a.length c) (.slice q b.length d) w.heap.size X O xs f (i+1) j w') (λj=>[(0,.pointer (some ⟨X,0,none⟩)),(3,.int .i64 (i:Int)),(4,.int .i64 ((j:Int) - 1))]) (λj=>j) b.length ⟨Abv _,au,ao⟩ CE ?_;rintro j w5 ⟨hj,a8,a1⟩;have aw:=a1.bX;refine Sw ?_;refine AB (λh3=>?_) λh3=>?_;rotate_left
 ·have h3:j=0:=by simp at h3;omega
  subst h3;refine Sw ?_;exact QW.again i ⟨by omega,a8,⟨a1.bX,a1.bO,a1.len,a1.grid.congr rfl (λr=>T4) (λ_=>rfl)⟩⟩ LK AdV
 have h3:0<j:=by simp at h3;omega
 obtain⟨k,rfl⟩:∃k,j=k+1:=⟨j - 1,by omega⟩;have ek:(((k+1:Nat):Int) - 1)=(k:Int):=AdV
 rw[ek];have hi:i<a.length:=AdV
 have hk:k<b.length:=AdV
 obtain⟨x,y,ax,ay⟩:=Nj hi hk;have az:w5.cell? ((⟨O,0,none⟩:Addr).add (((i:Nat):Int).toNat*1))=some (.slice (some ⟨f i,0,none⟩) (b.length+1) (b.length+1)):=a1.row (r:=i) AdV;have b0:w5.cell? ((⟨O,0,none⟩:Addr).add ((((i:Nat):Int)+1).toNat*1))=some (.slice (some ⟨f (i+1),0,none⟩) (b.length+1) (b.length+1)):=a1.row (r:=i+1) AdV;have hA:w5.cell? ((⟨f (i+1),0,none⟩:Addr).add (((k:Nat):Int).toNat*1))=some (.int .i64 ((BI (a.drop (i+1)) (b.drop k):Nat):Int)):=a1.cell (r:=i+1) (k:=k) AdV AdV (by simp[Ka]);have hB:w5.cell? ((⟨f i,0,none⟩:Addr).add ((((k:Nat):Int)+1).toNat*1))=some (.int .i64 ((BI (a.drop i) (b.drop (k+1)):Nat):Int)):=a1.cell (r:=i) (k:=k+1) AdV AdV (by rw[Ka,if_neg AdV,if_pos rfl];omega);have hC:w5.cell? ((⟨f (i+1),0,none⟩:Addr).add ((((k:Nat):Int)+1).toNat*1))=some (.int .i64 ((BI (a.drop (i+1)) (b.drop (k+1)):Nat):Int)):=a1.cell (r:=i+1) (k:=k+1) AdV AdV (by simp[Ka]);have ba:=LZ (a.drop (i+1)) (b.drop (k+1));rw[Abs] at ba;have a6:HL a b (i+1) (k+1) i=some (Ae (GM a b i (k+1))):=by
  rw[Ir AdV,Ka,if_neg AdV,if_pos rfl]
 obtain⟨b1,bb,bc⟩:=a1.grid.blk i _ a6;have aa:HL a b (i+1) (k+1) (i+1)=some (Ae (GM a b (i+1) 0)):=by
  rw[Ir AdV,Ka,if_pos AdV]
 have bd:f (i+1)≠f i:=λe=>by have:=a1.grid.inj _ _ _ _ aa a6 e;omega
 have a3:f i≠O:=by simpa using bc
 have bs:(Ae (GM a b i (k+1))).length=b.length+1:=by rw[AE,F7]
 refine Sw ?_;refine CW.drawG (Ah w5) 32 (λw' h=>h) AdX λwa b6=>?_;refine Ay ?_;refine GW.tail rfl AdX (λhS=>?_);refine LW.store (i:=0+((k:Nat):Int).toNat*1) (by show some (Value.pointer (some (Addr.add ⟨f i,0,none⟩ (((k:Nat):Int).toNat*1))))=_;rw[A5]) rfl rfl (b1.ext hS) (AbY (by show _+1≤_;omega)) rfl rfl λw6 a7 ap=>?_;rw[show 0+((k:Nat):Int).toNat*1=k by omega] at ap;have a4:Chg [X] w w6:=(a8.ext hS).more a7 AdY;have b2:=(aw.ext hS).chg a7 AdY;have b3:=(a1.bO.ext hS).chg a7 (by simpa using λe:O=f i=>a3 e.symm);have ag:=(a1.grid.ext hS).set a6 a7 ap;obtain⟨xa,be,-,-,bt⟩:=Ak.at (Ak.chg ha a4 (λ_ a0 h0=>by simp;omega)) ax;obtain⟨ya,bf,-,-,bu⟩:=Ak.at (Ak.chg hb a4 (λ_ a0 h0=>by simp;omega)) ay;subst be bf;have ab:w6.cell? ((⟨O,0,none⟩:Addr).add (((i:Nat):Int).toNat*1))=some (.slice (some ⟨f i,0,none⟩) (b.length+1) (b.length+1)):=HX a7 (by rw[CJ];simpa using λe:O=f i=>a3 e.symm) (BQ hS az);have ac:w6.cell? ((⟨O,0,none⟩:Addr).add ((((i:Nat):Int)+1).toNat*1))=some (.slice (some ⟨f (i+1),0,none⟩) (b.length+1) (b.length+1)):=HX a7 (by rw[CJ];simpa using λe:O=f i=>a3 e.symm) (BQ hS b0);have b4:w6.cell? ((⟨f (i+1),0,none⟩:Addr).add ((((k:Nat):Int)+1).toNat*1))=some (.int .i64 ((BI (a.drop (i+1)) (b.drop (k+1)):Nat):Int)):=HX a7 (by rw[CJ];simpa using bd) (BQ hS hC);clear az b0 hA hB hC aw b1;refine Sw ?_;refine LR ?_;refine Sd ?_;refine QL.nil λw7 a2=>?_;have a5:=Zi ax ay;refine Sa ?_;refine AB (λh4=>?_) λh4=>?_
 ·have h4:x=y:=by simpa using h4
  rw[if_pos h4] at a5;have bg:=b2.ext a2;replace ab:=BQ a2 ab;replace ac:=BQ a2 ac;replace b4:=BQ a2 b4;have bh:=ap.ext a2;refine Sw ?_;refine CW.drawG (Ah w7) 22 (λw' h=>h) AdX λwb bw=>?_;refine Ay ?_;refine GW.tail rfl AdX (λhS=>?_);refine LW.store (i:=0+((k:Nat):Int).toNat*1) (by show some (Value.pointer (some (Addr.add ⟨f i,0,none⟩ (((k:Nat):Int).toNat*1))))=_;rw[A5]) rfl rfl (bh.ext hS) (AbY (by show _+1≤_;rw[Acs];omega)) rfl rfl λw8 ah b5=>?_;rw[show 0+((k:Nat):Int).toNat*1=k by omega] at b5;have bi:=((ag.ext a2).ext hS).set (r:=i) (k:=k) (if_pos rfl) ah b5;refine Sw ?_;refine QW.again k ⟨by omega,((a4.ext a2).ext hS).more ah AdY,(bg.ext hS).chg ah AdY,((b3.ext a2).ext hS).chg ah (by simpa using λe:O=f i=>a3 e.symm),a1.len,bi.congr rfl (λr=>?_) (λ_=>rfl)⟩ CE AdV;rw[←Ny (r:=r) hi hk rfl];by_cases e:r=i
  ·rw[if_pos e,if_pos e,List.set_set,a5];rfl
  ·rw[if_neg e,if_neg e,if_neg e]
 ·have h4:x≠y:=by simpa using h4
  rw[if_neg h4] at a5;refine Sw ?_;refine QW.again k ⟨by omega,a4.ext a2,b2.ext a2,b3.ext a2,a1.len,(ag.ext a2).congr rfl (λr=>?_) (λ_=>rfl)⟩ CE AdV;rw[←Ny (r:=r) hi hk rfl];by_cases e:r=i
  ·rw[if_pos e,if_pos e,a5]
   congr 3
   rw[Nat.max_def]
   split<;>split<;>omega
  ·rw[if_neg e,if_neg e]
set_option maxRecDepth 8000 in
set_option maxHeartbeats 1000000 in
theorem YI(a b:List (List UInt8))(av bv:Value)(lo X O:Nat)(xs:List Value)(f:Nat→Nat)(w:World)(ha:Bz w av a)(hb:Bz w bv b)(hla:a.length≤200)(hlb:b.length≤200)(hT:K3 a b av bv lo X O xs f 0 b.length w) :
  AN prog 257 [.pointer (some ⟨X,0,none⟩)] w (λv w'=>∃xv yv,v=.tuple #[xv,yv]∧E.Own w' w.heap.size 3 1 xv (AG a b 0 0).length (Ae ((AG a b 0 0).map λz=>(z.1:Int)))∧E.Own w' w.heap.size 3 1 yv (AG a b 0 0).length (Ae ((AG a b 0 0).map λz=>(z.2:Int)))∧Ah w w'):=by
 obtain⟨p,c,rfl⟩:=ha.slice;obtain⟨q,d,rfl⟩:=hb.slice;have hX:=hT.bX;refine Bq func257 ntmps257 ?_;refine Sa ?_;refine CW.loop (ι:=(Nat×Nat)×List (Nat×Nat)×Value×Value) (λx w'=>x.1.1≤a.length∧x.1.2≤b.length∧Ah w w'∧x.2.1.length≤x.1.1∧x.2.1++AG (a.drop x.1.1) (b.drop x.1.2) x.1.1 x.1.2=AG a b 0 0∧E.Own w' w.heap.size 3 1 x.2.2.1 x.2.1.length (Ae (x.2.1.map λz=>(z.1:Int)))∧E.Own w' w.heap.size 3 1 x.2.2.2 x.2.1.length (Ae (x.2.1.map λz=>(z.2:Int)))∧(∀g,g∈Ac x.2.2.1→g∉Ac x.2.2.2)) (λx=>[(0,.pointer (some ⟨X,0,none⟩)),(2,x.2.2.1),(3,x.2.2.2),(4,.int .i64 x.1.1),(5,.int .i64 x.1.2)]) (λx=>(a.length - x.1.1)+(b.length - x.1.2)) ((0,0),[],.slice none 0 0,.slice none 0 0) ⟨Acp _,Acp _,Chg.refl _ _,Abv _,by simp,Own.nil _ _ _ _,Own.nil _ _ _ _,by simp[Ac]⟩ EP ?_;rintro⟨⟨i,k⟩,ps,xv,yv⟩ w1 ⟨hi,hk,a5,ag,a0,a4,a2,hd⟩;dsimp only at hi hk ag a0 a4 a2 hd;show CW _ _ _ _ _ [(0,.pointer (some ⟨X,0,none⟩)),(2,xv),(3,yv),(4,.int .i64 (i:Int)),(5,.int .i64 (k:Int))] _;have am:=hX.ext a5;have an:=hT.ext a5;have aw:=a5.size;refine Sw ?_;by_cases h1:i<a.length;rotate_left
 ·refine LW.know (t:=13) (c:=false) rfl AdY ?_;refine Sw ?_;rw[Ni (.inl AdV),AbG] at a0;subst a0;exact QW.body2 rfl rfl rfl ⟨xv,yv,rfl,a4,a2,a5⟩
 refine LW.know (t:=13) (c:=true) rfl AdY ?_;refine Sw ?_;refine AB (λh2=>?_) λh2=>?_;rotate_left
 ·have h2:¬k<b.length:=by simp at h2;omega
  refine Sw ?_;rw[Ni (.inr AdV),AbG] at a0;subst a0;exact QW.body2 rfl rfl rfl ⟨xv,yv,rfl,a4,a2,a5⟩
 have h2:k<b.length:=by simp at h2;omega
 obtain⟨x,y,ah,ai⟩:=Nj h1 h2;obtain⟨xa,ao,-,-,ax⟩:=Ak.at (Ak.ext ha a5) ah;obtain⟨ya,ap,-,-,ay⟩:=Ak.at (Ak.ext hb a5) ai;subst ao ap;have a6:=VT ah ai;refine Sw ?_;refine LR ?_;refine Sd ?_;refine QL.nil λw2 a3=>?_;have a7:=a5.trans a3;have az:=am.ext a3;have ab:=an.ext a3;refine Sa ?_;refine AB (λh3=>?_) λh3=>?_
 ·have h3:x=y:=by simpa using h3
  rw[if_pos h3] at a6;rw[a6] at a0;replace a4:=a4.ext a3;replace a2:=a2.ext a3;have b0:=a3.size;refine Sa ?_;refine CF λC w3 b1 a1 hC=>?_;refine Sa ?_;refine LW.append (lo:=w.heap.size) (k:=ps.length) rfl rfl rfl rfl rfl rfl (a4.ext a1) (by have:=a1.size;omega) hC rfl rfl rfl AeZ rfl ?_;intro xv' w4 ac a8 aq;have ad:=(a2.ext a1).chg ac (λg hg hm=>hd g hm hg);have b2:=ac.size;have b3:=a1.size;refine Sa ?_;refine CF λF w5 b4 a9 hF=>?_;refine Sa ?_;refine LW.append (lo:=w.heap.size) (k:=ps.length) rfl rfl rfl rfl rfl rfl (ad.ext a9) (by have:=a9.size;omega) hF rfl rfl rfl AeZ rfl ?_;intro yv' w6 aj ae ar;have ak:∀g,g∈Ac xv'→g∉Ac yv:=λg hg hm=>by
   rcases aq g hg with h | h
   ·exact hd g h hm
   ·have:=(a2.lt hm).2;omega
  have af:=(a8.ext a9).chg aj (λg hg hm=>ak g hg hm);refine Sa ?_;refine QW.again ((i+1,k+1),ps++[(i,k)],xv',yv') ⟨by show i+1≤_;omega,by show k+1≤_;omega,(((a7.trans a1).step ac (λb hb=>(a4.lt hb).1)).trans a9).step aj (λb hb=>(a2.lt hb).1),by simp;omega,by simpa using a0,?_,?_,λg hg hm=>?_⟩ EP (by show(a.length - (i+1))+(b.length - (k+1))<(a.length - i)+(b.length - k);omega)
  ·show E.Own _ _ _ _ xv' (ps++[(i,k)]).length (Ae ((ps++[(i,k)]).map λz=>(z.1:Int)));rw[AbT,Hj,B6];exact af
  ·show E.Own _ _ _ _ yv' (ps++[(i,k)]).length (Ae ((ps++[(i,k)]).map λz=>(z.2:Int)));rw[AbT,Hj,B6];exact ae
  ·have al:g∈Ac xv':=hg;have au:g∈Ac yv':=hm;rcases ar g au with h | h
   ·exact ak g al h
   ·have:=(a8.lt al).2;have:=a9.size;omega
 have h3:x≠y:=by simpa using h3
 rw[if_neg h3] at a6;have b5:w2.cell? ((⟨O,0,none⟩:Addr).add (((i:Nat):Int).toNat*1))=some (.slice (some ⟨f i,0,none⟩) (b.length+1) (b.length+1)):=ab.row (r:=i) AdV;have b6:w2.cell? ((⟨O,0,none⟩:Addr).add ((((i:Nat):Int)+1).toNat*1))=some (.slice (some ⟨f (i+1),0,none⟩) (b.length+1) (b.length+1)):=ab.row (r:=i+1) AdV;have hA:w2.cell? ((⟨f (i+1),0,none⟩:Addr).add (((k:Nat):Int).toNat*1))=some (.int .i64 ((BI (a.drop (i+1)) (b.drop k):Nat):Int)):=ab.cell (r:=i+1) (k:=k) AdV AdV (by simp[Ka]);have hB:w2.cell? ((⟨f i,0,none⟩:Addr).add ((((k:Nat):Int)+1).toNat*1))=some (.int .i64 ((BI (a.drop i) (b.drop (k+1)):Nat):Int)):=ab.cell (r:=i) (k:=k+1) AdV AdV (by simp[Ka]);refine Sw ?_;refine LR ?_;refine Sd ?_;refine QL.nil λw3 a1=>?_;have aa:=a7.trans a1;refine Sa ?_;refine AB (λh4=>?_) λh4=>?_
 ·have h4:BI (a.drop i) (b.drop (k+1))≤BI (a.drop (i+1)) (b.drop k):=by simp at h4;omega
  rw[a6,if_pos h4] at a0;refine Sa ?_;exact QW.again ((i+1,k),ps,xv,yv) ⟨by show i+1≤_;omega,hk,aa,by show ps.length≤i+1;omega,a0,a4.ext (a3.trans a1),a2.ext (a3.trans a1),hd⟩ EP (by show(a.length - (i+1))+(b.length - k)<(a.length - i)+(b.length - k);omega)
 ·have h4:¬BI (a.drop i) (b.drop (k+1))≤BI (a.drop (i+1)) (b.drop k):=by simp at h4;omega
  rw[a6,if_neg h4] at a0;refine Sa ?_;exact QW.again ((i,k+1),ps,xv,yv) ⟨hi,by show k+1≤_;omega,aa,ag,a0,a4.ext (a3.trans a1),a2.ext (a3.trans a1),hd⟩ EP (by show(a.length - i)+(b.length - (k+1))<(a.length - i)+(b.length - k);omega)
theorem QZ(a b:List (List UInt8))(av bv:Value)(w:World)(ha:Bz w av a)(hb:Bz w bv b)(hla:a.length≤200)(hlb:b.length≤200):AN prog 256 [av,bv] w (λv w'=>∃X O xs f lo,v=.tuple #[.pointer (some ⟨X,0,none⟩),.bool true]∧K3 a b av bv lo X O xs f 0 b.length w'∧Ah w w'):=by
 obtain⟨p,c,rfl⟩:=ha.slice;obtain⟨q,d,rfl⟩:=hb.slice;have a2:=Ak.bound ha;have a3:=Ak.bound hb;refine Bq func256 ntmps256 ?_;refine Sa ?_;refine LW.know (t:=11) (c:=false) rfl AdY ?_;refine Sa ?_;refine CW.no rfl AdY ?_;refine Sa ?_;refine De λX w1 a5 a1 hX=>?_;replace hX:Blk w1 X [.slice p a.length c,.slice q b.length d,.slice none 0 0] 316:=hX;refine Sa ?_;refine LW.call (fs:=[.pointer (some ⟨X,0,none⟩)]) (cs:=[]) rfl rfl rfl (Xl a b _ _ X w1 (Ab.map (Ak.ext a2 a1) (λa0 h0=>by have:=h0.2;omega) λ_ _ _ _ h=>h) (Ab.map (Ak.ext a3 a1) (λa0 h0=>by have:=h0.2;omega) λ_ _ _ _ h=>h) hla hlb hX) ?_;rintro v w2 ⟨rfl,a4,O,xs,f,hT⟩;refine Sa ?_;exact QW.body2 rfl rfl rfl ⟨X,O,xs,f,_,rfl,hT,a1.step a4 AdY⟩
theorem UE(a b:List (List UInt8))(av bv:Value)(w:World)(ha:Bz w av a)(hb:Bz w bv b)(hla:a.length≤200)(hlb:b.length≤200):AN prog 208 [av,bv] w (λv w'=>∃xv yv,v=.tuple #[xv,yv]∧E.Own w' w.heap.size 3 1 xv (AG a b 0 0).length (Ae ((AG a b 0 0).map λz=>(z.1:Int)))∧E.Own w' w.heap.size 3 1 yv (AG a b 0 0).length (Ae ((AG a b 0 0).map λz=>(z.2:Int)))∧Ah w w'):=by
 refine Bq func208 ntmps208 ?_;refine Sa ?_;refine Ar rfl rfl (QZ a b av bv w ha hb hla hlb) ?_;rintro v w1 ⟨X,O,xs,f,lo,rfl,hT,a0⟩;refine Sa ?_;refine Ar rfl rfl (YI a b av bv lo X O xs f w1 (ha.ext a0) (hb.ext a0) hla hlb hT) ?_;rintro v w2 ⟨xv,yv,rfl,a1,a2,a3⟩;refine Sa ?_;exact QW.body2 rfl rfl rfl ⟨xv,yv,rfl,a1.low a0.size,a2.low a0.size,a0.trans a3⟩
theorem Hx{α:Type}[DecidableEq α]:∀(a b:List α) (i k:Nat),(AG a b i k).length≤a.length
 | [],_,_,_=>by simp[AG]
 | _::_,[],_,_=>by simp[AG]
 | x::a,y::b,i,k=>by
  have h1:=Hx a b (i+1) (k+1);have h2:=Hx a (y::b) (i+1) k;have h3:=Hx (x::a) b i (k+1);simp only[AG]
  split
  ·simp only[AaF];omega
  ·split
   ·simp only[AaF] at *;omega
   ·exact h3
 termination_by a b=>a.length+b.length
theorem PB(n:Nat)(ps:List (Nat×Nat))(p:Nat×Nat):BJ n (ps++[p])=(BJ n ps).set p.1 (p.2:Int):=by simp[BJ]
theorem Rb{n:Nat}{ps:List (Nat×Nat)}{z:Int}(hz:z∈BJ n ps):z=-1∨∃p∈ps,z=(p.2:Int):=by
 have key:∀(qs ps:List (Nat×Nat)) (l:List Int),(∀p∈ps,p∈qs)→(∀z∈l,z=-1∨∃p∈qs,z=(p.2:Int))→∀z∈ps.foldl (λl p=>l.set p.1 (p.2:Int)) l,z=-1∨∃p∈qs,z=(p.2:Int):=by
  intro qs ps
  induction ps with
  | nil=>intro l _ hl z hz;exact hl z hz
  | cons p ps ih=>
   intro l hq hl z hz;refine ih (l.set p.1 (p.2:Int)) (λp hp=>hq p (Abk _ hp)) (λy hy=>?_) z hz;rcases List.mem_or_eq_of_mem_set hy with h | h
   ·exact hl y h
   ·exact .inr ⟨p,hq p (Ab6 ..),h⟩
 exact key ps ps _ (λ_ h=>h) (λz hz=>.inl (List.mem_replicate.1 hz).2) z hz
theorem QF(n k:Nat)(hk:k<n):(Ae (List.replicate k (-1)++List.replicate (n - k) 0)).set (0+((k:Nat):Int).toNat*1) (.int .i64 (-1))=Ae (List.replicate (k+1) (-1)++List.replicate (n - (k+1)) 0):=by
 rw[show 0+((k:Nat):Int).toNat*1=k by omega];simp only[Ae,←List.map_set];rw[Ac1 _ _ Aei,Ac8,AcP,show n - k=(n - (k+1))+1 by omega,Ac0,AcY,List.replicate_succ',B8];rfl
theorem J6{w:World}{lo n c:Nat}{p:Option Addr}{zs:List Int}(h:E.Own w lo 3 1 (.slice p n c) n (Ae zs)){i:Nat}{z:Int}(hi:zs[i]?=some z):∃g,p=some ⟨g,0,none⟩∧w.cell? ((⟨g,0,none⟩:Addr).add (((i:Nat):Int).toNat*1))=some (.int .i64 z):=by
 have a0:=(Abu.1 hi).1;have hl:=h.1;rw[AE] at hl;obtain⟨g,cap,sp,e,hB,-⟩:=h.get AdV;obtain⟨rfl,-,rfl⟩:=AcO e;refine⟨g,rfl,?_⟩;rw[A5];refine hB.cell ?_;rw[show 0+((i:Nat):Int).toNat*1=i by omega,AbA (by rw[AE];exact a0)];simp[Ae,hi]
theorem WP{w:World}{T n c:Nat}{zs:List Int}{t:TypeId}(h:Blk w T (Ae zs) t)(hn:zs.length=n)(hl:n≤100000):Be w (.slice (some ⟨T,0,none⟩) n c) zs:=by
 subst hn;exact⟨by omega,.inr ⟨⟨T,0,none⟩,c,rfl,λj z hj=>by rw[A5];exact h.cell (by simp[Ae,hj])⟩⟩
set_option maxRecDepth 8000 in
set_option maxHeartbeats 2000000 in
theorem Nh(a b:List (List UInt8))(av bv:Value)(w:World)(ha:Bz w av a)(hb:Bz w bv b)(hla:a.length≤200)(hlb:b.length≤200):AN prog 159 [av,bv] w (λv w'=>∃tv,v=.agg ⟨[tv,.int .i64 ((b.length:Nat):Int)]⟩∧E.Own w' w.heap.size 3 1 tv a.length (Ae (AU a b))∧Ah w w'):=by
 obtain⟨p,c,rfl⟩:=ha.slice;obtain⟨q,d,rfl⟩:=hb.slice;have ab:∀z∈AG a b 0 0,z.1<a.length∧z.2<b.length:=λz hz=>by have:=IX a b 0 0 z hz;omega
 have ao:=Hx a b 0 0;generalize ah:AG a b 0 0=ps at ab ao;refine Bq func159 ntmps159 ?_;apply CW.seq;apply CW.region;refine Sl ?_;refine Bt λR w1 b4 ai hR=>?_;have ap:=ai.size;have b5:=hR.lt;refine Sa ?_;refine LW.makeSlice (m:=a.length) rfl rfl rfl rfl rfl rfl rfl AdV rfl rfl ?_;intro T w2 b6 ac hT;have aq:=ac.size;have b7:=hT.lt;refine Sa ?_;refine Bt λX w3 b8 aj hX=>?_;have b9:=aj.size;have ba:=hX.lt;have bb:=hX;refine Sa ?_;refine AM λw4 ar hX=>?_;replace hX:Blk w4 X [.slice (some ⟨T,0,none⟩) a.length a.length,.int .i64 ((b.length:Nat):Int)] 77:=hX;have a0:Ah w2 w4:=aj.step ar AdY;replace hR:=(hR.ext ac).ext a0;replace hT:=hT.ext a0;have ad:Ah w w4:=(ai.trans ac).trans a0;have bc:=a0.size;have e0:List.replicate a.length (Value.int .i64 0)=Ae (List.replicate 0 (-1)++List.replicate (a.length - 0) 0):=by simp[Ae]
 rw[e0] at hT;refine Sw ?_;refine CW.loop (ι:=Nat) (λk w'=>k≤a.length∧Chg [T] w4 w'∧Blk w' T (Ae (List.replicate k (-1)++List.replicate (a.length - k) 0)) 3) (λk=>[(0,.slice p a.length c),(1,.slice q b.length d),(4,.pointer (some ⟨R,0,none⟩)),(5,.pointer (some ⟨X,0,none⟩)),(18,.int .i64 a.length),(19,.int .i64 k)]) (λk=>a.length - k) 0 ⟨by omega,Chg.refl _ _,hT⟩ LM ?_;rintro k w5 ⟨hk,a4,ak⟩;have au:=hX.chg a4 AdY;refine Sw ?_;refine AB (λh1=>?_) λh1=>?_
 ·have h1:k<a.length:=by simp at h1;omega
  refine Sw ?_;refine LW.store (i:=0+((k:Nat):Int).toNat*1) Aew rfl rfl ak (AbY (by show _+1≤_;rw[AE,B6,Ac8,Ac8];omega)) rfl rfl λw6 aw a5=>?_;rw[QF a.length k h1] at a5;refine Sw ?_;exact QW.again (k+1) ⟨by omega,a4.same aw,a5⟩ LM AdV
 have h1:k=a.length:=by simp at h1;omega
 subst h1;have a1:Ah w w5:=ad.step a4 AdY;have ax:=hR.chg a4 AdY;have bd:=a4.size;refine Sw ?_;refine Ar rfl rfl (UE a b _ _ w5 (ha.ext a1) (hb.ext a1) hla hlb) ?_;rintro v w6 ⟨xv,yv,rfl,a9,aa,a6⟩;rw[ah] at a9 aa;obtain⟨xp,xc,rfl⟩:=a9.slice;obtain⟨yp,yc,rfl⟩:=aa.slice;have be:=a6.size;have ay:=ax.ext a6;have az:=au.ext a6;have a5:=ak.ext a6;have e1:List.replicate a.length (-1)++List.replicate (a.length - a.length) 0=BJ a.length (ps.take 0):=by simp[BJ]
 rw[e1] at a5;refine Sw ?_;refine CW.loop (ι:=Nat) (λk w'=>k≤ps.length∧Chg [T] w6 w'∧Blk w' T (Ae (BJ a.length (ps.take k))) 3) (λk=>[(4,.pointer (some ⟨R,0,none⟩)),(5,.pointer (some ⟨X,0,none⟩)),(7,.slice xp ps.length xc),(8,.slice yp ps.length yc),(34,.int .i64 ps.length),(35,.int .i64 k)]) (λk=>ps.length - k) 0 ⟨by omega,Chg.refl _ _,a5⟩ LM ?_;rintro k w7 ⟨hk,a2,ae⟩;have bf:=az.chg a2 AdY;have a3:=ay.chg a2 AdY;have bg:∀v,∀b∈Ac v,w5.heap.size≤b→b≠T:=λ_ b _ h=>by omega
 have af:=a9.chg a2 (λb hb=>by have:=(a9.lt hb).1;simp;omega);have ag:=aa.chg a2 (λb hb=>by have:=(aa.lt hb).1;simp;omega);have bh:=a2.size;refine Sw ?_;refine AB (λh2=>?_) λh2=>?_
 ·have h2:k<ps.length:=by simp at h2;omega
  obtain⟨z,hz⟩:∃z,ps[k]?=some z:=⟨_,B7 h2⟩;obtain⟨ap,aq⟩:=ab z (Ab7 hz);obtain⟨xg,rfl,bi⟩:=J6 af (i:=k) (z:=(z.1:Int)) (by simp[hz]);obtain⟨yg,rfl,bj⟩:=J6 ag (i:=k) (z:=(z.2:Int)) (by simp[hz]);refine Sw ?_;refine CW.drawG (Ah w7) 11 (λw' h=>h) AdX λwa bk=>?_;refine Ay ?_;refine GW.tail rfl AdX (λhS=>?_);refine LW.store (i:=0+((z.1:Nat):Int).toNat*1) (by show some (Value.pointer (some (Addr.add ⟨T,0,none⟩ (((z.1:Nat):Int).toNat*1))))=_;rw[A5]) rfl rfl (ae.ext hS) (AbY (by show _+1≤_;rw[AE,EU];omega)) rfl rfl λw8 b0 al=>?_;have e2:(Ae (BJ a.length (ps.take k))).set (0+((z.1:Nat):Int).toNat*1) (.int .i64 (z.2:Int))=Ae (BJ a.length (ps.take (k+1))):=by
   rw[show 0+((z.1:Nat):Int).toNat*1=z.1 by omega,DR,AbU,hz];show _=Ae (BJ a.length (ps.take k++[z]));rw[PB]
  rw[e2] at al;refine Sw ?_;exact QW.again (k+1) ⟨by omega,(a2.ext hS).same b0,al⟩ LM AdV
 have h2:k=ps.length:=by simp at h2;omega
 subst h2;rw[Ack] at ae;have a7:Ah w w7:=by
  have h1:Chg [T] w5 w7:=(a6.chg).same a2;exact a1.step h1 AdY
 have b1:Be w7 (.slice (some ⟨T,0,none⟩) a.length a.length) (BJ a.length ps):=WP ae (EU _ _) AdV;have b2:∀z∈BJ a.length ps,-1≤z∧z≤1000000:=λz hz=>by
  rcases Rb hz with rfl | ⟨y,hy,rfl⟩
  ·omega
  ·have:=ab y hy;omega
 refine Sw ?_;refine Ar rfl rfl (SD ⟨BJ a.length ps,((b.length:Nat):Int)⟩ _ w7 b1 (by rw[EU];omega) b2 (by show(0:Int)≤((b.length:Nat):Int);omega) (by show((b.length:Nat):Int)≤1000000;omega)) ?_;rintro v w8 ⟨tv,rfl,a8,am⟩;dsimp only at a8;rw[EU] at a8;replace a3:=a3.ext am;have b3:∀b∈Ac tv,b≠R:=λb hb=>by have:=(a8.lt hb).1;omega
 obtain⟨tp,tc,rfl⟩:=a8.slice;refine Sa ?_;refine AM λw9 an a3=>?_;replace a3:Blk w9 R [.slice tp a.length tc,.int .i64 ((b.length:Nat):Int)] 77:=a3;refine Sa ?_;refine QW.body_c rfl rfl a3 rfl rfl rfl ⟨_,rfl,?_,(a7.trans am).step an AdY⟩;have h9:=(a8.chg an (λb hb=>by simp only[B3];exact b3 b hb)).low (lo':=w.heap.size) (by have:=a7.size;omega);rw[AU,ah];exact h9
theorem MH{s:Af}(hs:Dr s){w:World}{lo:Nat}{v:Value}(h:E.Own w lo 9 1 v (s.rows.map D4).length ((s.rows.map D4).map Av)):Bz w v (s.rows.map D4):=
 Hw h (by have:=hs.rows;simp;omega) λt ht=>by
  simp only[AbJ] at ht;obtain⟨r,hr,rfl⟩:=ht;have:=X4 (hs.row hr);omega
set_option maxRecDepth 8000 in
set_option maxHeartbeats 1000000 in
theorem UL(a b:Af)(ra rb:Value)(w:World)(ha:Cy w ra a.rows)(hb:Cy w rb b.rows)(hsa:Dr a)(hsb:Dr b):AN prog 108 [.agg ⟨Au a ra⟩,.agg ⟨Au b rb⟩] w (λv w'=>∃tv,v=.agg ⟨[tv,.int .i64 ((b.rows.length:Nat):Int)]⟩∧E.Own w' w.heap.size 3 1 tv a.rows.length (Ae (Bb a b))∧Ah w w'):=by
 obtain⟨p,c,rfl⟩:=ha.slice;obtain⟨q,d,rfl⟩:=hb.slice;have af:=hsa.rows;have ag:=hsb.rows;refine Bq func108 ntmps108 ?_;apply CW.seq;apply CW.region;refine Sl ?_;refine De λA w1 ah a7 hA=>?_;replace hA:Blk w1 A (Au a (.slice p a.rows.length c)) 46:=hA;refine Sl ?_;refine De λB w2 ai a2 hB=>?_;replace hB:Blk w2 B (Au b (.slice q b.rows.length d)) 46:=hB;refine Sa ?_;refine Bt λR w3 aj a3 hR=>?_;replace hA:=(hA.ext a2).ext a3;replace hB:=hB.ext a3;have a0:=(a7.trans a2).trans a3;have ak:=a0.size;have al:=hR.lt;have am:w.heap.size≤R:=by have:=a7.size;have:=a2.size;omega
 refine Sa ?_;refine CW.drawG (Ah w3) 5 (λw' h=>h) AdX λwa an=>?_;refine Ay ?_;refine Bd 1 λhS=>?_;refine Ar rfl rfl (QT a _ _ (ha.ext (a0.trans hS)) hsa) ?_;rintro v w4 ⟨a8,ac⟩;have a4:=hS.trans ac;obtain⟨kp,kc,rfl⟩:=a8.slice;apply LW.nil;refine QW.headed a4 ?_;refine Ay ?_;refine Bd 3 λhS=>?_;refine Ar rfl rfl (QT b _ _ (hb.ext (a0.trans a4)) hsb) ?_;rintro v w5 ⟨a9,aa⟩;have a5:=a4.trans aa;obtain⟨lp,lc,rfl⟩:=a9.slice;apply LW.nil;refine QW.headed a5 ?_;refine Ay ?_;refine Bd 4 λhS=>?_;refine Ar rfl rfl (Nh _ _ _ _ w5 (MH hsa (a8.ext aa)) (MH hsb a9) AdY AdY) ?_;rintro v w6 ⟨tv,rfl,a1,ad⟩;have a6:=a5.trans ad;obtain⟨tp,tc,rfl⟩:=a1.slice;replace hR:=hR.ext a6;have ao:=a5.size;have e1:(a.rows.map D4).length=a.rows.length:=Aei
 have e2:(b.rows.map D4).length=b.rows.length:=Aei
 rw[e1] at a1;have ae:R∉Ac (.slice tp a.rows.length tc):=λhm=>by have:=(a1.lt hm).1;omega
 apply LW.nil;refine QW.headed a6 ?_;refine GW.tail rfl AdX (λhS=>?_);refine AM λw7 ab hR=>?_;replace hR:Blk w7 R [.slice tp a.rows.length tc,.int .i64 ((b.rows.length:Nat):Int)] 77:=by rw[←e1,←e2];exact hR
 refine Sa ?_;refine QW.body_c rfl rfl hR rfl rfl rfl ⟨_,rfl,?_,(a0.trans a6).step ab AdY⟩;exact(a1.chg ab (λb hb=>by simp only[B3];exact λe=>ae (e ▸ hb))).low AdV
def Gu(a b:Af)(m:List Int)(i:Nat):Option (Nat×Nat):=match (m[i]?:Option Int) with
 | none=>none
 | some (k:Int)=>if 0≤k∧k<b.rows.length∧D4 (a.rows.getD i [])=D4 (b.rows.getD k.toNat []) then some (i,k.toNat) else none
def Cp(a b:Af)(m:List Int)(k:Nat):List (Nat×Nat):=(List.range k).filterMap (Gu a b m)
theorem So(a b:Af)(m:List Int):Cp a b m a.rows.length=DD a b m:=rfl
theorem HU(a b:Af)(m:List Int)(k:Nat):Cp a b m (k+1)=Cp a b m k++(Gu a b m k).toList:=by
 rw[Cp,Ace,List.filterMap_append];cases h:Gu a b m k<;>simp[Cp,h]
theorem UM{a b:Af}{m:List Int}{k:Nat}{p:Nat×Nat}(h:Gu a b m k=some p):p.1=k∧p.2<b.rows.length:=by
 unfold Gu at h
 split at h
 ·cases h
 ·split at h
  ·rename_i hc;obtain rfl:=Ab9 h;exact⟨rfl,by omega⟩
  ·cases h
theorem Mr{a b:Af}{m:List Int}{k:Nat}{p:Nat×Nat}(h:p∈Cp a b m k):p.1<k∧p.2<b.rows.length:=by
 simp only[Cp,List.mem_filterMap,Acg] at h;obtain⟨i,hi,hf⟩:=h;obtain⟨h1,h2⟩:=UM hf;omega
theorem Mq(a b:Af)(m:List Int)(k:Nat):(Cp a b m k).length≤k:=by
 have:=List.length_filterMap_le (Gu a b m) (List.range k)
 simpa[Cp] using this
theorem MF{l:List (List (List UInt8))}{i:Nat}{r:List (List UInt8)}(h:l[i]?=some r):l.getD i []=r:=by rw[AaE,h];rfl
theorem Ji{s:Af}(hs:Dr s){rs:List Nat}(hr:∀r∈rs,r<s.rows.length)(hl:rs.length≤100){w:World}{lo:Nat}{v:Value}(h:E.Own w lo 9 1 v (BB s rs).length ((BB s rs).map Av)):Bz w v (BB s rs):=
 Hw h (by have:=hs.cols;simp[BB];omega) λt ht=>by
  simp only[BB,AbJ,Acg] at ht;obtain⟨k,hk,rfl⟩:=ht;have:=OQ (Ls hs hr hl (c:=k) (by have:=hs.cols;omega));show(Fj (ES s rs k)).length≤_;omega
set_option maxRecDepth 8000 in
set_option maxHeartbeats 2000000 in
theorem UK(a b:Af)(ra rb mv:Value)(m:List Int)(w:World)(ha:Cy w ra a.rows)(hb:Cy w rb b.rows)(hsa:Dr a)(hsb:Dr b)(hm:Be w mv m)(hml:m.length=a.rows.length)(hmz:∀z∈m,-1≤z∧z<b.rows.length)(nw:Int):AN prog 109 [.agg ⟨Au a ra⟩,.agg ⟨Au b rb⟩,.agg ⟨[mv,.int .i64 nw]⟩] w (λv w'=>∃tv,v=.agg ⟨[tv,.int .i64 ((b.cols.toNat:Nat):Int)]⟩∧E.Own w' w.heap.size 3 1 tv a.cols.toNat (Ae (DE a b m))∧Ah w w'):=by
 obtain⟨p,c,rfl⟩:=ha.slice;obtain⟨q,d,rfl⟩:=hb.slice;obtain⟨mp,mc,rfl⟩:=hm.slice;have bl:=hsa.rows;have bm:=hsb.rows;obtain⟨b5,b6⟩:=hsa.cols;obtain⟨b7,b8⟩:=hsb.cols;refine Bq func109 ntmps109 ?_;apply CW.seq;apply CW.region;refine Sl ?_;refine De λA w1 bn az hA=>?_;replace hA:Blk w1 A (Au a (.slice p a.rows.length c)) 46:=hA;refine Sl ?_;refine De λB w2 bo an hB=>?_;replace hB:Blk w2 B (Au b (.slice q b.rows.length d)) 46:=hB;refine Sl ?_;refine De λM w3 bp aj hM=>?_;replace hM:Blk w3 M [.slice mp m.length mc,.int .i64 nw] 77:=hM;refine Sa ?_;refine Bt λR w4 bq ak hR=>?_;replace hA:=((hA.ext an).ext aj).ext ak;replace hB:=(hB.ext aj).ext ak;replace hM:=hM.ext ak;have a9:=((az.trans an).trans aj).trans ak;have br:=a9.size;have bs:=hR.lt;have bt:w.heap.size≤R:=by have:=az.size;have:=an.size;have:=aj.size;omega
 refine Sw ?_;refine CW.loop (ι:=Nat×Value×Value) (λx w'=>x.1≤a.rows.length∧Ah w4 w'∧E.Own w' w4.heap.size 3 1 x.2.1 (Cp a b m x.1).length (Ae ((Cp a b m x.1).map λz=>(z.1:Int)))∧E.Own w' w4.heap.size 3 1 x.2.2 (Cp a b m x.1).length (Ae ((Cp a b m x.1).map λz=>(z.2:Int)))∧(∀g,g∈Ac x.2.1→g∉Ac x.2.2)) (λx=>[(3,.pointer (some ⟨A,0,none⟩)),(4,.pointer (some ⟨B,0,none⟩)),(6,.pointer (some ⟨R,0,none⟩)),(7,x.2.1),(8,x.2.2),(12,.slice mp m.length mc),(13,.int .i64 m.length),(14,.int .i64 x.1)]) (λx=>a.rows.length - x.1) (0,.slice none 0 0,.slice none 0 0) ⟨Acp _,Chg.refl _ _,E.Own.nil _ _ _ _,E.Own.nil _ _ _ _,by simp[Ac]⟩ WG ?_;rintro⟨k,xv,yv⟩ w5 ⟨hk,a5,a6,a3,hd⟩;dsimp only at hk a6 a3 hd;show CW _ _ _ _ _ [(3,.pointer (some ⟨A,0,none⟩)),(4,.pointer (some ⟨B,0,none⟩)),(6,.pointer (some ⟨R,0,none⟩)),(7,xv),(8,yv),(12,.slice mp m.length mc),(13,.int .i64 m.length),(14,.int .i64 (k:Int))] _;have bu:=a5.size;have bv:=Mq a b m k;replace hA:=hA.ext a5;replace hB:=hB.ext a5;refine Sa ?_;refine AB (λh1=>?_) λh1=>?_;rotate_left
 ·have h1:k=a.rows.length:=by simp at h1;omega
  subst h1;rw[So] at a6 a3;have a0:=a9.trans a5;have ad:∀r∈(DD a b m).map Prod.fst,r<a.rows.length:=λr hr=>by
   simp only[AbJ] at hr;obtain⟨z,hz,rfl⟩:=hr;exact(Mr (k:=a.rows.length) hz).1
  have ae:∀r∈(DD a b m).map Prod.snd,r<b.rows.length:=λr hr=>by
   simp only[AbJ] at hr;obtain⟨z,hz,rfl⟩:=hr;exact(Mr (k:=a.rows.length) hz).2
  have bw:(DD a b m).length≤a.rows.length:=Mq a b m a.rows.length;have b9:Be w5 xv (Qk ((DD a b m).map Prod.fst)):=by
   have e:Qk ((DD a b m).map Prod.fst)=(DD a b m).map λz=>(z.1:Int):=by simp[Qk]
   rw[e];exact Own.ints a6 Aei AdY
  have ba:Be w5 yv (Qk ((DD a b m).map Prod.snd)):=by
   have e:Qk ((DD a b m).map Prod.snd)=(DD a b m).map λz=>(z.2:Int):=by simp[Qk]
   rw[e];exact Own.ints a3 Aei AdY
  replace hR:=hR.ext a5;refine Sa ?_;refine CW.drawG (Ah w5) 7 (λw' h=>h) AdX λwa bb=>?_;refine Ay ?_;refine Bd 2 λhS=>?_;refine Ar rfl rfl (Lw a _ _ _ _ (ha.ext (a0.trans hS)) hsa (b9.ext hS) ad AdY) ?_;rintro v w6 ⟨b0,ao⟩;have a7:=hS.trans ao;obtain⟨kp,kc,rfl⟩:=b0.slice;apply LW.nil;refine QW.headed a7 ?_;refine Ay ?_;refine Bd 5 λhS=>?_;refine Ar rfl rfl (Lw b _ _ _ _ (hb.ext (a0.trans a7)) hsb (ba.ext a7) ae AdY) ?_;rintro v w7 ⟨b1,al⟩;have a2:=a7.trans al;obtain⟨lp,lc,rfl⟩:=b1.slice;apply LW.nil;refine QW.headed a2 ?_;refine Ay ?_;refine Bd 6 λhS=>?_;refine Ar rfl rfl (Nh _ _ _ _ w7 (Ji hsa ad AdY (b0.ext al)) (Ji hsb ae AdY b1) (by simp[BB];omega) (by simp[BB];omega)) ?_;rintro v w8 ⟨tv,rfl,am,ab⟩;have ap:=a2.trans ab;obtain⟨tp,tc,rfl⟩:=am.slice;replace hR:=hR.ext ap;have bc:=a2.size;have e1:(BB a ((DD a b m).map Prod.fst)).length=a.cols.toNat:=by simp[BB]
  have e2:(BB b ((DD a b m).map Prod.snd)).length=b.cols.toNat:=by simp[BB]
  rw[e1] at am;have bd:R∉Ac (.slice tp a.cols.toNat tc):=λhm=>by have:=(am.lt hm).1;omega
  apply LW.nil;refine QW.headed ap ?_;refine GW.tail rfl AdX (λhS=>?_);refine AM λw9 ac hR=>?_;replace hR:Blk w9 R [.slice tp a.cols.toNat tc,.int .i64 ((b.cols.toNat:Nat):Int)] 77:=by rw[←e1,←e2];exact hR
  refine Sa ?_;refine QW.body_c rfl rfl hR rfl rfl rfl ⟨_,rfl,?_,(a0.trans ap).step ac AdY⟩;exact(am.chg ac (λb hb=>by simp only[B3];exact λe=>bd (e ▸ hb))).low AdV
 have h1:k<a.rows.length:=by simp at h1;omega
 obtain⟨z,aq⟩:∃z,m[k]?=some z:=⟨_,B7 AdV⟩;obtain⟨bx,bz⟩:=hmz z (Ab7 aq);have a0:=a9.trans a5;obtain⟨ma,rfl,c0⟩:=Be.at1 (hm.ext a0) aq;obtain⟨row,aa⟩:∃r,a.rows[k]?=some r:=⟨_,B7 h1⟩;obtain⟨ga,q1,c1,rfl,-,be,c3⟩:=Bn.at (Bn.ext ha a0) aa;have ar:=hsa.row (Ab7 aa);refine Sw ?_;refine CW.drawG (Ah w5) 30 (λw' h=>h) AdX λwa bb=>?_;refine Ay ?_;have au:Gu a b m k=if 0≤z∧z<b.rows.length∧D4 row=D4 (b.rows.getD z.toNat []) then some (k,z.toNat) else none:=by
  rw[Gu,aq,MF aa]
 have a8:∀w',Ah w5 w'→Gu a b m k=none→E.Own w' w4.heap.size 3 1 xv (Cp a b m (k+1)).length (Ae ((Cp a b m (k+1)).map λz=>(z.1:Int)))∧E.Own w' w4.heap.size 3 1 yv (Cp a b m (k+1)).length (Ae ((Cp a b m (k+1)).map λz=>(z.2:Int))):=λw' hx h=>by
  rw[HU,h];simp only[Option.toList,AbG];exact⟨a6.ext hx,a3.ext hx⟩
 by_cases bf:0≤z;rotate_left
 ·refine GW.know (t:=21) (c:=false) rfl AdY ?_;refine Ay ?_;refine Gks 22 ?_;refine Ay ?_;refine Gks 28 ?_;refine Ay ?_;refine GW.tail rfl AdX (λhS=>?_);refine Sa ?_;obtain⟨h7,h8⟩:=a8 _ hS (by rw[au,if_neg AdV]);exact QW.again (k+1,xv,yv) ⟨by show k+1≤_;omega,a5.trans hS,h7,h8,hd⟩ WG AeC
 obtain⟨rowb,a1⟩:∃r,b.rows[z.toNat]?=some r:=⟨_,B7 AdV⟩;obtain⟨gb,q2,c2,eq2,-,bg,bh⟩:=Bn.at (Bn.ext hb a0) a1;subst eq2;rw[show((z.toNat:Nat):Int).toNat=z.toNat by omega] at bh;have av:=hsb.row (Ab7 a1);refine GW.know (t:=21) (c:=true) rfl AdY ?_;refine Ay ?_;refine GW.know (t:=28) (c:=true) rfl AdY ?_;refine Ay ?_;refine GW.know (t:=35) (c:=true) rfl AdY ?_;refine Ay ?_;refine Bd 22 λhS=>?_;refine Lb ?_;refine Ar rfl rfl (Pm row _ _ (Ak.ext be hS) ar) ?_;rintro v w6 ⟨rfl,ao⟩;have a7:=hS.trans ao;apply LW.nil;refine QW.headed a7 ?_;refine Ay ?_;refine Bd 28 λhS=>?_;refine Lb ?_;refine Ar rfl rfl (Pm rowb _ _ (Ak.ext bg a7) av) ?_;rintro v w7 ⟨rfl,al⟩;have a2:=a7.trans al;apply LW.nil;refine QW.headed a2 ?_;refine Ay ?_;refine GW.tail rfl AdX (λhS=>?_);have af:=a5.trans a2;have bc:=a2.size;refine Sa ?_;refine AB (λh3=>?_) λh3=>?_;rotate_left
 ·have h3:D4 row≠D4 rowb:=by simpa using h3
  refine Sa ?_;obtain⟨h7,h8⟩:=a8 _ a2 (by rw[au,MF a1,if_neg (λh=>h3 h.2.2)]);exact QW.again (k+1,xv,yv) ⟨by show k+1≤_;omega,af,h7,h8,hd⟩ WG AeC
 have h3:D4 row=D4 rowb:=by simpa using h3
 replace a6:=a6.ext a2;replace a3:=a3.ext a2;have b2:Gu a b m k=some (k,z.toNat):=by rw[au,MF a1,if_pos ⟨bf,by omega,h3⟩]
 refine Sa ?_;refine CF λC w8 c4 ab hC=>?_;have c5:=ab.size;refine Sa ?_;refine LW.append (lo:=w4.heap.size) (k:=(Cp a b m k).length) rfl rfl rfl rfl rfl rfl (a6.ext ab) AdV hC rfl rfl rfl AeZ rfl ?_;intro xv' w9 ac ag bi;have aw:=(a3.ext ab).chg ac (λg hg hm=>hd g hm hg);have c6:=ac.size;refine Sa ?_;refine CF λF c7 c8 a4 hF=>?_;have bj:=a4.size;refine Sa ?_;refine LW.append (lo:=w4.heap.size) (k:=(Cp a b m k).length) rfl rfl rfl rfl rfl rfl (aw.ext a4) AdV hF rfl rfl rfl AeZ rfl ?_;intro yv' c9 ah ax ay;have b3:∀g,g∈Ac xv'→g∉Ac yv:=λg hg hm=>by
  rcases bi g hg with h | h
  ·exact hd g h hm
  ·have:=(a3.lt hm).2;omega
 have ai:=(ag.ext a4).chg ah (λg hg hm=>b3 g hg hm);refine Sa ?_;refine QW.again (k+1,xv',yv') ⟨by show k+1≤_;omega,(((af.trans ab).step ac (λb hb=>(a6.lt hb).1)).trans a4).step ah (λb hb=>(a3.lt hb).1),?_,?_,λg hg hm=>?_⟩ WG AeC
 ·show E.Own _ _ _ _ xv' (Cp a b m (k+1)).length (Ae ((Cp a b m (k+1)).map λz=>(z.1:Int)));rw[HU,b2,AbT,Hj,B6];exact ai
 ·show E.Own _ _ _ _ yv' (Cp a b m (k+1)).length (Ae ((Cp a b m (k+1)).map λz=>(z.2:Int)));rw[HU,b2,AbT,Hj,B6];show E.Own _ _ _ _ yv' _ (_++[.int .i64 ((z.toNat:Nat):Int)]);rw[show((z.toNat:Nat):Int)=z by omega];exact ax
 ·have b4:g∈Ac xv':=hg;have bk:g∈Ac yv':=hm;rcases ay g bk with h | h
  ·exact b3 g b4 h
  ·have:=(ag.lt b4).2;omega
theorem PO{α:Type}[DecidableEq α](a b:List α)(ha:a.length≤1000000)(hb:b.length≤1000000):∀z∈AU a b,-1≤z∧z<(b.length:Int):=λz hz=>by
 have hr:=(BR (J7 a b AdV AdV)).2.2.2;obtain⟨j,hj⟩:=AcQ hz;have hl:=(Abu.1 hj).1;have h1:=hr j hl;have e:(AU a b).getD j 0=z:=by rw[AaE,hj];rfl
 simp only[e] at h1;rcases h1 with h1 | ⟨h1,h2,_⟩<;>omega
theorem PU{a b:Af}(hsa:Dr a)(hsb:Dr b):∀z∈Bb a b,-1≤z∧z<b.rows.length:=λz hz=>by
 have:=hsa.rows;have:=hsb.rows;have h:=PO (a.rows.map D4) (b.rows.map D4) AdY AdY z hz
 simpa using h
theorem JB(a b:Af):(Bb a b).length=a.rows.length:=by rw[Bb,Gj,Abr]
set_option maxRecDepth 8000 in
set_option maxHeartbeats 1000000 in
theorem HT(a b:Af)(ra rb:Value)(w:World)(ha:Cy w ra a.rows)(hb:Cy w rb b.rows)(hsa:Dr a)(hsb:Dr b):AN prog 72 [.agg ⟨Au a ra⟩,.agg ⟨Au b rb⟩] w (λv w'=>∃rv cv,v=.agg ⟨JD (Aj a b) rv cv⟩∧E.Own w' w.heap.size 3 1 rv a.rows.length (Ae (Bb a b))∧E.Own w' w.heap.size 3 1 cv a.cols.toNat (Ae (DE a b (Bb a b)))∧Ah w w'):=by
 obtain⟨p,c,rfl⟩:=ha.slice;obtain⟨q,d,rfl⟩:=hb.slice;have ai:=hsa.rows;refine Bq func72 ntmps72 ?_;apply CW.seq;apply CW.region;refine Sl ?_;refine De λA w1 aj ac hA=>?_;replace hA:Blk w1 A (Au a (.slice p a.rows.length c)) 46:=hA;refine Sl ?_;refine De λB w2 ak a6 hB=>?_;replace hB:Blk w2 B (Au b (.slice q b.rows.length d)) 46:=hB;refine Sa ?_;refine Bt λR w3 al a7 hR=>?_;replace hA:=(hA.ext a6).ext a7;replace hB:=hB.ext a7;have a0:=(ac.trans a6).trans a7;have am:=a0.size;have an:=hR.lt;have ao:w.heap.size≤R:=by have:=ac.size;have:=a6.size;omega
 refine Sw ?_;refine Ar rfl rfl (UL a b _ _ w3 (ha.ext a0) (hb.ext a0) hsa hsb) ?_;rintro v w4 ⟨rv,rfl,a4,a8⟩;obtain⟨rp,rc,rfl⟩:=a4.slice;have ap:=a8.size;have a9:=a0.trans a8;refine Sa ?_;refine Bt λM w5 aq ad hM=>?_;have ar:=ad.size;have au:=hM.lt;refine Sa ?_;refine AM λw6 ae hM=>?_;replace hM:Blk w6 M [.slice rp a.rows.length rc,.int .i64 ((b.rows.length:Nat):Int)] 77:=hM;have a1:Ah w4 w6:=ad.step ae AdY;replace a4:=a4.ext a1;have a2:=a9.trans a1;have a3:=a8.trans a1;replace hA:=hA.ext a3;replace hB:=hB.ext a3;replace hR:=hR.ext a3;have hI:Be w6 (.slice rp a.rows.length rc) (Bb a b):=Own.ints a4 (JB a b) (by rw[JB];omega);have av:=a1.size;refine Sa ?_;refine CW.drawG (Ah w6) 8 (λw' h=>h) AdX λwa aw=>?_;refine Ay ?_;refine Bd 6 λhS=>?_;refine Ar rfl rfl (UK a b _ _ _ (Bb a b) wa (ha.ext (a2.trans hS)) (hb.ext (a2.trans hS)) hsa hsb (hI.ext hS) (JB a b) (PU hsa hsb) _) ?_;rintro v w7 ⟨cv,rfl,aa,af⟩;obtain⟨cp,cc,rfl⟩:=aa.slice;have a5:=hS.trans af;have ax:=hS.size;apply LW.nil;refine QW.headed a5 ?_;refine Ay ?_;refine GW.tail rfl AdX (λhS=>?_);replace hR:=hR.ext a5;refine AM λw8 ab hR=>?_;replace hR:Blk w8 R (JD (Aj a b) (.slice rp a.rows.length rc) (.slice cp a.cols.toNat cc)) 79:=hR;have ag:R∉Ac (.slice rp a.rows.length rc):=λhm=>by have:=(a4.lt hm).1;omega
 have ah:R∉Ac (.slice cp a.cols.toNat cc):=λhm=>by have:=(aa.lt hm).1;omega
 refine Sa ?_;refine QW.body_c rfl rfl hR rfl rfl rfl ⟨_,_,rfl,?_,?_,(a2.trans a5).step ab AdY⟩
 ·exact((a4.ext a5).chg ab (λb hb=>by simp only[B3];exact λe=>ag (e ▸ hb))).low AdV
 ·exact(aa.chg ab (λb hb=>by simp only[B3];exact λe=>ah (e ▸ hb))).low AdV
end Go.Proofs.YtcjjcnecopnpcaaGreatDoor
