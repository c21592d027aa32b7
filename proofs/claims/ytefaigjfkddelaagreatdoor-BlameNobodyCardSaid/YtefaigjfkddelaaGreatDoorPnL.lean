/-
  Joined by program out of the texts Ali1 Ali2 Ali3 Ali4 LcsP Lcs1 Ali5 Ali6 BlaS Told Tol1.
-/
import Derived.Test.YtefaigjfkddelaaGreatDoorPnJ
import Derived.Test.YtefaigjfkddelaaGreatDoorPnK
import Derived.Test.YtefaigjfkddelaaGreatDoorPnH
import Derived.Test.YtefaigjfkddelaaGreatDoorPnB
import Derived.Test.YtefaigjfkddelaaGreatDoorPnI
import Derived.Test.YtefaigjfkddelaaGreatDoorPnE
namespace Go.Proofs.YtefaigjfkddelaaGreatDoor
open Tryz
open Go Go.E
def U1(l:List (List UInt8)):List (List UInt8):=l.filter λs=>decide (s≠[])
theorem Q2(l:List (List UInt8)):(U1 l).length≤l.length:=List.length_filter_le _ _
theorem Sr{l:List (List UInt8)}{k:Nat}{s:List UInt8}(h:l[k]?=some s):U1 (l.take (k+1))=if s=[] then U1 (l.take k) else U1 (l.take k)++[s]:=by
 rw[Aco,h];simp only[U1,List.filter_append,Option.toList];by_cases e:s=[]<;>simp[e]
def Iq(l:List (List UInt8)):Prop:=l.length≤100∧∀s∈l,s.length≤1000
theorem WX{s:List UInt8}(h:s.length≤1000):(JS s).length≤1010:=by
 have:=EZ (n:=s.length) Aez;rw[JS,Aax];omega
theorem Pi:∀{l:List (List UInt8)},(∀s∈l,s.length≤1000)→(l.flatMap JS).length≤l.length*1010
 | [],_=>by simp
 | s::l,h=>by
  have h1:=WX (h s Ae7);have h2:=Pi (l:=l) λt ht=>h t (by simp[ht]);rw[Ac7,Aax,AaT];omega
theorem Py{l:List (List UInt8)}(h:Iq l):(Ju l).length≤200000:=by
 have h1:=EZ (n:=l.length) (by have:=h.1;omega);have h2:=Pi h.2;have h3:=h.1;rw[Ju,Aax];omega
theorem Iq.ne{l:List (List UInt8)}(h:Iq l):Iq (U1 l):=⟨Acr (Q2 l) h.1,λs hs=>h.2 s ((List.mem_filter.1 hs).1)⟩
theorem Yr{r:List (List UInt8)}(h:Iq r):(EU r).length≤200000:=Py h.ne
theorem Gi{w:World}{lo:Nat}{v:Value}{l:List (List UInt8)}(h:A3 w lo 9 1 v l.length (l.map Am))(hl:l.length≤1000000)(hs:∀s∈l,s.length≤1000000):CD w v l:=by
 obtain⟨g,h1,_⟩:=EY h hl hs;exact Ao.map h1 (λ_ _=>trivial) λ_ _ _ _ h=>h
theorem WP{w:World}{lo:Nat}{v:Value}{l:List (List UInt8)}{s:List UInt8}(h:A3 w lo 9 1 v (l.length+1) (l.map Am++[Am s])):A3 w lo 9 1 v (l++[s]).length ((l++[s]).map Am):=by
 rw[Aax,Ac1];exact h
theorem PI(r:List (List UInt8))(v:Value)(w:World)(h:CD w v r)(hs:Iq r):AF prog 93 [v] w (λu w'=>u=Am (EU r)∧Ae w w'):=by
 obtain⟨p,c,rfl⟩:=h.slice;have a4:=hs.1;refine AQ func93 ntmps93 ?_;refine Sa ?_;refine CW.loop (ι:=Nat×Value) (λx w'=>x.1≤r.length∧Ae w w'∧A3 w' w.heap.size 9 1 x.2 (U1 (r.take x.1)).length ((U1 (r.take x.1)).map Am)) (λx=>[(3,x.2),(6,.slice p r.length c),(7,.int .i64 r.length),(8,.int .i64 x.1)]) (λx=>r.length - x.1) (0,.slice none 0 0) ⟨by simp,Chg.refl _ _,A3.nil _ _ _ _⟩ B9 ?_;rintro⟨k,ov⟩ w1 ⟨hk,hx,hO⟩;dsimp only at hk hO;show CW _ _ _ _ _ [(3,ov),(6,.slice p r.length c),(7,.int .i64 r.length),(8,.int .i64 (k:Int))] _;have hz:=hx.size;refine Sa ?_;refine Av (λh1=>?_) λh1=>?_;rotate_left
 ·have h1:k=r.length:=by simp at h1;omega
  subst h1;rw[Acs] at hO;refine Sa ?_;refine Ax rfl rfl (Md (U1 r) ov w1 (Gi hO (by have:=Q2 r;omega) λs hm=>by have:=hs.2 s ((List.mem_filter.1 hm).1);omega)) ?_;rintro u w2 ⟨hb,a0⟩;obtain⟨pu,cu,rfl⟩:=hb.slice;refine Sa ?_;refine LW.string_any (bs:=Ju (U1 r)) rfl rfl (Eu.bytes' hb) rfl rfl rfl rfl rfl rfl rfl ?_;refine Sa ?_;exact QW.body1 rfl rfl ⟨rfl,hx.trans a0⟩
 have h1:k<r.length:=by simp at h1;omega
 obtain⟨s,a1⟩:∃s,r[k]?=some s:=⟨_,Aak h1⟩;obtain⟨a,rfl,-,a5,hc⟩:=A4.at (A4.ext h hx) a1;refine Sw ?_;refine Av (λh2=>?_) λh2=>?_
 ·have h2:s≠[]:=by simpa using h2
  refine Sa ?_;refine Cx λC w2 a6 a0 hC=>?_;refine Sa ?_;refine LW.append (lo:=w.heap.size) (k:=(U1 (r.take k)).length) rfl rfl rfl rfl rfl rfl (hO.ext a0) Afc hC rfl rfl rfl (by have:=Q2 (r.take k);have:=AdW k r;show(_+1)*17≤_;omega) rfl ?_;intro v3 w3 a2 a3 _;refine Sa ?_;refine QW.again (k+1,v3) ⟨by show k+1≤_;omega,(hx.trans a0).step a2 (λb hb=>(hO.lt hb).1),?_⟩ B9 (by show r.length - (k+1)<r.length - k;omega);show A3 _ _ _ _ v3 (U1 (r.take (k+1))).length ((U1 (r.take (k+1))).map Am);rw[Sr a1,if_neg h2];exact WP a3
 ·have h2:s=[]:=by simpa using h2
  refine Sa ?_;refine QW.again (k+1,ov) ⟨by show k+1≤_;omega,hx,?_⟩ B9 (by show r.length - (k+1)<r.length - k;omega);show A3 _ _ _ _ ov (U1 (r.take (k+1))).length ((U1 (r.take (k+1))).map Am);rw[Sr a1,if_pos h2];exact hO
structure Dy(s:Af):Prop where
 rows:s.rows.length≤100
 cols:0≤s.cols∧s.cols≤100
 wide:∀r∈s.rows,(r.length:Int)=s.cols
 cells:∀r∈s.rows,∀t∈r,t.length≤1000
theorem Dy.row{s:Af}(h:Dy s){r:List (List UInt8)}(hr:r∈s.rows):Iq r:=⟨by have:=h.wide r hr;have:=h.cols;omega,h.cells r hr⟩
theorem RK(s:Af)(rv:Value)(w:World)(h:EK w rv s.rows)(hs:Dy s):AF prog 92 [.agg ⟨Ap s rv⟩,.func (.func 93) ⟨[]⟩ ⟨[]⟩] w (λv w'=>A3 w' w.heap.size 9 1 v (s.rows.map EU).length ((s.rows.map EU).map Am)∧Ae w w'):=by
 obtain⟨p,c,rfl⟩:=h.slice;have a6:=hs.rows;refine AQ func92 ntmps92 ?_;apply CW.seq;apply CW.region;refine Sl ?_;refine Dq λA w1 a7 a2 hA=>?_;replace hA:Blk w1 A (Ap s (.slice p s.rows.length c)) 41:=hA;refine Sa ?_;refine CW.loop (ι:=Nat×Value) (λx w'=>x.1≤s.rows.length∧Ae w w'∧A3 w' w.heap.size 9 1 x.2 (s.rows.take x.1).length (((s.rows.take x.1).map EU).map Am)) (λx=>[(1,.func (.func 93) ⟨[]⟩ ⟨[]⟩),(5,x.2),(9,.slice p s.rows.length c),(10,.int .i64 s.rows.length),(11,.int .i64 x.1)]) (λx=>s.rows.length - x.1) (0,.slice none 0 0) ⟨by simp,a2,A3.nil _ _ _ _⟩ Cu ?_;rintro⟨k,ov⟩ w2 ⟨hk,hx,hO⟩;dsimp only at hk hO;show CW _ _ _ _ _ [(1,.func (.func 93) ⟨[]⟩ ⟨[]⟩),(5,ov),(9,.slice p s.rows.length c),(10,.int .i64 s.rows.length),(11,.int .i64 (k:Int))] _;have hz:=hx.size;refine Sa ?_;refine Av (λh1=>?_) λh1=>?_;rotate_left
 ·have h1:k=s.rows.length:=by simp at h1;omega
  subst h1;rw[Acs] at hO;refine Sa ?_;exact QW.body1 rfl rfl ⟨by rw[Acg];exact hO,hx⟩
 have h1:k<s.rows.length:=by simp at h1;omega
 obtain⟨r,hr⟩:∃s',s.rows[k]?=some s':=⟨_,Aak h1⟩;obtain⟨a,q,qc,rfl,-,ht,hc⟩:=AO.at (AO.ext h hx) hr;have a3:=hs.row (Aa9 hr);refine Sw ?_;refine LW.call (fs:=[]) (cs:=[]) rfl rfl rfl (PI r _ w2 ht a3) ?_;rintro v w3 ⟨rfl,a0⟩;refine Sa ?_;refine Cx λC w4 a8 a1 hC=>?_;refine Sa ?_;refine LW.append (lo:=w.heap.size) (k:=(s.rows.take k).length) rfl rfl rfl rfl rfl rfl (hO.ext (a0.trans a1)) (by have:=a0.size;have:=a1.size;omega) hC rfl rfl rfl (by have:=AdW k s.rows;show(_+1)*17≤_;omega) rfl ?_;intro v5 w5 a4 a5 _;refine Sa ?_;refine QW.again (k+1,v5) ⟨by show k+1≤_;omega,((hx.trans a0).trans a1).step a4 (λb hb=>(hO.lt hb).1),?_⟩ Cu (by show s.rows.length - (k+1)<s.rows.length - k;omega);show A3 _ _ _ _ v5 (s.rows.take (k+1)).length (((s.rows.take (k+1)).map EU).map Am);rw[Aco,hr];simp only[Option.toList,Ac1,AcE,AcZ,Aax,AaT,AbH,AbW];exact a5
theorem Bs.at1{w:World}{p:Option Addr}{c:Nat}{zs:List Int}(h:Bs w (.slice p zs.length c) zs){i:Nat}{z:Int}(hi:zs[i]?=some z):∃a,p=some a∧w.cell? (a.add (((i:Nat):Int).toNat*1))=some (.int .i64 z):=by
 obtain⟨hl,e⟩:=Aav.1 hi;obtain⟨a,h1,h2⟩:=h.at hl;refine⟨a,h1,?_⟩;rw[show((i:Nat):Int).toNat*1=i by omega,h2,AaE,hi];rfl
def Fj(s:Af)(rs:List Nat)(c:Nat):List (List UInt8):=rs.map λr=>(s.rows.getD r []).getD c []
def QK(rs:List Nat):List Int:=rs.map λ(r:Nat)=>(r:Int)
theorem Aat{rs:List Nat}{k r:Nat}(h:rs[k]?=some r):(QK rs)[k]?=some (r:Int):=by simp[QK,h]
theorem Vg{s:Af}(hs:Dy s){r c:Nat}(hr:r<s.rows.length)(hc:(c:Int)<s.cols):∃row t,s.rows[r]?=some row∧row[c]?=some t∧(s.rows.getD r []).getD c []=t∧t.length≤1000:=by
 have h1:=Aak hr;have hm:=Aa9 h1;have hw:=hs.wide _ hm;have h2:=Aak (l:=s.rows[r]) (i:=c) Aez;refine⟨_,_,h1,h2,?_,hs.cells _ hm _ (Aa9 h2)⟩;rw[AaE,AaE,h1,Adh,h2,Adh]
theorem Mg{s:Af}(hs:Dy s){rs:List Nat}(hr:∀r∈rs,r<s.rows.length)(hl:rs.length≤100){c:Nat}(hc:(c:Int)<s.cols):Iq (Fj s rs c):=by
 refine⟨by simpa[Fj] using hl,λt ht=>?_⟩;simp only[Fj,Acu] at ht;obtain⟨r,h1,rfl⟩:=ht;obtain⟨_,t,_,_,e,h2⟩:=Vg hs (hr r h1) hc;rw[e];exact h2
theorem PQ(s:Af)(rs:List Nat)(k:Nat):(List.range (k+1)).map (HC s rs)=(List.range k).map (HC s rs)++[HC s rs k]:=by simp[AcL]
set_option maxHeartbeats 1000000 in
theorem Mh(s:Af)(rv iv:Value)(rs:List Nat)(w:World)(h:EK w rv s.rows)(hs:Dy s)(hi:Bs w iv (QK rs))(hr:∀r∈rs,r<s.rows.length)(hl:rs.length≤100):AF prog 94 [.agg ⟨Ap s rv⟩,iv] w (λv w'=>A3 w' w.heap.size 9 1 v (Bk s rs).length ((Bk s rs).map Am)∧Ae w w'):=by
 obtain⟨p,c,rfl⟩:=h.slice;have a9:(QK rs).length=rs.length:=by simp[QK]
 obtain⟨ip,ic,rfl⟩:=hi.slice;have af:=hs.rows;obtain⟨ag,ah⟩:=hs.cols;obtain⟨C,hC⟩:∃C:Nat,s.cols=C:=⟨s.cols.toNat,by omega⟩;refine AQ func94 ntmps94 ?_;apply CW.seq;apply CW.region;refine Sl ?_;refine Dq λA w1 ai a4 hA=>?_;replace hA:Blk w1 A (Ap s (.slice p s.rows.length c)) 41:=hA;refine Sa ?_;refine CW.loop (ι:=Nat×Value) (λx w'=>x.1≤C∧Ae w1 w'∧A3 w' w1.heap.size 9 1 x.2 ((List.range x.1).map (HC s rs)).length (((List.range x.1).map (HC s rs)).map Am)) (λx=>[(1,.slice ip (QK rs).length ic),(2,.pointer (some ⟨A,0,none⟩)),(5,x.2),(11,.int .i64 s.cols),(12,.int .i64 x.1)]) (λx=>C - x.1) (0,.slice none 0 0) ⟨by simp,Chg.refl _ _,A3.nil _ _ _ _⟩ Cu ?_;rintro⟨k,ov⟩ w2 ⟨hk,hx,hO⟩;dsimp only at hk hO;show CW _ _ _ _ _ [(1,.slice ip (QK rs).length ic),(2,.pointer (some ⟨A,0,none⟩)),(5,ov),(11,.int .i64 s.cols),(12,.int .i64 (k:Int))] _;have hz:=a4.size;have aj:=hx.size;rw[Acg,AdC] at hO;refine Sa ?_;refine Av (λh1=>?_) λh1=>?_;rotate_left
 ·have h1:k=C:=by simp at h1;omega
  subst h1;refine Sa ?_;refine QW.body1 rfl rfl ⟨?_,a4.trans hx⟩;have e:Bk s rs=(List.range k).map (HC s rs):=by rw[Bk,hC];rfl
  rw[e,Acg,AdC];exact hO.low hz
 have h1:k<C:=by simp at h1;omega
 replace hA:=hA.ext hx;refine Sa ?_;refine CW.loop (ι:=Nat×Value) (λx w'=>x.1≤rs.length∧Ae w2 w'∧A3 w' w2.heap.size 9 1 x.2 x.1 (((Fj s rs k).take x.1).map Am)) (λx=>[(1,.slice ip (QK rs).length ic),(2,.pointer (some ⟨A,0,none⟩)),(5,ov),(6,.int .i64 k),(7,x.2),(11,.int .i64 s.cols),(12,.int .i64 k),(15,.slice ip (QK rs).length ic),(16,.int .i64 (QK rs).length),(17,.int .i64 x.1)]) (λx=>rs.length - x.1) (0,.slice none 0 0) ⟨by simp,Chg.refl _ _,A3.nil _ _ _ _⟩ Pa ?_;rintro⟨j,lv⟩ w3 ⟨hj,a1,hL⟩;dsimp only at hj hL;show CW _ _ _ _ _ [(1,.slice ip (QK rs).length ic),(2,.pointer (some ⟨A,0,none⟩)),(5,ov),(6,.int .i64 (k:Int)),(7,lv),(11,.int .i64 s.cols),(12,.int .i64 (k:Int)),(15,.slice ip (QK rs).length ic),(16,.int .i64 (QK rs).length),(17,.int .i64 (j:Int))] _;have ak:=a1.size;have a2:=a4.trans (hx.trans a1);replace hA:=hA.ext a1;refine Sa ?_;refine Av (λh2=>?_) λh2=>?_;rotate_left
 ·have h2:j=rs.length:=by simp[a9] at h2;omega
  subst h2;have el:(Fj s rs k).take rs.length=Fj s rs k:=AcC (by simp[Fj]);rw[el] at hL;have aa:=Mg hs hr hl (c:=k) Aez;have ac:A3 w3 w2.heap.size 9 1 lv (Fj s rs k).length ((Fj s rs k).map Am):=by
   rw[show(Fj s rs k).length=rs.length by simp[Fj]];exact hL
  refine Sa ?_;refine Ax rfl rfl (Md (Fj s rs k) lv w3 (Gi ac (by have:=aa.1;omega) λt ht=>by have:=aa.2 t ht;omega)) ?_;rintro u w4 ⟨hb,a5⟩;obtain⟨pu,cu,rfl⟩:=hb.slice;refine Sa ?_;refine LW.string_any (bs:=Ju (Fj s rs k)) rfl rfl (Eu.bytes' hb) rfl rfl rfl rfl rfl rfl rfl ?_;refine Sa ?_;refine Cx λD w5 ad a0 hD=>?_;refine Sa ?_;refine LW.append (lo:=w1.heap.size) (k:=k) rfl rfl rfl rfl rfl rfl (((hO.ext a1).ext a5).ext a0) (by have:=a5.size;have:=a0.size;omega) hD rfl rfl rfl AfI rfl ?_;intro v6 w6 a6 a7 _;refine Sa ?_;refine QW.again (k+1,v6) ⟨by show k+1≤_;omega,(((hx.trans a1).trans a5).trans a0).step a6 (λb hb=>(hO.lt hb).1),?_⟩ Cu (by show C - (k+1)<C - k;omega)
  ·show A3 _ _ _ _ v6 ((List.range (k+1)).map (HC s rs)).length (((List.range (k+1)).map (HC s rs)).map Am);rw[PQ,Aax,Ac1,Acg,AdC];exact a7
 have h2:j<rs.length:=by simp[a9] at h2;omega
 obtain⟨r,a8⟩:∃r,rs[j]?=some r:=⟨_,Aak h2⟩;obtain⟨ia,rfl,al⟩:=Bs.at1 (hi.ext a2) (Aat a8);obtain⟨row,t,a3,ab,ae,am⟩:=Vg hs (hr r (Aa9 a8)) (c:=k) Aez;obtain⟨a,q,qc,rfl,-,ht,hc⟩:=AO.at (AO.ext h a2) a3;obtain⟨a',rfl,-,-,an⟩:=A4.at ht ab;have ao:=(Aav.1 a3).1;have ap:=(Aav.1 ab).1;refine Sw ?_;refine Cx λD w5 ad a0 hD=>?_;refine Sa ?_;refine LW.append (lo:=w2.heap.size) (k:=j) rfl rfl rfl rfl rfl rfl (hL.ext a0) Afc hD rfl rfl rfl AfI rfl ?_;intro v6 w6 a6 a7 _;refine Sa ?_;refine QW.again (j+1,v6) ⟨by show j+1≤_;omega,(a1.trans a0).step a6 (λb hb=>(hL.lt hb).1),?_⟩ Pa (by show rs.length - (j+1)<rs.length - j;omega);show A3 _ _ _ _ v6 (j+1) (((Fj s rs k).take (j+1)).map Am);rw[Aco,show(Fj s rs k)[j]?=some t by simp[Fj,a8];simpa using ae,Ac1];exact a7
theorem Nt(zs:List Int)(v:Value)(w:World)(h:Bs w v zs)(hl:zs.length≤100000):AF prog 98 [v] w (λv' w'=>E.A3 w' w.heap.size 3 1 v' zs.length (Ad zs)∧Ae w w'):=by
 refine AQ func98 ntmps98 ?_;obtain⟨_,⟨rfl,rfl⟩ | ⟨a,cap,rfl,hc⟩⟩:=h
 ·refine Sa ?_;refine LW.eql_sn rfl rfl rfl rfl ?_;refine Sa ?_;exact QW.body1 rfl rfl ⟨E.A3.nil _ _ _ _,Chg.refl _ _⟩
 ·refine Sa ?_;refine LW.eql_sn rfl rfl rfl rfl ?_;refine Sa ?_
  (apply LW.buildSlice0;exact rfl;exact rfl;exact rfl;exact rfl;intro B w5 a3 a1 hB)
  refine Sa ?_;refine LW.append_any (lo:=w.heap.size) (xs:=[]) (news:=Ad zs) rfl rfl rfl rfl rfl rfl (⟨rfl,.inr ⟨B,0,[],rfl,hB,by simp,by simp,by omega⟩⟩) AfJ (by rw[AA];show _=_*1;omega) (.inr ⟨a,rfl,λj u hj=>by
   simp only[Ad,AbA] at hj
   cases hg:zs[j]? with
   | none=>rw[hg] at hj;cases hj
   | some y=>
    rw[hg] at hj;obtain rfl:=Aa5 hj;exact Aw a1 (hc j y hg)⟩) (λu hu=>by
   simp only[Ad,Acu] at hu;obtain⟨_,_,rfl⟩:=hu;rfl) (by show(0+_)*9≤_;omega) rfl ?_
  intro v' w6 a2 a0 a4;rw[AbW,Acb] at a0;refine Sa ?_;exact QW.body1 rfl rfl ⟨a0,a1.step a2 AeC⟩
abbrev XJ(zs:List Int)(x:Fin zs.length):List Value:=[.int .i64 ((x.val:Nat):Int),.int .i64 (zs.getD x.val 0)]
def GJ{n:Nat}(pre:List (Fin n)):Prop:=∀i x,pre[i]?=some x→x.val+1+i=n
theorem GJ.snoc{n:Nat}{pre:List (Fin n)}{x:Fin n}(h:GJ (pre++[x])):GJ pre∧x.val+1+pre.length=n:=by
 refine⟨λi y hi=>h i y (by rw[Abg (Aav.1 hi).1];exact hi),h pre.length x ?_⟩;rw[Ace (Ab9 _)];simp
theorem GJ.push{n:Nat}{pre:List (Fin n)}{x:Fin n}(h:GJ pre)(hx:x.val+1+pre.length=n):GJ (pre++[x]):=λi y hi=>by
 rcases AdM i pre.length with h1 | h1 | h1
 ·rw[Abg h1] at hi;exact h i y hi
 ·subst h1;rw[Ace (Ab9 _)] at hi;simp at hi;rw[←hi];exact hx
 ·rw[AbK Ae0] at hi;cases hi
theorem PH(p:Option Addr)(n c:Nat)(w:World):AF prog 176 [.slice p n c] w (λv w'=>v=.func (.func 214) ⟨[]⟩ ⟨[.pointer (some ⟨w.heap.size,0,none⟩)]⟩∧Blk w' w.heap.size [.slice p n c] 69∧Ae w w'):=by
 refine AQ func176 ntmps176 ?_;apply CW.seq;apply CW.region;refine Sl ?_;refine Dq λA w1 a0 a1 hA=>?_;subst a0;replace hA:Blk w1 w.heap.size [.slice p n c] 69:=hA;refine Sa ?_;exact QW.body1 rfl rfl ⟨rfl,hA,a1⟩
set_option maxRecDepth 8000 in
set_option maxHeartbeats 1000000 in
theorem TP(zs:List Int)(p:Option Addr)(c B:Nat)(ok:Nat→Prop)(w0:World)(hn:zs.length≤100000)(hB:Blk w0 B [.slice p zs.length c] 69)(hokB:ok B)(hz:zs.length≠0→∃a,p=some a∧ok a.block∧∀j z,zs[j]?=some z→w0.cell? (a.add (((j:Nat):Int).toNat*1))=some (.int .i64 z))(hlt:∀b,ok b→b<w0.heap.size) :
  SeqStopsK Fence.wide 3 prog 214 ⟨[.pointer (some ⟨B,0,none⟩)]⟩ (λx=>⟨XJ zs x⟩) (BW ok) (λys:List (Fin zs.length)=>ys.length=zs.length∧GJ ys) (λ_=>True) zs.length w0:=by
 intro l J Jx W hW hJ ab hY h0;have hF:=UT;have a7:BW ok w0 W:=λb hb=>hW.block b (hlt b hb);refine CallsIn.enterI (args:=[.func (.yield l) #[] #[],.pointer (some ⟨B,0,none⟩)]) func214 rfl ntmps214 hF rfl rfl ?_;have ac:=a7.blk hokB hB;refine Va ?_;refine E.CI.loop (ι:=Nat×List (Fin zs.length)) (λx w'=>x.1≤zs.length∧BW ok w0 w'∧J x.2 w'∧x.1+x.2.length=zs.length∧GJ x.2) (λx=>[(0,.func (.yield l) #[] #[]),(1,.pointer (some ⟨B,0,none⟩)),(3,.int .i64 ((x.1:Int) - 1))]) (λx=>x.1) (zs.length,[]) ⟨Ab9 _,a7,h0,by simp,λi x h=>by simp at h⟩ Bh ?_;rintro⟨k,pre⟩ w1 ⟨hk,a1,a2,a3,a4⟩;dsimp only at hk a2 a3 a4;show E.CI _ _ _ _ _ _ _ [(0,.func (.yield l) #[] #[]),(1,.pointer (some ⟨B,0,none⟩)),(3,.int .i64 ((k:Int) - 1))] _;have ad:=a1.blk hokB hB;refine Va ?_;refine E.CI.cond rfl (λh1=>?_) (λh1=>?_);rotate_left
 ·have h1:k=0:=by simp at h1;omega
  subst h1;refine Va ?_;exact QW.bodyI (.inr rfl) rfl ⟨⟨_,rfl⟩,.inl ⟨pre,⟨by omega,a4⟩,a2⟩⟩
 have h1:0<k:=by simp at h1;omega
 obtain⟨j,rfl⟩:∃j,k=j+1:=⟨k - 1,by omega⟩;obtain⟨z,a8⟩:∃z,zs[j]?=some z:=⟨_,Aak Aez⟩;obtain⟨a,rfl,a5,a0⟩:=hz Aez;have hc:=a1.cell (a:=a.add (((j:Nat):Int).toNat*1)) (by rw[BQ];exact a5) (a0 j z a8);have ej:(((j+1:Nat):Int) - 1)=(j:Int):=Aez
 rw[ej];have hy:=hY pre ⟨j,by omega⟩ w1 a2 Aez;have ez:zs.getD j 0=z:=by rw[AaE,a8];rfl
 simp only[XJ,ez] at hy;refine Va ?_;refine E.LI.yield hF rfl rfl rfl hy ?_;rintro e w2 (⟨rfl,a9,aa⟩ | ⟨rfl,a6⟩)
 ·refine⟨_,rfl,?_⟩;refine Va ?_;refine E.CI.cond rfl (λh2=>by cases h2) (λ_=>?_);refine Va ?_;refine QW.again (j,pre++[⟨j,by omega⟩]) ⟨by show j≤_;omega,a1.trans aa,a9,by simp;omega,a4.push (by show j+1+_=_;omega)⟩ ?_ (by show j<j+1;omega);exact Bh
 ·refine⟨_,rfl,?_⟩;refine Va ?_;refine E.CI.cond rfl (λ_=>?_) (λh2=>by cases h2);refine Va ?_;exact QW.bodyI (.inl rfl) rfl ⟨⟨_,rfl⟩,.inr ⟨_,trivial,a6⟩⟩
open Go Go.E Go.RowKit
theorem Wd{B:Nat}{w0 w:World}{D:Nat}(o:Obj)(h:Below B w0 w)(hB:B≤w.heap.size)(hD:B≤D):Below B w0 (w.putObj D o):=
 h.grown (grownBy_putObj' w D o) hB (λk e=>by cases e;exact hD)
structure Abi(m:C7)(lo:Nat)(ok:Nat→Prop)(w w6 W:World)(A R X N:Nat)(v:Value)(pre:List (Fin m.to.length))(L:List Int)(nx:Int):Prop where
 size:w6.heap.size≤W.heap.size
 kept:BW ok w6 W
 below:Below w.heap.size w W
 bX:Blk W X [v,.int .i64 m.new] 71
 bR:Blk W R [.slice none 0 0,.int .i64 0] 71
 bN:Blk W N [.int .i64 nx] 3
 own:E.A3 W lo 3 1 v m.to.length (Ad L)
 nx0:0≤nx
 nx1:nx≤1000000
 at_:GJ pre→L=He m.new m.to (m.to.length - pre.length)∧nx=Dm m.new (m.to.drop (m.to.length - pre.length))
set_option maxRecDepth 8000 in
set_option maxHeartbeats 2000000 in
theorem Uc(m:C7)(tv:Value)(w:World)(h:Bs w tv m.to)(hl:m.to.length≤100000)(hz:∀z∈m.to,-1≤z∧z≤1000000)(hn0:0≤m.new)(hn1:m.new≤1000000):AF prog 131 [.agg ⟨[tv,.int .i64 m.new]⟩] w (λv w'=>∃tv',v=.agg ⟨[tv',.int .i64 m.new]⟩∧E.A3 w' w.heap.size 3 1 tv' m.to.length (Ad (EL m.new 0 m.to))∧Ae w w'):=by
 obtain⟨p,c,rfl⟩:=h.slice;refine AF.enterM func131 rfl ntmps131 Ae1 rfl ?_;apply CW.seq;apply CW.region;refine Sl ?_;refine Dq λA w1 c5 bc hA=>?_;replace hA:Blk w1 A [.slice p m.to.length c,.int .i64 m.new] 71:=hA;refine Sa ?_;refine BX λR w2 af ax hR=>?_;replace hA:=hA.ext ax;have a4:=bc.trans ax;have ay:=bc.size;have c6:=ax.size;have c7:=hR.lt;refine Sa ?_;refine CW.cut (ι:=Nat×Value) (λx w'=>Ae w2 w'∧Blk w' x.1 [x.2,.int .i64 m.new] 71∧E.A3 w' w2.heap.size 3 1 x.2 m.to.length (Ad m.to)∧w2.heap.size≤x.1∧x.1∉Ac x.2) (λx=>[(1,.pointer (some ⟨A,0,none⟩)),(2,.pointer (some ⟨R,0,none⟩)),(3,.pointer (some ⟨x.1,0,none⟩))]) ?_ ?_
 ·apply CW.noP;refine CW.drawG (Ae w2) 7 (λw' h=>h) Ae1 λwa c8=>?_;refine BD ?_;refine GW.two 2 6 Ae1 rfl rfl rfl rfl rfl rfl (λhS=>?_) (λhS=>?_)
  ·refine Ax rfl rfl (Nt m.to _ wa (h.ext (a4.trans hS)) hl) ?_;rintro v wb ⟨hO,ag⟩;obtain⟨vp,vc,rfl⟩:=hO.slice;have a2:=hS.trans ag;have bd:=hS.size;have bn:=ag.size;apply LW.nil;refine QW.headed a2 ?_;refine BD ?_;refine DR 6 λhS=>?_;refine BX λX wc a5 a6 hX=>?_;apply LW.nil;refine QW.headed (a2.trans a6) ?_;refine GW.tail rfl Ae1 (λhS=>?_);refine AR λwd ah hX=>?_;have ai:X∉Ac (.slice vp m.to.length vc):=λhm=>by have:=(hO.lt hm).2;omega
   refine Sa ?_;exact QW.noP_n (QW.head (X,.slice vp m.to.length vc) ⟨(a2.trans a6).step ah Ae0,hX,((hO.ext a6).chg ah (λb hb=>by simp only[Aaw];exact λe=>ai (e ▸ hb))).low bd,by show w2.heap.size≤X;omega,ai⟩ (Ai.cons rfl (Ai.cons rfl (Ai.cons rfl (Ai.nil)))))
  ·refine BX λX wb a5 ag hX=>?_;have a2:=hS.trans ag;have bd:=hS.size;have bn:=ag.size;have bo:=hX.lt;apply LW.nil;refine QW.headed a2 ?_;refine DR 2 λhS=>?_;refine Ax rfl rfl (Nt m.to _ wb (h.ext (a4.trans a2)) hl) ?_;rintro v wc ⟨hO,a6⟩;obtain⟨vp,vc,rfl⟩:=hO.slice;replace hX:=hX.ext a6;apply LW.nil;refine QW.headed (a2.trans a6) ?_;refine BD ?_;refine GW.tail rfl Ae1 (λhS=>?_);refine AR λwd ah hX=>?_;have ai:X∉Ac (.slice vp m.to.length vc):=λhm=>by have:=(hO.lt hm).1;omega
   refine Sa ?_;exact QW.noP_n (QW.head (X,.slice vp m.to.length vc) ⟨(a2.trans a6).step ah Ae0,hX,(hO.chg ah (λb hb=>by simp only[Aaw];exact λe=>ai (e ▸ hb))).low Aez,by show w2.heap.size≤X;omega,ai⟩ (Ai.cons rfl (Ai.cons rfl (Ai.cons rfl (Ai.nil)))))
 rintro⟨X,v⟩ w3 ⟨an,hX,hO,bp,az⟩;dsimp only at hX hO bp az;have be:∀b,b∈Ac v→b<w3.heap.size:=λb hb=>(hO.lt hb).2;show CW _ _ _ _ _ [(1,.pointer (some ⟨A,0,none⟩)),(2,.pointer (some ⟨R,0,none⟩)),(3,.pointer (some ⟨X,0,none⟩))] _;replace hA:=hA.ext an;replace hR:=hR.ext an;have c9:=an.size;have bo:=hX.lt;refine Sw ?_;refine BX λN w4 ad bf hN=>?_;have ca:=bf.size;have bq:=hN.lt;have cb:=hN;refine Sw ?_;refine BO λw5 bg hN=>?_;replace hN:Blk w5 N [.int .i64 m.new] 3:=hN;have a1:Ae w3 w5:=bf.step bg Ae0;have cc:=a1.size;replace hA:=hA.ext a1;replace hR:=hR.ext a1;replace hX:=hX.ext a1;replace hO:=hO.ext a1;refine Sw ?_;refine Ax rfl rfl (PH p m.to.length c w5) ?_;rintro u w6 ⟨rfl,bh,a7⟩;have cd:=a7.size;replace hA:=hA.ext a7;replace hR:=hR.ext a7;replace hX:=hX.ext a7;replace hN:=hN.ext a7;replace hO:=hO.ext a7;have aj:=((a4.trans an).trans a1).trans a7;have ce:=hN.lt;have cf:=bh.lt;have bi:∀j z,m.to[j]?=some z→-1≤z∧z≤1000000:=λj z hj=>hz z (Aa9 hj);refine Sa ?_;refine CW.rangeFunc (α:=Fin m.to.length) (gf:=214) (lb:=[.pointer (some ⟨w5.heap.size,0,none⟩)]) (encs:=XJ m.to) (ok:=λb=>b<w.heap.size∨b=w5.heap.size) (S:=λys=>ys.length=m.to.length∧GJ ys) (Sp:=λ_=>True) (N:=m.to.length) (w0:=w6) rfl Ae1 (TP m.to p c w5.heap.size _ w6 hl bh (.inr rfl) (λcg=>?_) (λb hb=>by omega)) (Below.refl _ _) (λb hb=>by omega) (λ_=>rfl) rfl
  (λpre W=>∃L nx,Abi m w2.heap.size (λb=>b<w.heap.size∨b=w5.heap.size) w w6 W A R X N v pre L nx) (λpre W W' row hb hg hr=>?_) ⟨m.to,m.new,⟨Ab9 _,BW.refl _ _,aj.toBelow,hX,hR,hN,hO,hn0,hn1,λ_=>⟨by simp[Wc],by simp[Dm]⟩⟩⟩ (λx=>[(2,.pointer (some ⟨R,0,none⟩)),(3,.pointer (some ⟨X,0,none⟩)),(4,.pointer (some ⟨N,0,none⟩)),(5,.int .i64 ((x.val:Nat):Int)),(6,.int .i64 (m.to.getD x.val 0))]) ?_ ?_ ?_
 ·obtain⟨z0,h0⟩:∃z,m.to[0]?=some z:=⟨_,Aak Aez⟩;obtain⟨a,ea,br⟩:=Bs.at1 h h0;refine⟨a,ea,.inl ?_,λj z hj=>?_⟩
  ·have:=AcR w _ br
   rwa [BQ] at this
  ·obtain⟨a',e,hc⟩:=Bs.at1 h hj;rw[ea] at e;obtain rfl:=Aa5 e;exact Aw aj hc
 ·obtain⟨L,nx,hb⟩:=hb;have ao:∀r,row=some r→∃o:Obj,W.heap[r]?=some o∧o.isCells=false:=λr e=>(hr r e).2;exact⟨L,nx,⟨Acr hb.size hg.size,hb.kept.trans λb ci=>hg.block b (by have:=hb.size;omega) (λe=>by have:=(hr b e.symm).1;omega),hb.below.grown hg (by have:=hb.size;omega) (λk e=>by have:=(hr k e).1;omega),hb.bX.grown hg ao,hb.bR.grown hg ao,hb.bN.grown hg ao,hb.own.grown hg ao,hb.nx0,hb.nx1,hb.at_⟩⟩
 ·intro lk pre x W K hi hK;have hF:=UT.inRound lk;show E.CI _ _ _ _ _ _ _ ((22,.int .i64 (m.to.getD x.val 0))::(21,.int .i64 ((x.val:Nat):Int))::_) _;refine Va ?_;unfold QW;exact λa ha=>hK a (ha.sub (Ai.cons rfl (Ai.cons rfl (Ai.cons rfl (Ai.cons rfl (Ai.cons rfl (Ai.nil)))))))
 ·rintro lk pre x W ⟨L,nx,hb⟩ bs;have hF:=UT.inRound lk;obtain⟨z,ap⟩:∃z,m.to[x.val]?=some z:=⟨_,Aak x.2⟩;have ez:m.to.getD x.val 0=z:=by rw[AaE,ap];rfl
  obtain⟨bt,ay⟩:=bi _ _ ap;obtain⟨aq,b0,ar,a5,af,ad,ak,b1,b2,au⟩:=hb;have cj:=x.2;have bu:=a5.lt;have bv:=ad.lt;have ck:N≠X:=Aez
  have cl:N≠R:=Aez
  have cm:N<w5.heap.size:=by have:=bq;have:=bg.size;omega
  have cn:w.heap.size≤N:=Aez
  have bj:∀b,b<w.heap.size∨b=w5.heap.size→b≠N:=λb hb=>by omega
  have bk:∀b,b∈Ac v→b≠N:=λb hm=>by have:=be b hm;omega
  rw[ez];refine Va ?_;refine E.CI.cond rfl (λh1=>?_) (λh1=>?_)
  ·have h1:0≤z:=by simpa using h1
   refine Va ?_;refine E.LI.store hF rfl rfl rfl ad rfl rfl rfl λW' hc b3=>?_;replace b3:Blk W' N [.int .i64 z] 3:=b3;refine Va ?_;unfold QW;refine λ_ _=>⟨KeepsFrom.chg hc (λb hm=>by simp only[Aaw] at hm;subst hm;exact⟨_,_,ad⟩),BW.chg hc (λb hm=>⟨by omega,by simp only[Aaw];exact bj b hm⟩),L,z,⟨Acr aq hc.size,b0.trans (BW.chg hc (λb hm=>⟨by omega,by simp only[Aaw];exact bj b hm⟩)),ar.trans (hc.below Aez Ae0),a5.chg hc Ae0,af.chg hc Ae0,b3,ak.chg hc (λb hm=>by simp only[Aaw];exact bk b hm),h1,ay,λb4=>?_⟩⟩;obtain⟨a8,b5⟩:=b4.snoc;obtain⟨e1,e2⟩:=au a8;have e3:m.to.length - pre.length=x.val+1:=Aez
   have e4:m.to.length - (pre++[x]).length=x.val:=Ae0
   rw[e4];obtain⟨e5,e6⟩:=TK (new:=m.new) ap h1;exact⟨by rw[e1,e3,e5],e6.symm⟩
  ·have h1:¬0≤z:=by simpa using h1
   obtain⟨b6,⟨_,bw⟩ | ⟨g,cap,sp,rfl,hG,h5,h6,h7⟩⟩:=ak
   ·omega
   have bl:(Ad L).length=L.length:=AA L;have co:=bk g AeM;have bx:g≠X:=λe=>az (by simp[Ac,e]);have bz:=hG.lt;refine Va ?_;refine E.LI.store (i:=0+((x.val:Nat):Int).toNat*1) hF (by show some (Value.pointer (some (Addr.add ⟨g,0,none⟩ (((x.val:Nat):Int).toNat*1))))=_;rw[An]) rfl rfl hG (Acw AfT) rfl rfl λW' hc b7=>?_;replace b7:Blk W' g (Ad (L.set x.val (-1 - nx))++sp) 3:=by
    have e:(Ad L++sp).set (0+((x.val:Nat):Int).toNat*1) (.int .i64 (-1 - nx))=Ad (L.set x.val (-1 - nx))++sp:=by
     rw[show 0+((x.val:Nat):Int).toNat*1=x.val by omega,AcT _ _ Aez];simp[Ad]
    rw[←e];exact b7
   have bm:∀b,b<w.heap.size∨b=w5.heap.size→b≠g:=λb hb=>by have:=be g AeM;omega
   refine Va ?_;unfold QW;refine λ_ _=>⟨KeepsFrom.chg hc (λb hm=>by simp only[Aaw] at hm;subst hm;exact⟨_,_,hG⟩),BW.chg hc (λb hm=>⟨by omega,by simp only[Aaw];exact bm b hm⟩),L.set x.val (-1 - nx),nx,⟨Acr aq hc.size,b0.trans (BW.chg hc (λb hm=>⟨by omega,by simp only[Aaw];exact bm b hm⟩)),ar.trans (hc.below Aez Ae0),a5.chg hc Ae0,af.chg hc Ae0,ad.chg hc Ae0,⟨by rw[AA,Ado,←bl];exact b6,.inr ⟨g,cap,sp,rfl,b7,h5,h6,h7⟩⟩,b1,b2,λb4=>?_⟩⟩;obtain⟨a8,b5⟩:=b4.snoc;obtain⟨e1,e2⟩:=au a8;have e3:m.to.length - pre.length=x.val+1:=Aez
   have e4:m.to.length - (pre++[x]).length=x.val:=Ae0
   rw[e4];rw[e3] at e1 e2;obtain⟨e5,e6⟩:=TN (new:=m.new) ap h1;exact⟨by rw[e1,e2];exact e5,by rw[e2];exact e6.symm⟩
 ·intro Dd ys W hD c0 hb hK;obtain⟨c1,c2⟩:=c0;obtain⟨L,nx,aq,b0,ar,a5,af,ad,ak,-,-,au⟩:=hb;obtain⟨e1,-⟩:=au c2;rw[c1,Adc,TO] at e1;subst e1;obtain⟨p',c',rfl⟩:=ak.slice;refine Sw ?_;refine CW.loop (ι:=Nat×List Int×Int) (λx w'=>x.1≤m.to.length∧J9 m.new m.to x.1 x.2.1 x.2.2∧x.2.2≤1000001∧Blk w' X [.slice p' m.to.length c',.int .i64 m.new] 71∧E.A3 w' w2.heap.size 3 1 (.slice p' m.to.length c') m.to.length (Ad (x.2.1++DH m.new (m.to.drop x.1)))∧Below w.heap.size w w'∧Blk w' R [.slice none 0 0,.int .i64 0] 71∧w'.heap[Dd]?=some (.deferred (some []))∧w6.heap.size≤w'.heap.size) (λx=>[(2,.pointer (some ⟨R,0,none⟩)),(3,.pointer (some ⟨X,0,none⟩)),(7,.int .i64 x.2.2),(33,.slice p' m.to.length c'),(34,.int .i64 m.to.length),(35,.int .i64 x.1)]) (λx=>m.to.length - x.1) (0,[],0) ⟨Ac8 _,J9.start _ _,by decide,a5,by simpa using ak,ar,af,hK,aq⟩ DL ?_;rintro⟨j,done,free⟩ w7 ⟨hj,hP,hf,b8,ae,av,a9,aa,b9⟩;dsimp only at hj hP hf ae;show CW _ _ _ _ _ [(2,.pointer (some ⟨R,0,none⟩)),(3,.pointer (some ⟨X,0,none⟩)),(7,.int .i64 free),(33,.slice p' m.to.length c'),(34,.int .i64 m.to.length),(35,.int .i64 (j:Int))] _;refine Sw ?_;refine Av (λh1=>?_) λh1=>?_;rotate_left
  ·have h1:j=m.to.length:=by simp at h1;omega
   subst h1;rw[hP.all,Ad1] at ae;have aw:Dd<w7.heap.size:=(Adr.1 aa).1;refine Sw ?_;refine AR λw8 a0 a9=>?_;replace a9:Blk w8 R [.slice p' m.to.length c',.int .i64 m.new] 71:=a9;have c3:=a9;have ba:w8.heap[Dd]?=some (.deferred (some [])):=(a0.block Dd aw Ae0).trans aa;have c4:R∉Ac (.slice p' m.to.length c'):=λhm=>by have:=(ae.lt hm).1;omega
   refine Sw ?_;refine QW.bodyM (.inl rfl) results131 ba (vs:=[.agg ⟨[.slice p' m.to.length c',.int .i64 m.new]⟩]) ⟨⟨R,rfl,FG rfl rfl (c3.put ba rfl) rfl (Et.all _)⟩,trivial⟩ rfl ⟨.slice p' m.to.length c',rfl,?_,?_⟩
   ·refine E.A3.put (E.A3.low (lo:=w2.heap.size) ?_ Aez) ba rfl;have:=ae.chg a0 (λb hb=>by simp only[Aaw];exact λe=>c4 (e ▸ hb))
    simpa[DH] using this
   ·exact Ae.of_below (Wd _ (av.trans (a0.below Aez Ae0)) Afc Aez)
  have h1:j<m.to.length:=by simp at h1;omega
  obtain⟨z,ab⟩:∃z,m.to[j]?=some z:=⟨_,Aak h1⟩;obtain⟨bt,ay⟩:=bi _ _ ab;obtain⟨b6,⟨_,bw⟩ | ⟨g,cap,sp,ev,hG,h5,h6,h7⟩⟩:=id ae
  ·omega
  obtain⟨rfl,-,rfl⟩:=Acd ev;have bl:(Ad (done++DH m.new (m.to.drop j))).length=m.to.length:=by rw[b6];omega
  have bb:=hP.free0;have cp:=Ms hn0 hn1 (l:=m.to.drop (j+1)) (λy hy=>(hz y (AcM hy)).2);have a3:∀u,(if 0≤z then z else -1 - Dm m.new (m.to.drop (j+1)))=u→w7.cell? ((⟨g,0,none⟩:Addr).add (((j:Nat):Int).toNat*1))=some (.int .i64 u):=λu hu=>by
   rw[An];refine hG.cell ?_;rw[show 0+((j:Nat):Int).toNat*1=j by omega,Abg Aez];have:=ZE (new:=m.new) hP.len ab;rw[hu] at this;simp only[Ad,AbA,this,AbZ]
  have bz:=hG.lt;have bx:g≠X:=λe=>az (by simp[Ac,e]);have cq:g≠R:=Aez
  have aw:Dd<w7.heap.size:=(Adr.1 aa).1;have cr:Dd≠g:=λe=>by
   unfold Blk at hG;rw[←e,aa] at hG;cases hG
  by_cases ac:0≤z
  ·have hc:=a3 z (if_pos ac);refine Sw ?_;refine CW.yes rfl Afw ?_;refine Sw ?_;refine QW.again (j+1,done++[z],z+1) ⟨by show j+1≤_;omega,hP.kept ab ac,by show z+1≤_;omega,b8,?_,av,a9,aa,b9⟩ DL Afr;show E.A3 _ _ _ _ _ _ (Ad ((done++[z])++DH m.new (m.to.drop (j+1))));rw[←Ye ab ac];exact ae
  ·have hc:=a3 _ (if_neg ac);have al:∀y,Chg [g] w7=Chg [g] w7∧((Ad (done++DH m.new (m.to.drop j))++sp).set (0+((j:Nat):Int).toNat*1) (.int .i64 y)=Ad ((done++[y])++DH m.new (m.to.drop (j+1)))++sp):=λy=>⟨rfl,by
    rw[show 0+((j:Nat):Int).toNat*1=j by omega,AcT _ _ Aez,←Wu hP.len ab];simp[Ad]⟩
   refine Sw ?_;refine CW.no rfl Ae0 ?_;refine Sw ?_;refine Av (λh2=>?_) λh2=>?_
   ·have h2:free<Dm m.new (m.to.drop (j+1)):=by simp at h2;omega
    refine Sw ?_;refine LW.store (i:=0+((j:Nat):Int).toNat*1) (by show some (Value.pointer (some (Addr.add ⟨g,0,none⟩ (((j:Nat):Int).toNat*1))))=_;rw[An]) rfl rfl hG (Acw AfT) rfl rfl λw8 a0 am=>?_;rw[(al free).2] at am;refine Sw ?_;exact QW.again (j+1,done++[free],free+1) ⟨by show j+1≤_;omega,hP.fill ab ac h2,by show free+1≤_;omega,b8.chg a0 Ae0,⟨by rw[AA,Aax,L6,AcO];have:=hP.len;simp;omega,.inr ⟨g,_,sp,rfl,am,h5,h6,h7⟩⟩,av.trans (a0.below Aez Ae0),a9.chg a0 Ae0,(a0.block Dd aw Ae0).trans aa,Acr b9 a0.size⟩ DL Afr
   ·have h2:¬free<Dm m.new (m.to.drop (j+1)):=by simp at h2;omega
    refine Sw ?_;refine LW.store (i:=0+((j:Nat):Int).toNat*1) (by show some (Value.pointer (some (Addr.add ⟨g,0,none⟩ (((j:Nat):Int).toNat*1))))=_;rw[An]) rfl rfl hG (Acw AfT) rfl rfl λw8 a0 am=>?_;rw[(al (-1)).2] at am;refine Sw ?_;exact QW.again (j+1,done++[-1],free) ⟨by show j+1≤_;omega,hP.gone ab ac h2,hf,b8.chg a0 Ae0,⟨by rw[AA,Aax,L6,AcO];have:=hP.len;simp;omega,.inr ⟨g,_,sp,rfl,am,h5,h6,h7⟩⟩,av.trans (a0.below Aez Ae0),a9.chg a0 Ae0,(a0.block Dd aw Ae0).trans aa,Acr b9 a0.size⟩ DL Afr
section
variable {α:Type} [DecidableEq α]
theorem MM:∀(a b:List α),Dl a b≤a.length
 | [],_=>by simp[Dl]
 | _::_,[]=>by simp[Dl]
 | x::a,y::b=>by
  have h1:=MM a b;have h2:=MM a (y::b);have h3:=MM (x::a) b;simp only[Dl,AaT] at *
  split<;>omega
 termination_by a b=>a.length+b.length
theorem W4{a b:List α}{i k:Nat}(h:a.length≤i):Dl (a.drop i) (b.drop k)=0:=by
 rw[AcD h];simp[Dl]
theorem W5{a b:List α}{i k:Nat}(h:b.length≤k):Dl (a.drop i) (b.drop k)=0:=by
 rw[AcD h];cases a.drop i<;>simp[Dl]
omit [DecidableEq α] in
theorem Ks{l:List α}{i:Nat}{x:α}(h:l[i]?=some x):l.drop i=x::l.drop (i+1):=by
 obtain⟨hi,rfl⟩:=Aav.1 h;exact AcV hi
theorem ZJ{a b:List α}{i k:Nat}{x y:α}(h1:a[i]?=some x)(h2:b[k]?=some y):Dl (a.drop i) (b.drop k)=if x=y then Dl (a.drop (i+1)) (b.drop (k+1))+1 else max (Dl (a.drop (i+1)) (b.drop k)) (Dl (a.drop i) (b.drop (k+1))):=by
 rw[Ks h1,Ks h2];simp only[Dl]
theorem WR{a b:List α}{i k:Nat}{x y:α}(h1:a[i]?=some x)(h2:b[k]?=some y):Be (a.drop i) (b.drop k) i k=if x=y then(i,k)::Be (a.drop (i+1)) (b.drop (k+1)) (i+1) (k+1) else if Dl (a.drop i) (b.drop (k+1))≤Dl (a.drop (i+1)) (b.drop k) then Be (a.drop (i+1)) (b.drop k) (i+1) k else Be (a.drop i) (b.drop (k+1)) i (k+1):=by
 rw[Ks h1,Ks h2];simp only[Be]
theorem Oo{a b:List α}{i k:Nat}(h:a.length≤i∨b.length≤k):Be (a.drop i) (b.drop k) i k=[]:=by
 rcases h with h | h
 ·rw[AcD h];simp[Be]
 ·rw[AcD h];cases a.drop i<;>simp[Be]
def Hw(a b:List α)(i j:Nat):List Int:=(List.range (b.length+1)).map λk=>if j≤k then((Dl (a.drop i) (b.drop k):Nat):Int) else 0
theorem FS(a b:List α)(i j:Nat):(Hw a b i j).length=b.length+1:=by simp[Hw]
theorem Jj{a b:List α}{i j k:Nat}(h:k≤b.length):(Hw a b i j)[k]?=some (if j≤k then((Dl (a.drop i) (b.drop k):Nat):Int) else 0):=by
 simp[Hw,Adf (by omega:k<b.length+1)]
theorem Ot{a b:List α}{i j:Nat}(h:a.length≤i∨b.length≤j):Hw a b i j=List.replicate (b.length+1) 0:=by
 apply Ack;intro k;by_cases hk:k≤b.length
 ·have e:(if j≤k then((Dl (a.drop i) (b.drop k):Nat):Int) else 0)=0:=by
   split
   ·rcases h with h | h
    ·rw[W4 h];rfl
    ·rw[W5 Aez];rfl
   ·rfl
  rw[Jj hk,e,Ada,if_pos Aez]
 ·rw[AbK (by rw[FS];omega),AbK Ae0]
theorem WS{a b:List α}{i j:Nat}(h:j≤b.length):(Hw a b i (j+1)).set j ((Dl (a.drop i) (b.drop j):Nat):Int)=Hw a b i j:=by
 apply Ack;intro k;by_cases hk:k≤b.length
 ·rw[AbS,Jj hk,Jj hk,FS];by_cases e:j=k
  ·subst e;simp;omega
  ·rw[if_neg e];by_cases h2:j+1≤k
   ·rw[if_pos h2,if_pos Aez]
   ·rw[if_neg h2,if_neg Aez]
 ·rw[AbK (by rw[Ado,FS];omega),AbK (by rw[FS];omega)]
omit [DecidableEq α] in
theorem Oq{a b:List α}{i k:Nat}(h1:i<a.length)(h2:k<b.length):∃x y,a[i]?=some x∧b[k]?=some y:=⟨_,_,Aak h1,Aak h2⟩
end
theorem Ww{l:List Int}{k:Nat}:(Ad l)[k]?=(l[k]?).map λz=>.int .i64 z:=by simp[Ad]
theorem N9(l:List Int)(k:Nat)(z:Int):(Ad l).set k (.int .i64 z)=Ad (l.set k z):=by simp[Ad]
theorem HF(l m:List Int):Ad (l++m)=Ad l++Ad m:=by simp[Ad]
theorem Qh(n:Nat):Ad (List.replicate n 0)=List.replicate n (.int .i64 0):=by simp[Ad]
def Kz(n m j r:Nat):Nat:=if m≤r then 0 else if r+1=m then j else n
def H0{α:Type}[DecidableEq α](a b:List α)(m j r:Nat):Option (List Value):=if r≤a.length then some (Ad (Hw a b r (Kz b.length m j r))) else none
theorem IG{α:Type}[DecidableEq α]{a b:List α}{m j r:Nat}(h:r≤a.length):H0 a b m j r=some (Ad (Hw a b r (Kz b.length m j r))):=if_pos h
theorem UF{α:Type}[DecidableEq α]{a b:List α}{m r:Nat}:H0 a b (m+1) 0 r=H0 a b m b.length r:=by
 unfold H0;by_cases h:r≤a.length
 ·rw[if_pos h,if_pos h]
  congr 3
  unfold Kz
  split<;>split<;>(try split)<;>(try split)<;>first | rfl | omega
 ·rw[if_neg h,if_neg h]
theorem IH{α:Type}[DecidableEq α]{a b:List α}{r:Nat}:(if r<a.length+1 then some (List.replicate (b.length+1) (Value.int .i64 0)) else none)=H0 a b a.length b.length r:=by
 unfold H0;by_cases h:r≤a.length
 ·rw[if_pos Aez,if_pos h]
  congr 1
  rw[←Qh]
  congr 1
  unfold Kz
  split
  ·rw[Ot (.inl Aez)]
  ·split<;>rw[Ot (.inr (Ab9 _))]
 ·rw[if_neg Aez,if_neg h]
theorem O9{α:Type}[DecidableEq α]{a b:List α}{m j r:Nat}(hm:m<a.length)(hj:j<b.length){x:List Value}(hx:x=(Ad (Hw a b m (j+1))).set j (.int .i64 ((Dl (a.drop m) (b.drop j):Nat):Int))):(if r=m then some x else H0 a b (m+1) (j+1) r)=H0 a b (m+1) j r:=by
 by_cases h:r=m
 ·subst h;rw[if_pos rfl,IG Aez,hx,N9,WS Aez,Kz,if_neg Aez,if_pos rfl]
 ·rw[if_neg h];unfold H0;by_cases h2:r≤a.length
  ·rw[if_pos h2,if_pos h2]
   congr 3
   unfold Kz
   split
   ·rfl
   ·rw[if_neg Aez,if_neg Aez]
  ·rw[if_neg h2,if_neg h2]
theorem A4.bound{ok:Addr→Prop}{w:World}{v:Value}{l:List (List UInt8)}(h:A4 ok w v l):A4 (λa=>ok a∧a.block<w.heap.size) w v l:=by
 obtain⟨h0,h | ⟨a,c,e,hk,hc⟩⟩:=h
 ·exact⟨h0,.inl h⟩
 ·refine⟨h0,.inr ⟨a,c,e,λhn=>⟨hk hn,?_⟩,hc⟩⟩;obtain⟨a',c',e',a0⟩:=Ao.lt (m:=1) ⟨h0,.inr ⟨a,c,e,hk,hc⟩⟩ Aez hn;rw[e] at e';obtain⟨e1,-,-⟩:=Acd e';obtain rfl:=Aa5 e1;exact a0
structure Ls(a b:List (List UInt8))(av bv:Value)(lo X O:Nat)(xs:List Value)(f:Nat→Nat)(m j:Nat)(w:World):Prop where
 bX:Blk w X [av,bv,.slice (some ⟨O,0,none⟩) (a.length+1) (a.length+1)] 236
 bO:Blk w O xs 69
 len:xs.length=a.length+1
 grid:EQ 3 lo w xs (H0 a b m j) f [O]
theorem Ls.ext{a b:List (List UInt8)}{av bv:Value}{lo X O:Nat}{xs:List Value}{f:Nat→Nat}{m j:Nat}{w w':World}(h:Ls a b av bv lo X O xs f m j w)(x:Ae w w'):Ls a b av bv lo X O xs f m j w':=⟨h.bX.ext x,h.bO.ext x,h.len,h.grid.ext x⟩
theorem Ls.row{a b:List (List UInt8)}{av bv:Value}{lo X O:Nat}{xs:List Value}{f:Nat→Nat}{m j:Nat}{w:World}(h:Ls a b av bv lo X O xs f m j w){r:Nat}(hr:r≤a.length):w.cell? ((⟨O,0,none⟩:Addr).add (r*1))=some (.slice (some ⟨f r,0,none⟩) (b.length+1) (b.length+1)):=by
 have:=h.grid.row h.bO (IG hr)
 rwa [AA,FS] at this
theorem Ls.cell{a b:List (List UInt8)}{av bv:Value}{lo X O:Nat}{xs:List Value}{f:Nat→Nat}{m j:Nat}{w:World}(h:Ls a b av bv lo X O xs f m j w){r k:Nat}(hr:r≤a.length)(hk:k≤b.length)(hl:Kz b.length m j r≤k):w.cell? ((⟨f r,0,none⟩:Addr).add (k*1))=some (.int .i64 ((Dl (a.drop r) (b.drop k):Nat):Int)):=by
 refine h.grid.cell (IG hr) ?_;rw[Ww,Jj hk,if_pos hl];rfl
set_option maxRecDepth 8000 in
set_option maxHeartbeats 2000000 in
theorem Yb(a b:List (List UInt8))(av bv:Value)(X:Nat)(w:World)(ha:A4 (λx=>x.block<X) w av a)(hb:A4 (λx=>x.block<X) w bv b)(hla:a.length≤200)(hlb:b.length≤200)(hX:Blk w X [av,bv,.slice none 0 0] 236) :
  AF prog 213 [.pointer (some ⟨X,0,none⟩)] w (λv w'=>v=.tuple #[]∧Chg [X] w w'∧∃O xs f,Ls a b av bv w.heap.size X O xs f 0 b.length w'):=by
 obtain⟨p,c,rfl⟩:=Ao.slice ha;obtain⟨q,d,rfl⟩:=Ao.slice hb;have bj:=hX.lt;refine AQ func213 ntmps213 ?_;refine Sw ?_;refine LW.makeSlice (m:=a.length+1) rfl rfl rfl rfl rfl rfl rfl Aez rfl rfl ?_;intro O w1 bk ai hO;replace hX:=hX.ext ai;have bl:=ai.size;have bm:=hO.lt;refine Sw ?_;refine BO λw2 aj hX=>?_;replace hX:Blk w2 X [.slice p a.length c,.slice q b.length d,.slice (some ⟨O,0,none⟩) (a.length+1) (a.length+1)] 236:=hX;replace hO:=hO.chg aj Ae0;have bn:=aj.size;have ak:Chg [X] w w2:=ai.chg.same aj;refine Sw ?_;refine CW.loop (ι:=Nat×(Nat→Nat)×List Value) (λx w'=>x.1≤a.length+1∧Chg [O] w2 w'∧Blk w' O x.2.2 69∧x.2.2.length=a.length+1∧EQ 3 w2.heap.size w' x.2.2 (λr=>if r<x.1 then some (List.replicate (b.length+1) (Value.int .i64 0)) else none) x.2.1 [O]) (λx=>[(0,.pointer (some ⟨X,0,none⟩)),(19,.int .i64 ((a.length+1:Nat):Int)),(20,.int .i64 x.1)]) (λx=>a.length+1 - x.1) (0,(λ_=>0),List.replicate (a.length+1) (.slice none 0 0)) ⟨Ac8 _,Chg.refl _ _,hO,by simp,EQ.none.congr rfl (λr=>by simp) (λ_=>rfl)⟩ Bh ?_;rintro⟨k,f,xs⟩ w3 ⟨hk,a9,ad,ae,hG⟩;dsimp only at hk a9 ad ae hG;show CW _ _ _ _ _ [(0,.pointer (some ⟨X,0,none⟩)),(19,.int .i64 ((a.length+1:Nat):Int)),(20,.int .i64 (k:Int))] _;have al:=hX.chg a9 Ae0;have bo:=a9.size;refine Sw ?_;refine Av (λh1=>?_) λh1=>?_
 ·have h1:k<a.length+1:=by simp at h1;omega
  refine Sw ?_;refine CW.drawG (Ae w3) 12 (λw' h=>h) Ae1 λwa b6=>?_;refine BD ?_;refine DR 11 λhS=>?_;refine LW.makeSlice (m:=b.length+1) rfl rfl rfl rfl rfl rfl rfl Aez rfl rfl ?_;intro g w4 bp b7 b8;have af:=hS.trans b7;have bq:=hS.size;apply LW.nil;refine QW.headed af ?_;refine GW.tail rfl Ae1 (λhS=>?_);refine Sw ?_;refine LW.store (i:=0+((k:Nat):Int).toNat*1) (by show some (Value.pointer (some (Addr.add ⟨O,0,none⟩ (((k:Nat):Int).toNat*1))))=_;rw[An]) rfl rfl (ad.ext af) (Acw (by show _+1≤_;omega)) rfl rfl λw5 a8 aq=>?_;rw[show 0+((k:Nat):Int).toNat*1=k by omega] at aq;have b9:=(hG.ext af).other a8 Ae7;have am:=b8.chg a8 Ae0;have ag:=b9.put (r:=k) (g:=g) (x:=List.replicate (b.length+1) (Value.int .i64 0)) Aez am Aez Ae0 (λq y hq _=>by have:=(hG.blk q y hq).1.lt;omega);refine Sw ?_;exact QW.again (k+1,(λq=>if q=k then g else f q),xs.set k (.slice (some ⟨g,0,none⟩) (b.length+1) (b.length+1))) ⟨h1,(a9.ext af).same a8,aq,by simpa using ae,ag.congr Ae7 (λr=>by
   by_cases e:r=k
   ·rw[if_pos e,if_pos Aez]
   ·rw[if_neg e];by_cases e2:r<k
    ·rw[if_pos e2,if_pos (by show r<k+1;omega)]
    ·rw[if_neg e2,if_neg (by show ¬r<k+1;omega)]) (λ_=>rfl)⟩ Bh (by show a.length+1 - (k+1)<a.length+1 - k;omega)
 have h1:k=a.length+1:=by simp at h1;omega
 subst h1;have an:Chg [X] w w3:=ak.more a9 Ae0;have ar:Ls a b (.slice p a.length c) (.slice q b.length d) w.heap.size X O xs f a.length b.length w3:=⟨al,ad,ae,⟨λr x hr=>(hG.congr rfl (λr=>IH) (λ_=>rfl)).val r x hr,λr x hr=>by
  obtain⟨h1,h2,h3⟩:=(hG.congr rfl (λr=>IH) (λ_=>rfl)).blk r x hr;exact⟨h1,by omega,h3⟩,(hG.congr rfl (λr=>IH) (λ_=>rfl)).inj⟩⟩
 clear hG ad al hX hO ae;have al:=ar.bX;refine Sw ?_;refine CW.loop (ι:=Nat) (λm w'=>m≤a.length∧Chg [X] w w'∧Ls a b (.slice p a.length c) (.slice q b.length d) w.heap.size X O xs f m b.length w') (λm=>[(0,.pointer (some ⟨X,0,none⟩)),(3,.int .i64 ((m:Int) - 1))]) (λm=>m) a.length ⟨Ab9 _,an,ar⟩ EH ?_;rintro m w4 ⟨hm,au,ao⟩;have br:=ao.bX;refine Sw ?_;refine Av (λh2=>?_) λh2=>?_;rotate_left
 ·have h2:m=0:=by simp at h2;omega
  subst h2;refine Sw ?_;exact QW.body_n (rs:=[]) (vs:=[]) results213 trivial rfl ⟨rfl,au,O,xs,f,ao⟩
 have h2:0<m:=by simp at h2;omega
 obtain⟨i,rfl⟩:∃i,m=i+1:=⟨m - 1,by omega⟩;have ei:(((i+1:Nat):Int) - 1)=(i:Int):=Aez
 rw[ei];refine Sw ?_;refine CW.loop (ι:=Nat) (λj w'=>j≤b.length∧Chg [X] w w'∧Ls a b (.slice p a.length c) (.slice q b.length d) w.heap.size X O xs f (i+1) j w') (λj=>[(0,.pointer (some ⟨X,0,none⟩)),(3,.int .i64 (i:Int)),(4,.int .i64 ((j:Int) - 1))]) (λj=>j) b.length ⟨Ab9 _,au,ao⟩ Bh ?_;rintro j w5 ⟨hj,a8,a1⟩;have aw:=a1.bX;refine Sw ?_;refine Av (λh3=>?_) λh3=>?_;rotate_left
 ·have h3:j=0:=by simp at h3;omega
  subst h3;refine Sw ?_;exact QW.again i ⟨by omega,a8,⟨a1.bX,a1.bO,a1.len,a1.grid.congr rfl (λr=>UF) (λ_=>rfl)⟩⟩ EH Aez
 have h3:0<j:=by simp at h3;omega
 obtain⟨k,rfl⟩:∃k,j=k+1:=⟨j - 1,by omega⟩;have ek:(((k+1:Nat):Int) - 1)=(k:Int):=Aez
 rw[ek];have hi:i<a.length:=Aez
 have hk:k<b.length:=Aez
 obtain⟨x,y,ax,ay⟩:=Oq hi hk;have az:w5.cell? ((⟨O,0,none⟩:Addr).add (((i:Nat):Int).toNat*1))=some (.slice (some ⟨f i,0,none⟩) (b.length+1) (b.length+1)):=a1.row (r:=i) Aez;have b0:w5.cell? ((⟨O,0,none⟩:Addr).add ((((i:Nat):Int)+1).toNat*1))=some (.slice (some ⟨f (i+1),0,none⟩) (b.length+1) (b.length+1)):=a1.row (r:=i+1) Aez;have hA:w5.cell? ((⟨f (i+1),0,none⟩:Addr).add (((k:Nat):Int).toNat*1))=some (.int .i64 ((Dl (a.drop (i+1)) (b.drop k):Nat):Int)):=a1.cell (r:=i+1) (k:=k) Aez Aez (by simp[Kz]);have hB:w5.cell? ((⟨f i,0,none⟩:Addr).add ((((k:Nat):Int)+1).toNat*1))=some (.int .i64 ((Dl (a.drop i) (b.drop (k+1)):Nat):Int)):=a1.cell (r:=i) (k:=k+1) Aez Aez (by rw[Kz,if_neg Aez,if_pos rfl];omega);have hC:w5.cell? ((⟨f (i+1),0,none⟩:Addr).add ((((k:Nat):Int)+1).toNat*1))=some (.int .i64 ((Dl (a.drop (i+1)) (b.drop (k+1)):Nat):Int)):=a1.cell (r:=i+1) (k:=k+1) Aez Aez (by simp[Kz]);have ba:=MM (a.drop (i+1)) (b.drop (k+1));rw[AcO] at ba;have a6:H0 a b (i+1) (k+1) i=some (Ad (Hw a b i (k+1))):=by
  rw[IG Aez,Kz,if_neg Aez,if_pos rfl]
 obtain⟨b1,bb,bc⟩:=a1.grid.blk i _ a6;have aa:H0 a b (i+1) (k+1) (i+1)=some (Ad (Hw a b (i+1) 0)):=by
  rw[IG Aez,Kz,if_pos Aez]
 have bd:f (i+1)≠f i:=λe=>by have:=a1.grid.inj _ _ _ _ aa a6 e;omega
 have a3:f i≠O:=by simpa using bc
 have bs:(Ad (Hw a b i (k+1))).length=b.length+1:=by rw[AA,FS]
 refine Sw ?_;refine CW.drawG (Ae w5) 32 (λw' h=>h) Ae1 λwa b6=>?_;refine BD ?_;refine GW.tail rfl Ae1 (λhS=>?_);refine LW.store (i:=0+((k:Nat):Int).toNat*1) (by show some (Value.pointer (some (Addr.add ⟨f i,0,none⟩ (((k:Nat):Int).toNat*1))))=_;rw[An]) rfl rfl (b1.ext hS) (Acw (by show _+1≤_;omega)) rfl rfl λw6 a7 ap=>?_;rw[show 0+((k:Nat):Int).toNat*1=k by omega] at ap;have a4:Chg [X] w w6:=(a8.ext hS).more a7 Ae0;have b2:=(aw.ext hS).chg a7 Ae0;have b3:=(a1.bO.ext hS).chg a7 (by simpa using λe:O=f i=>a3 e.symm);have ag:=(a1.grid.ext hS).set a6 a7 ap;obtain⟨xa,be,-,-,bt⟩:=A4.at (A4.chg ha a4 (λ_ a0 h0=>by simp;omega)) ax;obtain⟨ya,bf,-,-,bu⟩:=A4.at (A4.chg hb a4 (λ_ a0 h0=>by simp;omega)) ay;subst be bf;have ab:w6.cell? ((⟨O,0,none⟩:Addr).add (((i:Nat):Int).toNat*1))=some (.slice (some ⟨f i,0,none⟩) (b.length+1) (b.length+1)):=Fi a7 (by rw[BQ];simpa using λe:O=f i=>a3 e.symm) (A2 hS az);have ac:w6.cell? ((⟨O,0,none⟩:Addr).add ((((i:Nat):Int)+1).toNat*1))=some (.slice (some ⟨f (i+1),0,none⟩) (b.length+1) (b.length+1)):=Fi a7 (by rw[BQ];simpa using λe:O=f i=>a3 e.symm) (A2 hS b0);have b4:w6.cell? ((⟨f (i+1),0,none⟩:Addr).add ((((k:Nat):Int)+1).toNat*1))=some (.int .i64 ((Dl (a.drop (i+1)) (b.drop (k+1)):Nat):Int)):=Fi a7 (by rw[BQ];simpa using bd) (A2 hS hC);clear az b0 hA hB hC aw b1;refine Sw ?_;refine HZ ?_;refine MF ?_;refine QL.nil λw7 a2=>?_;have a5:=ZJ ax ay;refine Sa ?_;refine Av (λh4=>?_) λh4=>?_
 ·have h4:x=y:=by simpa using h4
  rw[if_pos h4] at a5;have bg:=b2.ext a2;replace ab:=A2 a2 ab;replace ac:=A2 a2 ac;replace b4:=A2 a2 b4;have bh:=ap.ext a2;refine Sw ?_;refine CW.drawG (Ae w7) 22 (λw' h=>h) Ae1 λwb bw=>?_;refine BD ?_;refine GW.tail rfl Ae1 (λhS=>?_);refine LW.store (i:=0+((k:Nat):Int).toNat*1) (by show some (Value.pointer (some (Addr.add ⟨f i,0,none⟩ (((k:Nat):Int).toNat*1))))=_;rw[An]) rfl rfl (bh.ext hS) (Acw (by show _+1≤_;rw[Ado];omega)) rfl rfl λw8 ah b5=>?_;rw[show 0+((k:Nat):Int).toNat*1=k by omega] at b5;have bi:=((ag.ext a2).ext hS).set (r:=i) (k:=k) (if_pos rfl) ah b5;refine Sw ?_;refine QW.again k ⟨by omega,((a4.ext a2).ext hS).more ah Ae0,(bg.ext hS).chg ah Ae0,((b3.ext a2).ext hS).chg ah (by simpa using λe:O=f i=>a3 e.symm),a1.len,bi.congr rfl (λr=>?_) (λ_=>rfl)⟩ Bh Aez;rw[←O9 (r:=r) hi hk rfl];by_cases e:r=i
  ·rw[if_pos e,if_pos e,Ae6,a5];rfl
  ·rw[if_neg e,if_neg e,if_neg e]
 ·have h4:x≠y:=by simpa using h4
  rw[if_neg h4] at a5;refine Sw ?_;refine QW.again k ⟨by omega,a4.ext a2,b2.ext a2,b3.ext a2,a1.len,(ag.ext a2).congr rfl (λr=>?_) (λ_=>rfl)⟩ Bh Aez;rw[←O9 (r:=r) hi hk rfl];by_cases e:r=i
  ·rw[if_pos e,if_pos e,a5]
   congr 3
   rw[Nat.max_def]
   split<;>split<;>omega
  ·rw[if_neg e,if_neg e]
set_option maxRecDepth 8000 in
set_option maxHeartbeats 1000000 in
theorem Zl(a b:List (List UInt8))(av bv:Value)(lo X O:Nat)(xs:List Value)(f:Nat→Nat)(w:World)(ha:CD w av a)(hb:CD w bv b)(hla:a.length≤200)(hlb:b.length≤200)(hT:Ls a b av bv lo X O xs f 0 b.length w) :
  AF prog 175 [.pointer (some ⟨X,0,none⟩)] w (λv w'=>∃xv yv,v=.tuple #[xv,yv]∧A3 w' w.heap.size 3 1 xv (Be a b 0 0).length (Ad ((Be a b 0 0).map λz=>(z.1:Int)))∧A3 w' w.heap.size 3 1 yv (Be a b 0 0).length (Ad ((Be a b 0 0).map λz=>(z.2:Int)))∧Ae w w'):=by
 obtain⟨p,c,rfl⟩:=ha.slice;obtain⟨q,d,rfl⟩:=hb.slice;have hX:=hT.bX;refine AQ func175 ntmps175 ?_;refine Sa ?_;refine CW.loop (ι:=(Nat×Nat)×List (Nat×Nat)×Value×Value) (λx w'=>x.1.1≤a.length∧x.1.2≤b.length∧Ae w w'∧x.2.1.length≤x.1.1∧x.2.1++Be (a.drop x.1.1) (b.drop x.1.2) x.1.1 x.1.2=Be a b 0 0∧A3 w' w.heap.size 3 1 x.2.2.1 x.2.1.length (Ad (x.2.1.map λz=>(z.1:Int)))∧A3 w' w.heap.size 3 1 x.2.2.2 x.2.1.length (Ad (x.2.1.map λz=>(z.2:Int)))∧(∀g,g∈Ac x.2.2.1→g∉Ac x.2.2.2)) (λx=>[(0,.pointer (some ⟨X,0,none⟩)),(2,x.2.2.1),(3,x.2.2.2),(4,.int .i64 x.1.1),(5,.int .i64 x.1.2)]) (λx=>(a.length - x.1.1)+(b.length - x.1.2)) ((0,0),[],.slice none 0 0,.slice none 0 0) ⟨Ac8 _,Ac8 _,Chg.refl _ _,Ab9 _,by simp,A3.nil _ _ _ _,A3.nil _ _ _ _,by simp[Ac]⟩ Cu ?_;rintro⟨⟨i,k⟩,ps,xv,yv⟩ w1 ⟨hi,hk,a5,ag,a0,a4,a2,hd⟩;dsimp only at hi hk ag a0 a4 a2 hd;show CW _ _ _ _ _ [(0,.pointer (some ⟨X,0,none⟩)),(2,xv),(3,yv),(4,.int .i64 (i:Int)),(5,.int .i64 (k:Int))] _;have am:=hX.ext a5;have an:=hT.ext a5;have aw:=a5.size;refine Sw ?_;by_cases h1:i<a.length;rotate_left
 ·refine LW.know (t:=13) (c:=false) rfl Ae0 ?_;refine Sw ?_;rw[Oo (.inl Aez),Acq] at a0;subst a0;exact QW.body2 rfl rfl rfl ⟨xv,yv,rfl,a4,a2,a5⟩
 refine LW.know (t:=13) (c:=true) rfl Ae0 ?_;refine Sw ?_;refine Av (λh2=>?_) λh2=>?_;rotate_left
 ·have h2:¬k<b.length:=by simp at h2;omega
  refine Sw ?_;rw[Oo (.inr Aez),Acq] at a0;subst a0;exact QW.body2 rfl rfl rfl ⟨xv,yv,rfl,a4,a2,a5⟩
 have h2:k<b.length:=by simp at h2;omega
 obtain⟨x,y,ah,ai⟩:=Oq h1 h2;obtain⟨xa,ao,-,-,ax⟩:=A4.at (A4.ext ha a5) ah;obtain⟨ya,ap,-,-,ay⟩:=A4.at (A4.ext hb a5) ai;subst ao ap;have a6:=WR ah ai;refine Sw ?_;refine HZ ?_;refine MF ?_;refine QL.nil λw2 a3=>?_;have a7:=a5.trans a3;have az:=am.ext a3;have ab:=an.ext a3;refine Sa ?_;refine Av (λh3=>?_) λh3=>?_
 ·have h3:x=y:=by simpa using h3
  rw[if_pos h3] at a6;rw[a6] at a0;replace a4:=a4.ext a3;replace a2:=a2.ext a3;have b0:=a3.size;refine Sa ?_;refine Cx λC w3 b1 a1 hC=>?_;refine Sa ?_;refine LW.append (lo:=w.heap.size) (k:=ps.length) rfl rfl rfl rfl rfl rfl (a4.ext a1) AfJ hC rfl rfl rfl AfL rfl ?_;intro xv' w4 ac a8 aq;have ad:=(a2.ext a1).chg ac (λg hg hm=>hd g hm hg);have b2:=ac.size;have b3:=a1.size;refine Sa ?_;refine Cx λF w5 b4 a9 hF=>?_;refine Sa ?_;refine LW.append (lo:=w.heap.size) (k:=ps.length) rfl rfl rfl rfl rfl rfl (ad.ext a9) (by have:=a9.size;omega) hF rfl rfl rfl AfL rfl ?_;intro yv' w6 aj ae ar;have ak:∀g,g∈Ac xv'→g∉Ac yv:=λg hg hm=>by
   rcases aq g hg with h | h
   ·exact hd g h hm
   ·have:=(a2.lt hm).2;omega
  have af:=(a8.ext a9).chg aj (λg hg hm=>ak g hg hm);refine Sa ?_;refine QW.again ((i+1,k+1),ps++[(i,k)],xv',yv') ⟨by show i+1≤_;omega,by show k+1≤_;omega,(((a7.trans a1).step ac (λb hb=>(a4.lt hb).1)).trans a9).step aj (λb hb=>(a2.lt hb).1),by simp;omega,by simpa using a0,?_,?_,λg hg hm=>?_⟩ Cu (by show(a.length - (i+1))+(b.length - (k+1))<(a.length - i)+(b.length - k);omega)
  ·show A3 _ _ _ _ xv' (ps++[(i,k)]).length (Ad ((ps++[(i,k)]).map λz=>(z.1:Int)));rw[Ac1,HF,Aax];exact af
  ·show A3 _ _ _ _ yv' (ps++[(i,k)]).length (Ad ((ps++[(i,k)]).map λz=>(z.2:Int)));rw[Ac1,HF,Aax];exact ae
  ·have al:g∈Ac xv':=hg;have au:g∈Ac yv':=hm;rcases ar g au with h | h
   ·exact ak g al h
   ·have:=(a8.lt al).2;have:=a9.size;omega
 have h3:x≠y:=by simpa using h3
 rw[if_neg h3] at a6;have b5:w2.cell? ((⟨O,0,none⟩:Addr).add (((i:Nat):Int).toNat*1))=some (.slice (some ⟨f i,0,none⟩) (b.length+1) (b.length+1)):=ab.row (r:=i) Aez;have b6:w2.cell? ((⟨O,0,none⟩:Addr).add ((((i:Nat):Int)+1).toNat*1))=some (.slice (some ⟨f (i+1),0,none⟩) (b.length+1) (b.length+1)):=ab.row (r:=i+1) Aez;have hA:w2.cell? ((⟨f (i+1),0,none⟩:Addr).add (((k:Nat):Int).toNat*1))=some (.int .i64 ((Dl (a.drop (i+1)) (b.drop k):Nat):Int)):=ab.cell (r:=i+1) (k:=k) Aez Aez (by simp[Kz]);have hB:w2.cell? ((⟨f i,0,none⟩:Addr).add ((((k:Nat):Int)+1).toNat*1))=some (.int .i64 ((Dl (a.drop i) (b.drop (k+1)):Nat):Int)):=ab.cell (r:=i) (k:=k+1) Aez Aez (by simp[Kz]);refine Sw ?_;refine HZ ?_;refine MF ?_;refine QL.nil λw3 a1=>?_;have aa:=a7.trans a1;refine Sa ?_;refine Av (λh4=>?_) λh4=>?_
 ·have h4:Dl (a.drop i) (b.drop (k+1))≤Dl (a.drop (i+1)) (b.drop k):=by simp at h4;omega
  rw[a6,if_pos h4] at a0;refine Sa ?_;exact QW.again ((i+1,k),ps,xv,yv) ⟨by show i+1≤_;omega,hk,aa,by show ps.length≤i+1;omega,a0,a4.ext (a3.trans a1),a2.ext (a3.trans a1),hd⟩ Cu (by show(a.length - (i+1))+(b.length - k)<(a.length - i)+(b.length - k);omega)
 ·have h4:¬Dl (a.drop i) (b.drop (k+1))≤Dl (a.drop (i+1)) (b.drop k):=by simp at h4;omega
  rw[a6,if_neg h4] at a0;refine Sa ?_;exact QW.again ((i,k+1),ps,xv,yv) ⟨hi,by show k+1≤_;omega,aa,ag,a0,a4.ext (a3.trans a1),a2.ext (a3.trans a1),hd⟩ Cu (by show(a.length - i)+(b.length - (k+1))<(a.length - i)+(b.length - k);omega)
theorem RQ(a b:List (List UInt8))(av bv:Value)(w:World)(ha:CD w av a)(hb:CD w bv b)(hla:a.length≤200)(hlb:b.length≤200):AF prog 174 [av,bv] w (λv w'=>∃X O xs f lo,v=.tuple #[.pointer (some ⟨X,0,none⟩),.bool true]∧Ls a b av bv lo X O xs f 0 b.length w'∧Ae w w'):=by
 obtain⟨p,c,rfl⟩:=ha.slice;obtain⟨q,d,rfl⟩:=hb.slice;have a2:=A4.bound ha;have a3:=A4.bound hb;refine AQ func174 ntmps174 ?_;refine Sa ?_;refine LW.know (t:=11) (c:=false) rfl Ae0 ?_;refine Sa ?_;refine CW.no rfl Ae0 ?_;refine Sa ?_;refine Dq λX w1 a5 a1 hX=>?_;replace hX:Blk w1 X [.slice p a.length c,.slice q b.length d,.slice none 0 0] 236:=hX;refine Sa ?_;refine LW.call (fs:=[.pointer (some ⟨X,0,none⟩)]) (cs:=[]) rfl rfl rfl (Yb a b _ _ X w1 (Ao.map (A4.ext a2 a1) (λa0 h0=>by have:=h0.2;omega) λ_ _ _ _ h=>h) (Ao.map (A4.ext a3 a1) (λa0 h0=>by have:=h0.2;omega) λ_ _ _ _ h=>h) hla hlb hX) ?_;rintro v w2 ⟨rfl,a4,O,xs,f,hT⟩;refine Sa ?_;exact QW.body2 rfl rfl rfl ⟨X,O,xs,f,_,rfl,hT,a1.step a4 Ae0⟩
theorem VU(a b:List (List UInt8))(av bv:Value)(w:World)(ha:CD w av a)(hb:CD w bv b)(hla:a.length≤200)(hlb:b.length≤200):AF prog 130 [av,bv] w (λv w'=>∃xv yv,v=.tuple #[xv,yv]∧A3 w' w.heap.size 3 1 xv (Be a b 0 0).length (Ad ((Be a b 0 0).map λz=>(z.1:Int)))∧A3 w' w.heap.size 3 1 yv (Be a b 0 0).length (Ad ((Be a b 0 0).map λz=>(z.2:Int)))∧Ae w w'):=by
 refine AQ func130 ntmps130 ?_;refine Sa ?_;refine Ax rfl rfl (RQ a b av bv w ha hb hla hlb) ?_;rintro v w1 ⟨X,O,xs,f,lo,rfl,hT,a0⟩;refine Sa ?_;refine Ax rfl rfl (Zl a b av bv lo X O xs f w1 (ha.ext a0) (hb.ext a0) hla hlb hT) ?_;rintro v w2 ⟨xv,yv,rfl,a1,a2,a3⟩;refine Sa ?_;exact QW.body2 rfl rfl rfl ⟨xv,yv,rfl,a1.low a0.size,a2.low a0.size,a0.trans a3⟩
theorem HQ{α:Type}[DecidableEq α]:∀(a b:List α) (i k:Nat),(Be a b i k).length≤a.length
 | [],_,_,_=>by simp[Be]
 | _::_,[],_,_=>by simp[Be]
 | x::a,y::b,i,k=>by
  have h1:=HQ a b (i+1) (k+1);have h2:=HQ a (y::b) (i+1) k;have h3:=HQ (x::a) b i (k+1);simp only[Be]
  split
  ·simp only[AaT];omega
  ·split
   ·simp only[AaT] at *;omega
   ·exact h3
 termination_by a b=>a.length+b.length
theorem Qy(n:Nat)(ps:List (Nat×Nat))(p:Nat×Nat):Cj n (ps++[p])=(Cj n ps).set p.1 (p.2:Int):=by simp[Cj]
theorem Sb{n:Nat}{ps:List (Nat×Nat)}{z:Int}(hz:z∈Cj n ps):z=-1∨∃p∈ps,z=(p.2:Int):=by
 have key:∀(qs ps:List (Nat×Nat)) (l:List Int),(∀p∈ps,p∈qs)→(∀z∈l,z=-1∨∃p∈qs,z=(p.2:Int))→∀z∈ps.foldl (λl p=>l.set p.1 (p.2:Int)) l,z=-1∨∃p∈qs,z=(p.2:Int):=by
  intro qs ps
  induction ps with
  | nil=>intro l _ hl z hz;exact hl z hz
  | cons p ps ih=>
   intro l hq hl z hz;refine ih (l.set p.1 (p.2:Int)) (λp hp=>hq p (Aci _ hp)) (λy hy=>?_) z hz;rcases AcW hy with h | h
   ·exact hl y h
   ·exact .inr ⟨p,hq p (Acv ..),h⟩
 exact key ps ps _ (λ_ h=>h) (λz hz=>.inl (AdK.1 hz).2) z hz
theorem Ya(n k:Nat)(hk:k<n):(Ad (List.replicate k (-1)++List.replicate (n - k) 0)).set (0+((k:Nat):Int).toNat*1) (.int .i64 (-1))=Ad (List.replicate (k+1) (-1)++List.replicate (n - (k+1)) 0):=by
 rw[show 0+((k:Nat):Int).toNat*1=k by omega];simp only[Ad,←List.map_set];rw[AcY _ _ Ae7,AcB,Adc,show n - k=(n - (k+1))+1 by omega,Ade,Ad4,List.replicate_succ',Abh];rfl
theorem Om{w:World}{lo n c:Nat}{p:Option Addr}{zs:List Int}(h:E.A3 w lo 3 1 (.slice p n c) n (Ad zs)){i:Nat}{z:Int}(hi:zs[i]?=some z):∃g,p=some ⟨g,0,none⟩∧w.cell? ((⟨g,0,none⟩:Addr).add (((i:Nat):Int).toNat*1))=some (.int .i64 z):=by
 have a0:=(Aav.1 hi).1;have hl:=h.1;rw[AA] at hl;obtain⟨g,cap,sp,e,hB,-⟩:=h.get Aez;obtain⟨rfl,-,rfl⟩:=Acd e;refine⟨g,rfl,?_⟩;rw[An];refine hB.cell ?_;rw[show 0+((i:Nat):Int).toNat*1=i by omega,Abg (by rw[AA];exact a0)];simp[Ad,hi]
theorem XL{w:World}{T n c:Nat}{zs:List Int}{t:TypeId}(h:Blk w T (Ad zs) t)(hn:zs.length=n)(hl:n≤100000):Bs w (.slice (some ⟨T,0,none⟩) n c) zs:=by
 subst hn;exact⟨by omega,.inr ⟨⟨T,0,none⟩,c,rfl,λj z hj=>by rw[An];exact h.cell (by simp[Ad,hj])⟩⟩
set_option maxRecDepth 8000 in
set_option maxHeartbeats 2000000 in
theorem On(a b:List (List UInt8))(av bv:Value)(w:World)(ha:CD w av a)(hb:CD w bv b)(hla:a.length≤200)(hlb:b.length≤200):AF prog 91 [av,bv] w (λv w'=>∃tv,v=.agg ⟨[tv,.int .i64 ((b.length:Nat):Int)]⟩∧E.A3 w' w.heap.size 3 1 tv a.length (Ad (DF a b))∧Ae w w'):=by
 obtain⟨p,c,rfl⟩:=ha.slice;obtain⟨q,d,rfl⟩:=hb.slice;have ab:∀z∈Be a b 0 0,z.1<a.length∧z.2<b.length:=λz hz=>by have:=Ji a b 0 0 z hz;omega
 have ao:=HQ a b 0 0;generalize ah:Be a b 0 0=ps at ab ao;refine AQ func91 ntmps91 ?_;apply CW.seq;apply CW.region;refine Sl ?_;refine BX λR w1 b4 ai hR=>?_;have ap:=ai.size;have b5:=hR.lt;refine Sa ?_;refine LW.makeSlice (m:=a.length) rfl rfl rfl rfl rfl rfl rfl Aez rfl rfl ?_;intro T w2 b6 ac hT;have aq:=ac.size;have b7:=hT.lt;refine Sa ?_;refine BX λX w3 b8 aj hX=>?_;have b9:=aj.size;have ba:=hX.lt;have bb:=hX;refine Sa ?_;refine AR λw4 ar hX=>?_;replace hX:Blk w4 X [.slice (some ⟨T,0,none⟩) a.length a.length,.int .i64 ((b.length:Nat):Int)] 71:=hX;have a0:Ae w2 w4:=aj.step ar Ae0;replace hR:=(hR.ext ac).ext a0;replace hT:=hT.ext a0;have ad:Ae w w4:=(ai.trans ac).trans a0;have bc:=a0.size;have e0:List.replicate a.length (Value.int .i64 0)=Ad (List.replicate 0 (-1)++List.replicate (a.length - 0) 0):=by simp[Ad]
 rw[e0] at hT;refine Sw ?_;refine CW.loop (ι:=Nat) (λk w'=>k≤a.length∧Chg [T] w4 w'∧Blk w' T (Ad (List.replicate k (-1)++List.replicate (a.length - k) 0)) 3) (λk=>[(0,.slice p a.length c),(1,.slice q b.length d),(4,.pointer (some ⟨R,0,none⟩)),(5,.pointer (some ⟨X,0,none⟩)),(18,.int .i64 a.length),(19,.int .i64 k)]) (λk=>a.length - k) 0 ⟨by omega,Chg.refl _ _,hT⟩ DL ?_;rintro k w5 ⟨hk,a4,ak⟩;have au:=hX.chg a4 Ae0;refine Sw ?_;refine Av (λh1=>?_) λh1=>?_
 ·have h1:k<a.length:=by simp at h1;omega
  refine Sw ?_;refine LW.store (i:=0+((k:Nat):Int).toNat*1) (by show some (Value.pointer (some (Addr.add ⟨T,0,none⟩ (((k:Nat):Int).toNat*1))))=_;rw[An]) rfl rfl ak (Acw (by show _+1≤_;rw[AA,Aax,AcB,AcB];omega)) rfl rfl λw6 aw a5=>?_;rw[Ya a.length k h1] at a5;refine Sw ?_;exact QW.again (k+1) ⟨by omega,a4.same aw,a5⟩ DL Aez
 have h1:k=a.length:=by simp at h1;omega
 subst h1;have a1:Ae w w5:=ad.step a4 Ae0;have ax:=hR.chg a4 Ae0;have bd:=a4.size;refine Sw ?_;refine Ax rfl rfl (VU a b _ _ w5 (ha.ext a1) (hb.ext a1) hla hlb) ?_;rintro v w6 ⟨xv,yv,rfl,a9,aa,a6⟩;rw[ah] at a9 aa;obtain⟨xp,xc,rfl⟩:=a9.slice;obtain⟨yp,yc,rfl⟩:=aa.slice;have be:=a6.size;have ay:=ax.ext a6;have az:=au.ext a6;have a5:=ak.ext a6;have e1:List.replicate a.length (-1)++List.replicate (a.length - a.length) 0=Cj a.length (ps.take 0):=by simp[Cj]
 rw[e1] at a5;refine Sw ?_;refine CW.loop (ι:=Nat) (λk w'=>k≤ps.length∧Chg [T] w6 w'∧Blk w' T (Ad (Cj a.length (ps.take k))) 3) (λk=>[(4,.pointer (some ⟨R,0,none⟩)),(5,.pointer (some ⟨X,0,none⟩)),(7,.slice xp ps.length xc),(8,.slice yp ps.length yc),(34,.int .i64 ps.length),(35,.int .i64 k)]) (λk=>ps.length - k) 0 ⟨by omega,Chg.refl _ _,a5⟩ DL ?_;rintro k w7 ⟨hk,a2,ae⟩;have bf:=az.chg a2 Ae0;have a3:=ay.chg a2 Ae0;have bg:∀v,∀b∈Ac v,w5.heap.size≤b→b≠T:=λ_ b _ h=>by omega
 have af:=a9.chg a2 (λb hb=>by have:=(a9.lt hb).1;simp;omega);have ag:=aa.chg a2 (λb hb=>by have:=(aa.lt hb).1;simp;omega);have bh:=a2.size;refine Sw ?_;refine Av (λh2=>?_) λh2=>?_
 ·have h2:k<ps.length:=by simp at h2;omega
  obtain⟨z,hz⟩:∃z,ps[k]?=some z:=⟨_,Aak h2⟩;obtain⟨ap,aq⟩:=ab z (Aa9 hz);obtain⟨xg,rfl,bi⟩:=Om af (i:=k) (z:=(z.1:Int)) (by simp[hz]);obtain⟨yg,rfl,bj⟩:=Om ag (i:=k) (z:=(z.2:Int)) (by simp[hz]);refine Sw ?_;refine CW.drawG (Ae w7) 11 (λw' h=>h) Ae1 λwa bk=>?_;refine BD ?_;refine GW.tail rfl Ae1 (λhS=>?_);refine LW.store (i:=0+((z.1:Nat):Int).toNat*1) (by show some (Value.pointer (some (Addr.add ⟨T,0,none⟩ (((z.1:Nat):Int).toNat*1))))=_;rw[An]) rfl rfl (ae.ext hS) (Acw (by show _+1≤_;rw[AA,Fo];omega)) rfl rfl λw8 b0 al=>?_;have e2:(Ad (Cj a.length (ps.take k))).set (0+((z.1:Nat):Int).toNat*1) (.int .i64 (z.2:Int))=Ad (Cj a.length (ps.take (k+1))):=by
   rw[show 0+((z.1:Nat):Int).toNat*1=z.1 by omega,N9,Aco,hz];show _=Ad (Cj a.length (ps.take k++[z]));rw[Qy]
  rw[e2] at al;refine Sw ?_;exact QW.again (k+1) ⟨by omega,(a2.ext hS).same b0,al⟩ DL Aez
 have h2:k=ps.length:=by simp at h2;omega
 subst h2;rw[Acs] at ae;have a7:Ae w w7:=by
  have h1:Chg [T] w5 w7:=(a6.chg).same a2;exact a1.step h1 Ae0
 have b1:Bs w7 (.slice (some ⟨T,0,none⟩) a.length a.length) (Cj a.length ps):=XL ae (Fo _ _) Aez;have b2:∀z∈Cj a.length ps,-1≤z∧z≤1000000:=λz hz=>by
  rcases Sb hz with rfl | ⟨y,hy,rfl⟩
  ·omega
  ·have:=ab y hy;omega
 refine Sw ?_;refine Ax rfl rfl (Uc ⟨Cj a.length ps,((b.length:Nat):Int)⟩ _ w7 b1 (by rw[Fo];omega) b2 (by show(0:Int)≤((b.length:Nat):Int);omega) (by show((b.length:Nat):Int)≤1000000;omega)) ?_;rintro v w8 ⟨tv,rfl,a8,am⟩;dsimp only at a8;rw[Fo] at a8;replace a3:=a3.ext am;have b3:∀b∈Ac tv,b≠R:=λb hb=>by have:=(a8.lt hb).1;omega
 obtain⟨tp,tc,rfl⟩:=a8.slice;refine Sa ?_;refine AR λw9 an a3=>?_;replace a3:Blk w9 R [.slice tp a.length tc,.int .i64 ((b.length:Nat):Int)] 71:=a3;refine Sa ?_;refine QW.body_c rfl rfl a3 rfl rfl rfl ⟨_,rfl,?_,(a7.trans am).step an Ae0⟩;have h9:=(a8.chg an (λb hb=>by simp only[Aaw];exact b3 b hb)).low (lo':=w.heap.size) (by have:=a7.size;omega);rw[DF,ah];exact h9
theorem NG{s:Af}(hs:Dy s){w:World}{lo:Nat}{v:Value}(h:E.A3 w lo 9 1 v (s.rows.map EU).length ((s.rows.map EU).map Am)):CD w v (s.rows.map EU):=
 Gi h (by have:=hs.rows;simp;omega) λt ht=>by
  simp only[Acu] at ht;obtain⟨r,hr,rfl⟩:=ht;have:=Yr (hs.row hr);omega
set_option maxRecDepth 8000 in
set_option maxHeartbeats 1000000 in
theorem Wa(a b:Af)(ra rb:Value)(w:World)(ha:EK w ra a.rows)(hb:EK w rb b.rows)(hsa:Dy a)(hsb:Dy b):AF prog 65 [.agg ⟨Ap a ra⟩,.agg ⟨Ap b rb⟩] w (λv w'=>∃tv,v=.agg ⟨[tv,.int .i64 ((b.rows.length:Nat):Int)]⟩∧E.A3 w' w.heap.size 3 1 tv a.rows.length (Ad (Da a b))∧Ae w w'):=by
 obtain⟨p,c,rfl⟩:=ha.slice;obtain⟨q,d,rfl⟩:=hb.slice;have af:=hsa.rows;have ag:=hsb.rows;refine AQ func65 ntmps65 ?_;apply CW.seq;apply CW.region;refine Sl ?_;refine Dq λA w1 ah a7 hA=>?_;replace hA:Blk w1 A (Ap a (.slice p a.rows.length c)) 41:=hA;refine Sl ?_;refine Dq λB w2 ai a2 hB=>?_;replace hB:Blk w2 B (Ap b (.slice q b.rows.length d)) 41:=hB;refine Sa ?_;refine BX λR w3 aj a3 hR=>?_;replace hA:=(hA.ext a2).ext a3;replace hB:=hB.ext a3;have a0:=(a7.trans a2).trans a3;have ak:=a0.size;have al:=hR.lt;have am:w.heap.size≤R:=by have:=a7.size;have:=a2.size;omega
 refine Sa ?_;refine CW.drawG (Ae w3) 5 (λw' h=>h) Ae1 λwa an=>?_;refine BD ?_;refine DR 1 λhS=>?_;refine Ax rfl rfl (RK a _ _ (ha.ext (a0.trans hS)) hsa) ?_;rintro v w4 ⟨a8,ac⟩;have a4:=hS.trans ac;obtain⟨kp,kc,rfl⟩:=a8.slice;apply LW.nil;refine QW.headed a4 ?_;refine BD ?_;refine DR 3 λhS=>?_;refine Ax rfl rfl (RK b _ _ (hb.ext (a0.trans a4)) hsb) ?_;rintro v w5 ⟨a9,aa⟩;have a5:=a4.trans aa;obtain⟨lp,lc,rfl⟩:=a9.slice;apply LW.nil;refine QW.headed a5 ?_;refine BD ?_;refine DR 4 λhS=>?_;refine Ax rfl rfl (On _ _ _ _ w5 (NG hsa (a8.ext aa)) (NG hsb a9) Ae0 Ae0) ?_;rintro v w6 ⟨tv,rfl,a1,ad⟩;have a6:=a5.trans ad;obtain⟨tp,tc,rfl⟩:=a1.slice;replace hR:=hR.ext a6;have ao:=a5.size;have e1:(a.rows.map EU).length=a.rows.length:=Ae7
 have e2:(b.rows.map EU).length=b.rows.length:=Ae7
 rw[e1] at a1;have ae:R∉Ac (.slice tp a.rows.length tc):=λhm=>by have:=(a1.lt hm).1;omega
 apply LW.nil;refine QW.headed a6 ?_;refine GW.tail rfl Ae1 (λhS=>?_);refine AR λw7 ab hR=>?_;replace hR:Blk w7 R [.slice tp a.rows.length tc,.int .i64 ((b.rows.length:Nat):Int)] 71:=by rw[←e1,←e2];exact hR
 refine Sa ?_;refine QW.body_c rfl rfl hR rfl rfl rfl ⟨_,rfl,?_,(a0.trans a6).step ab Ae0⟩;exact(a1.chg ab (λb hb=>by simp only[Aaw];exact λe=>ae (e ▸ hb))).low Aez
def GL(a b:Af)(m:List Int)(i:Nat):Option (Nat×Nat):=match (m[i]?:Option Int) with
 | none=>none
 | some (k:Int)=>if 0≤k∧k<b.rows.length∧EU (a.rows.getD i [])=EU (b.rows.getD k.toNat []) then some (i,k.toNat) else none
def C5(a b:Af)(m:List Int)(k:Nat):List (Nat×Nat):=(List.range k).filterMap (GL a b m)
theorem TF(a b:Af)(m:List Int):C5 a b m a.rows.length=CE a b m:=rfl
theorem Ir(a b:Af)(m:List Int)(k:Nat):C5 a b m (k+1)=C5 a b m k++(GL a b m k).toList:=by
 rw[C5,AcL,List.filterMap_append];cases h:GL a b m k<;>simp[C5,h]
theorem Wb{a b:Af}{m:List Int}{k:Nat}{p:Nat×Nat}(h:GL a b m k=some p):p.1=k∧p.2<b.rows.length:=by
 unfold GL at h
 split at h
 ·cases h
 ·split at h
  ·rename_i hc;obtain rfl:=Aa5 h;exact⟨rfl,by omega⟩
  ·cases h
theorem Ni{a b:Af}{m:List Int}{k:Nat}{p:Nat×Nat}(h:p∈C5 a b m k):p.1<k∧p.2<b.rows.length:=by
 simp only[C5,List.mem_filterMap,Adj] at h;obtain⟨i,hi,hf⟩:=h;obtain⟨h1,h2⟩:=Wb hf;omega
theorem Nh(a b:Af)(m:List Int)(k:Nat):(C5 a b m k).length≤k:=by
 have:=List.length_filterMap_le (GL a b m) (List.range k)
 simpa[C5] using this
theorem N8{l:List (List (List UInt8))}{i:Nat}{r:List (List UInt8)}(h:l[i]?=some r):l.getD i []=r:=by rw[AaE,h];rfl
theorem J1{s:Af}(hs:Dy s){rs:List Nat}(hr:∀r∈rs,r<s.rows.length)(hl:rs.length≤100){w:World}{lo:Nat}{v:Value}(h:E.A3 w lo 9 1 v (Bk s rs).length ((Bk s rs).map Am)):CD w v (Bk s rs):=
 Gi h (by have:=hs.cols;simp[Bk];omega) λt ht=>by
  simp only[Bk,Acu,Adj] at ht;obtain⟨k,hk,rfl⟩:=ht;have:=Py (Mg hs hr hl (c:=k) (by have:=hs.cols;omega));show(Ju (Fj s rs k)).length≤_;omega
set_option maxRecDepth 8000 in
set_option maxHeartbeats 2000000 in
theorem VZ(a b:Af)(ra rb mv:Value)(m:List Int)(w:World)(ha:EK w ra a.rows)(hb:EK w rb b.rows)(hsa:Dy a)(hsb:Dy b)(hm:Bs w mv m)(hml:m.length=a.rows.length)(hmz:∀z∈m,-1≤z∧z<b.rows.length)(nw:Int):AF prog 66 [.agg ⟨Ap a ra⟩,.agg ⟨Ap b rb⟩,.agg ⟨[mv,.int .i64 nw]⟩] w (λv w'=>∃tv,v=.agg ⟨[tv,.int .i64 ((b.cols.toNat:Nat):Int)]⟩∧E.A3 w' w.heap.size 3 1 tv a.cols.toNat (Ad (HD a b m))∧Ae w w'):=by
 obtain⟨p,c,rfl⟩:=ha.slice;obtain⟨q,d,rfl⟩:=hb.slice;obtain⟨mp,mc,rfl⟩:=hm.slice;have bl:=hsa.rows;have bm:=hsb.rows;obtain⟨b5,b6⟩:=hsa.cols;obtain⟨b7,b8⟩:=hsb.cols;refine AQ func66 ntmps66 ?_;apply CW.seq;apply CW.region;refine Sl ?_;refine Dq λA w1 bn az hA=>?_;replace hA:Blk w1 A (Ap a (.slice p a.rows.length c)) 41:=hA;refine Sl ?_;refine Dq λB w2 bo an hB=>?_;replace hB:Blk w2 B (Ap b (.slice q b.rows.length d)) 41:=hB;refine Sl ?_;refine Dq λM w3 bp aj hM=>?_;replace hM:Blk w3 M [.slice mp m.length mc,.int .i64 nw] 71:=hM;refine Sa ?_;refine BX λR w4 bq ak hR=>?_;replace hA:=((hA.ext an).ext aj).ext ak;replace hB:=(hB.ext aj).ext ak;replace hM:=hM.ext ak;have a9:=((az.trans an).trans aj).trans ak;have br:=a9.size;have bs:=hR.lt;have bt:w.heap.size≤R:=by have:=az.size;have:=an.size;have:=aj.size;omega
 refine Sw ?_;refine CW.loop (ι:=Nat×Value×Value) (λx w'=>x.1≤a.rows.length∧Ae w4 w'∧E.A3 w' w4.heap.size 3 1 x.2.1 (C5 a b m x.1).length (Ad ((C5 a b m x.1).map λz=>(z.1:Int)))∧E.A3 w' w4.heap.size 3 1 x.2.2 (C5 a b m x.1).length (Ad ((C5 a b m x.1).map λz=>(z.2:Int)))∧(∀g,g∈Ac x.2.1→g∉Ac x.2.2)) (λx=>[(3,.pointer (some ⟨A,0,none⟩)),(4,.pointer (some ⟨B,0,none⟩)),(6,.pointer (some ⟨R,0,none⟩)),(7,x.2.1),(8,x.2.2),(12,.slice mp m.length mc),(13,.int .i64 m.length),(14,.int .i64 x.1)]) (λx=>a.rows.length - x.1) (0,.slice none 0 0,.slice none 0 0) ⟨Ac8 _,Chg.refl _ _,E.A3.nil _ _ _ _,E.A3.nil _ _ _ _,by simp[Ac]⟩ HA ?_;rintro⟨k,xv,yv⟩ w5 ⟨hk,a5,a6,a3,hd⟩;dsimp only at hk a6 a3 hd;show CW _ _ _ _ _ [(3,.pointer (some ⟨A,0,none⟩)),(4,.pointer (some ⟨B,0,none⟩)),(6,.pointer (some ⟨R,0,none⟩)),(7,xv),(8,yv),(12,.slice mp m.length mc),(13,.int .i64 m.length),(14,.int .i64 (k:Int))] _;have bu:=a5.size;have bv:=Nh a b m k;replace hA:=hA.ext a5;replace hB:=hB.ext a5;refine Sa ?_;refine Av (λh1=>?_) λh1=>?_;rotate_left
 ·have h1:k=a.rows.length:=by simp at h1;omega
  subst h1;rw[TF] at a6 a3;have a0:=a9.trans a5;have ad:∀r∈(CE a b m).map Prod.fst,r<a.rows.length:=λr hr=>by
   simp only[Acu] at hr;obtain⟨z,hz,rfl⟩:=hr;exact(Ni (k:=a.rows.length) hz).1
  have ae:∀r∈(CE a b m).map Prod.snd,r<b.rows.length:=λr hr=>by
   simp only[Acu] at hr;obtain⟨z,hz,rfl⟩:=hr;exact(Ni (k:=a.rows.length) hz).2
  have bw:(CE a b m).length≤a.rows.length:=Nh a b m a.rows.length;have b9:Bs w5 xv (QK ((CE a b m).map Prod.fst)):=by
   have e:QK ((CE a b m).map Prod.fst)=(CE a b m).map λz=>(z.1:Int):=by simp[QK]
   rw[e];exact A3.ints a6 Ae7 Ae0
  have ba:Bs w5 yv (QK ((CE a b m).map Prod.snd)):=by
   have e:QK ((CE a b m).map Prod.snd)=(CE a b m).map λz=>(z.2:Int):=by simp[QK]
   rw[e];exact A3.ints a3 Ae7 Ae0
  replace hR:=hR.ext a5;refine Sa ?_;refine CW.drawG (Ae w5) 7 (λw' h=>h) Ae1 λwa bb=>?_;refine BD ?_;refine DR 2 λhS=>?_;refine Ax rfl rfl (Mh a _ _ _ _ (ha.ext (a0.trans hS)) hsa (b9.ext hS) ad Ae0) ?_;rintro v w6 ⟨b0,ao⟩;have a7:=hS.trans ao;obtain⟨kp,kc,rfl⟩:=b0.slice;apply LW.nil;refine QW.headed a7 ?_;refine BD ?_;refine DR 5 λhS=>?_;refine Ax rfl rfl (Mh b _ _ _ _ (hb.ext (a0.trans a7)) hsb (ba.ext a7) ae Ae0) ?_;rintro v w7 ⟨b1,al⟩;have a2:=a7.trans al;obtain⟨lp,lc,rfl⟩:=b1.slice;apply LW.nil;refine QW.headed a2 ?_;refine BD ?_;refine DR 6 λhS=>?_;refine Ax rfl rfl (On _ _ _ _ w7 (J1 hsa ad Ae0 (b0.ext al)) (J1 hsb ae Ae0 b1) AfB AfB) ?_;rintro v w8 ⟨tv,rfl,am,ab⟩;have ap:=a2.trans ab;obtain⟨tp,tc,rfl⟩:=am.slice;replace hR:=hR.ext ap;have bc:=a2.size;have e1:(Bk a ((CE a b m).map Prod.fst)).length=a.cols.toNat:=by simp[Bk]
  have e2:(Bk b ((CE a b m).map Prod.snd)).length=b.cols.toNat:=by simp[Bk]
  rw[e1] at am;have bd:R∉Ac (.slice tp a.cols.toNat tc):=λhm=>by have:=(am.lt hm).1;omega
  apply LW.nil;refine QW.headed ap ?_;refine GW.tail rfl Ae1 (λhS=>?_);refine AR λw9 ac hR=>?_;replace hR:Blk w9 R [.slice tp a.cols.toNat tc,.int .i64 ((b.cols.toNat:Nat):Int)] 71:=by rw[←e1,←e2];exact hR
  refine Sa ?_;refine QW.body_c rfl rfl hR rfl rfl rfl ⟨_,rfl,?_,(a0.trans ap).step ac Ae0⟩;exact(am.chg ac (λb hb=>by simp only[Aaw];exact λe=>bd (e ▸ hb))).low Aez
 have h1:k<a.rows.length:=by simp at h1;omega
 obtain⟨z,aq⟩:∃z,m[k]?=some z:=⟨_,Aak Aez⟩;obtain⟨bx,bz⟩:=hmz z (Aa9 aq);have a0:=a9.trans a5;obtain⟨ma,rfl,c0⟩:=Bs.at1 (hm.ext a0) aq;obtain⟨row,aa⟩:∃r,a.rows[k]?=some r:=⟨_,Aak h1⟩;obtain⟨ga,q1,c1,rfl,-,be,c3⟩:=AO.at (AO.ext ha a0) aa;have ar:=hsa.row (Aa9 aa);refine Sw ?_;refine CW.drawG (Ae w5) 30 (λw' h=>h) Ae1 λwa bb=>?_;refine BD ?_;have au:GL a b m k=if 0≤z∧z<b.rows.length∧EU row=EU (b.rows.getD z.toNat []) then some (k,z.toNat) else none:=by
  rw[GL,aq,N8 aa]
 have a8:∀w',Ae w5 w'→GL a b m k=none→E.A3 w' w4.heap.size 3 1 xv (C5 a b m (k+1)).length (Ad ((C5 a b m (k+1)).map λz=>(z.1:Int)))∧E.A3 w' w4.heap.size 3 1 yv (C5 a b m (k+1)).length (Ad ((C5 a b m (k+1)).map λz=>(z.2:Int))):=λw' hx h=>by
  rw[Ir,h];simp only[Option.toList,Acq];exact⟨a6.ext hx,a3.ext hx⟩
 by_cases bf:0≤z;rotate_left
 ·refine GW.know (t:=21) (c:=false) rfl Ae0 ?_;refine BD ?_;refine Gks 22 ?_;refine BD ?_;refine Gks 28 ?_;refine BD ?_;refine GW.tail rfl Ae1 (λhS=>?_);refine Sa ?_;obtain⟨h7,h8⟩:=a8 _ hS (by rw[au,if_neg Aez]);exact QW.again (k+1,xv,yv) ⟨by show k+1≤_;omega,a5.trans hS,h7,h8,hd⟩ HA Afm
 obtain⟨rowb,a1⟩:∃r,b.rows[z.toNat]?=some r:=⟨_,Aak Aez⟩;obtain⟨gb,q2,c2,eq2,-,bg,bh⟩:=AO.at (AO.ext hb a0) a1;subst eq2;rw[show((z.toNat:Nat):Int).toNat=z.toNat by omega] at bh;have av:=hsb.row (Aa9 a1);refine GW.know (t:=21) (c:=true) rfl Ae0 ?_;refine BD ?_;refine GW.know (t:=28) (c:=true) rfl Ae0 ?_;refine BD ?_;refine GW.know (t:=35) (c:=true) rfl Ae0 ?_;refine BD ?_;refine DR 22 λhS=>?_;refine Lb ?_;refine Ax rfl rfl (PI row _ _ (A4.ext be hS) ar) ?_;rintro v w6 ⟨rfl,ao⟩;have a7:=hS.trans ao;apply LW.nil;refine QW.headed a7 ?_;refine BD ?_;refine DR 28 λhS=>?_;refine Lb ?_;refine Ax rfl rfl (PI rowb _ _ (A4.ext bg a7) av) ?_;rintro v w7 ⟨rfl,al⟩;have a2:=a7.trans al;apply LW.nil;refine QW.headed a2 ?_;refine BD ?_;refine GW.tail rfl Ae1 (λhS=>?_);have af:=a5.trans a2;have bc:=a2.size;refine Sa ?_;refine Av (λh3=>?_) λh3=>?_;rotate_left
 ·have h3:EU row≠EU rowb:=by simpa using h3
  refine Sa ?_;obtain⟨h7,h8⟩:=a8 _ a2 (by rw[au,N8 a1,if_neg (λh=>h3 h.2.2)]);exact QW.again (k+1,xv,yv) ⟨by show k+1≤_;omega,af,h7,h8,hd⟩ HA Afm
 have h3:EU row=EU rowb:=by simpa using h3
 replace a6:=a6.ext a2;replace a3:=a3.ext a2;have b2:GL a b m k=some (k,z.toNat):=by rw[au,N8 a1,if_pos ⟨bf,by omega,h3⟩]
 refine Sa ?_;refine Cx λC w8 c4 ab hC=>?_;have c5:=ab.size;refine Sa ?_;refine LW.append (lo:=w4.heap.size) (k:=(C5 a b m k).length) rfl rfl rfl rfl rfl rfl (a6.ext ab) Aez hC rfl rfl rfl AfL rfl ?_;intro xv' w9 ac ag bi;have aw:=(a3.ext ab).chg ac (λg hg hm=>hd g hm hg);have c6:=ac.size;refine Sa ?_;refine Cx λF c7 c8 a4 hF=>?_;have bj:=a4.size;refine Sa ?_;refine LW.append (lo:=w4.heap.size) (k:=(C5 a b m k).length) rfl rfl rfl rfl rfl rfl (aw.ext a4) Aez hF rfl rfl rfl AfL rfl ?_;intro yv' c9 ah ax ay;have b3:∀g,g∈Ac xv'→g∉Ac yv:=λg hg hm=>by
  rcases bi g hg with h | h
  ·exact hd g h hm
  ·have:=(a3.lt hm).2;omega
 have ai:=(ag.ext a4).chg ah (λg hg hm=>b3 g hg hm);refine Sa ?_;refine QW.again (k+1,xv',yv') ⟨by show k+1≤_;omega,(((af.trans ab).step ac (λb hb=>(a6.lt hb).1)).trans a4).step ah (λb hb=>(a3.lt hb).1),?_,?_,λg hg hm=>?_⟩ HA Afm
 ·show E.A3 _ _ _ _ xv' (C5 a b m (k+1)).length (Ad ((C5 a b m (k+1)).map λz=>(z.1:Int)));rw[Ir,b2,Ac1,HF,Aax];exact ai
 ·show E.A3 _ _ _ _ yv' (C5 a b m (k+1)).length (Ad ((C5 a b m (k+1)).map λz=>(z.2:Int)));rw[Ir,b2,Ac1,HF,Aax];show E.A3 _ _ _ _ yv' _ (_++[.int .i64 ((z.toNat:Nat):Int)]);rw[show((z.toNat:Nat):Int)=z by omega];exact ax
 ·have b4:g∈Ac xv':=hg;have bk:g∈Ac yv':=hm;rcases ay g bk with h | h
  ·exact b3 g b4 h
  ·have:=(ag.lt b4).2;omega
theorem KD{α:Type}[DecidableEq α](a b:List α)(ha:a.length≤1000000)(hb:b.length≤1000000):∀z∈DF a b,-1≤z∧z<(b.length:Int):=λz hz=>by
 have hr:=(El (JO a b Aez Aez)).2.2.2;obtain⟨j,hj⟩:=Acy hz;have hl:=(Aav.1 hj).1;have h1:=hr j hl;have e:(DF a b).getD j 0=z:=by rw[AaE,hj];rfl
 simp only[e] at h1;rcases h1 with h1 | ⟨h1,h2,_⟩<;>omega
theorem KJ{a b:Af}(hsa:Dy a)(hsb:Dy b):∀z∈Da a b,-1≤z∧z<b.rows.length:=λz hz=>by
 have:=hsa.rows;have:=hsb.rows;have h:=KD (a.rows.map EU) (b.rows.map EU) Ae0 Ae0 z hz
 simpa using h
theorem Gm(a b:Af):(Da a b).length=a.rows.length:=by rw[Da,IA,Acg]
theorem Nv(a b:Af)(m:List Int):(HD a b m).length=a.cols.toNat:=by rw[HD,IA];simp[Bk]
set_option maxRecDepth 8000 in
set_option maxHeartbeats 1000000 in
theorem Ra(a b:Af)(ra rb:Value)(w:World)(ha:EK w ra a.rows)(hb:EK w rb b.rows)(hsa:Dy a)(hsb:Dy b):AF prog 46 [.agg ⟨Ap a ra⟩,.agg ⟨Ap b rb⟩] w (λv w'=>∃rv cv,v=.agg ⟨KZ (Bx a b) rv cv⟩∧E.A3 w' w.heap.size 3 1 rv a.rows.length (Ad (Da a b))∧E.A3 w' w.heap.size 3 1 cv a.cols.toNat (Ad (HD a b (Da a b)))∧Ae w w'):=by
 obtain⟨p,c,rfl⟩:=ha.slice;obtain⟨q,d,rfl⟩:=hb.slice;have ai:=hsa.rows;refine AQ func46 ntmps46 ?_;apply CW.seq;apply CW.region;refine Sl ?_;refine Dq λA w1 aj ac hA=>?_;replace hA:Blk w1 A (Ap a (.slice p a.rows.length c)) 41:=hA;refine Sl ?_;refine Dq λB w2 ak a6 hB=>?_;replace hB:Blk w2 B (Ap b (.slice q b.rows.length d)) 41:=hB;refine Sa ?_;refine BX λR w3 al a7 hR=>?_;replace hA:=(hA.ext a6).ext a7;replace hB:=hB.ext a7;have a0:=(ac.trans a6).trans a7;have am:=a0.size;have an:=hR.lt;have ao:w.heap.size≤R:=by have:=ac.size;have:=a6.size;omega
 refine Sw ?_;refine Ax rfl rfl (Wa a b _ _ w3 (ha.ext a0) (hb.ext a0) hsa hsb) ?_;rintro v w4 ⟨rv,rfl,a4,a8⟩;obtain⟨rp,rc,rfl⟩:=a4.slice;have ap:=a8.size;have a9:=a0.trans a8;refine Sa ?_;refine BX λM w5 aq ad hM=>?_;have ar:=ad.size;have au:=hM.lt;refine Sa ?_;refine AR λw6 ae hM=>?_;replace hM:Blk w6 M [.slice rp a.rows.length rc,.int .i64 ((b.rows.length:Nat):Int)] 71:=hM;have a1:Ae w4 w6:=ad.step ae Ae0;replace a4:=a4.ext a1;have a2:=a9.trans a1;have a3:=a8.trans a1;replace hA:=hA.ext a3;replace hB:=hB.ext a3;replace hR:=hR.ext a3;have hI:Bs w6 (.slice rp a.rows.length rc) (Da a b):=A3.ints a4 (Gm a b) (by rw[Gm];omega);have av:=a1.size;refine Sa ?_;refine CW.drawG (Ae w6) 8 (λw' h=>h) Ae1 λwa aw=>?_;refine BD ?_;refine DR 6 λhS=>?_;refine Ax rfl rfl (VZ a b _ _ _ (Da a b) wa (ha.ext (a2.trans hS)) (hb.ext (a2.trans hS)) hsa hsb (hI.ext hS) (Gm a b) (KJ hsa hsb) _) ?_;rintro v w7 ⟨cv,rfl,aa,af⟩;obtain⟨cp,cc,rfl⟩:=aa.slice;have a5:=hS.trans af;have ax:=hS.size;apply LW.nil;refine QW.headed a5 ?_;refine BD ?_;refine GW.tail rfl Ae1 (λhS=>?_);replace hR:=hR.ext a5;refine AR λw8 ab hR=>?_;replace hR:Blk w8 R (KZ (Bx a b) (.slice rp a.rows.length rc) (.slice cp a.cols.toNat cc)) 73:=hR;have ag:R∉Ac (.slice rp a.rows.length rc):=λhm=>by have:=(a4.lt hm).1;omega
 have ah:R∉Ac (.slice cp a.cols.toNat cc):=λhm=>by have:=(aa.lt hm).1;omega
 refine Sa ?_;refine QW.body_c rfl rfl hR rfl rfl rfl ⟨_,_,rfl,?_,?_,(a2.trans a5).step ab Ae0⟩
 ·exact((a4.ext a5).chg ab (λb hb=>by simp only[Aaw];exact λe=>ag (e ▸ hb))).low Aez
 ·exact(aa.chg ab (λb hb=>by simp only[Aaw];exact λe=>ah (e ▸ hb))).low Aez
def shE(lo:Nat)(V:List Nat):Fg BP:=λ_ w cs s=>∃rv cv,cs=KZ s rv cv∧E.A3 w lo 3 1 rv s.rows.to.length (Ad s.rows.to)∧E.A3 w lo 3 1 cv s.cols.to.length (Ad s.cols.to)∧(∀b∈Ac rv,b∉V)∧∀b∈Ac cv,b∉V
def QN(lo:Nat)(w:World)(v:Value)(ss:List BP):Prop:=B1 6 lo 73 (shE lo (Ac v)) w v ss
theorem QN.chg{lo:Nat}{S:List Nat}{w w':World}{v:Value}{ss:List BP}(h:QN lo w v ss)(x:Chg S w w')(hs:∀b∈S,b<lo):QN lo w' v ss:=
 B1.chg h x (λb hb hm=>by have:=(B1.lt h hb).1;have:=hs b hm;omega) λi y cs _ ⟨rv,cv,e,h1,h2,h3,h4⟩=>⟨rv,cv,e,h1.chg x (λb hb hm=>by have:=(h1.lt hb).1;have:=hs b hm;omega),h2.chg x (λb hb hm=>by have:=(h2.lt hb).1;have:=hs b hm;omega),h3,h4⟩
theorem QN.nil{lo:Nat}{w:World}:QN lo w (.slice none 0 0) []:=B1.nil
theorem QN.snoc{lo:Nat}{w w1 w':World}{v v' rv cv:Value}{ss:List BP}{s:BP}{css:List (List Value)}(g1:css.length=ss.length)(g2:∀cs∈css,cs.length=6)(g4:∀i x cs,ss[i]?=some x→css[i]?=some cs→shE lo (Ac v) i w cs x)(x:Ae w w1)
  (hr:E.A3 w1 lo 3 1 rv s.rows.to.length (Ad s.rows.to)) (hc:E.A3 w1 lo 3 1 cv s.cols.to.length (Ad s.cols.to)) (hrv:∀b∈Ac rv,b∉Ac v) (hcv:∀b∈Ac cv,b∉Ac v)
  (hch:Chg (Ac v) w1 w') (hv:∀j,j∈Ac v'→j∈Ac v∨w1.heap.size≤j) (hO:E.A3 w' lo 73 6 v' (ss.length+1) (css.flatten++KZ s rv cv)):QN lo w' v' (ss++[s]):=by
 have hz:=x.size;have key:∀u:Value,∀W:World,W.heap.size≤w1.heap.size→(∀b∈Ac u,b<W.heap.size)→(∀b∈Ac u,b∉Ac v)→∀b∈Ac u,b∉Ac v':=λu W hW hu hn b hb hm=>by
  have h1:=hu b hb;rcases hv b hm with h | h
  ·exact hn b hb h
  ·omega
 refine B1.snoc g1 g2 hO rfl (λi y ds hi hd=>?_) ⟨rv,cv,rfl,hr.chg hch hrv,hc.chg hch hcv,key rv w1 (Ab9 _) (λb hb=>(hr.lt hb).2) hrv,key cv w1 (Ab9 _) (λb hb=>(hc.lt hb).2) hcv⟩;obtain⟨ru,cu,e,o1,o2,n1,n2⟩:=g4 i y ds hi hd;exact⟨ru,cu,e,(o1.ext x).chg hch n1,(o2.ext x).chg hch n2,key ru w hz (λb hb=>(o1.lt hb).2) n1,key cu w hz (λb hb=>(o2.lt hb).2) n2⟩
theorem QN.list{lo:Nat}{w:World}{v:Value}{ss:List BP}(h:QN lo w v ss)(hl:ss.length≤1000000)(hb:∀s∈ss,s.rows.to.length≤10000000∧s.cols.to.length≤10000000):Cp w v ss:=by
 obtain⟨h0,h1 | ⟨a,cap,e,-,h1⟩⟩:=B1.list (ok:=λ_=>True) h hl (λ_ _ _=>trivial)
 ·exact⟨hl,.inl h1⟩
 ·refine⟨hl,.inr ⟨a,cap,e,λi s hi=>?_⟩⟩;obtain⟨cs,-,⟨rv,cv,rfl,o1,o2,-,-⟩,hc⟩:=h1 i s hi;have:=hb s (Aa9 hi);exact⟨rv,cv,A3.ints o1 rfl Aez,A3.ints o2 rfl Aez,hc⟩
theorem Vo{m:C7}{i:Nat}{z:Int}(h:m.to[i]?=some z):AG m i=z:=by
 have hl:=(Aav.1 h).1;unfold AG;rw[if_neg Aez,if_pos Aez,AaE,Adk,h];rfl
theorem CR{α:Type}{l:List α}{i:Nat}{x d:α}(h:l[i]?=some x):l.getD i d=x:=by rw[AaE,h];rfl
theorem Ka{p c:Ag}{i:Nat}{s:Af}(hs:p[i]?=some s):(AL p c)[i]?=some (match IW c s.name with
 | none=>⟨s.name,⟨[],0⟩,⟨[],0⟩,true⟩
 | some k=>match c[k]? with
  | none=>⟨s.name,⟨[],0⟩,⟨[],0⟩,true⟩
  | some u=>Bx s u):=by
 rw[AL,AbA,hs];rfl
theorem GF(p c:Ag):(AL p c).length=p.length:=by simp[AL]
theorem Um{p c:Ag}{had t:AB}{i:Nat}{s:Af}(hs:p[i]?=some s)(hk:IW c s.name=none):Ej p c had (i+1) t=Ej p c had i t:=by
 rw[Ej,AcL,AcN];show(match IW c (p.getD i ⟨[],0,[]⟩).name with | none=>_ | some k=>_)=_;rw[CR hs,hk];rfl
theorem Un{p c:Ag}{had t:AB}{i k:Nat}{s:Af}{sh:BP}(hs:p[i]?=some s)(hk:IW c s.name=some k)(hsh:(AL p c)[i]?=some sh):Ej p c had (i+1) t=F8 c (AL p c) had i k s sh s.rows.length (Ej p c had i t):=by
 rw[Ej,AcL,AcN];show(match IW c (p.getD i ⟨[],0,[]⟩).name with | none=>_ | some k=>_)=_;rw[CR hs,hk,CR hsh];rfl
theorem Up{c:Ag}{ss:List BP}{had t:AB}{i k r:Nat}{s:Af}{sh:BP}{row:List (List UInt8)}(hr:s.rows[r]?=some row):F8 c ss had i k s sh (r+1) t=EM c ss had i k s.name sh r row row.length (F8 c ss had i k s sh r t):=by
 rw[F8,AcL,AcN];show EM c ss had i k s.name sh r (s.rows.getD r []) (s.rows.getD r []).length _=_;rw[CR hr];rfl
theorem Uo{c:Ag}{ss:List BP}{had t:AB}{i k r q:Nat}{nm:List UInt8}{sh:BP}{row:List (List UInt8)}{x:List UInt8}(hq:row[q]?=some x):EM c ss had i k nm sh r row (q+1) t=J4 c ss had i k nm sh r q x (EM c ss had i k nm sh r row q t):=by
 rw[EM,AcL,AcN];show J4 c ss had i k nm sh r q (row.getD q []) _=_;rw[CR hq];rfl
theorem NE{c:Ag}{ss:List BP}{had:AB}{i k:Nat}{nm:List UInt8}{sh:BP}{r n:Nat}{row:List (List UInt8)}{t:AB}{b:Ag}(h:DK t b):DK (EM c ss had i k nm sh r row n t) b:=
 Ec (P:=λt=>DK t b) (λ_ _ h=>NC h) _ _ h
theorem NF{c:Ag}{ss:List BP}{had:AB}{i k:Nat}{s:Af}{sh:BP}{n:Nat}{t:AB}{b:Ag}(h:DK t b):DK (F8 c ss had i k s sh n t) b:=
 Ec (P:=λt=>DK t b) (λ_ _ h=>NE h) _ _ h
theorem Ul{p c:Ag}{had:AB}{n:Nat}{t:AB}{b:Ag}(h:DK t b):DK (Ej p c had n t) b:=by
 refine Ec (P:=λt=>DK t b) (λ_ _ h=>?_) _ _ h;simp only
 split
 ·exact h
 ·exact NF h
theorem DK.at{t:AB}{b:Ag}(h:DK t b){i r:Nat}{s:Af}{row:List (List UInt8)}(hs:b[i]?=some s)(hr:s.rows[r]?=some row):∃rows x,t[i]?=some rows∧rows[r]?=some x∧x.length=row.length∧rows.length=s.rows.length:=by
 have h1:(t.map λrows=>rows.map List.length)[i]?=(b.map λs=>s.rows.map List.length)[i]?:=by rw[h]
 rw[AbA,AbA,hs] at h1
 cases ht:t[i]? with
 | none=>rw[ht] at h1;cases h1
 | some rows=>
  rw[ht] at h1;have h2:rows.map List.length=s.rows.map List.length:=by simpa using h1
  have h3:(rows.map List.length)[r]?=(s.rows.map List.length)[r]?:=by rw[h2]
  rw[AbA,AbA,hr] at h3
  cases hx:rows[r]? with
  | none=>rw[hx] at h3;cases h3
  | some x=>
   rw[hx] at h3;exact⟨rows,x,rfl,hx,by simpa using h3,by simpa using congrArg List.length h2⟩
theorem Vl{t:AB}{i r q:Nat}{rows:List (List (List UInt8))}{x:List (List UInt8)}{v:List UInt8}(hi:t[i]?=some rows)(hr:rows[r]?=some x)(hq:x[q]?=some v):PY t i r q=v:=by rw[PY,CR hi,CR hr,CR hq]
def tb(t:AB):Ag:=t.map λrows=>⟨[],0,rows⟩
theorem UR(t:AB):(tb t).length=t.length:=by simp[tb]
theorem LV{t:AB}{i:Nat}{rows:List (List (List UInt8))}(h:t[i]?=some rows):(tb t)[i]?=some ⟨[],0,rows⟩:=by simp[tb,h]
theorem Aan(t:AB)(i r c:Nat)(v:List UInt8):tb (MA t i r c v)=H3 (tb t) i r c v:=by
 apply Ack;intro j;simp only[tb,MA,H3,AbA,AcA]
 cases t[j]? with
 | none=>simp
 | some rows=>by_cases e:i=j<;>simp[e,JZ]
theorem De.set{lo:Nat}{w w':World}{b:Ag}{rv:Nat→Value}{f:Nat→Nat→Nat}{V:List Nat}(h:De lo w b.length b rv f V){i row col:Nat}{t:List UInt8}{s:Af}{x:List (List UInt8)}{sp:List Value}(hi:b[i]?=some s)(hr:s.rows[row]?=some x)(hc:col<x.length)(ht:t.length≤1000000)(hx:Chg [f i row] w w')(hB:Blk w' (f i row) ((x.set col t).map Am++sp) 9):De lo w' (H3 b i row col t).length (H3 b i row col t) rv f V:=by
 have a2:x≠[]:=λe=>by rw[e] at hc;simp at hc
 have a3:=(Aav.1 hi).1;have hu:DJ (rv i) s.rows (f i) (f i row):=.inr ⟨row,x,hr,a2,rfl⟩;have a0:(H3 b i row col t).length=b.length:=by simp[H3]
 refine⟨λj u hj a1=>?_,λj u hj a1 y hy=>?_,λj k u z hj hk a4 a1 a5 y hy a6=>?_⟩
 ·rw[a0] at hj;obtain⟨s',h1,_,_,rfl⟩:=KM a1;have hF:=h.rows j s' hj h1;by_cases e:j=i
  ·subst e;rw[hi] at h1;obtain rfl:=Aa5 h1;rw[if_pos rfl];obtain⟨xs,o1,o2⟩:=hF.own;refine⟨⟨xs,?_,?_⟩,by simpa[JZ] using hF.small⟩
   ·have:=o1.chg hx (λy hy he=>by
     simp only[Aaw] at he;subst he;exact(o2.blk row x hr a2).2.1 hy)
    simpa[JZ] using this
   ·exact o2.set hr hc ht hx hB
  ·rw[if_neg e];exact hF.chg hx λy hy he=>by
    simp only[Aaw] at he;subst he;exact h.apart i j s s' a3 hj (λe2=>e e2.symm) hi h1 _ hu hy
 ·rw[a0] at hj;obtain⟨s',h1,h2⟩:=FW a1 hy;exact h.apartV j s' hj h1 y h2
 ·rw[a0] at hj hk;obtain⟨s',h1,h2⟩:=FW a1 hy;obtain⟨s2,h3,h4⟩:=FW a5 a6;exact h.apart j k s' s2 hj hk a4 h1 h3 y h2 h4
structure Ck(lo:Nat)(w:World)(v:Value)(t:AB)(rv:Nat→Value)(f:Nat→Nat→Nat):Prop where
 own:A3 w lo 39 1 v t.length ((List.range t.length).map rv)
 small:t.length≤1000000
 sub:De lo w (tb t).length (tb t) rv f (Ac v)
theorem Ck.ext{lo:Nat}{w w':World}{v:Value}{t:AB}{rv:Nat→Value}{f:Nat→Nat→Nat}(h:Ck lo w v t rv f)(x:Ae w w'):Ck lo w' v t rv f:=⟨h.own.ext x,h.small,h.sub.ext x⟩
theorem Ck.old{S:List Nat}{lo:Nat}{w w':World}{v:Value}{t:AB}{rv:Nat→Value}{f:Nat→Nat→Nat}(h:Ck lo w v t rv f)(x:Chg S w w')(hs:∀y,y∈S→y<lo):Ck lo w' v t rv f:=
 ⟨h.own.chg x λb hb hm=>by have:=(h.own.lt hb).1;have:=hs b hm;omega,h.small,h.sub.chg x λi s hk hi y hy hm=>by have:=((h.sub.rows i s hk hi).lt hy).1;have:=hs y hm;omega⟩
theorem Ck.slice{lo:Nat}{w:World}{v:Value}{t:AB}{rv:Nat→Value}{f:Nat→Nat→Nat}(h:Ck lo w v t rv f):∃p c,v=.slice p t.length c:=h.own.slice
theorem SA(t:AB)(i r c:Nat)(v:List UInt8):(MA t i r c v).length=t.length:=by simp[MA]
theorem Ck.set{lo:Nat}{w w':World}{v:Value}{t:AB}{rv:Nat→Value}{f:Nat→Nat→Nat}(h:Ck lo w v t rv f){i row col:Nat}{s:List UInt8}{rows:List (List (List UInt8))}{x:List (List UInt8)}{sp:List Value}(hi:t[i]?=some rows)(hr:rows[row]?=some x)(hc:col<x.length)(ht:s.length≤1000000)(hx:Chg [f i row] w w')(hB:Blk w' (f i row) ((x.set col s).map Am++sp) 9):Ck lo w' v (MA t i row col s) rv f:=by
 have a0:x≠[]:=λe=>by rw[e] at hc;simp at hc
 have a1:=(Aav.1 (LV hi)).1;have hu:DJ (rv i) rows (f i) (f i row):=.inr ⟨row,x,hr,a0,rfl⟩;refine⟨?_,by rw[SA];exact h.small,?_⟩
 ·rw[SA];exact h.own.chg hx λy hy he=>by
   simp only[Aaw] at he;subst he;exact h.sub.apartV i _ a1 (LV hi) _ hu hy
 ·rw[Aan];exact h.sub.set (LV hi) hr hc ht hx hB
theorem Ck.at{lo:Nat}{w:World}{v:Value}{t:AB}{rv:Nat→Value}{f:Nat→Nat→Nat}(h:Ck lo w v t rv f){i row:Nat}{rows:List (List (List UInt8))}{x:List (List UInt8)}(hi:t[i]?=some rows)(hr:rows[row]?=some x)(hn:x≠[]) :
  ∃B cb M cm cx,v=.slice (some ⟨B,0,none⟩) t.length cb∧w.cell? ((⟨B,0,none⟩:Addr).add (((i:Nat):Int).toNat*1))=some (.slice (some ⟨M,0,none⟩) rows.length cm)∧w.cell? ((⟨M,0,none⟩:Addr).add (((row:Nat):Int).toNat*1))=some (.slice (some ⟨f i row,0,none⟩) x.length cx)∧lo≤f i row∧∃sp,Blk w (f i row) (x.map Am++sp) 9:=by
 have a0:=(Aav.1 hi).1;have a1:=(Aav.1 hr).1;obtain⟨B,cb,sp,rfl,hB,-⟩:=h.own.get Aez;have hF:=h.sub.rows i _ (by rw[UR];exact a0) (LV hi);obtain⟨xs,o1,o2⟩:=hF.own;obtain⟨M,cm,sp2,e2,hM,-⟩:=o1.get (by show 0<rows.length;omega);obtain⟨u,h1,⟨k0,⟨_,e3⟩ | ⟨a,cx,e3,hk,_⟩⟩,-⟩:=o2.val row x hr
 ·exact absurd e3 hn
 obtain rfl:=hk hn;obtain⟨g1,_,sp3,g3⟩:=o2.blk row x hr hn;refine⟨B,cb,M,cm,cx,rfl,?_,?_,g1,sp3,g3⟩
 ·rw[An];refine hB.cell ?_;rw[show 0+((i:Nat):Int).toNat*1=i by omega,Abg AeW,AbA,Adf a0];exact congrArg some e2
 ·rw[An];refine hM.cell ?_;rw[show 0+((row:Nat):Int).toNat*1=row by omega,Abg (by rw[o2.len];exact a1),h1,e3]
abbrev GZ:World→Value→AB→Prop:=Ao 1 Km λ_ w cs rows=>∃u,cs=[u]∧EK w u rows
theorem GZ.ext{w w':World}{v:Value}{t:AB}(h:GZ w v t)(x:Ae w w'):GZ w' v t:=Ao.ext' h x λ_ _ _ _ ⟨u,e,h⟩=>⟨u,e,AO.ext h x⟩
theorem Ck.list{lo:Nat}{w:World}{v:Value}{t:AB}{rv:Nat→Value}{f:Nat→Nat→Nat}(h:Ck lo w v t rv f):GZ w v t:=by
 have:B1 1 lo 39 (λ_ w cs rows=>∃u,cs=[u]∧EK w u rows) w v t:=by
  refine⟨((List.range t.length).map rv).map λu=>[u],by simp,by simp,by rw[FQ];exact h.own,λi rows cs hi hc=>?_⟩;have a0:=(Aav.1 hi).1;rw[AbA,AbA,Adf a0] at hc;simp at hc;exact⟨rv i,hc.symm,(h.sub.rows i _ (by rw[UR];exact a0) (LV hi)).list⟩
 exact this.list h.small λ_ _ _=>trivial
theorem GZ.at{w:World}{p:Option Addr}{c:Nat}{t:AB}(h:GZ w (.slice p t.length c) t){i:Nat}{rows:List (List (List UInt8))}(hi:t[i]?=some rows):∃a q k,p=some a∧EK w (.slice q rows.length k) rows∧w.cell? (a.add (((i:Nat):Int).toNat*1))=some (.slice q rows.length k):=by
 obtain⟨a,u,h1,-,⟨u',e,h2⟩,h3⟩:=Ao.at1 h hi;obtain rfl:=(Ae5 e).1;obtain⟨q,k,rfl⟩:=Ao.slice h2;exact⟨a,q,k,h1,h2,h3⟩
theorem Nj(b:Ag)(id:List UInt8):(JA b id).length=b.length:=by simp[JA]
theorem XD{b:Ag}{id:List UInt8}{i:Nat}{s:Af}(h:b[i]?=some s):(JA b id)[i]?=some (s.rows.map λr=>r.map λ_=>id):=by simp[JA,h]
theorem ZG(r:List (List UInt8))(id:List UInt8):(r.map λ_=>id)=List.replicate r.length id:=by simp[List.map_const']
theorem Xb(rv:Nat→Value)(u:Value)(i:Nat):(List.range (i+1)).map (λj=>if j=i then u else rv j)=(List.range i).map rv++[u]:=by
 rw[AcL,Ac1]
 congr 1
 ·apply AcQ;intro j hj;rw[if_neg (by have:=Adj.1 hj;omega)]
 ·simp
theorem VL{α:Type}{l:List α}{j:Nat}{x:α}(h:l[j]?=some x):l.take j++[x]=l.take (j+1)∧(l.take j).length=j:=by
 have hj:=(Aav.1 h).1;exact⟨by rw[Aco,h];rfl,by simp;omega⟩
end Go.Proofs.YtefaigjfkddelaaGreatDoor
