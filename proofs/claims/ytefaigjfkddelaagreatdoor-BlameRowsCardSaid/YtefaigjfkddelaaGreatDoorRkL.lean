/-
  Joined by program out of the texts Ali1 Ali2 Ali3 Ali4 LcsP Lcs1 Ali5 Ali6 BlaS Told Tol1.
-/
import Derived.Test.YtefaigjfkddelaaGreatDoorRkJ
import Derived.Test.YtefaigjfkddelaaGreatDoorRkK
import Derived.Test.YtefaigjfkddelaaGreatDoorRkH
import Derived.Test.YtefaigjfkddelaaGreatDoorRkB
import Derived.Test.YtefaigjfkddelaaGreatDoorRkI
import Derived.Test.YtefaigjfkddelaaGreatDoorRkE
namespace Go.Proofs.YtefaigjfkddelaaGreatDoor
open Go Go.E
def Lx (l:List (List UInt8)):List (List UInt8):=l.filter λs=>decide (s≠[])
theorem J2 (l:List (List UInt8)):(Lx l).length≤l.length:=List.length_filter_le _ _
theorem J3 {l:List (List UInt8)} {k:Nat} {s:List UInt8} (h:l[k]?=some s):Lx (l.take (k+1))=if s=[] then Lx (l.take k) else Lx (l.take k)++[s]:=by
 rw [List.take_add_one,h];simp only [Lx,List.filter_append,Option.toList];by_cases e:s=[]<;>simp [e]
def GB (l:List (List UInt8)):Prop:=l.length≤100∧∀s∈l,s.length≤1000
theorem TN {s:List UInt8} (h:s.length≤1000):(FI s).length≤1010:=by
 have:=Dl (n:=s.length) (by omega);rw [FI,List.length_append];omega
theorem NC:∀{l:List (List UInt8)},(∀s∈l,s.length≤1000)→(l.flatMap FI).length≤l.length*1010
 | [],_=>by simp
 | s::l,h=>by
  have h1:=TN (h s (by simp));have h2:=NC (l:=l) λt ht=>h t (by simp [ht]);rw [List.flatMap_cons,List.length_append,List.length_cons];omega
theorem NW {l:List (List UInt8)} (h:GB l):(G0 l).length≤200000:=by
 have h1:=Dl (n:=l.length) (by have:=h.1;omega);have h2:=NC h.2;have h3:=h.1;rw [G0,List.length_append];omega
theorem GB.ne {l:List (List UInt8)} (h:GB l):GB (Lx l):=⟨Nat.le_trans (J2 l) h.1,λs hs=>h.2 s ((List.mem_filter.1 hs).1)⟩
theorem UT {r:List (List UInt8)} (h:GB r):(Ch r).length≤200000:=NW h.ne
theorem CR {w:World} {lo:Nat} {v:Value} {l:List (List UInt8)} (h:Ax w lo 9 1 v l.length (l.map Aj)) (hl:l.length≤1000000) (hs:∀s∈l,s.length≤1000000):BE w v l:=by
 obtain ⟨g,h1,_⟩:=Km h hl hs;exact Az.map h1 (λ_ _=>trivial) λ_ _ _ _ h=>h
theorem NS {w:World} {lo:Nat} {v:Value} {l:List (List UInt8)} {s:List UInt8} (h:Ax w lo 9 1 v (l.length+1) (l.map Aj++[Aj s])):Ax w lo 9 1 v (l++[s]).length ((l++[s]).map Aj):=by
 rw [List.length_append,List.map_append];exact h
theorem Ow (r:List (List UInt8)) (v:Value) (w:World) (h:BE w v r) (hs:GB r):AA Tryz.prog 93 [v] w (λu w'=>u=Aj (Ch r)∧Ae w w'):=by
 obtain ⟨p,c,rfl⟩:=h.slice;have a4:=hs.1;refine AL Tryz.func93 Tryz.ntmps93 ?_;refine Sa ?_;refine CW.loop (ι:=Nat×Value) (λx w'=>x.1≤r.length∧Ae w w'∧Ax w' w.heap.size 9 1 x.2 (Lx (r.take x.1)).length ((Lx (r.take x.1)).map Aj)) (λx=>[(3,x.2),(6,.slice p r.length c),(7,.int .i64 r.length),(8,.int .i64 x.1)]) (λx=>r.length - x.1) (0,.slice none 0 0) ⟨by simp,Chg.refl _ _,Ax.nil _ _ _ _⟩ BN ?_;rintro ⟨k,ov⟩ w1 ⟨hk,hx,hO⟩;dsimp only at hk hO;show CW _ _ _ _ _ [(3,ov),(6,.slice p r.length c),(7,.int .i64 r.length),(8,.int .i64 (k:Int))] _;have hz:=hx.size;refine Sa ?_;refine Am (λh1=>?_) λh1=>?_;rotate_left
 ·have h1:k=r.length:=by simp at h1;omega
  subst h1;rw [List.take_length] at hO;refine Sa ?_;refine Ap rfl rfl (K1 (Lx r) ov w1 (CR hO (by have:=J2 r;omega) λs hm=>by have:=hs.2 s ((List.mem_filter.1 hm).1);omega)) ?_;rintro u w2 ⟨hb,a0⟩;obtain ⟨pu,cu,rfl⟩:=hb.slice;refine Sa ?_;refine LW.string_any (bs:=G0 (Lx r)) rfl rfl (Ce.bytes' hb) rfl rfl rfl rfl rfl rfl rfl ?_;refine Sa ?_;exact QW.body1 Tryz.results93 rfl ⟨rfl,hx.trans a0⟩
 have h1:k<r.length:=by simp at h1;omega
 obtain ⟨s,a1⟩:∃s,r[k]?=some s:=⟨_,List.getElem?_eq_getElem h1⟩;obtain ⟨a,rfl,-,a5,hc⟩:=Av.at (Av.ext h hx) a1;refine Sw ?_;refine Am (λh2=>?_) λh2=>?_
 ·have h2:s≠[]:=by simpa using h2
  refine Sa ?_;refine Cl λC w2 a6 a0 hC=>?_;refine Sa ?_;refine LW.append (lo:=w.heap.size) (k:=(Lx (r.take k)).length) rfl rfl rfl rfl rfl rfl (hO.ext a0) (by have:=a0.size;omega) hC rfl rfl rfl (by have:=J2 (r.take k);have:=List.length_take_le k r;show (_+1)*17≤_;omega) rfl ?_;intro v3 w3 a2 a3 _;refine Sa ?_;refine QW.again (k+1,v3) ⟨by show k+1≤_;omega,(hx.trans a0).step a2 (λb hb=>(hO.lt hb).1),?_⟩ BN (by show r.length - (k+1)<r.length - k;omega);show Ax _ _ _ _ v3 (Lx (r.take (k+1))).length ((Lx (r.take (k+1))).map Aj);rw [J3 a1,if_neg h2];exact NS a3
 ·have h2:s=[]:=by simpa using h2
  refine Sa ?_;refine QW.again (k+1,ov) ⟨by show k+1≤_;omega,hx,?_⟩ BN (by show r.length - (k+1)<r.length - k;omega);show Ax _ _ _ _ ov (Lx (r.take (k+1))).length ((Lx (r.take (k+1))).map Aj);rw [J3 a1,if_pos h2];exact hO
theorem JA (r:List (List UInt8)) (v:Value) (w:World) (h:BE w v r) (hs:GB r):AA Tryz.prog 99 [v] w (λu w'=>u=Aj (Ch r)∧Ae w w'):=by
 obtain ⟨p,c,rfl⟩:=h.slice;have a4:=hs.1;refine AL Tryz.func99 Tryz.ntmps99 ?_;refine Sa ?_;refine CW.loop (ι:=Nat×Value) (λx w'=>x.1≤r.length∧Ae w w'∧Ax w' w.heap.size 9 1 x.2 (Lx (r.take x.1)).length ((Lx (r.take x.1)).map Aj)) (λx=>[(0,.slice p r.length c),(3,x.2),(4,.int .i64 x.1)]) (λx=>r.length - x.1) (0,.slice none 0 0) ⟨by simp,Chg.refl _ _,Ax.nil _ _ _ _⟩ Bh ?_;rintro ⟨k,ov⟩ w1 ⟨hk,hx,hO⟩;dsimp only at hk hO;show CW _ _ _ _ _ [(0,.slice p r.length c),(3,ov),(4,.int .i64 (k:Int))] _;have hz:=hx.size;refine Sa ?_;refine Am (λh1=>?_) λh1=>?_;rotate_left
 ·have h1:k=r.length:=by simp at h1;omega
  subst h1;rw [List.take_length] at hO;refine Sa ?_;refine Ap rfl rfl (GR (Lx r) ov w1 (CR hO (by have:=J2 r;omega) λs hm=>by have:=hs.2 s ((List.mem_filter.1 hm).1);omega)) ?_;rintro u w2 ⟨hb,a0⟩;obtain ⟨pu,cu,rfl⟩:=hb.slice;refine Sa ?_;refine LW.string_any (bs:=G0 (Lx r)) rfl rfl (Ce.bytes' hb) rfl rfl rfl rfl rfl rfl rfl ?_;refine Sa ?_;exact QW.body1 Tryz.results99 rfl ⟨rfl,hx.trans a0⟩
 have h1:k<r.length:=by simp at h1;omega
 obtain ⟨s,a1⟩:∃s,r[k]?=some s:=⟨_,List.getElem?_eq_getElem h1⟩;obtain ⟨a,rfl,-,a5,hc⟩:=Av.at (Av.ext h hx) a1;refine Sw ?_;refine Am (λh2=>?_) λh2=>?_
 ·have h2:s≠[]:=by simpa using h2
  refine Sw ?_;refine Cl λC w2 a6 a0 hC=>?_;refine Sa ?_;refine LW.append (lo:=w.heap.size) (k:=(Lx (r.take k)).length) rfl rfl rfl rfl rfl rfl (hO.ext a0) (by have:=a0.size;omega) hC rfl rfl rfl (by have:=J2 (r.take k);have:=List.length_take_le k r;show (_+1)*17≤_;omega) rfl ?_;intro v3 w3 a2 a3 _;refine Sa ?_;refine QW.again (k+1,v3) ⟨by show k+1≤_;omega,(hx.trans a0).step a2 (λb hb=>(hO.lt hb).1),?_⟩ Bh (by show r.length - (k+1)<r.length - k;omega);show Ax _ _ _ _ v3 (Lx (r.take (k+1))).length ((Lx (r.take (k+1))).map Aj);rw [J3 a1,if_neg h2];exact NS a3
 ·have h2:s=[]:=by simpa using h2
  refine Sa ?_;refine QW.again (k+1,ov) ⟨by show k+1≤_;omega,hx,?_⟩ Bh (by show r.length - (k+1)<r.length - k;omega);show Ax _ _ _ _ ov (Lx (r.take (k+1))).length ((Lx (r.take (k+1))).map Aj);rw [J3 a1,if_pos h2];exact hO
structure Cf (s:Aq):Prop where
 rows:s.rows.length≤100
 cols:0≤s.cols∧s.cols≤100
 wide:∀r∈s.rows,(r.length:Int)=s.cols
 cells:∀r∈s.rows,∀t∈r,t.length≤1000
theorem Cf.row {s:Aq} (h:Cf s) {r:List (List UInt8)} (hr:r∈s.rows):GB r:=⟨by have:=h.wide r hr;have:=h.cols;omega,h.cells r hr⟩
theorem P9 (s:Aq) (rv:Value) (w:World) (h:Dx w rv s.rows) (hs:Cf s):AA Tryz.prog 92 [.agg ⟨AB s rv⟩,.func (.func 93) ⟨[]⟩ ⟨[]⟩] w (λv w'=>Ax w' w.heap.size 9 1 v (s.rows.map Ch).length ((s.rows.map Ch).map Aj)∧Ae w w'):=by
 obtain ⟨p,c,rfl⟩:=h.slice;have a6:=hs.rows;refine AL Tryz.func92 Tryz.ntmps92 ?_;apply CW.seq;apply CW.region;refine Sl ?_;refine CZ λA w1 a7 a2 hA=>?_;replace hA:Blk w1 A (AB s (.slice p s.rows.length c)) 41:=hA;refine Sa ?_;refine CW.loop (ι:=Nat×Value) (λx w'=>x.1≤s.rows.length∧Ae w w'∧Ax w' w.heap.size 9 1 x.2 (s.rows.take x.1).length (((s.rows.take x.1).map Ch).map Aj)) (λx=>[(1,.func (.func 93) ⟨[]⟩ ⟨[]⟩),(5,x.2),(9,.slice p s.rows.length c),(10,.int .i64 s.rows.length),(11,.int .i64 x.1)]) (λx=>s.rows.length - x.1) (0,.slice none 0 0) ⟨by simp,a2,Ax.nil _ _ _ _⟩ C2 ?_;rintro ⟨k,ov⟩ w2 ⟨hk,hx,hO⟩;dsimp only at hk hO;show CW _ _ _ _ _ [(1,.func (.func 93) ⟨[]⟩ ⟨[]⟩),(5,ov),(9,.slice p s.rows.length c),(10,.int .i64 s.rows.length),(11,.int .i64 (k:Int))] _;have hz:=hx.size;refine Sa ?_;refine Am (λh1=>?_) λh1=>?_;rotate_left
 ·have h1:k=s.rows.length:=by simp at h1;omega
  subst h1;rw [List.take_length] at hO;refine Sa ?_;exact QW.body1 Tryz.results92 rfl ⟨by rw [List.length_map];exact hO,hx⟩
 have h1:k<s.rows.length:=by simp at h1;omega
 obtain ⟨r,hr⟩:∃s',s.rows[k]?=some s':=⟨_,List.getElem?_eq_getElem h1⟩;obtain ⟨a,q,qc,rfl,-,ht,hc⟩:=AJ.at (AJ.ext h hx) hr;have a3:=hs.row (List.mem_of_getElem? hr);refine Sw ?_;refine LW.call (fs:=[]) (cs:=[]) rfl rfl rfl (Ow r _ w2 ht a3) ?_;rintro v w3 ⟨rfl,a0⟩;refine Sa ?_;refine Cl λC w4 a8 a1 hC=>?_;refine Sa ?_;refine LW.append (lo:=w.heap.size) (k:=(s.rows.take k).length) rfl rfl rfl rfl rfl rfl (hO.ext (a0.trans a1)) (by have:=a0.size;have:=a1.size;omega) hC rfl rfl rfl (by have:=List.length_take_le k s.rows;show (_+1)*17≤_;omega) rfl ?_;intro v5 w5 a4 a5 _;refine Sa ?_;refine QW.again (k+1,v5) ⟨by show k+1≤_;omega,((hx.trans a0).trans a1).step a4 (λb hb=>(hO.lt hb).1),?_⟩ C2 (by show s.rows.length - (k+1)<s.rows.length - k;omega);show Ax _ _ _ _ v5 (s.rows.take (k+1)).length (((s.rows.take (k+1)).map Ch).map Aj);rw [List.take_add_one,hr];simp only [Option.toList,List.map_append,List.map_cons,List.map_nil,List.length_append,List.length_cons,List.length_nil,Nat.zero_add];exact a5
theorem AG.at1 {w:World} {p:Option Addr} {c:Nat} {zs:List Int} (h:AG w (.slice p zs.length c) zs) {i:Nat} {z:Int} (hi:zs[i]?=some z):∃a,p=some a∧w.cell? (a.add (((i:Nat):Int).toNat*1))=some (.int .i64 z):=by
 obtain ⟨hl,e⟩:=List.getElem?_eq_some_iff.1 hi;obtain ⟨a,h1,h2⟩:=h.at hl;refine ⟨a,h1,?_⟩;rw [show ((i:Nat):Int).toNat*1=i by omega,h2,List.getD_eq_getElem?_getD,hi];rfl
def Cn (s:Aq) (rs:List Nat) (c:Nat):List (List UInt8):=rs.map λr=>(s.rows.getD r []).getD c []
def OX (rs:List Nat):List Int:=rs.map λ(r:Nat)=>(r:Int)
theorem Wy {rs:List Nat} {k r:Nat} (h:rs[k]?=some r):(OX rs)[k]?=some (r:Int):=by simp [OX,h]
theorem KV {s:Aq} (hs:Cf s) {r c:Nat} (hr:r<s.rows.length) (hc:(c:Int)<s.cols):∃row t,s.rows[r]?=some row∧row[c]?=some t∧(s.rows.getD r []).getD c []=t∧t.length≤1000:=by
 have h1:=List.getElem?_eq_getElem hr;have hm:=List.mem_of_getElem? h1;have hw:=hs.wide _ hm;have h2:=List.getElem?_eq_getElem (l:=s.rows[r]) (i:=c) (by omega);refine ⟨_,_,h1,h2,?_,hs.cells _ hm _ (List.mem_of_getElem? h2)⟩;rw [List.getD_eq_getElem?_getD,List.getD_eq_getElem?_getD,h1,Option.getD_some,h2,Option.getD_some]
theorem FM {s:Aq} (hs:Cf s) {rs:List Nat} (hr:∀r∈rs,r<s.rows.length) (hl:rs.length≤100) {c:Nat} (hc:(c:Int)<s.cols):GB (Cn s rs c):=by
 refine ⟨by simpa [Cn] using hl,λt ht=>?_⟩;simp only [Cn,List.mem_map] at ht;obtain ⟨r,h1,rfl⟩:=ht;obtain ⟨_,t,_,_,e,h2⟩:=KV hs (hr r h1) hc;rw [e];exact h2
theorem O4 (s:Aq) (rs:List Nat) (k:Nat):(List.range (k+1)).map (F2 s rs)=(List.range k).map (F2 s rs)++[F2 s rs k]:=by simp [List.range_succ]
set_option maxHeartbeats 1000000 in
theorem K4 (s:Aq) (rv iv:Value) (rs:List Nat) (w:World) (h:Dx w rv s.rows) (hs:Cf s) (hi:AG w iv (OX rs)) (hr:∀r∈rs,r<s.rows.length) (hl:rs.length≤100):AA Tryz.prog 94 [.agg ⟨AB s rv⟩,iv] w (λv w'=>Ax w' w.heap.size 9 1 v (A2 s rs).length ((A2 s rs).map Aj)∧Ae w w'):=by
 obtain ⟨p,c,rfl⟩:=h.slice;have a9:(OX rs).length=rs.length:=by simp [OX]
 obtain ⟨ip,ic,rfl⟩:=hi.slice;have af:=hs.rows;obtain ⟨ag,ah⟩:=hs.cols;obtain ⟨C,hC⟩:∃C:Nat,s.cols=C:=⟨s.cols.toNat,by omega⟩;refine AL Tryz.func94 Tryz.ntmps94 ?_;apply CW.seq;apply CW.region;refine Sl ?_;refine CZ λA w1 ai a4 hA=>?_;replace hA:Blk w1 A (AB s (.slice p s.rows.length c)) 41:=hA;refine Sa ?_;refine CW.loop (ι:=Nat×Value) (λx w'=>x.1≤C∧Ae w1 w'∧Ax w' w1.heap.size 9 1 x.2 ((List.range x.1).map (F2 s rs)).length (((List.range x.1).map (F2 s rs)).map Aj)) (λx=>[(1,.slice ip (OX rs).length ic),(2,.pointer (some ⟨A,0,none⟩)),(5,x.2),(11,.int .i64 s.cols),(12,.int .i64 x.1)]) (λx=>C - x.1) (0,.slice none 0 0) ⟨by simp,Chg.refl _ _,Ax.nil _ _ _ _⟩ C2 ?_;rintro ⟨k,ov⟩ w2 ⟨hk,hx,hO⟩;dsimp only at hk hO;show CW _ _ _ _ _ [(1,.slice ip (OX rs).length ic),(2,.pointer (some ⟨A,0,none⟩)),(5,ov),(11,.int .i64 s.cols),(12,.int .i64 (k:Int))] _;have hz:=a4.size;have aj:=hx.size;rw [List.length_map,List.length_range] at hO;refine Sa ?_;refine Am (λh1=>?_) λh1=>?_;rotate_left
 ·have h1:k=C:=by simp at h1;omega
  subst h1;refine Sa ?_;refine QW.body1 Tryz.results94 rfl ⟨?_,a4.trans hx⟩;have e:A2 s rs=(List.range k).map (F2 s rs):=by rw [A2,hC];rfl
  rw [e,List.length_map,List.length_range];exact hO.low hz
 have h1:k<C:=by simp at h1;omega
 replace hA:=hA.ext hx;refine Sa ?_;refine CW.loop (ι:=Nat×Value) (λx w'=>x.1≤rs.length∧Ae w2 w'∧Ax w' w2.heap.size 9 1 x.2 x.1 (((Cn s rs k).take x.1).map Aj)) (λx=>[(1,.slice ip (OX rs).length ic),(2,.pointer (some ⟨A,0,none⟩)),(5,ov),(6,.int .i64 k),(7,x.2),(11,.int .i64 s.cols),(12,.int .i64 k),(15,.slice ip (OX rs).length ic),(16,.int .i64 (OX rs).length),(17,.int .i64 x.1)]) (λx=>rs.length - x.1) (0,.slice none 0 0) ⟨by simp,Chg.refl _ _,Ax.nil _ _ _ _⟩ LD ?_;rintro ⟨j,lv⟩ w3 ⟨hj,a1,hL⟩;dsimp only at hj hL;show CW _ _ _ _ _ [(1,.slice ip (OX rs).length ic),(2,.pointer (some ⟨A,0,none⟩)),(5,ov),(6,.int .i64 (k:Int)),(7,lv),(11,.int .i64 s.cols),(12,.int .i64 (k:Int)),(15,.slice ip (OX rs).length ic),(16,.int .i64 (OX rs).length),(17,.int .i64 (j:Int))] _;have ak:=a1.size;have a2:=a4.trans (hx.trans a1);replace hA:=hA.ext a1;refine Sa ?_;refine Am (λh2=>?_) λh2=>?_;rotate_left
 ·have h2:j=rs.length:=by simp [a9] at h2;omega
  subst h2;have el:(Cn s rs k).take rs.length=Cn s rs k:=List.take_of_length_le (by simp [Cn]);rw [el] at hL;have aa:=FM hs hr hl (c:=k) (by omega);have ac:Ax w3 w2.heap.size 9 1 lv (Cn s rs k).length ((Cn s rs k).map Aj):=by
   rw [show (Cn s rs k).length=rs.length by simp [Cn]];exact hL
  refine Sa ?_;refine Ap rfl rfl (K1 (Cn s rs k) lv w3 (CR ac (by have:=aa.1;omega) λt ht=>by have:=aa.2 t ht;omega)) ?_;rintro u w4 ⟨hb,a5⟩;obtain ⟨pu,cu,rfl⟩:=hb.slice;refine Sa ?_;refine LW.string_any (bs:=G0 (Cn s rs k)) rfl rfl (Ce.bytes' hb) rfl rfl rfl rfl rfl rfl rfl ?_;refine Sa ?_;refine Cl λD w5 ad a0 hD=>?_;refine Sa ?_;refine LW.append (lo:=w1.heap.size) (k:=k) rfl rfl rfl rfl rfl rfl (((hO.ext a1).ext a5).ext a0) (by have:=a5.size;have:=a0.size;omega) hD rfl rfl rfl (by show (_+1)*17≤_;omega) rfl ?_;intro v6 w6 a6 a7 _;refine Sa ?_;refine QW.again (k+1,v6) ⟨by show k+1≤_;omega,(((hx.trans a1).trans a5).trans a0).step a6 (λb hb=>(hO.lt hb).1),?_⟩ C2 (by show C - (k+1)<C - k;omega)
  ·show Ax _ _ _ _ v6 ((List.range (k+1)).map (F2 s rs)).length (((List.range (k+1)).map (F2 s rs)).map Aj);rw [O4,List.length_append,List.map_append,List.length_map,List.length_range];exact a7
 have h2:j<rs.length:=by simp [a9] at h2;omega
 obtain ⟨r,a8⟩:∃r,rs[j]?=some r:=⟨_,List.getElem?_eq_getElem h2⟩;obtain ⟨ia,rfl,al⟩:=AG.at1 (hi.ext a2) (Wy a8);obtain ⟨row,t,a3,ab,ae,am⟩:=KV hs (hr r (List.mem_of_getElem? a8)) (c:=k) (by omega);obtain ⟨a,q,qc,rfl,-,ht,hc⟩:=AJ.at (AJ.ext h a2) a3;obtain ⟨a',rfl,-,-,an⟩:=Av.at ht ab;have ao:=(List.getElem?_eq_some_iff.1 a3).1;have ap:=(List.getElem?_eq_some_iff.1 ab).1;refine Sw ?_;refine Cl λD w5 ad a0 hD=>?_;refine Sa ?_;refine LW.append (lo:=w2.heap.size) (k:=j) rfl rfl rfl rfl rfl rfl (hL.ext a0) (by have:=a0.size;omega) hD rfl rfl rfl (by show (_+1)*17≤_;omega) rfl ?_;intro v6 w6 a6 a7 _;refine Sa ?_;refine QW.again (j+1,v6) ⟨by show j+1≤_;omega,(a1.trans a0).step a6 (λb hb=>(hL.lt hb).1),?_⟩ LD (by show rs.length - (j+1)<rs.length - j;omega);show Ax _ _ _ _ v6 (j+1) (((Cn s rs k).take (j+1)).map Aj);rw [List.take_add_one,show (Cn s rs k)[j]?=some t by simp [Cn,a8];simpa using ae,List.map_append];exact a7
theorem LT (zs:List Int) (v:Value) (w:World) (h:AG w v zs) (hl:zs.length≤100000):AA Tryz.prog 98 [v] w (λv' w'=>E.Ax w' w.heap.size 3 1 v' zs.length (Ac zs)∧Ae w w'):=by
 refine AL Tryz.func98 Tryz.ntmps98 ?_;obtain ⟨_,⟨rfl,rfl⟩ | ⟨a,cap,rfl,hc⟩⟩:=h
 ·refine Sa ?_;refine LW.eql_sn rfl rfl rfl rfl ?_;refine Sa ?_;exact QW.body1 Tryz.results98 rfl ⟨E.Ax.nil _ _ _ _,Chg.refl _ _⟩
 ·refine Sa ?_;refine LW.eql_sn rfl rfl rfl rfl ?_;refine Sa ?_
  (apply LW.buildSlice0;exact rfl;exact rfl;exact rfl;exact rfl;intro B w5 a3 a1 hB)
  refine Sa ?_;refine LW.append_any (lo:=w.heap.size) (xs:=[]) (news:=Ac zs) rfl rfl rfl rfl rfl rfl (⟨rfl,.inr ⟨B,0,[],rfl,hB,by simp,by simp,by omega⟩⟩) (by have:=a1.size;omega) (by rw [A7];show _=_*1;omega) (.inr ⟨a,rfl,λj u hj=>by
   simp only [Ac,List.getElem?_map] at hj
   cases hg:zs[j]? with
   | none=>rw [hg] at hj;cases hj
   | some y=>
    rw [hg] at hj;obtain rfl:=Option.some.inj hj;exact Aw a1 (hc j y hg)⟩) (λu hu=>by
   simp only [Ac,List.mem_map] at hu;obtain ⟨_,_,rfl⟩:=hu;rfl) (by show (0+_)*9≤_;omega) rfl ?_
  intro v' w6 a2 a0 a4;rw [Nat.zero_add,List.nil_append] at a0;refine Sa ?_;exact QW.body1 Tryz.results98 rfl ⟨a0,a1.step a2 (by simp [Af];omega)⟩
abbrev U4 (zs:List Int) (x:Fin zs.length):List Value:=[.int .i64 ((x.val:Nat):Int),.int .i64 (zs.getD x.val 0)]
def FX {n:Nat} (pre:List (Fin n)):Prop:=∀i x,pre[i]?=some x→x.val+1+i=n
theorem FX.snoc {n:Nat} {pre:List (Fin n)} {x:Fin n} (h:FX (pre++[x])):FX pre∧x.val+1+pre.length=n:=by
 refine ⟨λi y hi=>h i y (by rw [List.getElem?_append_left (List.getElem?_eq_some_iff.1 hi).1];exact hi),h pre.length x ?_⟩;rw [List.getElem?_append_right (Nat.le_refl _)];simp
theorem FX.push {n:Nat} {pre:List (Fin n)} {x:Fin n} (h:FX pre) (hx:x.val+1+pre.length=n):FX (pre++[x]):=λi y hi=>by
 rcases Nat.lt_trichotomy i pre.length with h1 | h1 | h1
 ·rw [List.getElem?_append_left h1] at hi;exact h i y hi
 ·subst h1;rw [List.getElem?_append_right (Nat.le_refl _)] at hi;simp at hi;rw [←hi];exact hx
 ·rw [List.getElem?_eq_none (by simp;omega)] at hi;cases hi
theorem Ov (p:Option Addr) (n c:Nat) (w:World):AA Tryz.prog 176 [.slice p n c] w (λv w'=>v=.func (.func 214) ⟨[]⟩ ⟨[.pointer (some ⟨w.heap.size,0,none⟩)]⟩∧Blk w' w.heap.size [.slice p n c] 69∧Ae w w'):=by
 refine AL Tryz.func176 Tryz.ntmps176 ?_;apply CW.seq;apply CW.region;refine Sl ?_;refine CZ λA w1 a0 a1 hA=>?_;subst a0;replace hA:Blk w1 w.heap.size [.slice p n c] 69:=hA;refine Sa ?_;exact QW.body1 Tryz.results176 rfl ⟨rfl,hA,a1⟩
set_option maxRecDepth 8000 in
set_option maxHeartbeats 1000000 in
theorem Rc (zs:List Int) (p:Option Addr) (c B:Nat) (ok:Nat→Prop) (w0:World) (hn:zs.length≤100000) (hB:Blk w0 B [.slice p zs.length c] 69) (hokB:ok B) (hz:zs.length≠0→∃a,p=some a∧ok a.block∧∀j z,zs[j]?=some z→w0.cell? (a.add (((j:Nat):Int).toNat*1))=some (.int .i64 z)) (hlt:∀b,ok b→b<w0.heap.size) :
  SeqStopsK Fence.wide 3 Tryz.prog 214 ⟨[.pointer (some ⟨B,0,none⟩)]⟩ (λx=>⟨U4 zs x⟩) (BD ok) (λys:List (Fin zs.length)=>ys.length=zs.length∧FX ys) (λ_=>True) zs.length w0:=by
 intro l J Jx W hW hJ ab hY h0;have hF:=RM;have a7:BD ok w0 W:=λb hb=>hW.block b (hlt b hb);refine CallsIn.enterI (args:=[.func (.yield l) #[] #[],.pointer (some ⟨B,0,none⟩)]) Tryz.func214 rfl Tryz.ntmps214 hF rfl rfl ?_;have ac:=a7.blk hokB hB;refine RQ ?_;refine E.CI.loop (ι:=Nat×List (Fin zs.length)) (λx w'=>x.1≤zs.length∧BD ok w0 w'∧J x.2 w'∧x.1+x.2.length=zs.length∧FX x.2) (λx=>[(0,.func (.yield l) #[] #[]),(1,.pointer (some ⟨B,0,none⟩)),(3,.int .i64 ((x.1:Int) - 1))]) (λx=>x.1) (zs.length,[]) ⟨Nat.le_refl _,a7,h0,by simp,λi x h=>by simp at h⟩ Bh ?_;rintro ⟨k,pre⟩ w1 ⟨hk,a1,a2,a3,a4⟩;dsimp only at hk a2 a3 a4;show E.CI _ _ _ _ _ _ _ [(0,.func (.yield l) #[] #[]),(1,.pointer (some ⟨B,0,none⟩)),(3,.int .i64 ((k:Int) - 1))] _;have ad:=a1.blk hokB hB;refine RQ ?_;refine E.CI.cond rfl (λh1=>?_) (λh1=>?_);rotate_left
 ·have h1:k=0:=by simp at h1;omega
  subst h1;refine RQ ?_;exact QW.bodyI (.inr rfl) rfl ⟨⟨_,rfl⟩,.inl ⟨pre,⟨by omega,a4⟩,a2⟩⟩
 have h1:0<k:=by simp at h1;omega
 obtain ⟨j,rfl⟩:∃j,k=j+1:=⟨k - 1,by omega⟩;obtain ⟨z,a8⟩:∃z,zs[j]?=some z:=⟨_,List.getElem?_eq_getElem (by omega)⟩;obtain ⟨a,rfl,a5,a0⟩:=hz (by omega);have hc:=a1.cell (a:=a.add (((j:Nat):Int).toNat*1)) (by rw [Dp];exact a5) (a0 j z a8);have ej:(((j+1:Nat):Int) - 1)=(j:Int):=by omega
 rw [ej];have hy:=hY pre ⟨j,by omega⟩ w1 a2 (by omega);have ez:zs.getD j 0=z:=by rw [List.getD_eq_getElem?_getD,a8];rfl
 simp only [U4,ez] at hy;refine RQ ?_;refine E.LI.yield hF rfl rfl rfl hy ?_;rintro e w2 (⟨rfl,a9,aa⟩ | ⟨rfl,a6⟩)
 ·refine ⟨_,rfl,?_⟩;refine RQ ?_;refine E.CI.cond rfl (λh2=>by cases h2) (λ_=>?_);refine RQ ?_;refine QW.again (j,pre++[⟨j,by omega⟩]) ⟨by show j≤_;omega,a1.trans aa,a9,by simp;omega,a4.push (by show j+1+_=_;omega)⟩ ?_ (by show j<j+1;omega);exact Bh
 ·refine ⟨_,rfl,?_⟩;refine RQ ?_;refine E.CI.cond rfl (λ_=>?_) (λh2=>by cases h2);refine RQ ?_;exact QW.bodyI (.inl rfl) rfl ⟨⟨_,rfl⟩,.inr ⟨_,trivial,a6⟩⟩
open Go Go.E Go.RowKit
theorem SW {B:Nat} {w0 w:World} {D:Nat} (o:Obj) (h:Below B w0 w) (hB:B≤w.heap.size) (hD:B≤D):Below B w0 (w.putObj D o):=
 h.grown (grownBy_putObj' w D o) hB (λk e=>by cases e;exact hD)
structure Xf (m:CQ) (lo:Nat) (ok:Nat→Prop) (w w6 W:World) (A R X N:Nat) (v:Value) (pre:List (Fin m.to.length)) (L:List Int) (nx:Int):Prop where
 size:w6.heap.size≤W.heap.size
 kept:BD ok w6 W
 below:Below w.heap.size w W
 bX:Blk W X [v,.int .i64 m.new] 71
 bR:Blk W R [.slice none 0 0,.int .i64 0] 71
 bN:Blk W N [.int .i64 nx] 3
 own:E.Ax W lo 3 1 v m.to.length (Ac L)
 nx0:0≤nx
 nx1:nx≤1000000
 at_:FX pre→L=Gj m.new m.to (m.to.length - pre.length)∧nx=Ci m.new (m.to.drop (m.to.length - pre.length))
set_option maxRecDepth 8000 in
set_option maxHeartbeats 2000000 in
theorem Rj (m:CQ) (tv:Value) (w:World) (h:AG w tv m.to) (hl:m.to.length≤100000) (hz:∀z∈m.to,-1≤z∧z≤1000000) (hn0:0≤m.new) (hn1:m.new≤1000000):AA Tryz.prog 131 [.agg ⟨[tv,.int .i64 m.new]⟩] w (λv w'=>∃tv',v=.agg ⟨[tv',.int .i64 m.new]⟩∧E.Ax w' w.heap.size 3 1 tv' m.to.length (Ac (DZ m.new 0 m.to))∧Ae w w'):=by
 obtain ⟨p,c,rfl⟩:=h.slice;refine AA.enterM Tryz.func131 rfl Tryz.ntmps131 (by kernel_rfl) rfl ?_;apply CW.seq;apply CW.region;refine Sl ?_;refine CZ λA w1 c5 bc hA=>?_;replace hA:Blk w1 A [.slice p m.to.length c,.int .i64 m.new] 71:=hA;refine Sa ?_;refine BP λR w2 af ax hR=>?_;replace hA:=hA.ext ax;have a4:=bc.trans ax;have ay:=bc.size;have c6:=ax.size;have c7:=hR.lt;refine Sa ?_;refine CW.cut (ι:=Nat×Value) (λx w'=>Ae w2 w'∧Blk w' x.1 [x.2,.int .i64 m.new] 71∧E.Ax w' w2.heap.size 3 1 x.2 m.to.length (Ac m.to)∧w2.heap.size≤x.1∧x.1∉Af x.2) (λx=>[(1,.pointer (some ⟨A,0,none⟩)),(2,.pointer (some ⟨R,0,none⟩)),(3,.pointer (some ⟨x.1,0,none⟩))]) ?_ ?_
 ·apply CW.noP;refine CW.drawG (Ae w2) 7 (λw' h=>h) (by kernel_rfl) λwa c8=>?_;refine Bp ?_;refine GW.two 2 6 (by kernel_rfl) rfl rfl rfl rfl rfl rfl (λhS=>?_) (λhS=>?_)
  ·refine Ap rfl rfl (LT m.to _ wa (h.ext (a4.trans hS)) hl) ?_;rintro v wb ⟨hO,ag⟩;obtain ⟨vp,vc,rfl⟩:=hO.slice;have a2:=hS.trans ag;have bd:=hS.size;have bn:=ag.size;apply LW.nil;refine QW.headed a2 ?_;refine Bp ?_;refine CX 6 λhS=>?_;refine BP λX wc a5 a6 hX=>?_;apply LW.nil;refine QW.headed (a2.trans a6) ?_;refine GW.tail rfl (by kernel_rfl) (λhS=>?_);refine AM λwd ah hX=>?_;have ai:X∉Af (.slice vp m.to.length vc):=λhm=>by have:=(hO.lt hm).2;omega
   refine Sa ?_;exact QW.noP_n (QW.head (X,.slice vp m.to.length vc) ⟨(a2.trans a6).step ah (by simp;omega),hX,((hO.ext a6).chg ah (λb hb=>by simp only [List.mem_singleton];exact λe=>ai (e ▸ hb))).low bd,by show w2.heap.size≤X;omega,ai⟩ (Ad.cons rfl (Ad.cons rfl (Ad.cons rfl (Ad.nil)))))
  ·refine BP λX wb a5 ag hX=>?_;have a2:=hS.trans ag;have bd:=hS.size;have bn:=ag.size;have bo:=hX.lt;apply LW.nil;refine QW.headed a2 ?_;refine CX 2 λhS=>?_;refine Ap rfl rfl (LT m.to _ wb (h.ext (a4.trans a2)) hl) ?_;rintro v wc ⟨hO,a6⟩;obtain ⟨vp,vc,rfl⟩:=hO.slice;replace hX:=hX.ext a6;apply LW.nil;refine QW.headed (a2.trans a6) ?_;refine Bp ?_;refine GW.tail rfl (by kernel_rfl) (λhS=>?_);refine AM λwd ah hX=>?_;have ai:X∉Af (.slice vp m.to.length vc):=λhm=>by have:=(hO.lt hm).1;omega
   refine Sa ?_;exact QW.noP_n (QW.head (X,.slice vp m.to.length vc) ⟨(a2.trans a6).step ah (by simp;omega),hX,(hO.chg ah (λb hb=>by simp only [List.mem_singleton];exact λe=>ai (e ▸ hb))).low (by omega),by show w2.heap.size≤X;omega,ai⟩ (Ad.cons rfl (Ad.cons rfl (Ad.cons rfl (Ad.nil)))))
 rintro ⟨X,v⟩ w3 ⟨an,hX,hO,bp,az⟩;dsimp only at hX hO bp az;have be:∀b,b∈Af v→b<w3.heap.size:=λb hb=>(hO.lt hb).2;show CW _ _ _ _ _ [(1,.pointer (some ⟨A,0,none⟩)),(2,.pointer (some ⟨R,0,none⟩)),(3,.pointer (some ⟨X,0,none⟩))] _;replace hA:=hA.ext an;replace hR:=hR.ext an;have c9:=an.size;have bo:=hX.lt;refine Sw ?_;refine BP λN w4 ad bf hN=>?_;have ca:=bf.size;have bq:=hN.lt;have cb:=hN;refine Sw ?_;refine BS λw5 bg hN=>?_;replace hN:Blk w5 N [.int .i64 m.new] 3:=hN;have a1:Ae w3 w5:=bf.step bg (by simp;omega);have cc:=a1.size;replace hA:=hA.ext a1;replace hR:=hR.ext a1;replace hX:=hX.ext a1;replace hO:=hO.ext a1;refine Sw ?_;refine Ap rfl rfl (Ov p m.to.length c w5) ?_;rintro u w6 ⟨rfl,bh,a7⟩;have cd:=a7.size;replace hA:=hA.ext a7;replace hR:=hR.ext a7;replace hX:=hX.ext a7;replace hN:=hN.ext a7;replace hO:=hO.ext a7;have aj:=((a4.trans an).trans a1).trans a7;have ce:=hN.lt;have cf:=bh.lt;have bi:∀j z,m.to[j]?=some z→-1≤z∧z≤1000000:=λj z hj=>hz z (List.mem_of_getElem? hj);refine Sa ?_;refine CW.rangeFunc (α:=Fin m.to.length) (gf:=214) (lb:=[.pointer (some ⟨w5.heap.size,0,none⟩)]) (encs:=U4 m.to) (ok:=λb=>b<w.heap.size∨b=w5.heap.size) (S:=λys=>ys.length=m.to.length∧FX ys) (Sp:=λ_=>True) (N:=m.to.length) (w0:=w6) rfl (by kernel_rfl) (Rc m.to p c w5.heap.size _ w6 hl bh (.inr rfl) (λcg=>?_) (λb hb=>by omega)) (Below.refl _ _) (λb hb=>by omega) (λ_=>rfl) rfl
  (λpre W=>∃L nx,Xf m w2.heap.size (λb=>b<w.heap.size∨b=w5.heap.size) w w6 W A R X N v pre L nx) (λpre W W' row hb hg hr=>?_) ⟨m.to,m.new,⟨Nat.le_refl _,BD.refl _ _,aj.toBelow,hX,hR,hN,hO,hn0,hn1,λ_=>⟨by simp [SU],by simp [Ci]⟩⟩⟩ (λx=>[(2,.pointer (some ⟨R,0,none⟩)),(3,.pointer (some ⟨X,0,none⟩)),(4,.pointer (some ⟨N,0,none⟩)),(5,.int .i64 ((x.val:Nat):Int)),(6,.int .i64 (m.to.getD x.val 0))]) ?_ ?_ ?_
 ·obtain ⟨z0,h0⟩:∃z,m.to[0]?=some z:=⟨_,List.getElem?_eq_getElem (by omega)⟩;obtain ⟨a,ea,br⟩:=AG.at1 h h0;refine ⟨a,ea,.inl ?_,λj z hj=>?_⟩
  ·have:=World.block_lt_of_cell? w _ br
   rwa [Dp] at this
  ·obtain ⟨a',e,hc⟩:=AG.at1 h hj;rw [ea] at e;obtain rfl:=Option.some.inj e;exact Aw aj hc
 ·obtain ⟨L,nx,hb⟩:=hb;have ao:∀r,row=some r→∃o:Obj,W.heap[r]?=some o∧o.isCells=false:=λr e=>(hr r e).2;exact ⟨L,nx,⟨Nat.le_trans hb.size hg.size,hb.kept.trans λb ci=>hg.block b (by have:=hb.size;omega) (λe=>by have:=(hr b e.symm).1;omega),hb.below.grown hg (by have:=hb.size;omega) (λk e=>by have:=(hr k e).1;omega),hb.bX.grown hg ao,hb.bR.grown hg ao,hb.bN.grown hg ao,hb.own.grown hg ao,hb.nx0,hb.nx1,hb.at_⟩⟩
 ·intro lk pre x W K hi hK;have hF:=RM.inRound lk;show E.CI _ _ _ _ _ _ _ ((22,.int .i64 (m.to.getD x.val 0))::(21,.int .i64 ((x.val:Nat):Int))::_) _;refine RQ ?_;unfold QW;exact λa ha=>hK a (ha.sub (Ad.cons rfl (Ad.cons rfl (Ad.cons rfl (Ad.cons rfl (Ad.cons rfl (Ad.nil)))))))
 ·rintro lk pre x W ⟨L,nx,hb⟩ bs;have hF:=RM.inRound lk;obtain ⟨z,ap⟩:∃z,m.to[x.val]?=some z:=⟨_,List.getElem?_eq_getElem x.2⟩;have ez:m.to.getD x.val 0=z:=by rw [List.getD_eq_getElem?_getD,ap];rfl
  obtain ⟨bt,ay⟩:=bi _ _ ap;obtain ⟨aq,b0,ar,a5,af,ad,ak,b1,b2,au⟩:=hb;have cj:=x.2;have bu:=a5.lt;have bv:=ad.lt;have ck:N≠X:=by omega
  have cl:N≠R:=by omega
  have cm:N<w5.heap.size:=by have:=bq;have:=bg.size;omega
  have cn:w.heap.size≤N:=by omega
  have bj:∀b,b<w.heap.size∨b=w5.heap.size→b≠N:=λb hb=>by omega
  have bk:∀b,b∈Af v→b≠N:=λb hm=>by have:=be b hm;omega
  rw [ez];refine RQ ?_;refine E.CI.cond rfl (λh1=>?_) (λh1=>?_)
  ·have h1:0≤z:=by simpa using h1
   refine RQ ?_;refine E.LI.store hF rfl rfl rfl ad rfl rfl rfl λW' hc b3=>?_;replace b3:Blk W' N [.int .i64 z] 3:=b3;refine RQ ?_;unfold QW;refine λ_ _=>⟨KeepsFrom.chg hc (λb hm=>by simp only [List.mem_singleton] at hm;subst hm;exact ⟨_,_,ad⟩),BD.chg hc (λb hm=>⟨by omega,by simp only [List.mem_singleton];exact bj b hm⟩),L,z,⟨Nat.le_trans aq hc.size,b0.trans (BD.chg hc (λb hm=>⟨by omega,by simp only [List.mem_singleton];exact bj b hm⟩)),ar.trans (hc.below (by omega) (by simp;omega)),a5.chg hc (by simp;omega),af.chg hc (by simp;omega),b3,ak.chg hc (λb hm=>by simp only [List.mem_singleton];exact bk b hm),h1,ay,λb4=>?_⟩⟩;obtain ⟨a8,b5⟩:=b4.snoc;obtain ⟨e1,e2⟩:=au a8;have e3:m.to.length - pre.length=x.val+1:=by omega
   have e4:m.to.length - (pre++[x]).length=x.val:=by simp;omega
   rw [e4];obtain ⟨e5,e6⟩:=QZ (new:=m.new) ap h1;exact ⟨by rw [e1,e3,e5],e6.symm⟩
  ·have h1:¬0≤z:=by simpa using h1
   obtain ⟨b6,⟨_,bw⟩ | ⟨g,cap,sp,rfl,hG,h5,h6,h7⟩⟩:=ak
   ·omega
   have bl:(Ac L).length=L.length:=A7 L;have co:=bk g (by simp [Af]);have bx:g≠X:=λe=>az (by simp [Af,e]);have bz:=hG.lt;refine RQ ?_;refine E.LI.store (i:=0+((x.val:Nat):Int).toNat*1) hF (by show some (Value.pointer (some (Addr.add ⟨g,0,none⟩ (((x.val:Nat):Int).toNat*1))))=_;rw [A0]) rfl rfl hG (Nat.ble_eq_true_of_le (by show _+1≤_;rw [List.length_append];omega)) rfl rfl λW' hc b7=>?_;replace b7:Blk W' g (Ac (L.set x.val (-1 - nx))++sp) 3:=by
    have e:(Ac L++sp).set (0+((x.val:Nat):Int).toNat*1) (.int .i64 (-1 - nx))=Ac (L.set x.val (-1 - nx))++sp:=by
     rw [show 0+((x.val:Nat):Int).toNat*1=x.val by omega,List.set_append_left _ _ (by omega)];simp [Ac,List.map_set]
    rw [←e];exact b7
   have bm:∀b,b<w.heap.size∨b=w5.heap.size→b≠g:=λb hb=>by have:=be g (by simp [Af]);omega
   refine RQ ?_;unfold QW;refine λ_ _=>⟨KeepsFrom.chg hc (λb hm=>by simp only [List.mem_singleton] at hm;subst hm;exact ⟨_,_,hG⟩),BD.chg hc (λb hm=>⟨by omega,by simp only [List.mem_singleton];exact bm b hm⟩),L.set x.val (-1 - nx),nx,⟨Nat.le_trans aq hc.size,b0.trans (BD.chg hc (λb hm=>⟨by omega,by simp only [List.mem_singleton];exact bm b hm⟩)),ar.trans (hc.below (by omega) (by simp;omega)),a5.chg hc (by simp;omega),af.chg hc (by simp;omega),ad.chg hc (by simp;omega),⟨by rw [A7,List.length_set,←bl];exact b6,.inr ⟨g,cap,sp,rfl,b7,h5,h6,h7⟩⟩,b1,b2,λb4=>?_⟩⟩;obtain ⟨a8,b5⟩:=b4.snoc;obtain ⟨e1,e2⟩:=au a8;have e3:m.to.length - pre.length=x.val+1:=by omega
   have e4:m.to.length - (pre++[x]).length=x.val:=by simp;omega
   rw [e4];rw [e3] at e1 e2;obtain ⟨e5,e6⟩:=Ra (new:=m.new) ap h1;exact ⟨by rw [e1,e2];exact e5,by rw [e2];exact e6.symm⟩
 ·intro Dd ys W hD c0 hb hK;obtain ⟨c1,c2⟩:=c0;obtain ⟨L,nx,aq,b0,ar,a5,af,ad,ak,-,-,au⟩:=hb;obtain ⟨e1,-⟩:=au c2;rw [c1,Nat.sub_self,Rb] at e1;subst e1;obtain ⟨p',c',rfl⟩:=ak.slice;refine Sw ?_;refine CW.loop (ι:=Nat×List Int×Int) (λx w'=>x.1≤m.to.length∧Hn m.new m.to x.1 x.2.1 x.2.2∧x.2.2≤1000001∧Blk w' X [.slice p' m.to.length c',.int .i64 m.new] 71∧E.Ax w' w2.heap.size 3 1 (.slice p' m.to.length c') m.to.length (Ac (x.2.1++Dy m.new (m.to.drop x.1)))∧Below w.heap.size w w'∧Blk w' R [.slice none 0 0,.int .i64 0] 71∧w'.heap[Dd]?=some (.deferred (some []))∧w6.heap.size≤w'.heap.size) (λx=>[(2,.pointer (some ⟨R,0,none⟩)),(3,.pointer (some ⟨X,0,none⟩)),(7,.int .i64 x.2.2),(33,.slice p' m.to.length c'),(34,.int .i64 m.to.length),(35,.int .i64 x.1)]) (λx=>m.to.length - x.1) (0,[],0) ⟨Nat.zero_le _,Hn.start _ _,by decide,a5,by simpa using ak,ar,af,hK,aq⟩ BQ ?_;rintro ⟨j,done,free⟩ w7 ⟨hj,hP,hf,b8,ae,av,a9,aa,b9⟩;dsimp only at hj hP hf ae;show CW _ _ _ _ _ [(2,.pointer (some ⟨R,0,none⟩)),(3,.pointer (some ⟨X,0,none⟩)),(7,.int .i64 free),(33,.slice p' m.to.length c'),(34,.int .i64 m.to.length),(35,.int .i64 (j:Int))] _;refine Sw ?_;refine Am (λh1=>?_) λh1=>?_;rotate_left
  ·have h1:j=m.to.length:=by simp at h1;omega
   subst h1;rw [hP.all,List.drop_length] at ae;have aw:Dd<w7.heap.size:=(Array.getElem?_eq_some_iff.1 aa).1;refine Sw ?_;refine AM λw8 a0 a9=>?_;replace a9:Blk w8 R [.slice p' m.to.length c',.int .i64 m.new] 71:=a9;have c3:=a9;have ba:w8.heap[Dd]?=some (.deferred (some [])):=(a0.block Dd aw (by simp;omega)).trans aa;have c4:R∉Af (.slice p' m.to.length c'):=λhm=>by have:=(ae.lt hm).1;omega
   refine Sw ?_;refine QW.bodyM (.inl rfl) Tryz.results131 ba (vs:=[.agg ⟨[.slice p' m.to.length c',.int .i64 m.new]⟩]) ⟨⟨R,rfl,E.Fd rfl rfl (c3.put ba rfl) rfl (DQ.all _)⟩,trivial⟩ rfl ⟨.slice p' m.to.length c',rfl,?_,?_⟩
   ·refine E.Ax.put (E.Ax.low (lo:=w2.heap.size) ?_ (by omega)) ba rfl;have:=ae.chg a0 (λb hb=>by simp only [List.mem_singleton];exact λe=>c4 (e ▸ hb))
    simpa [Dy] using this
   ·exact Ae.of_below (SW _ (av.trans (a0.below (by omega) (by simp;omega))) (by have:=a0.size;omega) (by omega))
  have h1:j<m.to.length:=by simp at h1;omega
  obtain ⟨z,ab⟩:∃z,m.to[j]?=some z:=⟨_,List.getElem?_eq_getElem h1⟩;obtain ⟨bt,ay⟩:=bi _ _ ab;obtain ⟨b6,⟨_,bw⟩ | ⟨g,cap,sp,ev,hG,h5,h6,h7⟩⟩:=id ae
  ·omega
  obtain ⟨rfl,-,rfl⟩:=Value.slice.inj ev;have bl:(Ac (done++Dy m.new (m.to.drop j))).length=m.to.length:=by rw [b6];omega
  have bb:=hP.free0;have cp:=H6 hn0 hn1 (l:=m.to.drop (j+1)) (λy hy=>(hz y (List.mem_of_mem_drop hy)).2);have a3:∀u,(if 0≤z then z else -1 - Ci m.new (m.to.drop (j+1)))=u→w7.cell? ((⟨g,0,none⟩:Addr).add (((j:Nat):Int).toNat*1))=some (.int .i64 u):=λu hu=>by
   rw [A0];refine hG.cell ?_;rw [show 0+((j:Nat):Int).toNat*1=j by omega,List.getElem?_append_left (by omega)];have:=VT (new:=m.new) hP.len ab;rw [hu] at this;simp only [Ac,List.getElem?_map,this,Option.map_some]
  have bz:=hG.lt;have bx:g≠X:=λe=>az (by simp [Af,e]);have cq:g≠R:=by omega
  have aw:Dd<w7.heap.size:=(Array.getElem?_eq_some_iff.1 aa).1;have cr:Dd≠g:=λe=>by
   unfold Blk at hG;rw [←e,aa] at hG;cases hG
  by_cases ac:0≤z
  ·have hc:=a3 z (if_pos ac);refine Sw ?_;refine CW.yes rfl (by simpa using ac) ?_;refine Sw ?_;refine QW.again (j+1,done++[z],z+1) ⟨by show j+1≤_;omega,hP.kept ab ac,by show z+1≤_;omega,b8,?_,av,a9,aa,b9⟩ BQ (by show m.to.length - (j+1)<m.to.length - j;omega);show E.Ax _ _ _ _ _ _ (Ac ((done++[z])++Dy m.new (m.to.drop (j+1))));rw [←UL ab ac];exact ae
  ·have hc:=a3 _ (if_neg ac);have al:∀y,Chg [g] w7=Chg [g] w7∧((Ac (done++Dy m.new (m.to.drop j))++sp).set (0+((j:Nat):Int).toNat*1) (.int .i64 y)=Ac ((done++[y])++Dy m.new (m.to.drop (j+1)))++sp):=λy=>⟨rfl,by
    rw [show 0+((j:Nat):Int).toNat*1=j by omega,List.set_append_left _ _ (by omega),←Tl hP.len ab];simp [Ac,List.map_set]⟩
   refine Sw ?_;refine CW.no rfl (by simp;omega) ?_;refine Sw ?_;refine Am (λh2=>?_) λh2=>?_
   ·have h2:free<Ci m.new (m.to.drop (j+1)):=by simp at h2;omega
    refine Sw ?_;refine LW.store (i:=0+((j:Nat):Int).toNat*1) (by show some (Value.pointer (some (Addr.add ⟨g,0,none⟩ (((j:Nat):Int).toNat*1))))=_;rw [A0]) rfl rfl hG (Nat.ble_eq_true_of_le (by show _+1≤_;rw [List.length_append];omega)) rfl rfl λw8 a0 am=>?_;rw [(al free).2] at am;refine Sw ?_;exact QW.again (j+1,done++[free],free+1) ⟨by show j+1≤_;omega,hP.fill ab ac h2,by show free+1≤_;omega,b8.chg a0 (by simp;omega),⟨by rw [A7,List.length_append,Kb,List.length_drop];have:=hP.len;simp;omega,.inr ⟨g,_,sp,rfl,am,h5,h6,h7⟩⟩,av.trans (a0.below (by omega) (by simp;omega)),a9.chg a0 (by simp;omega),(a0.block Dd aw (by simp;omega)).trans aa,Nat.le_trans b9 a0.size⟩ BQ (by show m.to.length - (j+1)<m.to.length - j;omega)
   ·have h2:¬free<Ci m.new (m.to.drop (j+1)):=by simp at h2;omega
    refine Sw ?_;refine LW.store (i:=0+((j:Nat):Int).toNat*1) (by show some (Value.pointer (some (Addr.add ⟨g,0,none⟩ (((j:Nat):Int).toNat*1))))=_;rw [A0]) rfl rfl hG (Nat.ble_eq_true_of_le (by show _+1≤_;rw [List.length_append];omega)) rfl rfl λw8 a0 am=>?_;rw [(al (-1)).2] at am;refine Sw ?_;exact QW.again (j+1,done++[-1],free) ⟨by show j+1≤_;omega,hP.gone ab ac h2,hf,b8.chg a0 (by simp;omega),⟨by rw [A7,List.length_append,Kb,List.length_drop];have:=hP.len;simp;omega,.inr ⟨g,_,sp,rfl,am,h5,h6,h7⟩⟩,av.trans (a0.below (by omega) (by simp;omega)),a9.chg a0 (by simp;omega),(a0.block Dd aw (by simp;omega)).trans aa,Nat.le_trans b9 a0.size⟩ BQ (by show m.to.length - (j+1)<m.to.length - j;omega)
section
variable {α:Type} [DecidableEq α]
theorem Jt:∀(a b:List α),Cm a b≤a.length
 | [],_=>by simp [Cm]
 | _::_,[]=>by simp [Cm]
 | x::a,y::b=>by
  have h1:=Jt a b;have h2:=Jt a (y::b);have h3:=Jt (x::a) b;simp only [Cm,List.length_cons] at *
  split<;>omega
 termination_by a b=>a.length+b.length
theorem Tu {a b:List α} {i k:Nat} (h:a.length≤i):Cm (a.drop i) (b.drop k)=0:=by
 rw [List.drop_eq_nil_of_le h];simp [Cm]
theorem Tv {a b:List α} {i k:Nat} (h:b.length≤k):Cm (a.drop i) (b.drop k)=0:=by
 rw [List.drop_eq_nil_of_le h];cases a.drop i<;>simp [Cm]
omit [DecidableEq α] in
theorem Jm {l:List α} {i:Nat} {x:α} (h:l[i]?=some x):l.drop i=x::l.drop (i+1):=by
 obtain ⟨hi,rfl⟩:=List.getElem?_eq_some_iff.1 h;exact List.drop_eq_getElem_cons hi
theorem So {a b:List α} {i k:Nat} {x y:α} (h1:a[i]?=some x) (h2:b[k]?=some y):Cm (a.drop i) (b.drop k)=if x=y then Cm (a.drop (i+1)) (b.drop (k+1))+1 else max (Cm (a.drop (i+1)) (b.drop k)) (Cm (a.drop i) (b.drop (k+1))):=by
 rw [Jm h1,Jm h2];simp only [Cm]
theorem NT {a b:List α} {i k:Nat} {x y:α} (h1:a[i]?=some x) (h2:b[k]?=some y):AE (a.drop i) (b.drop k) i k=if x=y then (i,k)::AE (a.drop (i+1)) (b.drop (k+1)) (i+1) (k+1) else if Cm (a.drop i) (b.drop (k+1))≤Cm (a.drop (i+1)) (b.drop k) then AE (a.drop (i+1)) (b.drop k) (i+1) k else AE (a.drop i) (b.drop (k+1)) i (k+1):=by
 rw [Jm h1,Jm h2];simp only [AE]
theorem GP {a b:List α} {i k:Nat} (h:a.length≤i∨b.length≤k):AE (a.drop i) (b.drop k) i k=[]:=by
 rcases h with h | h
 ·rw [List.drop_eq_nil_of_le h];simp [AE]
 ·rw [List.drop_eq_nil_of_le h];cases a.drop i<;>simp [AE]
def EF (a b:List α) (i j:Nat):List Int:=(List.range (b.length+1)).map λk=>if j≤k then ((Cm (a.drop i) (b.drop k):Nat):Int) else 0
theorem DM (a b:List α) (i j:Nat):(EF a b i j).length=b.length+1:=by simp [EF]
theorem Gy {a b:List α} {i j k:Nat} (h:k≤b.length):(EF a b i j)[k]?=some (if j≤k then ((Cm (a.drop i) (b.drop k):Nat):Int) else 0):=by
 simp [EF,List.getElem?_map,List.getElem?_range (by omega:k<b.length+1)]
theorem F8 {a b:List α} {i j:Nat} (h:a.length≤i∨b.length≤j):EF a b i j=List.replicate (b.length+1) 0:=by
 apply List.ext_getElem?;intro k;by_cases hk:k≤b.length
 ·have e:(if j≤k then ((Cm (a.drop i) (b.drop k):Nat):Int) else 0)=0:=by
   split
   ·rcases h with h | h
    ·rw [Tu h];rfl
    ·rw [Tv (by omega)];rfl
   ·rfl
  rw [Gy hk,e,List.getElem?_replicate,if_pos (by omega)]
 ·rw [List.getElem?_eq_none (by rw [DM];omega),List.getElem?_eq_none (by simp;omega)]
theorem TH {a b:List α} {i j:Nat} (h:j≤b.length):(EF a b i (j+1)).set j ((Cm (a.drop i) (b.drop j):Nat):Int)=EF a b i j:=by
 apply List.ext_getElem?;intro k;by_cases hk:k≤b.length
 ·rw [List.getElem?_set,Gy hk,Gy hk,DM];by_cases e:j=k
  ·subst e;simp;omega
  ·rw [if_neg e];by_cases h2:j+1≤k
   ·rw [if_pos h2,if_pos (by omega)]
   ·rw [if_neg h2,if_neg (by omega)]
 ·rw [List.getElem?_eq_none (by rw [List.length_set,DM];omega),List.getElem?_eq_none (by rw [DM];omega)]
omit [DecidableEq α] in
theorem GQ {a b:List α} {i k:Nat} (h1:i<a.length) (h2:k<b.length):∃x y,a[i]?=some x∧b[k]?=some y:=⟨_,_,List.getElem?_eq_getElem h1,List.getElem?_eq_getElem h2⟩
end
theorem Kc {l:List Int} {k:Nat}:(Ac l)[k]?=(l[k]?).map λz=>.int .i64 z:=by simp [Ac]
theorem I6 (l:List Int) (k:Nat) (z:Int):(Ac l).set k (.int .i64 z)=Ac (l.set k z):=by simp [Ac,List.map_set]
theorem DA (l m:List Int):Ac (l++m)=Ac l++Ac m:=by simp [Ac]
theorem Jp (n:Nat):Ac (List.replicate n 0)=List.replicate n (.int .i64 0):=by simp [Ac]
def F7 (n m j r:Nat):Nat:=if m≤r then 0 else if r+1=m then j else n
def EJ {α:Type} [DecidableEq α] (a b:List α) (m j r:Nat):Option (List Value):=if r≤a.length then some (Ac (EF a b r (F7 b.length m j r))) else none
theorem G4 {α:Type} [DecidableEq α] {a b:List α} {m j r:Nat} (h:r≤a.length):EJ a b m j r=some (Ac (EF a b r (F7 b.length m j r))):=if_pos h
theorem Na {α:Type} [DecidableEq α] {a b:List α} {m r:Nat}:EJ a b (m+1) 0 r=EJ a b m b.length r:=by
 unfold EJ;by_cases h:r≤a.length
 ·rw [if_pos h,if_pos h]
  congr 3
  unfold F7
  split<;>split<;>(try split)<;>(try split)<;>first | rfl | omega
 ·rw [if_neg h,if_neg h]
theorem HI {α:Type} [DecidableEq α] {a b:List α} {r:Nat}:(if r<a.length+1 then some (List.replicate (b.length+1) (Value.int .i64 0)) else none)=EJ a b a.length b.length r:=by
 unfold EJ;by_cases h:r≤a.length
 ·rw [if_pos (by omega),if_pos h]
  congr 1
  rw [←Jp]
  congr 1
  unfold F7
  split
  ·rw [F8 (.inl (by omega))]
  ·split<;>rw [F8 (.inr (Nat.le_refl _))]
 ·rw [if_neg (by omega),if_neg h]
theorem GT {α:Type} [DecidableEq α] {a b:List α} {m j r:Nat} (hm:m<a.length) (hj:j<b.length) {x:List Value} (hx:x=(Ac (EF a b m (j+1))).set j (.int .i64 ((Cm (a.drop m) (b.drop j):Nat):Int))):(if r=m then some x else EJ a b (m+1) (j+1) r)=EJ a b (m+1) j r:=by
 by_cases h:r=m
 ·subst h;rw [if_pos rfl,G4 (by omega),hx,I6,TH (by omega),F7,if_neg (by omega),if_pos rfl]
 ·rw [if_neg h];unfold EJ;by_cases h2:r≤a.length
  ·rw [if_pos h2,if_pos h2]
   congr 3
   unfold F7
   split
   ·rfl
   ·rw [if_neg (by omega),if_neg (by omega)]
  ·rw [if_neg h2,if_neg h2]
theorem Av.bound {ok:Addr→Prop} {w:World} {v:Value} {l:List (List UInt8)} (h:Av ok w v l):Av (λa=>ok a∧a.block<w.heap.size) w v l:=by
 obtain ⟨h0,h | ⟨a,c,e,hk,hc⟩⟩:=h
 ·exact ⟨h0,.inl h⟩
 ·refine ⟨h0,.inr ⟨a,c,e,λhn=>⟨hk hn,?_⟩,hc⟩⟩;obtain ⟨a',c',e',a0⟩:=Az.lt (m:=1) ⟨h0,.inr ⟨a,c,e,hk,hc⟩⟩ (by omega) hn;rw [e] at e';obtain ⟨e1,-,-⟩:=Value.slice.inj e';obtain rfl:=Option.some.inj e1;exact a0
structure JP (a b:List (List UInt8)) (av bv:Value) (lo X O:Nat) (xs:List Value) (f:Nat→Nat) (m j:Nat) (w:World):Prop where
 bX:Blk w X [av,bv,.slice (some ⟨O,0,none⟩) (a.length+1) (a.length+1)] 236
 bO:Blk w O xs 69
 len:xs.length=a.length+1
 grid:DR 3 lo w xs (EJ a b m j) f [O]
theorem JP.ext {a b:List (List UInt8)} {av bv:Value} {lo X O:Nat} {xs:List Value} {f:Nat→Nat} {m j:Nat} {w w':World} (h:JP a b av bv lo X O xs f m j w) (x:Ae w w'):JP a b av bv lo X O xs f m j w':=⟨h.bX.ext x,h.bO.ext x,h.len,h.grid.ext x⟩
theorem JP.row {a b:List (List UInt8)} {av bv:Value} {lo X O:Nat} {xs:List Value} {f:Nat→Nat} {m j:Nat} {w:World} (h:JP a b av bv lo X O xs f m j w) {r:Nat} (hr:r≤a.length):w.cell? ((⟨O,0,none⟩:Addr).add (r*1))=some (.slice (some ⟨f r,0,none⟩) (b.length+1) (b.length+1)):=by
 have:=h.grid.row h.bO (G4 hr)
 rwa [A7,DM] at this
theorem JP.cell {a b:List (List UInt8)} {av bv:Value} {lo X O:Nat} {xs:List Value} {f:Nat→Nat} {m j:Nat} {w:World} (h:JP a b av bv lo X O xs f m j w) {r k:Nat} (hr:r≤a.length) (hk:k≤b.length) (hl:F7 b.length m j r≤k):w.cell? ((⟨f r,0,none⟩:Addr).add (k*1))=some (.int .i64 ((Cm (a.drop r) (b.drop k):Nat):Int)):=by
 refine h.grid.cell (G4 hr) ?_;rw [Kc,Gy hk,if_pos hl];rfl
set_option maxRecDepth 8000 in
set_option maxHeartbeats 2000000 in
theorem UI (a b:List (List UInt8)) (av bv:Value) (X:Nat) (w:World) (ha:Av (λx=>x.block<X) w av a) (hb:Av (λx=>x.block<X) w bv b) (hla:a.length≤200) (hlb:b.length≤200) (hX:Blk w X [av,bv,.slice none 0 0] 236) :
  AA Tryz.prog 213 [.pointer (some ⟨X,0,none⟩)] w (λv w'=>v=.tuple #[]∧Chg [X] w w'∧∃O xs f,JP a b av bv w.heap.size X O xs f 0 b.length w'):=by
 obtain ⟨p,c,rfl⟩:=Az.slice ha;obtain ⟨q,d,rfl⟩:=Az.slice hb;have bj:=hX.lt;refine AL Tryz.func213 Tryz.ntmps213 ?_;refine Sw ?_;refine LW.makeSlice (m:=a.length+1) rfl rfl rfl rfl rfl rfl rfl (by omega) rfl rfl ?_;intro O w1 bk ai hO;replace hX:=hX.ext ai;have bl:=ai.size;have bm:=hO.lt;refine Sw ?_;refine BS λw2 aj hX=>?_;replace hX:Blk w2 X [.slice p a.length c,.slice q b.length d,.slice (some ⟨O,0,none⟩) (a.length+1) (a.length+1)] 236:=hX;replace hO:=hO.chg aj (by simp;omega);have bn:=aj.size;have ak:Chg [X] w w2:=ai.chg.same aj;refine Sw ?_;refine CW.loop (ι:=Nat×(Nat→Nat)×List Value) (λx w'=>x.1≤a.length+1∧Chg [O] w2 w'∧Blk w' O x.2.2 69∧x.2.2.length=a.length+1∧DR 3 w2.heap.size w' x.2.2 (λr=>if r<x.1 then some (List.replicate (b.length+1) (Value.int .i64 0)) else none) x.2.1 [O]) (λx=>[(0,.pointer (some ⟨X,0,none⟩)),(19,.int .i64 ((a.length+1:Nat):Int)),(20,.int .i64 x.1)]) (λx=>a.length+1 - x.1) (0,(λ_=>0),List.replicate (a.length+1) (.slice none 0 0)) ⟨Nat.zero_le _,Chg.refl _ _,hO,by simp,DR.none.congr rfl (λr=>by simp) (λ_=>rfl)⟩ Bh ?_;rintro ⟨k,f,xs⟩ w3 ⟨hk,a9,ad,ae,hG⟩;dsimp only at hk a9 ad ae hG;show CW _ _ _ _ _ [(0,.pointer (some ⟨X,0,none⟩)),(19,.int .i64 ((a.length+1:Nat):Int)),(20,.int .i64 (k:Int))] _;have al:=hX.chg a9 (by simp;omega);have bo:=a9.size;refine Sw ?_;refine Am (λh1=>?_) λh1=>?_
 ·have h1:k<a.length+1:=by simp at h1;omega
  refine Sw ?_;refine CW.drawG (Ae w3) 12 (λw' h=>h) (by kernel_rfl) λwa b6=>?_;refine Bp ?_;refine CX 11 λhS=>?_;refine LW.makeSlice (m:=b.length+1) rfl rfl rfl rfl rfl rfl rfl (by omega) rfl rfl ?_;intro g w4 bp b7 b8;have af:=hS.trans b7;have bq:=hS.size;apply LW.nil;refine QW.headed af ?_;refine GW.tail rfl (by kernel_rfl) (λhS=>?_);refine Sw ?_;refine LW.store (i:=0+((k:Nat):Int).toNat*1) (by show some (Value.pointer (some (Addr.add ⟨O,0,none⟩ (((k:Nat):Int).toNat*1))))=_;rw [A0]) rfl rfl (ad.ext af) (Nat.ble_eq_true_of_le (by show _+1≤_;omega)) rfl rfl λw5 a8 aq=>?_;rw [show 0+((k:Nat):Int).toNat*1=k by omega] at aq;have b9:=(hG.ext af).other a8 (by simp);have am:=b8.chg a8 (by simp;omega);have ag:=b9.put (r:=k) (g:=g) (x:=List.replicate (b.length+1) (Value.int .i64 0)) (by omega) am (by omega) (by simp;omega) (λq y hq _=>by have:=(hG.blk q y hq).1.lt;omega);refine Sw ?_;exact QW.again (k+1,(λq=>if q=k then g else f q),xs.set k (.slice (some ⟨g,0,none⟩) (b.length+1) (b.length+1))) ⟨h1,(a9.ext af).same a8,aq,by simpa using ae,ag.congr (by simp) (λr=>by
   by_cases e:r=k
   ·rw [if_pos e,if_pos (by omega)]
   ·rw [if_neg e];by_cases e2:r<k
    ·rw [if_pos e2,if_pos (by show r<k+1;omega)]
    ·rw [if_neg e2,if_neg (by show ¬r<k+1;omega)]) (λ_=>rfl)⟩ Bh (by show a.length+1 - (k+1)<a.length+1 - k;omega)
 have h1:k=a.length+1:=by simp at h1;omega
 subst h1;have an:Chg [X] w w3:=ak.more a9 (by simp;omega);have ar:JP a b (.slice p a.length c) (.slice q b.length d) w.heap.size X O xs f a.length b.length w3:=⟨al,ad,ae,⟨λr x hr=>(hG.congr rfl (λr=>HI) (λ_=>rfl)).val r x hr,λr x hr=>by
  obtain ⟨h1,h2,h3⟩:=(hG.congr rfl (λr=>HI) (λ_=>rfl)).blk r x hr;exact ⟨h1,by omega,h3⟩,(hG.congr rfl (λr=>HI) (λ_=>rfl)).inj⟩⟩
 clear hG ad al hX hO ae;have al:=ar.bX;refine Sw ?_;refine CW.loop (ι:=Nat) (λm w'=>m≤a.length∧Chg [X] w w'∧JP a b (.slice p a.length c) (.slice q b.length d) w.heap.size X O xs f m b.length w') (λm=>[(0,.pointer (some ⟨X,0,none⟩)),(3,.int .i64 ((m:Int) - 1))]) (λm=>m) a.length ⟨Nat.le_refl _,an,ar⟩ Fv ?_;rintro m w4 ⟨hm,au,ao⟩;have br:=ao.bX;refine Sw ?_;refine Am (λh2=>?_) λh2=>?_;rotate_left
 ·have h2:m=0:=by simp at h2;omega
  subst h2;refine Sw ?_;exact QW.body_n (rs:=[]) (vs:=[]) Tryz.results213 trivial rfl ⟨rfl,au,O,xs,f,ao⟩
 have h2:0<m:=by simp at h2;omega
 obtain ⟨i,rfl⟩:∃i,m=i+1:=⟨m - 1,by omega⟩;have ei:(((i+1:Nat):Int) - 1)=(i:Int):=by omega
 rw [ei];refine Sw ?_;refine CW.loop (ι:=Nat) (λj w'=>j≤b.length∧Chg [X] w w'∧JP a b (.slice p a.length c) (.slice q b.length d) w.heap.size X O xs f (i+1) j w') (λj=>[(0,.pointer (some ⟨X,0,none⟩)),(3,.int .i64 (i:Int)),(4,.int .i64 ((j:Int) - 1))]) (λj=>j) b.length ⟨Nat.le_refl _,au,ao⟩ Bh ?_;rintro j w5 ⟨hj,a8,a1⟩;have aw:=a1.bX;refine Sw ?_;refine Am (λh3=>?_) λh3=>?_;rotate_left
 ·have h3:j=0:=by simp at h3;omega
  subst h3;refine Sw ?_;exact QW.again i ⟨by omega,a8,⟨a1.bX,a1.bO,a1.len,a1.grid.congr rfl (λr=>Na) (λ_=>rfl)⟩⟩ Fv (by omega)
 have h3:0<j:=by simp at h3;omega
 obtain ⟨k,rfl⟩:∃k,j=k+1:=⟨j - 1,by omega⟩;have ek:(((k+1:Nat):Int) - 1)=(k:Int):=by omega
 rw [ek];have hi:i<a.length:=by omega
 have hk:k<b.length:=by omega
 obtain ⟨x,y,ax,ay⟩:=GQ hi hk;have az:w5.cell? ((⟨O,0,none⟩:Addr).add (((i:Nat):Int).toNat*1))=some (.slice (some ⟨f i,0,none⟩) (b.length+1) (b.length+1)):=a1.row (r:=i) (by omega);have b0:w5.cell? ((⟨O,0,none⟩:Addr).add ((((i:Nat):Int)+1).toNat*1))=some (.slice (some ⟨f (i+1),0,none⟩) (b.length+1) (b.length+1)):=a1.row (r:=i+1) (by omega);have hA:w5.cell? ((⟨f (i+1),0,none⟩:Addr).add (((k:Nat):Int).toNat*1))=some (.int .i64 ((Cm (a.drop (i+1)) (b.drop k):Nat):Int)):=a1.cell (r:=i+1) (k:=k) (by omega) (by omega) (by simp [F7]);have hB:w5.cell? ((⟨f i,0,none⟩:Addr).add ((((k:Nat):Int)+1).toNat*1))=some (.int .i64 ((Cm (a.drop i) (b.drop (k+1)):Nat):Int)):=a1.cell (r:=i) (k:=k+1) (by omega) (by omega) (by rw [F7,if_neg (by omega),if_pos rfl];omega);have hC:w5.cell? ((⟨f (i+1),0,none⟩:Addr).add ((((k:Nat):Int)+1).toNat*1))=some (.int .i64 ((Cm (a.drop (i+1)) (b.drop (k+1)):Nat):Int)):=a1.cell (r:=i+1) (k:=k+1) (by omega) (by omega) (by simp [F7]);have ba:=Jt (a.drop (i+1)) (b.drop (k+1));rw [List.length_drop] at ba;have a6:EJ a b (i+1) (k+1) i=some (Ac (EF a b i (k+1))):=by
  rw [G4 (by omega),F7,if_neg (by omega),if_pos rfl]
 obtain ⟨b1,bb,bc⟩:=a1.grid.blk i _ a6;have aa:EJ a b (i+1) (k+1) (i+1)=some (Ac (EF a b (i+1) 0)):=by
  rw [G4 (by omega),F7,if_pos (by omega)]
 have bd:f (i+1)≠f i:=λe=>by have:=a1.grid.inj _ _ _ _ aa a6 e;omega
 have a3:f i≠O:=by simpa using bc
 have bs:(Ac (EF a b i (k+1))).length=b.length+1:=by rw [A7,DM]
 refine Sw ?_;refine CW.drawG (Ae w5) 32 (λw' h=>h) (by kernel_rfl) λwa b6=>?_;refine Bp ?_;refine GW.tail rfl (by kernel_rfl) (λhS=>?_);refine LW.store (i:=0+((k:Nat):Int).toNat*1) (by show some (Value.pointer (some (Addr.add ⟨f i,0,none⟩ (((k:Nat):Int).toNat*1))))=_;rw [A0]) rfl rfl (b1.ext hS) (Nat.ble_eq_true_of_le (by show _+1≤_;omega)) rfl rfl λw6 a7 ap=>?_;rw [show 0+((k:Nat):Int).toNat*1=k by omega] at ap;have a4:Chg [X] w w6:=(a8.ext hS).more a7 (by simp;omega);have b2:=(aw.ext hS).chg a7 (by simp;omega);have b3:=(a1.bO.ext hS).chg a7 (by simpa using λe:O=f i=>a3 e.symm);have ag:=(a1.grid.ext hS).set a6 a7 ap;obtain ⟨xa,be,-,-,bt⟩:=Av.at (Av.chg ha a4 (λ_ a0 h0=>by simp;omega)) ax;obtain ⟨ya,bf,-,-,bu⟩:=Av.at (Av.chg hb a4 (λ_ a0 h0=>by simp;omega)) ay;subst be bf;have ab:w6.cell? ((⟨O,0,none⟩:Addr).add (((i:Nat):Int).toNat*1))=some (.slice (some ⟨f i,0,none⟩) (b.length+1) (b.length+1)):=Ht a7 (by rw [Dp];simpa using λe:O=f i=>a3 e.symm) (Bd hS az);have ac:w6.cell? ((⟨O,0,none⟩:Addr).add ((((i:Nat):Int)+1).toNat*1))=some (.slice (some ⟨f (i+1),0,none⟩) (b.length+1) (b.length+1)):=Ht a7 (by rw [Dp];simpa using λe:O=f i=>a3 e.symm) (Bd hS b0);have b4:w6.cell? ((⟨f (i+1),0,none⟩:Addr).add ((((k:Nat):Int)+1).toNat*1))=some (.int .i64 ((Cm (a.drop (i+1)) (b.drop (k+1)):Nat):Int)):=Ht a7 (by rw [Dp];simpa using bd) (Bd hS hC);clear az b0 hA hB hC aw b1;refine Sw ?_;refine Hk ?_;refine RR ?_;refine QL.nil λw7 a2=>?_;have a5:=So ax ay;refine Sa ?_;refine Am (λh4=>?_) λh4=>?_
 ·have h4:x=y:=by simpa using h4
  rw [if_pos h4] at a5;have bg:=b2.ext a2;replace ab:=Bd a2 ab;replace ac:=Bd a2 ac;replace b4:=Bd a2 b4;have bh:=ap.ext a2;refine Sw ?_;refine CW.drawG (Ae w7) 22 (λw' h=>h) (by kernel_rfl) λwb bw=>?_;refine Bp ?_;refine GW.tail rfl (by kernel_rfl) (λhS=>?_);refine LW.store (i:=0+((k:Nat):Int).toNat*1) (by show some (Value.pointer (some (Addr.add ⟨f i,0,none⟩ (((k:Nat):Int).toNat*1))))=_;rw [A0]) rfl rfl (bh.ext hS) (Nat.ble_eq_true_of_le (by show _+1≤_;rw [List.length_set];omega)) rfl rfl λw8 ah b5=>?_;rw [show 0+((k:Nat):Int).toNat*1=k by omega] at b5;have bi:=((ag.ext a2).ext hS).set (r:=i) (k:=k) (if_pos rfl) ah b5;refine Sw ?_;refine QW.again k ⟨by omega,((a4.ext a2).ext hS).more ah (by simp;omega),(bg.ext hS).chg ah (by simp;omega),((b3.ext a2).ext hS).chg ah (by simpa using λe:O=f i=>a3 e.symm),a1.len,bi.congr rfl (λr=>?_) (λ_=>rfl)⟩ Bh (by omega);rw [←GT (r:=r) hi hk rfl];by_cases e:r=i
  ·rw [if_pos e,if_pos e,List.set_set,a5];rfl
  ·rw [if_neg e,if_neg e,if_neg e]
 ·have h4:x≠y:=by simpa using h4
  rw [if_neg h4] at a5;refine Sw ?_;refine QW.again k ⟨by omega,a4.ext a2,b2.ext a2,b3.ext a2,a1.len,(ag.ext a2).congr rfl (λr=>?_) (λ_=>rfl)⟩ Bh (by omega);rw [←GT (r:=r) hi hk rfl];by_cases e:r=i
  ·rw [if_pos e,if_pos e,a5]
   congr 3
   rw [Nat.max_def]
   split<;>split<;>omega
  ·rw [if_neg e,if_neg e]
set_option maxRecDepth 8000 in
set_option maxHeartbeats 1000000 in
theorem V9 (a b:List (List UInt8)) (av bv:Value) (lo X O:Nat) (xs:List Value) (f:Nat→Nat) (w:World) (ha:BE w av a) (hb:BE w bv b) (hla:a.length≤200) (hlb:b.length≤200) (hT:JP a b av bv lo X O xs f 0 b.length w) :
  AA Tryz.prog 175 [.pointer (some ⟨X,0,none⟩)] w (λv w'=>∃xv yv,v=.tuple #[xv,yv]∧Ax w' w.heap.size 3 1 xv (AE a b 0 0).length (Ac ((AE a b 0 0).map λz=>(z.1:Int)))∧Ax w' w.heap.size 3 1 yv (AE a b 0 0).length (Ac ((AE a b 0 0).map λz=>(z.2:Int)))∧Ae w w'):=by
 obtain ⟨p,c,rfl⟩:=ha.slice;obtain ⟨q,d,rfl⟩:=hb.slice;have hX:=hT.bX;refine AL Tryz.func175 Tryz.ntmps175 ?_;refine Sa ?_;refine CW.loop (ι:=(Nat×Nat)×List (Nat×Nat)×Value×Value) (λx w'=>x.1.1≤a.length∧x.1.2≤b.length∧Ae w w'∧x.2.1.length≤x.1.1∧x.2.1++AE (a.drop x.1.1) (b.drop x.1.2) x.1.1 x.1.2=AE a b 0 0∧Ax w' w.heap.size 3 1 x.2.2.1 x.2.1.length (Ac (x.2.1.map λz=>(z.1:Int)))∧Ax w' w.heap.size 3 1 x.2.2.2 x.2.1.length (Ac (x.2.1.map λz=>(z.2:Int)))∧(∀g,g∈Af x.2.2.1→g∉Af x.2.2.2)) (λx=>[(0,.pointer (some ⟨X,0,none⟩)),(2,x.2.2.1),(3,x.2.2.2),(4,.int .i64 x.1.1),(5,.int .i64 x.1.2)]) (λx=>(a.length - x.1.1)+(b.length - x.1.2)) ((0,0),[],.slice none 0 0,.slice none 0 0) ⟨Nat.zero_le _,Nat.zero_le _,Chg.refl _ _,Nat.le_refl _,by simp,Ax.nil _ _ _ _,Ax.nil _ _ _ _,by simp [Af]⟩ C2 ?_;rintro ⟨⟨i,k⟩,ps,xv,yv⟩ w1 ⟨hi,hk,a5,ag,a0,a4,a2,hd⟩;dsimp only at hi hk ag a0 a4 a2 hd;show CW _ _ _ _ _ [(0,.pointer (some ⟨X,0,none⟩)),(2,xv),(3,yv),(4,.int .i64 (i:Int)),(5,.int .i64 (k:Int))] _;have am:=hX.ext a5;have an:=hT.ext a5;have aw:=a5.size;refine Sw ?_;by_cases h1:i<a.length;rotate_left
 ·refine LW.know (t:=13) (c:=false) rfl (by simp;omega) ?_;refine Sw ?_;rw [GP (.inl (by omega)),List.append_nil] at a0;subst a0;exact QW.body2 Tryz.results175 rfl rfl ⟨xv,yv,rfl,a4,a2,a5⟩
 refine LW.know (t:=13) (c:=true) rfl (by simp;omega) ?_;refine Sw ?_;refine Am (λh2=>?_) λh2=>?_;rotate_left
 ·have h2:¬k<b.length:=by simp at h2;omega
  refine Sw ?_;rw [GP (.inr (by omega)),List.append_nil] at a0;subst a0;exact QW.body2 Tryz.results175 rfl rfl ⟨xv,yv,rfl,a4,a2,a5⟩
 have h2:k<b.length:=by simp at h2;omega
 obtain ⟨x,y,ah,ai⟩:=GQ h1 h2;obtain ⟨xa,ao,-,-,ax⟩:=Av.at (Av.ext ha a5) ah;obtain ⟨ya,ap,-,-,ay⟩:=Av.at (Av.ext hb a5) ai;subst ao ap;have a6:=NT ah ai;refine Sw ?_;refine Hk ?_;refine RR ?_;refine QL.nil λw2 a3=>?_;have a7:=a5.trans a3;have az:=am.ext a3;have ab:=an.ext a3;refine Sa ?_;refine Am (λh3=>?_) λh3=>?_
 ·have h3:x=y:=by simpa using h3
  rw [if_pos h3] at a6;rw [a6] at a0;replace a4:=a4.ext a3;replace a2:=a2.ext a3;have b0:=a3.size;refine Sa ?_;refine Cl λC w3 b1 a1 hC=>?_;refine Sa ?_;refine LW.append (lo:=w.heap.size) (k:=ps.length) rfl rfl rfl rfl rfl rfl (a4.ext a1) (by have:=a1.size;omega) hC rfl rfl rfl (by show (_+1)*9≤_;omega) rfl ?_;intro xv' w4 ac a8 aq;have ad:=(a2.ext a1).chg ac (λg hg hm=>hd g hm hg);have b2:=ac.size;have b3:=a1.size;refine Sa ?_;refine Cl λF w5 b4 a9 hF=>?_;refine Sa ?_;refine LW.append (lo:=w.heap.size) (k:=ps.length) rfl rfl rfl rfl rfl rfl (ad.ext a9) (by have:=a9.size;omega) hF rfl rfl rfl (by show (_+1)*9≤_;omega) rfl ?_;intro yv' w6 aj ae ar;have ak:∀g,g∈Af xv'→g∉Af yv:=λg hg hm=>by
   rcases aq g hg with h | h
   ·exact hd g h hm
   ·have:=(a2.lt hm).2;omega
  have af:=(a8.ext a9).chg aj (λg hg hm=>ak g hg hm);refine Sa ?_;refine QW.again ((i+1,k+1),ps++[(i,k)],xv',yv') ⟨by show i+1≤_;omega,by show k+1≤_;omega,(((a7.trans a1).step ac (λb hb=>(a4.lt hb).1)).trans a9).step aj (λb hb=>(a2.lt hb).1),by simp;omega,by simpa using a0,?_,?_,λg hg hm=>?_⟩ C2 (by show (a.length - (i+1))+(b.length - (k+1))<(a.length - i)+(b.length - k);omega)
  ·show Ax _ _ _ _ xv' (ps++[(i,k)]).length (Ac ((ps++[(i,k)]).map λz=>(z.1:Int)));rw [List.map_append,DA,List.length_append];exact af
  ·show Ax _ _ _ _ yv' (ps++[(i,k)]).length (Ac ((ps++[(i,k)]).map λz=>(z.2:Int)));rw [List.map_append,DA,List.length_append];exact ae
  ·have al:g∈Af xv':=hg;have au:g∈Af yv':=hm;rcases ar g au with h | h
   ·exact ak g al h
   ·have:=(a8.lt al).2;have:=a9.size;omega
 have h3:x≠y:=by simpa using h3
 rw [if_neg h3] at a6;have b5:w2.cell? ((⟨O,0,none⟩:Addr).add (((i:Nat):Int).toNat*1))=some (.slice (some ⟨f i,0,none⟩) (b.length+1) (b.length+1)):=ab.row (r:=i) (by omega);have b6:w2.cell? ((⟨O,0,none⟩:Addr).add ((((i:Nat):Int)+1).toNat*1))=some (.slice (some ⟨f (i+1),0,none⟩) (b.length+1) (b.length+1)):=ab.row (r:=i+1) (by omega);have hA:w2.cell? ((⟨f (i+1),0,none⟩:Addr).add (((k:Nat):Int).toNat*1))=some (.int .i64 ((Cm (a.drop (i+1)) (b.drop k):Nat):Int)):=ab.cell (r:=i+1) (k:=k) (by omega) (by omega) (by simp [F7]);have hB:w2.cell? ((⟨f i,0,none⟩:Addr).add ((((k:Nat):Int)+1).toNat*1))=some (.int .i64 ((Cm (a.drop i) (b.drop (k+1)):Nat):Int)):=ab.cell (r:=i) (k:=k+1) (by omega) (by omega) (by simp [F7]);refine Sw ?_;refine Hk ?_;refine RR ?_;refine QL.nil λw3 a1=>?_;have aa:=a7.trans a1;refine Sa ?_;refine Am (λh4=>?_) λh4=>?_
 ·have h4:Cm (a.drop i) (b.drop (k+1))≤Cm (a.drop (i+1)) (b.drop k):=by simp at h4;omega
  rw [a6,if_pos h4] at a0;refine Sa ?_;exact QW.again ((i+1,k),ps,xv,yv) ⟨by show i+1≤_;omega,hk,aa,by show ps.length≤i+1;omega,a0,a4.ext (a3.trans a1),a2.ext (a3.trans a1),hd⟩ C2 (by show (a.length - (i+1))+(b.length - k)<(a.length - i)+(b.length - k);omega)
 ·have h4:¬Cm (a.drop i) (b.drop (k+1))≤Cm (a.drop (i+1)) (b.drop k):=by simp at h4;omega
  rw [a6,if_neg h4] at a0;refine Sa ?_;exact QW.again ((i,k+1),ps,xv,yv) ⟨hi,by show k+1≤_;omega,aa,ag,a0,a4.ext (a3.trans a1),a2.ext (a3.trans a1),hd⟩ C2 (by show (a.length - i)+(b.length - (k+1))<(a.length - i)+(b.length - k);omega)
theorem PH (a b:List (List UInt8)) (av bv:Value) (w:World) (ha:BE w av a) (hb:BE w bv b) (hla:a.length≤200) (hlb:b.length≤200):AA Tryz.prog 174 [av,bv] w (λv w'=>∃X O xs f lo,v=.tuple #[.pointer (some ⟨X,0,none⟩),.bool true]∧JP a b av bv lo X O xs f 0 b.length w'∧Ae w w'):=by
 obtain ⟨p,c,rfl⟩:=ha.slice;obtain ⟨q,d,rfl⟩:=hb.slice;have a2:=Av.bound ha;have a3:=Av.bound hb;refine AL Tryz.func174 Tryz.ntmps174 ?_;refine Sa ?_;refine LW.know (t:=11) (c:=false) rfl (by simp;omega) ?_;refine Sa ?_;refine CW.no rfl (by simp;omega) ?_;refine Sa ?_;refine CZ λX w1 a5 a1 hX=>?_;replace hX:Blk w1 X [.slice p a.length c,.slice q b.length d,.slice none 0 0] 236:=hX;refine Sa ?_;refine LW.call (fs:=[.pointer (some ⟨X,0,none⟩)]) (cs:=[]) rfl rfl rfl (UI a b _ _ X w1 (Az.map (Av.ext a2 a1) (λa0 h0=>by have:=h0.2;omega) λ_ _ _ _ h=>h) (Az.map (Av.ext a3 a1) (λa0 h0=>by have:=h0.2;omega) λ_ _ _ _ h=>h) hla hlb hX) ?_;rintro v w2 ⟨rfl,a4,O,xs,f,hT⟩;refine Sa ?_;exact QW.body2 Tryz.results174 rfl rfl ⟨X,O,xs,f,_,rfl,hT,a1.step a4 (by simp;omega)⟩
theorem SO (a b:List (List UInt8)) (av bv:Value) (w:World) (ha:BE w av a) (hb:BE w bv b) (hla:a.length≤200) (hlb:b.length≤200):AA Tryz.prog 130 [av,bv] w (λv w'=>∃xv yv,v=.tuple #[xv,yv]∧Ax w' w.heap.size 3 1 xv (AE a b 0 0).length (Ac ((AE a b 0 0).map λz=>(z.1:Int)))∧Ax w' w.heap.size 3 1 yv (AE a b 0 0).length (Ac ((AE a b 0 0).map λz=>(z.2:Int)))∧Ae w w'):=by
 refine AL Tryz.func130 Tryz.ntmps130 ?_;refine Sa ?_;refine Ap rfl rfl (PH a b av bv w ha hb hla hlb) ?_;rintro v w1 ⟨X,O,xs,f,lo,rfl,hT,a0⟩;refine Sa ?_;refine Ap rfl rfl (V9 a b av bv lo X O xs f w1 (ha.ext a0) (hb.ext a0) hla hlb hT) ?_;rintro v w2 ⟨xv,yv,rfl,a1,a2,a3⟩;refine Sa ?_;exact QW.body2 Tryz.results130 rfl rfl ⟨xv,yv,rfl,a1.low a0.size,a2.low a0.size,a0.trans a3⟩
theorem E0 {α:Type} [DecidableEq α]:∀(a b:List α) (i k:Nat),(AE a b i k).length≤a.length
 | [],_,_,_=>by simp [AE]
 | _::_,[],_,_=>by simp [AE]
 | x::a,y::b,i,k=>by
  have h1:=E0 a b (i+1) (k+1);have h2:=E0 a (y::b) (i+1) k;have h3:=E0 (x::a) b i (k+1);simp only [AE]
  split
  ·simp only [List.length_cons];omega
  ·split
   ·simp only [List.length_cons] at *;omega
   ·exact h3
 termination_by a b=>a.length+b.length
theorem Jy (n:Nat) (ps:List (Nat×Nat)) (p:Nat×Nat):Bj n (ps++[p])=(Bj n ps).set p.1 (p.2:Int):=by simp [Bj,List.foldl_append]
theorem K8 {n:Nat} {ps:List (Nat×Nat)} {z:Int} (hz:z∈Bj n ps):z=-1∨∃p∈ps,z=(p.2:Int):=by
 have key:∀(qs ps:List (Nat×Nat)) (l:List Int),(∀p∈ps,p∈qs)→(∀z∈l,z=-1∨∃p∈qs,z=(p.2:Int))→∀z∈ps.foldl (λl p=>l.set p.1 (p.2:Int)) l,z=-1∨∃p∈qs,z=(p.2:Int):=by
  intro qs ps
  induction ps with
  | nil=>intro l _ hl z hz;exact hl z hz
  | cons p ps ih=>
   intro l hq hl z hz;refine ih (l.set p.1 (p.2:Int)) (λp hp=>hq p (List.mem_cons_of_mem _ hp)) (λy hy=>?_) z hz;rcases List.mem_or_eq_of_mem_set hy with h | h
   ·exact hl y h
   ·exact .inr ⟨p,hq p (List.mem_cons_self ..),h⟩
 exact key ps ps _ (λ_ h=>h) (λz hz=>.inl (List.mem_replicate.1 hz).2) z hz
theorem UH (n k:Nat) (hk:k<n):(Ac (List.replicate k (-1)++List.replicate (n - k) 0)).set (0+((k:Nat):Int).toNat*1) (.int .i64 (-1))=Ac (List.replicate (k+1) (-1)++List.replicate (n - (k+1)) 0):=by
 rw [show 0+((k:Nat):Int).toNat*1=k by omega];simp only [Ac,←List.map_set];rw [List.set_append_right _ _ (by simp),List.length_replicate,Nat.sub_self,show n - k=(n - (k+1))+1 by omega,List.replicate_succ,List.set_cons_zero,List.replicate_succ',List.append_assoc];rfl
theorem MG {w:World} {lo n c:Nat} {p:Option Addr} {zs:List Int} (h:E.Ax w lo 3 1 (.slice p n c) n (Ac zs)) {i:Nat} {z:Int} (hi:zs[i]?=some z):∃g,p=some ⟨g,0,none⟩∧w.cell? ((⟨g,0,none⟩:Addr).add (((i:Nat):Int).toNat*1))=some (.int .i64 z):=by
 have a0:=(List.getElem?_eq_some_iff.1 hi).1;have hl:=h.1;rw [A7] at hl;obtain ⟨g,cap,sp,e,hB,-⟩:=h.get (by omega);obtain ⟨rfl,-,rfl⟩:=Value.slice.inj e;refine ⟨g,rfl,?_⟩;rw [A0];refine hB.cell ?_;rw [show 0+((i:Nat):Int).toNat*1=i by omega,List.getElem?_append_left (by rw [A7];exact a0)];simp [Ac,hi]
theorem U6 {w:World} {T n c:Nat} {zs:List Int} {t:TypeId} (h:Blk w T (Ac zs) t) (hn:zs.length=n) (hl:n≤100000):AG w (.slice (some ⟨T,0,none⟩) n c) zs:=by
 subst hn;exact ⟨by omega,.inr ⟨⟨T,0,none⟩,c,rfl,λj z hj=>by rw [A0];exact h.cell (by simp [Ac,hj])⟩⟩
set_option maxRecDepth 8000 in
set_option maxHeartbeats 2000000 in
theorem MH (a b:List (List UInt8)) (av bv:Value) (w:World) (ha:BE w av a) (hb:BE w bv b) (hla:a.length≤200) (hlb:b.length≤200):AA Tryz.prog 91 [av,bv] w (λv w'=>∃tv,v=.agg ⟨[tv,.int .i64 ((b.length:Nat):Int)]⟩∧E.Ax w' w.heap.size 3 1 tv a.length (Ac (Dt a b))∧Ae w w'):=by
 obtain ⟨p,c,rfl⟩:=ha.slice;obtain ⟨q,d,rfl⟩:=hb.slice;have ab:∀z∈AE a b 0 0,z.1<a.length∧z.2<b.length:=λz hz=>by have:=Gx a b 0 0 z hz;omega
 have ao:=E0 a b 0 0;generalize ah:AE a b 0 0=ps at ab ao;refine AL Tryz.func91 Tryz.ntmps91 ?_;apply CW.seq;apply CW.region;refine Sl ?_;refine BP λR w1 b4 ai hR=>?_;have ap:=ai.size;have b5:=hR.lt;refine Sa ?_;refine LW.makeSlice (m:=a.length) rfl rfl rfl rfl rfl rfl rfl (by omega) rfl rfl ?_;intro T w2 b6 ac hT;have aq:=ac.size;have b7:=hT.lt;refine Sa ?_;refine BP λX w3 b8 aj hX=>?_;have b9:=aj.size;have ba:=hX.lt;have bb:=hX;refine Sa ?_;refine AM λw4 ar hX=>?_;replace hX:Blk w4 X [.slice (some ⟨T,0,none⟩) a.length a.length,.int .i64 ((b.length:Nat):Int)] 71:=hX;have a0:Ae w2 w4:=aj.step ar (by simp;omega);replace hR:=(hR.ext ac).ext a0;replace hT:=hT.ext a0;have ad:Ae w w4:=(ai.trans ac).trans a0;have bc:=a0.size;have e0:List.replicate a.length (Value.int .i64 0)=Ac (List.replicate 0 (-1)++List.replicate (a.length - 0) 0):=by simp [Ac]
 rw [e0] at hT;refine Sw ?_;refine CW.loop (ι:=Nat) (λk w'=>k≤a.length∧Chg [T] w4 w'∧Blk w' T (Ac (List.replicate k (-1)++List.replicate (a.length - k) 0)) 3) (λk=>[(0,.slice p a.length c),(1,.slice q b.length d),(4,.pointer (some ⟨R,0,none⟩)),(5,.pointer (some ⟨X,0,none⟩)),(18,.int .i64 a.length),(19,.int .i64 k)]) (λk=>a.length - k) 0 ⟨by omega,Chg.refl _ _,hT⟩ BQ ?_;rintro k w5 ⟨hk,a4,ak⟩;have au:=hX.chg a4 (by simp;omega);refine Sw ?_;refine Am (λh1=>?_) λh1=>?_
 ·have h1:k<a.length:=by simp at h1;omega
  refine Sw ?_;refine LW.store (i:=0+((k:Nat):Int).toNat*1) (by show some (Value.pointer (some (Addr.add ⟨T,0,none⟩ (((k:Nat):Int).toNat*1))))=_;rw [A0]) rfl rfl ak (Nat.ble_eq_true_of_le (by show _+1≤_;rw [A7,List.length_append,List.length_replicate,List.length_replicate];omega)) rfl rfl λw6 aw a5=>?_;rw [UH a.length k h1] at a5;refine Sw ?_;exact QW.again (k+1) ⟨by omega,a4.same aw,a5⟩ BQ (by omega)
 have h1:k=a.length:=by simp at h1;omega
 subst h1;have a1:Ae w w5:=ad.step a4 (by simp;omega);have ax:=hR.chg a4 (by simp;omega);have bd:=a4.size;refine Sw ?_;refine Ap rfl rfl (SO a b _ _ w5 (ha.ext a1) (hb.ext a1) hla hlb) ?_;rintro v w6 ⟨xv,yv,rfl,a9,aa,a6⟩;rw [ah] at a9 aa;obtain ⟨xp,xc,rfl⟩:=a9.slice;obtain ⟨yp,yc,rfl⟩:=aa.slice;have be:=a6.size;have ay:=ax.ext a6;have az:=au.ext a6;have a5:=ak.ext a6;have e1:List.replicate a.length (-1)++List.replicate (a.length - a.length) 0=Bj a.length (ps.take 0):=by simp [Bj]
 rw [e1] at a5;refine Sw ?_;refine CW.loop (ι:=Nat) (λk w'=>k≤ps.length∧Chg [T] w6 w'∧Blk w' T (Ac (Bj a.length (ps.take k))) 3) (λk=>[(4,.pointer (some ⟨R,0,none⟩)),(5,.pointer (some ⟨X,0,none⟩)),(7,.slice xp ps.length xc),(8,.slice yp ps.length yc),(34,.int .i64 ps.length),(35,.int .i64 k)]) (λk=>ps.length - k) 0 ⟨by omega,Chg.refl _ _,a5⟩ BQ ?_;rintro k w7 ⟨hk,a2,ae⟩;have bf:=az.chg a2 (by simp;omega);have a3:=ay.chg a2 (by simp;omega);have bg:∀v,∀b∈Af v,w5.heap.size≤b→b≠T:=λ_ b _ h=>by omega
 have af:=a9.chg a2 (λb hb=>by have:=(a9.lt hb).1;simp;omega);have ag:=aa.chg a2 (λb hb=>by have:=(aa.lt hb).1;simp;omega);have bh:=a2.size;refine Sw ?_;refine Am (λh2=>?_) λh2=>?_
 ·have h2:k<ps.length:=by simp at h2;omega
  obtain ⟨z,hz⟩:∃z,ps[k]?=some z:=⟨_,List.getElem?_eq_getElem h2⟩;obtain ⟨ap,aq⟩:=ab z (List.mem_of_getElem? hz);obtain ⟨xg,rfl,bi⟩:=MG af (i:=k) (z:=(z.1:Int)) (by simp [hz]);obtain ⟨yg,rfl,bj⟩:=MG ag (i:=k) (z:=(z.2:Int)) (by simp [hz]);refine Sw ?_;refine CW.drawG (Ae w7) 11 (λw' h=>h) (by kernel_rfl) λwa bk=>?_;refine Bp ?_;refine GW.tail rfl (by kernel_rfl) (λhS=>?_);refine LW.store (i:=0+((z.1:Nat):Int).toNat*1) (by show some (Value.pointer (some (Addr.add ⟨T,0,none⟩ (((z.1:Nat):Int).toNat*1))))=_;rw [A0]) rfl rfl (ae.ext hS) (Nat.ble_eq_true_of_le (by show _+1≤_;rw [A7,B5];omega)) rfl rfl λw8 b0 al=>?_;have e2:(Ac (Bj a.length (ps.take k))).set (0+((z.1:Nat):Int).toNat*1) (.int .i64 (z.2:Int))=Ac (Bj a.length (ps.take (k+1))):=by
   rw [show 0+((z.1:Nat):Int).toNat*1=z.1 by omega,I6,List.take_add_one,hz];show _=Ac (Bj a.length (ps.take k++[z]));rw [Jy]
  rw [e2] at al;refine Sw ?_;exact QW.again (k+1) ⟨by omega,(a2.ext hS).same b0,al⟩ BQ (by omega)
 have h2:k=ps.length:=by simp at h2;omega
 subst h2;rw [List.take_length] at ae;have a7:Ae w w7:=by
  have h1:Chg [T] w5 w7:=(a6.chg).same a2;exact a1.step h1 (by simp;omega)
 have b1:AG w7 (.slice (some ⟨T,0,none⟩) a.length a.length) (Bj a.length ps):=U6 ae (B5 _ _) (by omega);have b2:∀z∈Bj a.length ps,-1≤z∧z≤1000000:=λz hz=>by
  rcases K8 hz with rfl | ⟨y,hy,rfl⟩
  ·omega
  ·have:=ab y hy;omega
 refine Sw ?_;refine Ap rfl rfl (Rj ⟨Bj a.length ps,((b.length:Nat):Int)⟩ _ w7 b1 (by rw [B5];omega) b2 (by show (0:Int)≤((b.length:Nat):Int);omega) (by show ((b.length:Nat):Int)≤1000000;omega)) ?_;rintro v w8 ⟨tv,rfl,a8,am⟩;dsimp only at a8;rw [B5] at a8;replace a3:=a3.ext am;have b3:∀b∈Af tv,b≠R:=λb hb=>by have:=(a8.lt hb).1;omega
 obtain ⟨tp,tc,rfl⟩:=a8.slice;refine Sa ?_;refine AM λw9 an a3=>?_;replace a3:Blk w9 R [.slice tp a.length tc,.int .i64 ((b.length:Nat):Int)] 71:=a3;refine Sa ?_;refine QW.body_c Tryz.results91 rfl a3 rfl rfl rfl ⟨_,rfl,?_,(a7.trans am).step an (by simp;omega)⟩;have h9:=(a8.chg an (λb hb=>by simp only [List.mem_singleton];exact b3 b hb)).low (lo':=w.heap.size) (by have:=a7.size;omega);rw [Dt,ah];exact h9
theorem GH {s:Aq} (hs:Cf s) {w:World} {lo:Nat} {v:Value} (h:E.Ax w lo 9 1 v (s.rows.map Ch).length ((s.rows.map Ch).map Aj)):BE w v (s.rows.map Ch):=
 CR h (by have:=hs.rows;simp;omega) λt ht=>by
  simp only [List.mem_map] at ht;obtain ⟨r,hr,rfl⟩:=ht;have:=UT (hs.row hr);omega
set_option maxRecDepth 8000 in
set_option maxHeartbeats 1000000 in
theorem SS (a b:Aq) (ra rb:Value) (w:World) (ha:Dx w ra a.rows) (hb:Dx w rb b.rows) (hsa:Cf a) (hsb:Cf b):AA Tryz.prog 65 [.agg ⟨AB a ra⟩,.agg ⟨AB b rb⟩] w (λv w'=>∃tv,v=.agg ⟨[tv,.int .i64 ((b.rows.length:Nat):Int)]⟩∧E.Ax w' w.heap.size 3 1 tv a.rows.length (Ac (Bx a b))∧Ae w w'):=by
 obtain ⟨p,c,rfl⟩:=ha.slice;obtain ⟨q,d,rfl⟩:=hb.slice;have af:=hsa.rows;have ag:=hsb.rows;refine AL Tryz.func65 Tryz.ntmps65 ?_;apply CW.seq;apply CW.region;refine Sl ?_;refine CZ λA w1 ah a7 hA=>?_;replace hA:Blk w1 A (AB a (.slice p a.rows.length c)) 41:=hA;refine Sl ?_;refine CZ λB w2 ai a2 hB=>?_;replace hB:Blk w2 B (AB b (.slice q b.rows.length d)) 41:=hB;refine Sa ?_;refine BP λR w3 aj a3 hR=>?_;replace hA:=(hA.ext a2).ext a3;replace hB:=hB.ext a3;have a0:=(a7.trans a2).trans a3;have ak:=a0.size;have al:=hR.lt;have am:w.heap.size≤R:=by have:=a7.size;have:=a2.size;omega
 refine Sa ?_;refine CW.drawG (Ae w3) 5 (λw' h=>h) (by kernel_rfl) λwa an=>?_;refine Bp ?_;refine CX 1 λhS=>?_;refine Ap rfl rfl (P9 a _ _ (ha.ext (a0.trans hS)) hsa) ?_;rintro v w4 ⟨a8,ac⟩;have a4:=hS.trans ac;obtain ⟨kp,kc,rfl⟩:=a8.slice;apply LW.nil;refine QW.headed a4 ?_;refine Bp ?_;refine CX 3 λhS=>?_;refine Ap rfl rfl (P9 b _ _ (hb.ext (a0.trans a4)) hsb) ?_;rintro v w5 ⟨a9,aa⟩;have a5:=a4.trans aa;obtain ⟨lp,lc,rfl⟩:=a9.slice;apply LW.nil;refine QW.headed a5 ?_;refine Bp ?_;refine CX 4 λhS=>?_;refine Ap rfl rfl (MH _ _ _ _ w5 (GH hsa (a8.ext aa)) (GH hsb a9) (by simp;omega) (by simp;omega)) ?_;rintro v w6 ⟨tv,rfl,a1,ad⟩;have a6:=a5.trans ad;obtain ⟨tp,tc,rfl⟩:=a1.slice;replace hR:=hR.ext a6;have ao:=a5.size;have e1:(a.rows.map Ch).length=a.rows.length:=by simp
 have e2:(b.rows.map Ch).length=b.rows.length:=by simp
 rw [e1] at a1;have ae:R∉Af (.slice tp a.rows.length tc):=λhm=>by have:=(a1.lt hm).1;omega
 apply LW.nil;refine QW.headed a6 ?_;refine GW.tail rfl (by kernel_rfl) (λhS=>?_);refine AM λw7 ab hR=>?_;replace hR:Blk w7 R [.slice tp a.rows.length tc,.int .i64 ((b.rows.length:Nat):Int)] 71:=by rw [←e1,←e2];exact hR
 refine Sa ?_;refine QW.body_c Tryz.results65 rfl hR rfl rfl rfl ⟨_,rfl,?_,(a0.trans a6).step ab (by simp;omega)⟩;exact (a1.chg ab (λb hb=>by simp only [List.mem_singleton];exact λe=>ae (e ▸ hb))).low (by omega)
def C3 (a b:Aq) (m:List Int) (i:Nat):Option (Nat×Nat):=match (m[i]?:Option Int) with
 | none=>none
 | some (k:Int)=>if 0≤k∧k<b.rows.length∧Ch (a.rows.getD i [])=Ch (b.rows.getD k.toNat []) then some (i,k.toNat) else none
def Ba (a b:Aq) (m:List Int) (k:Nat):List (Nat×Nat):=(List.range k).filterMap (C3 a b m)
theorem Fx (a b:Aq) (m:List Int):Ba a b m a.rows.length=AN a b m:=rfl
theorem E7 (a b:Aq) (m:List Int) (k:Nat):Ba a b m (k+1)=Ba a b m k++(C3 a b m k).toList:=by
 rw [Ba,List.range_succ,List.filterMap_append];cases h:C3 a b m k<;>simp [Ba,h]
theorem JS {a b:Aq} {m:List Int} {k:Nat} {p:Nat×Nat} (h:C3 a b m k=some p):p.1=k∧p.2<b.rows.length:=by
 unfold C3 at h
 split at h
 ·cases h
 ·split at h
  ·rename_i hc;obtain rfl:=Option.some.inj h;exact ⟨rfl,by omega⟩
  ·cases h
theorem GC {a b:Aq} {m:List Int} {k:Nat} {p:Nat×Nat} (h:p∈Ba a b m k):p.1<k∧p.2<b.rows.length:=by
 simp only [Ba,List.mem_filterMap,List.mem_range] at h;obtain ⟨i,hi,hf⟩:=h;obtain ⟨h1,h2⟩:=JS hf;omega
theorem Fy (a b:Aq) (m:List Int) (k:Nat):(Ba a b m k).length≤k:=by
 have:=List.length_filterMap_le (C3 a b m) (List.range k)
 simpa [Ba] using this
theorem Hz {l:List (List (List UInt8))} {i:Nat} {r:List (List UInt8)} (h:l[i]?=some r):l.getD i []=r:=by rw [List.getD_eq_getElem?_getD,h];rfl
theorem E4 {s:Aq} (hs:Cf s) {rs:List Nat} (hr:∀r∈rs,r<s.rows.length) (hl:rs.length≤100) {w:World} {lo:Nat} {v:Value} (h:E.Ax w lo 9 1 v (A2 s rs).length ((A2 s rs).map Aj)):BE w v (A2 s rs):=
 CR h (by have:=hs.cols;simp [A2];omega) λt ht=>by
  simp only [A2,List.mem_map,List.mem_range] at ht;obtain ⟨k,hk,rfl⟩:=ht;have:=NW (FM hs hr hl (c:=k) (by have:=hs.cols;omega));show (G0 (Cn s rs k)).length≤_;omega
set_option maxRecDepth 8000 in
set_option maxHeartbeats 2000000 in
theorem SR (a b:Aq) (ra rb mv:Value) (m:List Int) (w:World) (ha:Dx w ra a.rows) (hb:Dx w rb b.rows) (hsa:Cf a) (hsb:Cf b) (hm:AG w mv m) (hml:m.length=a.rows.length) (hmz:∀z∈m,-1≤z∧z<b.rows.length) (nw:Int):AA Tryz.prog 66 [.agg ⟨AB a ra⟩,.agg ⟨AB b rb⟩,.agg ⟨[mv,.int .i64 nw]⟩] w (λv w'=>∃tv,v=.agg ⟨[tv,.int .i64 ((b.cols.toNat:Nat):Int)]⟩∧E.Ax w' w.heap.size 3 1 tv a.cols.toNat (Ac (Ex a b m))∧Ae w w'):=by
 obtain ⟨p,c,rfl⟩:=ha.slice;obtain ⟨q,d,rfl⟩:=hb.slice;obtain ⟨mp,mc,rfl⟩:=hm.slice;have bl:=hsa.rows;have bm:=hsb.rows;obtain ⟨b5,b6⟩:=hsa.cols;obtain ⟨b7,b8⟩:=hsb.cols;refine AL Tryz.func66 Tryz.ntmps66 ?_;apply CW.seq;apply CW.region;refine Sl ?_;refine CZ λA w1 bn az hA=>?_;replace hA:Blk w1 A (AB a (.slice p a.rows.length c)) 41:=hA;refine Sl ?_;refine CZ λB w2 bo an hB=>?_;replace hB:Blk w2 B (AB b (.slice q b.rows.length d)) 41:=hB;refine Sl ?_;refine CZ λM w3 bp aj hM=>?_;replace hM:Blk w3 M [.slice mp m.length mc,.int .i64 nw] 71:=hM;refine Sa ?_;refine BP λR w4 bq ak hR=>?_;replace hA:=((hA.ext an).ext aj).ext ak;replace hB:=(hB.ext aj).ext ak;replace hM:=hM.ext ak;have a9:=((az.trans an).trans aj).trans ak;have br:=a9.size;have bs:=hR.lt;have bt:w.heap.size≤R:=by have:=az.size;have:=an.size;have:=aj.size;omega
 refine Sw ?_;refine CW.loop (ι:=Nat×Value×Value) (λx w'=>x.1≤a.rows.length∧Ae w4 w'∧E.Ax w' w4.heap.size 3 1 x.2.1 (Ba a b m x.1).length (Ac ((Ba a b m x.1).map λz=>(z.1:Int)))∧E.Ax w' w4.heap.size 3 1 x.2.2 (Ba a b m x.1).length (Ac ((Ba a b m x.1).map λz=>(z.2:Int)))∧(∀g,g∈Af x.2.1→g∉Af x.2.2)) (λx=>[(3,.pointer (some ⟨A,0,none⟩)),(4,.pointer (some ⟨B,0,none⟩)),(6,.pointer (some ⟨R,0,none⟩)),(7,x.2.1),(8,x.2.2),(12,.slice mp m.length mc),(13,.int .i64 m.length),(14,.int .i64 x.1)]) (λx=>a.rows.length - x.1) (0,.slice none 0 0,.slice none 0 0) ⟨Nat.zero_le _,Chg.refl _ _,E.Ax.nil _ _ _ _,E.Ax.nil _ _ _ _,by simp [Af]⟩ LE ?_;rintro ⟨k,xv,yv⟩ w5 ⟨hk,a5,a6,a3,hd⟩;dsimp only at hk a6 a3 hd;show CW _ _ _ _ _ [(3,.pointer (some ⟨A,0,none⟩)),(4,.pointer (some ⟨B,0,none⟩)),(6,.pointer (some ⟨R,0,none⟩)),(7,xv),(8,yv),(12,.slice mp m.length mc),(13,.int .i64 m.length),(14,.int .i64 (k:Int))] _;have bu:=a5.size;have bv:=Fy a b m k;replace hA:=hA.ext a5;replace hB:=hB.ext a5;refine Sa ?_;refine Am (λh1=>?_) λh1=>?_;rotate_left
 ·have h1:k=a.rows.length:=by simp at h1;omega
  subst h1;rw [Fx] at a6 a3;have a0:=a9.trans a5;have ad:∀r∈(AN a b m).map Prod.fst,r<a.rows.length:=λr hr=>by
   simp only [List.mem_map] at hr;obtain ⟨z,hz,rfl⟩:=hr;exact (GC (k:=a.rows.length) hz).1
  have ae:∀r∈(AN a b m).map Prod.snd,r<b.rows.length:=λr hr=>by
   simp only [List.mem_map] at hr;obtain ⟨z,hz,rfl⟩:=hr;exact (GC (k:=a.rows.length) hz).2
  have bw:(AN a b m).length≤a.rows.length:=Fy a b m a.rows.length;have b9:AG w5 xv (OX ((AN a b m).map Prod.fst)):=by
   have e:OX ((AN a b m).map Prod.fst)=(AN a b m).map λz=>(z.1:Int):=by simp [OX]
   rw [e];exact Ax.ints a6 (by simp) (by simp;omega)
  have ba:AG w5 yv (OX ((AN a b m).map Prod.snd)):=by
   have e:OX ((AN a b m).map Prod.snd)=(AN a b m).map λz=>(z.2:Int):=by simp [OX]
   rw [e];exact Ax.ints a3 (by simp) (by simp;omega)
  replace hR:=hR.ext a5;refine Sa ?_;refine CW.drawG (Ae w5) 7 (λw' h=>h) (by kernel_rfl) λwa bb=>?_;refine Bp ?_;refine CX 2 λhS=>?_;refine Ap rfl rfl (K4 a _ _ _ _ (ha.ext (a0.trans hS)) hsa (b9.ext hS) ad (by simp;omega)) ?_;rintro v w6 ⟨b0,ao⟩;have a7:=hS.trans ao;obtain ⟨kp,kc,rfl⟩:=b0.slice;apply LW.nil;refine QW.headed a7 ?_;refine Bp ?_;refine CX 5 λhS=>?_;refine Ap rfl rfl (K4 b _ _ _ _ (hb.ext (a0.trans a7)) hsb (ba.ext a7) ae (by simp;omega)) ?_;rintro v w7 ⟨b1,al⟩;have a2:=a7.trans al;obtain ⟨lp,lc,rfl⟩:=b1.slice;apply LW.nil;refine QW.headed a2 ?_;refine Bp ?_;refine CX 6 λhS=>?_;refine Ap rfl rfl (MH _ _ _ _ w7 (E4 hsa ad (by simp;omega) (b0.ext al)) (E4 hsb ae (by simp;omega) b1) (by simp [A2];omega) (by simp [A2];omega)) ?_;rintro v w8 ⟨tv,rfl,am,ab⟩;have ap:=a2.trans ab;obtain ⟨tp,tc,rfl⟩:=am.slice;replace hR:=hR.ext ap;have bc:=a2.size;have e1:(A2 a ((AN a b m).map Prod.fst)).length=a.cols.toNat:=by simp [A2]
  have e2:(A2 b ((AN a b m).map Prod.snd)).length=b.cols.toNat:=by simp [A2]
  rw [e1] at am;have bd:R∉Af (.slice tp a.cols.toNat tc):=λhm=>by have:=(am.lt hm).1;omega
  apply LW.nil;refine QW.headed ap ?_;refine GW.tail rfl (by kernel_rfl) (λhS=>?_);refine AM λw9 ac hR=>?_;replace hR:Blk w9 R [.slice tp a.cols.toNat tc,.int .i64 ((b.cols.toNat:Nat):Int)] 71:=by rw [←e1,←e2];exact hR
  refine Sa ?_;refine QW.body_c Tryz.results66 rfl hR rfl rfl rfl ⟨_,rfl,?_,(a0.trans ap).step ac (by simp;omega)⟩;exact (am.chg ac (λb hb=>by simp only [List.mem_singleton];exact λe=>bd (e ▸ hb))).low (by omega)
 have h1:k<a.rows.length:=by simp at h1;omega
 obtain ⟨z,aq⟩:∃z,m[k]?=some z:=⟨_,List.getElem?_eq_getElem (by omega)⟩;obtain ⟨bx,bz⟩:=hmz z (List.mem_of_getElem? aq);have a0:=a9.trans a5;obtain ⟨ma,rfl,c0⟩:=AG.at1 (hm.ext a0) aq;obtain ⟨row,aa⟩:∃r,a.rows[k]?=some r:=⟨_,List.getElem?_eq_getElem h1⟩;obtain ⟨ga,q1,c1,rfl,-,be,c3⟩:=AJ.at (AJ.ext ha a0) aa;have ar:=hsa.row (List.mem_of_getElem? aa);refine Sw ?_;refine CW.drawG (Ae w5) 30 (λw' h=>h) (by kernel_rfl) λwa bb=>?_;refine Bp ?_;have au:C3 a b m k=if 0≤z∧z<b.rows.length∧Ch row=Ch (b.rows.getD z.toNat []) then some (k,z.toNat) else none:=by
  rw [C3,aq,Hz aa]
 have a8:∀w',Ae w5 w'→C3 a b m k=none→E.Ax w' w4.heap.size 3 1 xv (Ba a b m (k+1)).length (Ac ((Ba a b m (k+1)).map λz=>(z.1:Int)))∧E.Ax w' w4.heap.size 3 1 yv (Ba a b m (k+1)).length (Ac ((Ba a b m (k+1)).map λz=>(z.2:Int))):=λw' hx h=>by
  rw [E7,h];simp only [Option.toList,List.append_nil];exact ⟨a6.ext hx,a3.ext hx⟩
 by_cases bf:0≤z;rotate_left
 ·refine GW.know (t:=21) (c:=false) rfl (by simp;omega) ?_;refine Bp ?_;refine W0 22 ?_;refine Bp ?_;refine W0 28 ?_;refine Bp ?_;refine GW.tail rfl (by kernel_rfl) (λhS=>?_);refine Sa ?_;obtain ⟨h7,h8⟩:=a8 _ hS (by rw [au,if_neg (by omega)]);exact QW.again (k+1,xv,yv) ⟨by show k+1≤_;omega,a5.trans hS,h7,h8,hd⟩ LE (by show a.rows.length - (k+1)<a.rows.length - k;omega)
 obtain ⟨rowb,a1⟩:∃r,b.rows[z.toNat]?=some r:=⟨_,List.getElem?_eq_getElem (by omega)⟩;obtain ⟨gb,q2,c2,eq2,-,bg,bh⟩:=AJ.at (AJ.ext hb a0) a1;subst eq2;rw [show ((z.toNat:Nat):Int).toNat=z.toNat by omega] at bh;have av:=hsb.row (List.mem_of_getElem? a1);refine GW.know (t:=21) (c:=true) rfl (by simp;omega) ?_;refine Bp ?_;refine GW.know (t:=28) (c:=true) rfl (by simp;omega) ?_;refine Bp ?_;refine GW.know (t:=35) (c:=true) rfl (by simp;omega) ?_;refine Bp ?_;refine CX 22 λhS=>?_;refine Lb ?_;refine Ap rfl rfl (Ow row _ _ (Av.ext be hS) ar) ?_;rintro v w6 ⟨rfl,ao⟩;have a7:=hS.trans ao;apply LW.nil;refine QW.headed a7 ?_;refine Bp ?_;refine CX 28 λhS=>?_;refine Lb ?_;refine Ap rfl rfl (Ow rowb _ _ (Av.ext bg a7) av) ?_;rintro v w7 ⟨rfl,al⟩;have a2:=a7.trans al;apply LW.nil;refine QW.headed a2 ?_;refine Bp ?_;refine GW.tail rfl (by kernel_rfl) (λhS=>?_);have af:=a5.trans a2;have bc:=a2.size;refine Sa ?_;refine Am (λh3=>?_) λh3=>?_;rotate_left
 ·have h3:Ch row≠Ch rowb:=by simpa using h3
  refine Sa ?_;obtain ⟨h7,h8⟩:=a8 _ a2 (by rw [au,Hz a1,if_neg (λh=>h3 h.2.2)]);exact QW.again (k+1,xv,yv) ⟨by show k+1≤_;omega,af,h7,h8,hd⟩ LE (by show a.rows.length - (k+1)<a.rows.length - k;omega)
 have h3:Ch row=Ch rowb:=by simpa using h3
 replace a6:=a6.ext a2;replace a3:=a3.ext a2;have b2:C3 a b m k=some (k,z.toNat):=by rw [au,Hz a1,if_pos ⟨bf,by omega,h3⟩]
 refine Sa ?_;refine Cl λC w8 c4 ab hC=>?_;have c5:=ab.size;refine Sa ?_;refine LW.append (lo:=w4.heap.size) (k:=(Ba a b m k).length) rfl rfl rfl rfl rfl rfl (a6.ext ab) (by omega) hC rfl rfl rfl (by show (_+1)*9≤_;omega) rfl ?_;intro xv' w9 ac ag bi;have aw:=(a3.ext ab).chg ac (λg hg hm=>hd g hm hg);have c6:=ac.size;refine Sa ?_;refine Cl λF c7 c8 a4 hF=>?_;have bj:=a4.size;refine Sa ?_;refine LW.append (lo:=w4.heap.size) (k:=(Ba a b m k).length) rfl rfl rfl rfl rfl rfl (aw.ext a4) (by omega) hF rfl rfl rfl (by show (_+1)*9≤_;omega) rfl ?_;intro yv' c9 ah ax ay;have b3:∀g,g∈Af xv'→g∉Af yv:=λg hg hm=>by
  rcases bi g hg with h | h
  ·exact hd g h hm
  ·have:=(a3.lt hm).2;omega
 have ai:=(ag.ext a4).chg ah (λg hg hm=>b3 g hg hm);refine Sa ?_;refine QW.again (k+1,xv',yv') ⟨by show k+1≤_;omega,(((af.trans ab).step ac (λb hb=>(a6.lt hb).1)).trans a4).step ah (λb hb=>(a3.lt hb).1),?_,?_,λg hg hm=>?_⟩ LE (by show a.rows.length - (k+1)<a.rows.length - k;omega)
 ·show E.Ax _ _ _ _ xv' (Ba a b m (k+1)).length (Ac ((Ba a b m (k+1)).map λz=>(z.1:Int)));rw [E7,b2,List.map_append,DA,List.length_append];exact ai
 ·show E.Ax _ _ _ _ yv' (Ba a b m (k+1)).length (Ac ((Ba a b m (k+1)).map λz=>(z.2:Int)));rw [E7,b2,List.map_append,DA,List.length_append];show E.Ax _ _ _ _ yv' _ (_++[.int .i64 ((z.toNat:Nat):Int)]);rw [show ((z.toNat:Nat):Int)=z by omega];exact ax
 ·have b4:g∈Af xv':=hg;have bk:g∈Af yv':=hm;rcases ay g bk with h | h
  ·exact b3 g b4 h
  ·have:=(ag.lt b4).2;omega
theorem GO {α:Type} [DecidableEq α] (a b:List α) (ha:a.length≤1000000) (hb:b.length≤1000000):∀z∈Dt a b,-1≤z∧z<(b.length:Int):=λz hz=>by
 have hr:=(Ez (IK a b (by omega) (by omega))).2.2.2;obtain ⟨j,hj⟩:=List.getElem?_of_mem hz;have hl:=(List.getElem?_eq_some_iff.1 hj).1;have h1:=hr j hl;have e:(Dt a b).getD j 0=z:=by rw [List.getD_eq_getElem?_getD,hj];rfl
 simp only [e] at h1;rcases h1 with h1 | ⟨h1,h2,_⟩<;>omega
theorem Fc {a b:Aq} (hsa:Cf a) (hsb:Cf b):∀z∈Bx a b,-1≤z∧z<b.rows.length:=λz hz=>by
 have:=hsa.rows;have:=hsb.rows;have h:=GO (a.rows.map Ch) (b.rows.map Ch) (by simp;omega) (by simp;omega) z hz
 simpa using h
theorem Cq (a b:Aq):(Bx a b).length=a.rows.length:=by rw [Bx,H9,List.length_map]
theorem F3 (a b:Aq) (m:List Int):(Ex a b m).length=a.cols.toNat:=by rw [Ex,H9];simp [A2]
set_option maxRecDepth 8000 in
set_option maxHeartbeats 1000000 in
theorem Ph (a b:Aq) (ra rb:Value) (w:World) (ha:Dx w ra a.rows) (hb:Dx w rb b.rows) (hsa:Cf a) (hsb:Cf b):AA Tryz.prog 46 [.agg ⟨AB a ra⟩,.agg ⟨AB b rb⟩] w (λv w'=>∃rv cv,v=.agg ⟨KK (A5 a b) rv cv⟩∧E.Ax w' w.heap.size 3 1 rv a.rows.length (Ac (Bx a b))∧E.Ax w' w.heap.size 3 1 cv a.cols.toNat (Ac (Ex a b (Bx a b)))∧Ae w w'):=by
 obtain ⟨p,c,rfl⟩:=ha.slice;obtain ⟨q,d,rfl⟩:=hb.slice;have ai:=hsa.rows;refine AL Tryz.func46 Tryz.ntmps46 ?_;apply CW.seq;apply CW.region;refine Sl ?_;refine CZ λA w1 aj ac hA=>?_;replace hA:Blk w1 A (AB a (.slice p a.rows.length c)) 41:=hA;refine Sl ?_;refine CZ λB w2 ak a6 hB=>?_;replace hB:Blk w2 B (AB b (.slice q b.rows.length d)) 41:=hB;refine Sa ?_;refine BP λR w3 al a7 hR=>?_;replace hA:=(hA.ext a6).ext a7;replace hB:=hB.ext a7;have a0:=(ac.trans a6).trans a7;have am:=a0.size;have an:=hR.lt;have ao:w.heap.size≤R:=by have:=ac.size;have:=a6.size;omega
 refine Sw ?_;refine Ap rfl rfl (SS a b _ _ w3 (ha.ext a0) (hb.ext a0) hsa hsb) ?_;rintro v w4 ⟨rv,rfl,a4,a8⟩;obtain ⟨rp,rc,rfl⟩:=a4.slice;have ap:=a8.size;have a9:=a0.trans a8;refine Sa ?_;refine BP λM w5 aq ad hM=>?_;have ar:=ad.size;have au:=hM.lt;refine Sa ?_;refine AM λw6 ae hM=>?_;replace hM:Blk w6 M [.slice rp a.rows.length rc,.int .i64 ((b.rows.length:Nat):Int)] 71:=hM;have a1:Ae w4 w6:=ad.step ae (by simp;omega);replace a4:=a4.ext a1;have a2:=a9.trans a1;have a3:=a8.trans a1;replace hA:=hA.ext a3;replace hB:=hB.ext a3;replace hR:=hR.ext a3;have hI:AG w6 (.slice rp a.rows.length rc) (Bx a b):=Ax.ints a4 (Cq a b) (by rw [Cq];omega);have av:=a1.size;refine Sa ?_;refine CW.drawG (Ae w6) 8 (λw' h=>h) (by kernel_rfl) λwa aw=>?_;refine Bp ?_;refine CX 6 λhS=>?_;refine Ap rfl rfl (SR a b _ _ _ (Bx a b) wa (ha.ext (a2.trans hS)) (hb.ext (a2.trans hS)) hsa hsb (hI.ext hS) (Cq a b) (Fc hsa hsb) _) ?_;rintro v w7 ⟨cv,rfl,aa,af⟩;obtain ⟨cp,cc,rfl⟩:=aa.slice;have a5:=hS.trans af;have ax:=hS.size;apply LW.nil;refine QW.headed a5 ?_;refine Bp ?_;refine GW.tail rfl (by kernel_rfl) (λhS=>?_);replace hR:=hR.ext a5;refine AM λw8 ab hR=>?_;replace hR:Blk w8 R (KK (A5 a b) (.slice rp a.rows.length rc) (.slice cp a.cols.toNat cc)) 73:=hR;have ag:R∉Af (.slice rp a.rows.length rc):=λhm=>by have:=(a4.lt hm).1;omega
 have ah:R∉Af (.slice cp a.cols.toNat cc):=λhm=>by have:=(aa.lt hm).1;omega
 refine Sa ?_;refine QW.body_c Tryz.results46 rfl hR rfl rfl rfl ⟨_,_,rfl,?_,?_,(a2.trans a5).step ab (by simp;omega)⟩
 ·exact ((a4.ext a5).chg ab (λb hb=>by simp only [List.mem_singleton];exact λe=>ag (e ▸ hb))).low (by omega)
 ·exact (aa.chg ab (λb hb=>by simp only [List.mem_singleton];exact λe=>ah (e ▸ hb))).low (by omega)
def XV (lo:Nat) (V:List Nat):Ft CB:=λ_ w cs s=>∃rv cv,cs=KK s rv cv∧E.Ax w lo 3 1 rv s.rows.to.length (Ac s.rows.to)∧E.Ax w lo 3 1 cv s.cols.to.length (Ac s.cols.to)∧(∀b∈Af rv,b∉V)∧∀b∈Af cv,b∉V
def Nm (lo:Nat) (w:World) (v:Value) (ss:List CB):Prop:=Dg 6 lo 73 (XV lo (Af v)) w v ss
theorem Nm.chg {lo:Nat} {S:List Nat} {w w':World} {v:Value} {ss:List CB} (h:Nm lo w v ss) (x:Chg S w w') (hs:∀b∈S,b<lo):Nm lo w' v ss:=
 Dg.chg h x (λb hb hm=>by have:=(Dg.lt h hb).1;have:=hs b hm;omega) λi y cs _ ⟨rv,cv,e,h1,h2,h3,h4⟩=>⟨rv,cv,e,h1.chg x (λb hb hm=>by have:=(h1.lt hb).1;have:=hs b hm;omega),h2.chg x (λb hb hm=>by have:=(h2.lt hb).1;have:=hs b hm;omega),h3,h4⟩
theorem Nm.nil {lo:Nat} {w:World}:Nm lo w (.slice none 0 0) []:=Dg.nil
theorem Nm.snoc {lo:Nat} {w w1 w':World} {v v' rv cv:Value} {ss:List CB} {s:CB} {css:List (List Value)} (g1:css.length=ss.length) (g2:∀cs∈css,cs.length=6) (g4:∀i x cs,ss[i]?=some x→css[i]?=some cs→XV lo (Af v) i w cs x) (x:Ae w w1)
  (hr:E.Ax w1 lo 3 1 rv s.rows.to.length (Ac s.rows.to)) (hc:E.Ax w1 lo 3 1 cv s.cols.to.length (Ac s.cols.to)) (hrv:∀b∈Af rv,b∉Af v) (hcv:∀b∈Af cv,b∉Af v)
  (hch:Chg (Af v) w1 w') (hv:∀j,j∈Af v'→j∈Af v∨w1.heap.size≤j) (hO:E.Ax w' lo 73 6 v' (ss.length+1) (css.flatten++KK s rv cv)):Nm lo w' v' (ss++[s]):=by
 have hz:=x.size;have key:∀u:Value,∀W:World,W.heap.size≤w1.heap.size→(∀b∈Af u,b<W.heap.size)→(∀b∈Af u,b∉Af v)→∀b∈Af u,b∉Af v':=λu W hW hu hn b hb hm=>by
  have h1:=hu b hb;rcases hv b hm with h | h
  ·exact hn b hb h
  ·omega
 refine Dg.snoc g1 g2 hO rfl (λi y ds hi hd=>?_) ⟨rv,cv,rfl,hr.chg hch hrv,hc.chg hch hcv,key rv w1 (Nat.le_refl _) (λb hb=>(hr.lt hb).2) hrv,key cv w1 (Nat.le_refl _) (λb hb=>(hc.lt hb).2) hcv⟩;obtain ⟨ru,cu,e,o1,o2,n1,n2⟩:=g4 i y ds hi hd;exact ⟨ru,cu,e,(o1.ext x).chg hch n1,(o2.ext x).chg hch n2,key ru w hz (λb hb=>(o1.lt hb).2) n1,key cu w hz (λb hb=>(o2.lt hb).2) n2⟩
theorem Nm.list {lo:Nat} {w:World} {v:Value} {ss:List CB} (h:Nm lo w v ss) (hl:ss.length≤1000000) (hb:∀s∈ss,s.rows.to.length≤10000000∧s.cols.to.length≤10000000):BZ w v ss:=by
 obtain ⟨h0,h1 | ⟨a,cap,e,-,h1⟩⟩:=Dg.list (ok:=λ_=>True) h hl (λ_ _ _=>trivial)
 ·exact ⟨hl,.inl h1⟩
 ·refine ⟨hl,.inr ⟨a,cap,e,λi s hi=>?_⟩⟩;obtain ⟨cs,-,⟨rv,cv,rfl,o1,o2,-,-⟩,hc⟩:=h1 i s hi;have:=hb s (List.mem_of_getElem? hi);exact ⟨rv,cv,Ax.ints o1 rfl (by omega),Ax.ints o2 rfl (by omega),hc⟩
theorem Lr {m:CQ} {i:Nat} {z:Int} (h:m.to[i]?=some z):AK m i=z:=by
 have hl:=(List.getElem?_eq_some_iff.1 h).1;unfold AK;rw [if_neg (by omega),if_pos (by omega),List.getD_eq_getElem?_getD,Int.toNat_natCast,h];rfl
theorem Dc {α:Type} {l:List α} {i:Nat} {x d:α} (h:l[i]?=some x):l.getD i d=x:=by rw [List.getD_eq_getElem?_getD,h];rfl
theorem FE {p c:A1} {i:Nat} {s:Aq} (hs:p[i]?=some s):(A4 p c)[i]?=some (match N5 c s.name with
 | none=>⟨s.name,⟨[],0⟩,⟨[],0⟩,true⟩
 | some k=>match c[k]? with
  | none=>⟨s.name,⟨[],0⟩,⟨[],0⟩,true⟩
  | some u=>A5 s u):=by
 rw [A4,List.getElem?_map,hs];rfl
theorem C0 (p c:A1):(A4 p c).length=p.length:=by simp [A4]
theorem Mm {p c:A1} {had t:AD} {i:Nat} {s:Aq} (hs:p[i]?=some s) (hk:N5 c s.name=none):DI p c had (i+1) t=DI p c had i t:=by
 rw [DI,List.range_succ,List.foldl_append];show (match N5 c (p.getD i ⟨[],0,[]⟩).name with | none=>_ | some k=>_)=_;rw [Dc hs,hk];rfl
theorem Mn {p c:A1} {had t:AD} {i k:Nat} {s:Aq} {sh:CB} (hs:p[i]?=some s) (hk:N5 c s.name=some k) (hsh:(A4 p c)[i]?=some sh):DI p c had (i+1) t=FP c (A4 p c) had i k s sh s.rows.length (DI p c had i t):=by
 rw [DI,List.range_succ,List.foldl_append];show (match N5 c (p.getD i ⟨[],0,[]⟩).name with | none=>_ | some k=>_)=_;rw [Dc hs,hk,Dc hsh];rfl
theorem Mq {c:A1} {ss:List CB} {had t:AD} {i k r:Nat} {s:Aq} {sh:CB} {row:List (List UInt8)} (hr:s.rows[r]?=some row):FP c ss had i k s sh (r+1) t=E9 c ss had i k s.name sh r row row.length (FP c ss had i k s sh r t):=by
 rw [FP,List.range_succ,List.foldl_append];show E9 c ss had i k s.name sh r (s.rows.getD r []) (s.rows.getD r []).length _=_;rw [Dc hr];rfl
theorem Mp {c:A1} {ss:List CB} {had t:AD} {i k r q:Nat} {nm:List UInt8} {sh:CB} {row:List (List UInt8)} {x:List UInt8} (hq:row[q]?=some x):E9 c ss had i k nm sh r row (q+1) t=Jr c ss had i k nm sh r q x (E9 c ss had i k nm sh r row q t):=by
 rw [E9,List.range_succ,List.foldl_append];show Jr c ss had i k nm sh r q (row.getD q []) _=_;rw [Dc hq];rfl
theorem I8 {c:A1} {ss:List CB} {had:AD} {i k:Nat} {nm:List UInt8} {sh:CB} {r n:Nat} {row:List (List UInt8)} {t:AD} {b:A1} (h:D4 t b):D4 (E9 c ss had i k nm sh r row n t) b:=
 D9 (P:=λt=>D4 t b) (λ_ _ h=>Mo h) _ _ h
theorem I9 {c:A1} {ss:List CB} {had:AD} {i k:Nat} {s:Aq} {sh:CB} {n:Nat} {t:AD} {b:A1} (h:D4 t b):D4 (FP c ss had i k s sh n t) b:=
 D9 (P:=λt=>D4 t b) (λ_ _ h=>I8 h) _ _ h
theorem Ml {p c:A1} {had:AD} {n:Nat} {t:AD} {b:A1} (h:D4 t b):D4 (DI p c had n t) b:=by
 refine D9 (P:=λt=>D4 t b) (λ_ _ h=>?_) _ _ h;simp only
 split
 ·exact h
 ·exact I9 h
theorem D4.at {t:AD} {b:A1} (h:D4 t b) {i r:Nat} {s:Aq} {row:List (List UInt8)} (hs:b[i]?=some s) (hr:s.rows[r]?=some row):∃rows x,t[i]?=some rows∧rows[r]?=some x∧x.length=row.length∧rows.length=s.rows.length:=by
 have h1:(t.map λrows=>rows.map List.length)[i]?=(b.map λs=>s.rows.map List.length)[i]?:=by rw [h]
 rw [List.getElem?_map,List.getElem?_map,hs] at h1
 cases ht:t[i]? with
 | none=>rw [ht] at h1;cases h1
 | some rows=>
  rw [ht] at h1;have h2:rows.map List.length=s.rows.map List.length:=by simpa using h1
  have h3:(rows.map List.length)[r]?=(s.rows.map List.length)[r]?:=by rw [h2]
  rw [List.getElem?_map,List.getElem?_map,hr] at h3
  cases hx:rows[r]? with
  | none=>rw [hx] at h3;cases h3
  | some x=>
   rw [hx] at h3;exact ⟨rows,x,rfl,hx,by simpa using h3,by simpa using congrArg List.length h2⟩
theorem Sf {t:AD} {i r q:Nat} {rows:List (List (List UInt8))} {x:List (List UInt8)} {v:List UInt8} (hi:t[i]?=some rows) (hr:rows[r]?=some x) (hq:x[q]?=some v):UM t i r q=v:=by rw [UM,Dc hi,Dc hr,Dc hq]
def tb (t:AD):A1:=t.map λrows=>⟨[],0,rows⟩
theorem OU (t:AD):(tb t).length=t.length:=by simp [tb]
theorem IX {t:AD} {i:Nat} {rows:List (List (List UInt8))} (h:t[i]?=some rows):(tb t)[i]?=some ⟨[],0,rows⟩:=by simp [tb,h]
theorem Wt (t:AD) (i r c:Nat) (v:List UInt8):tb (Nv t i r c v)=Nx (tb t) i r c v:=by
 apply List.ext_getElem?;intro j;simp only [tb,Nv,Nx,List.getElem?_map,List.getElem?_modify]
 cases t[j]? with
 | none=>simp
 | some rows=>by_cases e:i=j<;>simp [e,Ud]
theorem Df.set {lo:Nat} {w w':World} {b:A1} {rv:Nat→Value} {f:Nat→Nat→Nat} {V:List Nat} (h:Df lo w b.length b rv f V) {i row col:Nat} {t:List UInt8} {s:Aq} {x:List (List UInt8)} {sp:List Value} (hi:b[i]?=some s) (hr:s.rows[row]?=some x) (hc:col<x.length) (ht:t.length≤1000000) (hx:Chg [f i row] w w') (hB:Blk w' (f i row) ((x.set col t).map Aj++sp) 9):Df lo w' (Nx b i row col t).length (Nx b i row col t) rv f V:=by
 have a2:x≠[]:=λe=>by rw [e] at hc;simp at hc
 have a3:=(List.getElem?_eq_some_iff.1 hi).1;have hu:FG (rv i) s.rows (f i) (f i row):=.inr ⟨row,x,hr,a2,rfl⟩;have a0:(Nx b i row col t).length=b.length:=by simp [Nx]
 refine ⟨λj u hj a1=>?_,λj u hj a1 y hy=>?_,λj k u z hj hk a4 a1 a5 y hy a6=>?_⟩
 ·rw [a0] at hj;obtain ⟨s',h1,_,_,rfl⟩:=SF a1;have hF:=h.rows j s' hj h1;by_cases e:j=i
  ·subst e;rw [hi] at h1;obtain rfl:=Option.some.inj h1;rw [if_pos rfl];obtain ⟨xs,o1,o2⟩:=hF.own;refine ⟨⟨xs,?_,?_⟩,by simpa [Ud] using hF.small⟩
   ·have:=o1.chg hx (λy hy he=>by
     simp only [List.mem_singleton] at he;subst he;exact (o2.blk row x hr a2).2.1 hy)
    simpa [Ud] using this
   ·exact o2.set hr hc ht hx hB
  ·rw [if_neg e];exact hF.chg hx λy hy he=>by
    simp only [List.mem_singleton] at he;subst he;exact h.apart i j s s' a3 hj (λe2=>e e2.symm) hi h1 _ hu hy
 ·rw [a0] at hj;obtain ⟨s',h1,h2⟩:=Kz a1 hy;exact h.apartV j s' hj h1 y h2
 ·rw [a0] at hj hk;obtain ⟨s',h1,h2⟩:=Kz a1 hy;obtain ⟨s2,h3,h4⟩:=Kz a5 a6;exact h.apart j k s' s2 hj hk a4 h1 h3 y h2 h4
structure Bk (lo:Nat) (w:World) (v:Value) (t:AD) (rv:Nat→Value) (f:Nat→Nat→Nat):Prop where
 own:Ax w lo 39 1 v t.length ((List.range t.length).map rv)
 small:t.length≤1000000
 sub:Df lo w (tb t).length (tb t) rv f (Af v)
theorem Bk.ext {lo:Nat} {w w':World} {v:Value} {t:AD} {rv:Nat→Value} {f:Nat→Nat→Nat} (h:Bk lo w v t rv f) (x:Ae w w'):Bk lo w' v t rv f:=⟨h.own.ext x,h.small,h.sub.ext x⟩
theorem Bk.old {S:List Nat} {lo:Nat} {w w':World} {v:Value} {t:AD} {rv:Nat→Value} {f:Nat→Nat→Nat} (h:Bk lo w v t rv f) (x:Chg S w w') (hs:∀y,y∈S→y<lo):Bk lo w' v t rv f:=
 ⟨h.own.chg x λb hb hm=>by have:=(h.own.lt hb).1;have:=hs b hm;omega,h.small,h.sub.chg x λi s hk hi y hy hm=>by have:=((h.sub.rows i s hk hi).lt hy).1;have:=hs y hm;omega⟩
theorem Bk.slice {lo:Nat} {w:World} {v:Value} {t:AD} {rv:Nat→Value} {f:Nat→Nat→Nat} (h:Bk lo w v t rv f):∃p c,v=.slice p t.length c:=h.own.slice
theorem Qs (t:AD) (i r c:Nat) (v:List UInt8):(Nv t i r c v).length=t.length:=by simp [Nv]
theorem Bk.set {lo:Nat} {w w':World} {v:Value} {t:AD} {rv:Nat→Value} {f:Nat→Nat→Nat} (h:Bk lo w v t rv f) {i row col:Nat} {s:List UInt8} {rows:List (List (List UInt8))} {x:List (List UInt8)} {sp:List Value} (hi:t[i]?=some rows) (hr:rows[row]?=some x) (hc:col<x.length) (ht:s.length≤1000000) (hx:Chg [f i row] w w') (hB:Blk w' (f i row) ((x.set col s).map Aj++sp) 9):Bk lo w' v (Nv t i row col s) rv f:=by
 have a0:x≠[]:=λe=>by rw [e] at hc;simp at hc
 have a1:=(List.getElem?_eq_some_iff.1 (IX hi)).1;have hu:FG (rv i) rows (f i) (f i row):=.inr ⟨row,x,hr,a0,rfl⟩;refine ⟨?_,by rw [Qs];exact h.small,?_⟩
 ·rw [Qs];exact h.own.chg hx λy hy he=>by
   simp only [List.mem_singleton] at he;subst he;exact h.sub.apartV i _ a1 (IX hi) _ hu hy
 ·rw [Wt];exact h.sub.set (IX hi) hr hc ht hx hB
theorem Bk.at {lo:Nat} {w:World} {v:Value} {t:AD} {rv:Nat→Value} {f:Nat→Nat→Nat} (h:Bk lo w v t rv f) {i row:Nat} {rows:List (List (List UInt8))} {x:List (List UInt8)} (hi:t[i]?=some rows) (hr:rows[row]?=some x) (hn:x≠[]) :
  ∃B cb M cm cx,v=.slice (some ⟨B,0,none⟩) t.length cb∧w.cell? ((⟨B,0,none⟩:Addr).add (((i:Nat):Int).toNat*1))=some (.slice (some ⟨M,0,none⟩) rows.length cm)∧w.cell? ((⟨M,0,none⟩:Addr).add (((row:Nat):Int).toNat*1))=some (.slice (some ⟨f i row,0,none⟩) x.length cx)∧lo≤f i row∧∃sp,Blk w (f i row) (x.map Aj++sp) 9:=by
 have a0:=(List.getElem?_eq_some_iff.1 hi).1;have a1:=(List.getElem?_eq_some_iff.1 hr).1;obtain ⟨B,cb,sp,rfl,hB,-⟩:=h.own.get (by omega);have hF:=h.sub.rows i _ (by rw [OU];exact a0) (IX hi);obtain ⟨xs,o1,o2⟩:=hF.own;obtain ⟨M,cm,sp2,e2,hM,-⟩:=o1.get (by show 0<rows.length;omega);obtain ⟨u,h1,k0,⟨_,e3⟩ | ⟨a,cx,e3,hk,_⟩⟩:=o2.val row x hr
 ·exact absurd e3 hn
 obtain rfl:=hk hn;obtain ⟨g1,_,sp3,g3⟩:=o2.blk row x hr hn;refine ⟨B,cb,M,cm,cx,rfl,?_,?_,g1,sp3,g3⟩
 ·rw [A0];refine hB.cell ?_;rw [show 0+((i:Nat):Int).toNat*1=i by omega,List.getElem?_append_left (by simpa using a0),List.getElem?_map,List.getElem?_range a0];exact congrArg some e2
 ·rw [A0];refine hM.cell ?_;rw [show 0+((row:Nat):Int).toNat*1=row by omega,List.getElem?_append_left (by rw [o2.len];exact a1),h1,e3]
abbrev ET:World→Value→AD→Prop:=Az 1 JT λ_ w cs rows=>∃u,cs=[u]∧Dx w u rows
theorem ET.ext {w w':World} {v:Value} {t:AD} (h:ET w v t) (x:Ae w w'):ET w' v t:=Az.ext' h x λ_ _ _ _ ⟨u,e,h⟩=>⟨u,e,AJ.ext h x⟩
theorem Bk.list {lo:Nat} {w:World} {v:Value} {t:AD} {rv:Nat→Value} {f:Nat→Nat→Nat} (h:Bk lo w v t rv f):ET w v t:=by
 have:Dg 1 lo 39 (λ_ w cs rows=>∃u,cs=[u]∧Dx w u rows) w v t:=by
  refine ⟨((List.range t.length).map rv).map λu=>[u],by simp,by simp,by rw [Ii];exact h.own,λi rows cs hi hc=>?_⟩;have a0:=(List.getElem?_eq_some_iff.1 hi).1;rw [List.getElem?_map,List.getElem?_map,List.getElem?_range a0] at hc;simp at hc;exact ⟨rv i,hc.symm,(h.sub.rows i _ (by rw [OU];exact a0) (IX hi)).list⟩
 exact this.list h.small λ_ _ _=>trivial
theorem ET.at {w:World} {p:Option Addr} {c:Nat} {t:AD} (h:ET w (.slice p t.length c) t) {i:Nat} {rows:List (List (List UInt8))} (hi:t[i]?=some rows):∃a q k,p=some a∧Dx w (.slice q rows.length k) rows∧w.cell? (a.add (((i:Nat):Int).toNat*1))=some (.slice q rows.length k):=by
 obtain ⟨a,u,h1,-,⟨u',e,h2⟩,h3⟩:=Az.at1 h hi;obtain rfl:=(List.cons.inj e).1;obtain ⟨q,k,rfl⟩:=Az.slice h2;exact ⟨a,q,k,h1,h2,h3⟩
theorem Fz (b:A1) (id:List UInt8):(GD b id).length=b.length:=by simp [GD]
theorem LG {b:A1} {id:List UInt8} {i:Nat} {s:Aq} (h:b[i]?=some s):(GD b id)[i]?=some (s.rows.map λr=>r.map λ_=>id):=by simp [GD,h]
theorem Sk (r:List (List UInt8)) (id:List UInt8):(r.map λ_=>id)=List.replicate r.length id:=by simp [List.map_const']
theorem Oc (rv:Nat→Value) (u:Value) (i:Nat):(List.range (i+1)).map (λj=>if j=i then u else rv j)=(List.range i).map rv++[u]:=by
 rw [List.range_succ,List.map_append]
 congr 1
 ·apply List.map_congr_left;intro j hj;rw [if_neg (by have:=List.mem_range.1 hj;omega)]
 ·simp
theorem L4 {α:Type} {l:List α} {j:Nat} {x:α} (h:l[j]?=some x):l.take j++[x]=l.take (j+1)∧(l.take j).length=j:=by
 have hj:=(List.getElem?_eq_some_iff.1 h).1;exact ⟨by rw [List.take_add_one,h];rfl,by simp;omega⟩
set_option maxRecDepth 8000 in
set_option maxHeartbeats 2000000 in
theorem Oe (b:A1) (sv:Value) (id:List UInt8) (w:World) (h:Cs w sv b) (hid:id.length≤1000000):AA Tryz.prog 34 [.agg ⟨[sv]⟩,Aj id] w (λv w'=>∃rv f,Bk w.heap.size w' v (GD b id) rv f∧Ae w w'):=by
 obtain ⟨p,c,rfl⟩:=h.slice;have hl:=h.1;refine AL Tryz.func34 Tryz.ntmps34 ?_;apply CW.seq;apply CW.region;refine Sl ?_;refine CZ λA w1 b6 ah hA=>?_;replace hA:Blk w1 A [.slice p b.length c] 29:=hA;refine Sa ?_;refine CW.loop (ι:=Nat×Value) (λx w'=>x.1≤b.length∧Ae w1 w'∧∃rv f,E.Ax w' w1.heap.size 39 1 x.2 x.1 ((List.range x.1).map rv)∧Df w1.heap.size w' x.1 (tb (GD b id)) rv f (Af x.2)) (λx=>[(1,Aj id),(2,.pointer (some ⟨A,0,none⟩)),(5,x.2),(6,.int .i64 x.1)]) (λx=>b.length - x.1) (0,.slice none 0 0) ⟨Nat.zero_le _,Chg.refl _ _,λ_=>.slice none 0 0,λ_ _=>0,E.Ax.nil _ _ _ _,Df.zero⟩ BN ?_;rintro ⟨i,ov⟩ w2 ⟨hi,ac,rv,f,a5,a3⟩;dsimp only at hi a5 a3;show CW _ _ _ _ _ [(1,Aj id),(2,.pointer (some ⟨A,0,none⟩)),(5,ov),(6,.int .i64 (i:Int))] _;replace hA:=hA.ext ac;have a6:=ah.trans ac;have ai:=ah.size;have am:=ac.size;refine Sw ?_;refine Am (λh1=>?_) λh1=>?_;rotate_left
 ·have h1:i=b.length:=by simp at h1;omega
  subst h1;refine Sw ?_;refine QW.body1 Tryz.results34 rfl ⟨rv,f,⟨?_,?_,?_⟩,a6⟩
  ·rw [Fz];exact a5.low ai
  ·rw [Fz];exact hl
  ·rw [OU,Fz];exact ⟨λi s hi hs=>(a3.rows i s hi hs).low ai,a3.apartV,a3.apart⟩
 have h1:i<b.length:=by simp at h1;omega
 obtain ⟨s,hs⟩:∃s,b[i]?=some s:=⟨_,List.getElem?_eq_getElem h1⟩;have an:=IX (LG (id:=id) hs);obtain ⟨a,q,k,rfl,-,b7,hr,a7⟩:=Ak.at (Ak.ext h a6) hs;have ao:=a7 2 _ rfl;have ap:=hr.1;refine Sw ?_;refine CW.loop (ι:=Nat×Value) (λx w'=>x.1≤s.rows.length∧Ae w2 w'∧∃xs g,E.Ax w' w2.heap.size 26 1 x.2 x.1 xs∧C8 w2.heap.size w' xs ((s.rows.map λr=>r.map λ_=>id).take x.1) g (Af x.2)) (λx=>[(1,Aj id),(2,.pointer (some ⟨A,0,none⟩)),(5,ov),(6,.int .i64 i),(7,x.2),(8,.int .i64 x.1)]) (λx=>s.rows.length - x.1) (0,.slice none 0 0) ⟨Nat.zero_le _,Chg.refl _ _,[],λ_=>0,E.Ax.nil _ _ _ _,C8.nil⟩ BQ ?_;rintro ⟨r,lv⟩ w3 ⟨aq,a2,xs,g,a4,a8⟩;dsimp only at aq a4 a8;show CW _ _ _ _ _ [(1,Aj id),(2,.pointer (some ⟨A,0,none⟩)),(5,ov),(6,.int .i64 (i:Int)),(7,lv),(8,.int .i64 (r:Int))] _;replace hA:=hA.ext a2;have ar:=Aw a2 ao;have b8:=a2.size;refine Sw ?_;refine Am (λh2=>?_) λh2=>?_;rotate_left
 ·have h2:r=s.rows.length:=by simp at h2;omega
  subst h2;rw [List.take_of_length_le (by simp)] at a8;have hF:BT w2.heap.size w3 lv (s.rows.map λr=>r.map λ_=>id) g:=⟨⟨xs,by rw [List.length_map];exact a4,a8⟩,by simpa using ap⟩;obtain ⟨lp,lc,rfl⟩:=a4.slice;refine Sw ?_;refine Cl λC w4 aj a0 hC=>?_;have au:=a0.size;refine Sa ?_;have ak:=((a3.ext a2).ext a0).push an ((hF.ext a0).low am) (λx hx hb=>by
   have:=(hF.lt hx).1;have:=(a5.lt hb).2;omega) (λj t hj av x hx hy=>by
   have:=((a3.rows j t hj av).lt hx).2;have:=(hF.lt hy).1;omega)
  refine LW.append (lo:=w1.heap.size) (k:=i) rfl rfl rfl rfl rfl rfl ((a5.ext a2).ext a0) (by omega) hC rfl rfl rfl (by show (_+1)*25≤_;omega) rfl ?_;intro v5 w5 al aw ax;have a9:=(ak.over ax).chg al (λj t hj ht y hy=>ak.apartV j t hj ht y hy);refine Sa ?_;refine QW.again (i+1,v5) ⟨by show i+1≤_;omega,((ac.trans a2).trans a0).step al (λb hb=>(a5.lt hb).1),_,_,?_,a9⟩ BN (by show b.length - (i+1)<b.length - i;omega);show E.Ax _ _ _ _ v5 (i+1) ((List.range (i+1)).map _);rw [Oc];exact aw
 have h2:r<s.rows.length:=by simp at h2;omega
 obtain ⟨row,aa⟩:∃r',s.rows[r]?=some r':=⟨_,List.getElem?_eq_getElem h2⟩;obtain ⟨ga,q1,c1,rfl,-,ht,ay⟩:=AJ.at (AJ.ext hr a2) aa;have az:=ht.1;refine Sw ?_;refine CW.loop (ι:=Nat×Value) (λx w'=>x.1≤row.length∧Ae w3 w'∧E.Ax w' w3.heap.size 9 1 x.2 x.1 (List.replicate x.1 (Aj id))) (λx=>[(1,Aj id),(2,.pointer (some ⟨A,0,none⟩)),(5,ov),(6,.int .i64 i),(7,lv),(8,.int .i64 r),(9,x.2),(10,.int .i64 x.1)]) (λx=>row.length - x.1) (0,.slice none 0 0) ⟨Nat.zero_le _,Chg.refl _ _,E.Ax.nil _ _ _ _⟩ LE ?_;rintro ⟨m,tv⟩ w4 ⟨hm,a0,ab⟩;dsimp only at hm ab;show CW _ _ _ _ _ [(1,Aj id),(2,.pointer (some ⟨A,0,none⟩)),(5,ov),(6,.int .i64 (i:Int)),(7,lv),(8,.int .i64 (r:Int)),(9,tv),(10,.int .i64 (m:Int))] _;replace hA:=hA.ext a0;have b9:=Aw a0 ar;have b0:=Aw a0 ay;have au:=a0.size;refine Sw ?_;refine Am (λh3=>?_) λh3=>?_
 ·have h3:m<row.length:=by simp at h3;omega
  refine Sw ?_;refine Cl λC w5 aj a1 hC=>?_;have b1:=a1.size;refine Sa ?_;refine LW.append (lo:=w3.heap.size) (k:=m) rfl rfl rfl rfl rfl rfl (ab.ext a1) (by omega) hC rfl rfl rfl (by show (_+1)*17≤_;omega) rfl ?_;intro v6 w6 ad ae _;refine Sa ?_;exact QW.again (m+1,v6) ⟨by show m+1≤_;omega,(a0.trans a1).step ad (λb hb=>(ab.lt hb).1),by show E.Ax _ _ _ _ v6 (m+1) (List.replicate (m+1) (Aj id));rw [List.replicate_succ'];exact ae⟩ LE (by show row.length - (m+1)<row.length - m;omega)
 have h3:m=row.length:=by simp at h3;omega
 subst h3;have af:E.Ax w4 w3.heap.size 9 1 tv (row.map λ_=>id).length ((row.map λ_=>id).map Aj):=by
  rw [Sk,List.length_replicate,List.map_replicate];exact ab
 obtain ⟨gR,b2,b3⟩:=Km af (by simpa using az) (λt ht=>by
  simp only [List.mem_map] at ht;obtain ⟨_,_,rfl⟩:=ht;exact hid)
 obtain ⟨tp,tc,rfl⟩:=ab.slice;refine Sw ?_;refine Cl λC w5 aj a1 hC=>?_;have b1:=a1.size;refine Sa ?_;have a9:=((a8.ext a0).ext a1).push (b2.ext a1) (λhn=>by
  obtain ⟨g1,sp,g2⟩:=b3 hn;refine ⟨by omega,λhb=>by have:=(a4.lt hb).2;omega,λr' y ag hy hf=>?_,sp,g2.ext a1⟩;obtain ⟨_,_,sp',h9⟩:=a8.blk r' y ag hy;have:=h9.lt;omega)
 obtain ⟨et,el⟩:=L4 (l:=s.rows.map λr=>r.map λ_=>id) (j:=r) (x:=row.map λ_=>id) (by rw [List.getElem?_map,aa];rfl);rw [et,el] at a9;refine LW.append (lo:=w2.heap.size) (k:=r) rfl rfl rfl rfl rfl rfl ((a4.ext a0).ext a1) (by omega) hC rfl rfl rfl (by show (_+1)*25≤_;omega) rfl ?_;intro v6 w6 ad ae b4;have b5:=(a9.over b4).chg ad (λr' y ag hy=>(a9.blk r' y ag hy).2.1);refine Sa ?_;exact QW.again (r+1,v6) ⟨by show r+1≤_;omega,((a2.trans a0).trans a1).step ad (λb hb=>(a4.lt hb).1),_,_,ae,b5⟩ BQ (by show s.rows.length - (r+1)<s.rows.length - r;omega)
end Go.Proofs.YtefaigjfkddelaaGreatDoor
