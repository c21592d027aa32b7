/-
  Joined by program out of the texts BlcP BlaN BlcQ BlaQ BlcR PasO.
-/
import Derived.Test.YtefaigjfkddelaaGreatDoorCkJ
import Derived.Test.YtefaigjfkddelaaGreatDoorCkL
import Derived.Test.YtefaigjfkddelaaGreatDoorCkO
import Derived.Test.YtefaigjfkddelaaGreatDoorCkP
import Derived.Test.YtefaigjfkddelaaGreatDoorCkH
namespace Go.Proofs.YtefaigjfkddelaaGreatDoor
open Go Go.E
theorem Tv {l m:List (List UInt8)} (hl:l.length<128 ^ 9) (hs:∀s∈l,s.length<128 ^ 9) (hm:m.length<128 ^ 9) (ht:∀s∈m,s.length<128 ^ 9) (h:DV l=DV m):l=m:=by
 have h1:=PO (b:=DV l) (r:=[]) (i:=0) (by simp) hl hs;have h2:=PO (b:=DV l) (r:=[]) (i:=0) (l:=m) (by rw [←h];simp) hm ht;rw [h1] at h2;simp only [Option.some.injEq,Prod.mk.injEq] at h2;exact h2.1
theorem NS:∀k,k<5→B8 (List.range 5) ((List.range 5).set k 5)=BO 5:=by decide +kernel
theorem NR {α β:Type} [DecidableEq α] [DecidableEq β] {f:α→β} (a b:List α) (h:∀x∈a,∀y∈b,f x=f y→x=y):B8 (a.map f) (b.map f)=B8 a b:=by
 rw [B8,B8,F5 a b 0 0 h,List.length_map,List.length_map]
def Ce (r:Nat) (t:List UInt8):List (List UInt8):=[Lib.itoa ((100+r:Nat):Int),t]
def Am (ts:List (List UInt8)):Aj:={name:=[65],cols:=2,rows:=(List.range 5).map λr=>Ce r (ts.getD r [])}
theorem Re:∀x,x<5→∀y,y<5→Lib.itoa ((100+x:Nat):Int)=Lib.itoa ((100+y:Nat):Int)→x=y:=by decide +kernel
theorem LC:∀x,x<5→Lib.itoa ((100+x:Nat):Int)≠[]∧(Lib.itoa ((100+x:Nat):Int)).length<10:=by decide +kernel
theorem Ny {r:Nat} {t:List UInt8} (hr:r<5) (ht:t≠[]):Cg (Ce r t)=DV (Ce r t):=by
 have:=(LC r hr).1;rw [Cg,Ce,List.filter_cons_of_pos (by simpa using this),List.filter_cons_of_pos (by simpa using ht)];rfl
theorem F8 {r:Nat} {t:List UInt8} (hr:r<5) (ht:t.length<128 ^ 9):(Ce r t).length<128 ^ 9∧∀s∈Ce r t,s.length<128 ^ 9:=by
 refine ⟨by simp [Ce],λs hs=>?_⟩;simp only [Ce,List.mem_cons,List.not_mem_nil,or_false] at hs;rcases hs with rfl | rfl
 ·exact Nat.lt_trans (LC r hr).2 (by decide)
 ·exact ht
theorem JY {r q:Nat} {t u:List UInt8} (hr:r<5) (hq:q<5) (ht:t≠[]) (hu:u≠[]) (htl:t.length<128 ^ 9) (hul:u.length<128 ^ 9) (h:Cg (Ce r t)=Cg (Ce q u)):r=q∧t=u:=by
 rw [Ny hr ht,Ny hq hu] at h;have h2:=Tv (F8 hr htl).1 (F8 hr htl).2 (F8 hq hul).1 (F8 hq hul).2 h;simp only [Ce,List.cons.injEq,and_true] at h2;exact ⟨Re r hr q hq h2.1,h2.2⟩
theorem RH {ts:List (List UInt8)} {k:Nat} {v:List UInt8} (hl:ts.length=5) (hk:k<5) (hn:∀t∈ts,t≠[]∧t.length<128 ^ 9) (hv:v≠[]) (hvl:v.length<128 ^ 9) (hd:ts.getD k []≠v):BM (Am ts) (Am (ts.set k v))=BO 5:=by
 have hg:∀r,r<5→ts.getD r []≠[]∧(ts.getD r []).length<128 ^ 9:=λr hr=>by
  rw [List.getD_eq_getElem?_getD,List.getElem?_eq_getElem (by omega)];exact hn _ (List.getElem_mem _)
 let f:Nat→List UInt8:=λi=>if i=5 then Cg (Ce k v) else Cg (Ce i (ts.getD i []))
 have e1:(Am ts).rows.map Cg=(List.range 5).map f:=by
  rw [Am,List.map_map];refine List.map_congr_left λr hr=>?_;have:=List.mem_range.1 hr;show _=if r=5 then _ else _;rw [if_neg (by omega)];rfl
 have e2:(Am (ts.set k v)).rows.map Cg=((List.range 5).set k 5).map f:=by
  rw [Am,List.map_map];refine List.ext_getElem? λi=>?_;simp only [List.getElem?_map,List.getElem?_set,List.length_range];by_cases hi:i<5
  ·by_cases e:k=i
   ·subst e;simp [f,hi,hl,List.getD_eq_getElem?_getD]
   ·have a2:i≠5:=by omega
    simp [f,hi,e,a2,List.getD_eq_getElem?_getD,List.getElem?_set]
  ·have e:k≠i:=by omega
   simp [hi,e]
 rw [BM,e1,e2,NR,NS k hk];intro x hx y hy h;have a0:=List.mem_range.1 hx;have hy5:y=5∨y<5:=by
  rcases List.mem_or_eq_of_mem_set hy with h | h
  ·exact .inr (List.mem_range.1 h)
  ·exact .inl h
 have a1:f x=Cg (Ce x (ts.getD x [])):=if_neg (by omega);rcases hy5 with rfl | hy5
 ·have a3:f 5=Cg (Ce k v):=if_pos rfl;rw [a1,a3] at h;obtain ⟨e3,e4⟩:=JY a0 hk (hg x a0).1 hv (hg x a0).2 hvl h;subst e3;exact absurd e4 hd
 ·have a4:f y=Cg (Ce y (ts.getD y [])):=if_neg (by omega);rw [a1,a4] at h;exact (JY a0 hy5 (hg x a0).1 (hg y hy5).1 (hg x a0).2 (hg y hy5).2 h).1
theorem DE {ts:List (List UInt8)} {r:Nat} (hr:r<5):(Am ts).rows.getD r []=Ce r (ts.getD r []):=by
 simp [Am,hr]
theorem E3 (ts:List (List UInt8)):(Am ts).rows.length=5:=by simp [Am]
theorem J8 {ts us:List (List UInt8)} {p:Nat×Nat} (h:p∈Bs (Am ts) (Am us) (BO 5)):p.1=p.2∧p.1<5∧Cg (Ce p.1 (ts.getD p.1 []))=Cg (Ce p.1 (us.getD p.1 [])):=by
 simp only [Bs,List.mem_filterMap,E3,List.mem_range] at h;obtain ⟨i,hi,h⟩:=h;have e:(BO 5)[i]?=some (i:Int):=by simp [BO,hi]
 rw [e] at h;simp only at h
 split at h
 ·rename_i hc;obtain rfl:=Option.some.inj h;rw [Int.toNat_natCast] at hc ⊢;rw [DE hi,DE hi] at hc;exact ⟨rfl,hi,hc.2.2⟩
 ·cases h
theorem QK {ts us:List (List UInt8)} (hn:∀r,r<5→ts.getD r []≠[]∧(ts.getD r []).length<128 ^ 9) (hu:∀r,r<5→us.getD r []≠[]∧(us.getD r []).length<128 ^ 9):EO (Am ts) (Am us) (BO 5)=BO 2:=by
 have e1:(Bs (Am ts) (Am us) (BO 5)).map Prod.snd=(Bs (Am ts) (Am us) (BO 5)).map Prod.fst:=List.map_congr_left λp hp=>(J8 hp).1.symm;have e2:A8 (Am us) ((Bs (Am ts) (Am us) (BO 5)).map Prod.fst)=A8 (Am ts) ((Bs (Am ts) (Am us) (BO 5)).map Prod.fst):=by
  unfold A8;refine List.map_congr_left λc _=>?_;unfold EN
  congr 1
  refine List.map_congr_left λr hr=>?_;obtain ⟨p,hp,rfl⟩:=List.mem_map.1 hr;obtain ⟨-,h5,hk⟩:=J8 hp;rw [DE h5,DE h5,(JY h5 h5 (hn _ h5).1 (hu _ h5).1 (hn _ h5).2 (hu _ h5).2 hk).2]
 rw [EO,e1,e2,M6];simp [A8,Am]
def C1 (t:Ar) (i r q:Nat):Option (List UInt8):=(t[i]?.bind (·[r]?)).bind (·[q]?)
theorem L3 (t:Ar) (k x y:Nat) (v:List UInt8) (i r q:Nat):C1 (Jj t k x y v) i r q=if i=k∧r=x∧q=y then (C1 t i r q).map λ_=>v else C1 t i r q:=by
 unfold C1 Jj;rw [List.getElem?_modify]
 cases h1:t[i]? with
 | none=>simp
 | some rows=>
  by_cases e1:k=i
  ·subst e1;simp only [eq_self,if_true,Option.map_eq_map,Option.map_some,Option.bind_some,true_and,List.getElem?_modify]
   cases h2:rows[r]? with
   | none=>simp
   | some row=>
    by_cases e2:x=r
    ·subst e2;simp only [eq_self,if_true,Option.map_some,Option.bind_some,true_and,List.getElem?_set];by_cases e3:y=q
     ·subst e3;by_cases h3:y<row.length
      ·simp [h3]
      ·simp [h3]
     ·have a0:¬q=y:=λe=>e3 e.symm;simp [e3,a0]
    ·have a1:¬r=x:=λe=>e2 e.symm;simp [e2,a1]
  ·have a2:¬i=k:=λe=>e1 e.symm;simp [e1,a2]
theorem SQ {c:Ah} {ss:List BQ} {had t:Ar} {i k r q:Nat} {nm:List UInt8} {sh:BQ} {x:List UInt8} (hr:A9 sh.rows r=r) (hq:A9 sh.cols q=q):GP c ss had i k nm sh r q x t=if EZ (c.getD k ⟨[],0,[]⟩) r q=Ct nm ss x then Jj t k r q (JR had i r q) else t:=by
 unfold GP;simp only [hr,hq];have h1:(0:Int)≤(r:Int):=by omega
 have h2:(0:Int)≤(q:Int):=by omega
 simp only [h1,h2,true_and,Int.toNat_natCast]
theorem Nw {c:Ah} {ss:List BQ} {had:Ar} {i k r:Nat} {nm:List UInt8} {sh:BQ} {row:List (List UInt8)} (hr:A9 sh.rows r=r):∀(n:Nat) (t:Ar),(∀q:Nat,q<n→A9 sh.cols q=q)→∀i' r' q',C1 (Dy c ss had i k nm sh r row n t) i' r' q'=if i'=k∧r'=r∧q'<n∧EZ (c.getD k ⟨[],0,[]⟩) r' q'=Ct nm ss (row.getD q' []) then (C1 t i' r' q').map λ_=>JR had i r' q' else C1 t i' r' q'
 | 0,t,_,i',r',q'=>by simp [Dy]
 | n+1,t,hq,i',r',q'=>by
  have ih:=Nw (c:=c) (ss:=ss) (had:=had) (i:=i) (k:=k) (nm:=nm) (row:=row) hr n t (λq h=>hq q (by omega)) i' r' q';have e:Dy c ss had i k nm sh r row (n+1) t=GP c ss had i k nm sh r n (row.getD n []) (Dy c ss had i k nm sh r row n t):=by
   rw [Dy,List.range_succ,List.foldl_append];rfl
  rw [e,SQ hr (hq n (by omega))];by_cases hw:q'=n
  ·subst hw;rw [if_neg (by omega)] at ih
   split
   ·rename_i hc;rw [L3,ih];by_cases h1:i'=k∧r'=r
    ·obtain ⟨rfl,rfl⟩:=h1;rw [if_pos ⟨rfl,rfl,rfl⟩,if_pos ⟨rfl,rfl,by omega,hc⟩]
    ·have h2:¬(i'=k∧r'=r∧q'=q'):=λh=>h1 ⟨h.1,h.2.1⟩;have h3:¬(i'=k∧r'=r∧q'<q'+1∧EZ (c.getD k ⟨[],0,[]⟩) r' q'=Ct nm ss (row.getD q' [])):=λh=>h1 ⟨h.1,h.2.1⟩;rw [if_neg h2,if_neg h3]
   ·rename_i hc;rw [ih,if_neg];rintro ⟨-,rfl,-,h⟩;exact hc h
  ·have h4:q'<n+1↔q'<n:=by omega
   simp only [h4]
   split
   ·rw [L3,if_neg (λh=>hw h.2.2),ih]
   ·rw [ih]
theorem Nx {c:Ah} {ss:List BQ} {had:Ar} {i k:Nat} {s:Aj} {sh:BQ}:∀(n:Nat) (t:Ar),(∀r:Nat,r<n→A9 sh.rows r=r)→(∀r:Nat,r<n→∀q:Nat,q<(s.rows.getD r []).length→A9 sh.cols q=q)→∀i' r' q',C1 (DY c ss had i k s sh n t) i' r' q'=if i'=k∧r'<n∧q'<(s.rows.getD r' []).length∧EZ (c.getD k ⟨[],0,[]⟩) r' q'=Ct s.name ss ((s.rows.getD r' []).getD q' []) then (C1 t i' r' q').map λ_=>JR had i r' q' else C1 t i' r' q'
 | 0,t,_,_,i',r',q'=>by simp [DY]
 | n+1,t,hr,hq,i',r',q'=>by
  have ih:=Nx (c:=c) (ss:=ss) (had:=had) (i:=i) (k:=k) (s:=s) (sh:=sh) n t (λr h=>hr r (by omega)) (λr h=>hq r (by omega)) i' r' q';have e:DY c ss had i k s sh (n+1) t=Dy c ss had i k s.name sh n (s.rows.getD n []) (s.rows.getD n []).length (DY c ss had i k s sh n t):=by
   rw [DY,List.range_succ,List.foldl_append];rfl
  rw [e,Nw (hr n (by omega)) _ _ (hq n (by omega)),ih];by_cases hw:r'=n
  ·subst hw;have h1:¬(i'=k∧r'<r'∧q'<(s.rows.getD r' []).length∧EZ (c.getD k ⟨[],0,[]⟩) r' q'=Ct s.name ss ((s.rows.getD r' []).getD q' [])):=by omega
   rw [if_neg h1];have h2:r'<r'+1:=by omega
   simp only [h2,true_and]
  ·have h1:r'<n+1↔r'<n:=by omega
   simp only [h1,hw,false_and,and_false,if_false]
theorem Nv {p c:Ah} {had:Ar}:∀(n:Nat) (t:Ar),(∀i:Nat,i<n→Ly c (p.getD i ⟨[],0,[]⟩).name=some i)→(∀i:Nat,i<n→∀r:Nat,r<(p.getD i ⟨[],0,[]⟩).rows.length→A9 ((A0 p c).getD i ⟨[],⟨[],0⟩,⟨[],0⟩,true⟩).rows r=r)→(∀i:Nat,i<n→∀r:Nat,r<(p.getD i ⟨[],0,[]⟩).rows.length→∀q:Nat,q<((p.getD i ⟨[],0,[]⟩).rows.getD r []).length→A9 ((A0 p c).getD i ⟨[],⟨[],0⟩,⟨[],0⟩,true⟩).cols q=q)→
  ∀i r q,C1 (CX p c had n t) i r q=if i<n∧r<(p.getD i ⟨[],0,[]⟩).rows.length∧q<((p.getD i ⟨[],0,[]⟩).rows.getD r []).length∧EZ (c.getD i ⟨[],0,[]⟩) r q=Ct (p.getD i ⟨[],0,[]⟩).name (A0 p c) (((p.getD i ⟨[],0,[]⟩).rows.getD r []).getD q []) then (C1 t i r q).map λ_=>JR had i r q else C1 t i r q
 | 0,t,_,_,_,i,r,q=>by simp [CX]
 | n+1,t,ha,hr,hq,i,r,q=>by
  have ih:=Nv (p:=p) (c:=c) (had:=had) n t (λi h=>ha i (by omega)) (λi h=>hr i (by omega)) (λi h=>hq i (by omega)) i r q;have e:CX p c had (n+1) t=DY c (A0 p c) had n n (p.getD n ⟨[],0,[]⟩) ((A0 p c).getD n ⟨[],⟨[],0⟩,⟨[],0⟩,true⟩) (p.getD n ⟨[],0,[]⟩).rows.length (CX p c had n t):=by
   rw [CX,List.range_succ,List.foldl_append];show (match Ly c (p.getD n ⟨[],0,[]⟩).name with | none=>_ | some k=>_)=_;rw [ha n (by omega)];rfl
  rw [e,Nx _ _ (hr n (by omega)) (hq n (by omega)),ih];by_cases hw:i=n
  ·subst hw;have h1:¬(i<i):=by omega
   have h2:i<i+1:=by omega
   simp only [h1,h2,false_and,if_false,true_and]
  ·have h1:i<n+1↔i<n:=by omega
   simp only [h1,hw,false_and,if_false]
theorem L2 {t:Ar} {i r q:Nat} {v:List UInt8} (h:C1 t i r q=some v):JR t i r q=v:=by
 unfold C1 at h
 cases h1:t[i]? with
 | none=>simp [h1] at h
 | some rows=>
  rw [h1] at h;simp only [Option.bind_some] at h
  cases h2:rows[r]? with
  | none=>simp [h2] at h
  | some row=>
   rw [h2] at h;exact PN h1 h2 h
theorem UF {t u:Ar} {b:Ah} (ht:CM t b) (hu:CM u b) (h:∀i r q,C1 t i r q=C1 u i r q):t=u:=by
 have hm:t.map (λrows=>rows.map List.length)=u.map λrows=>rows.map List.length:=by rw [ht,hu]
 apply List.ext_getElem?;intro i;have h1:=congrArg (λl=>l[i]?) hm;simp only [List.getElem?_map] at h1
 cases e1:t[i]? with
 | none=>
  cases e2:u[i]? with
  | none=>rfl
  | some y=>rw [e1,e2] at h1;simp at h1
 | some x=>
  cases e2:u[i]? with
  | none=>rw [e1,e2] at h1;simp at h1
  | some y=>
   rw [e1,e2] at h1;simp only [Option.map_some,Option.some.injEq] at h1
   congr 1
   apply List.ext_getElem?;intro r;have h2:=congrArg (λl=>l[r]?) h1;simp only [List.getElem?_map] at h2
   cases e3:x[r]? with
   | none=>
    cases e4:y[r]? with
    | none=>rfl
    | some z=>rw [e3,e4] at h2;simp at h2
   | some a=>
    cases e4:y[r]? with
    | none=>rw [e3,e4] at h2;simp at h2
    | some z=>
     congr 1
     apply List.ext_getElem?;intro q;have h3:=h i r q
     simpa [C1,e1,e2,e3,e4] using h3
def Ft (ws:List (List UInt8)):Ar:=[(List.range 5).map λr=>[[99],ws.getD r []]]
theorem P2 (ws ts:List (List UInt8)):CM (Ft ws) [Am ts]:=by
 unfold CM Ft Am;simp only [List.map_cons,List.map_nil,List.map_map];rfl
theorem Hu (ws:List (List UInt8)) (r q:Nat):C1 (Ft ws) 0 r q=if r<5 then (if q=0 then some [99] else if q=1 then some (ws.getD r []) else none) else none:=by
 unfold C1 Ft;simp only [List.getElem?_cons_zero,Option.bind_some,List.getElem?_map];by_cases hr:r<5
 ·rw [List.getElem?_range hr,if_pos hr]
  match q with
  | 0=>rfl
  | 1=>rfl
  | q+2=>simp
 ·rw [List.getElem?_eq_none (by simpa using hr),if_neg hr];rfl
theorem QD (ts:List (List UInt8)) (id:List UInt8) (r q:Nat):C1 (FI [Am ts] id) 0 r q=if r<5 then (if q<2 then some id else none) else none:=by
 unfold C1 FI Am;simp only [List.map_cons,List.map_nil,List.getElem?_cons_zero,Option.bind_some,List.map_map,List.getElem?_map];by_cases hr:r<5
 ·rw [List.getElem?_range hr,if_pos hr]
  match q with
  | 0=>rfl
  | 1=>rfl
  | q+2=>simp [Function.comp,Ce]
 ·rw [List.getElem?_eq_none (by simpa using hr),if_neg hr];rfl
theorem So (ts:List (List UInt8)):FI [Am ts] [99]=Ft (List.replicate 5 [99]):=by
 unfold FI Ft Am;simp only [List.map_cons,List.map_nil,List.map_map];rfl
theorem RR {ts ws:List (List UInt8)} {k:Nat} {v id:List UInt8} (hl:ts.length=5) (hw:ws.length=5) (hk:k<5) (hn:∀t∈ts,t≠[]∧t.length<128 ^ 9∧Ae t 0≠61) (hv:v≠[]) (hvl:v.length<128 ^ 9) (hd:ts.getD k []≠v):Fq [Am ts] [Am (ts.set k v)] id (Ft ws)=Ft (ws.set k id):=by
 have hg:∀r,r<5→ts.getD r []∈ts:=λr hr=>by
  rw [List.getD_eq_getElem?_getD,List.getElem?_eq_getElem (by omega)];exact List.getElem_mem _
 have hu:∀r,(ts.set k v).getD r []=if r=k then v else ts.getD r []:=λr=>by
  rw [List.getD_eq_getElem?_getD,List.getD_eq_getElem?_getD,List.getElem?_set];by_cases e:k=r
  ·subst e;simp [show k<ts.length by omega]
  ·have e':¬r=k:=λh=>e h.symm;simp [e,e']
 have a2:∀r,(ws.set k id).getD r []=if r=k then id else ws.getD r []:=λr=>by
  rw [List.getD_eq_getElem?_getD,List.getD_eq_getElem?_getD,List.getElem?_set];by_cases e:k=r
  ·subst e;simp [show k<ws.length by omega]
  ·have e':¬r=k:=λh=>e h.symm;simp [e,e']
 have hR:BM (Am ts) (Am (ts.set k v))=BO 5:=RH hl hk (λt ht=>⟨(hn t ht).1,(hn t ht).2.1⟩) hv hvl hd;have hC:EO (Am ts) (Am (ts.set k v)) (BO 5)=BO 2:=QK (λr hr=>⟨(hn _ (hg r hr)).1,(hn _ (hg r hr)).2.1⟩) λr hr=>by
  rw [hu r]
  split
  ·exact ⟨hv,hvl⟩
  ·exact ⟨(hn _ (hg r hr)).1,(hn _ (hg r hr)).2.1⟩
 have a1:A0 [Am ts] [Am (ts.set k v)]=[⟨[65],⟨BO 5,5⟩,⟨BO 2,2⟩,false⟩]:=by
  show [AH (Am ts) (Am (ts.set k v))]=_;unfold AH;rw [hR,hC,E3];rfl
 have a3:Ly [Am (ts.set k v)] (Am ts).name=some 0:=rfl;have i5:∀r:Nat,r<5→A9 (⟨BO 5,5⟩:BT) r=r:=λr hr=>by rw [show (⟨BO 5,5⟩:BT)=KF 5 from rfl];exact Oi
 have i2:∀r:Nat,A9 (⟨BO 2,2⟩:BT) r=r:=λr=>by rw [show (⟨BO 2,2⟩:BT)=KF 2 from rfl];exact Oi
 refine UF (b:=[Am (ts.set k v)]) (KI _ _ id _) (P2 _ _) λi r q=>?_;unfold Fq;rw [show ([Am ts]:Ah).length=1 from rfl,Nv 1 _ (λi hi=>?_) (λi hi r hr=>?_) (λi hi r hr q hq=>?_)]
 ·match i with
  | i+1=>
   rw [if_neg (by omega)]
   simp [C1,FI,Ft]
  | 0=>
   rw [QD,Hu,a2];have g1:List.getD ([Am ts]:Ah) 0 ⟨[],0,[]⟩=Am ts:=rfl;have g2:List.getD ([Am (ts.set k v)]:Ah) 0 ⟨[],0,[]⟩=Am (ts.set k v):=rfl;simp only [g1,g2,E3];by_cases hr:r<5;rotate_left
   ·rw [if_neg (λh=>hr h.2.1),if_neg hr,if_neg hr]
   rw [DE hr,if_pos hr,if_pos hr];have a4:EZ (Am (ts.set k v)) r q=(Ce r ((ts.set k v).getD r [])).getD q []:=by
    unfold EZ;rw [Int.toNat_natCast,Int.toNat_natCast,DE hr]
   rw [a4]
   match q with
   | q+2=>
    rw [if_neg (λh=>by have:=h.2.2.1;simp [Ce] at this;omega)]
    simp
   | 0=>
    have a5:Ae (Lib.itoa ((100+r:Nat):Int)) 0≠61:=by
     have:∀x,x<5→Ae (Lib.itoa ((100+x:Nat):Int)) 0≠61:=by decide +kernel
     exact this r hr
    have hm:Ct (Am ts).name (A0 [Am ts] [Am (ts.set k v)]) ((Ce r (ts.getD r [])).getD 0 [])=Lib.itoa ((100+r:Nat):Int):=Hj (.inr (.inl a5));rw [hm,if_pos ⟨by omega,hr,by simp [Ce],rfl⟩];have a0:JR (Ft ws) 0 r 0=[99]:=L2 (by rw [Hu,if_pos hr];rfl);rw [a0]
    rfl
   | 1=>
    have hm:Ct (Am ts).name (A0 [Am ts] [Am (ts.set k v)]) ((Ce r (ts.getD r [])).getD 1 [])=ts.getD r []:=Hj (.inr (.inl (hn _ (hg r hr)).2.2));have a0:JR (Ft ws) 0 r 1=ws.getD r []:=L2 (by rw [Hu,if_pos hr];rfl);rw [hm,a0];have e1:∀x:List UInt8,(Ce r x).getD 1 []=x:=λ_=>rfl;simp only [e1,hu r];by_cases e:r=k
    ·subst e;rw [if_pos rfl,if_pos rfl,if_neg (λh=>hd h.2.2.2.symm)];rfl
    ·rw [if_neg e,if_neg e,if_pos ⟨by omega,hr,by simp [Ce],rfl⟩];rfl
 ·obtain rfl:i=0:=by omega
  exact a3
 ·obtain rfl:i=0:=by omega
  rw [a1];exact i5 r (by rw [show (List.getD ([Am ts]:Ah) 0 ⟨[],0,[]⟩)=Am ts from rfl,E3] at hr;exact hr)
 ·obtain rfl:i=0:=by omega
  rw [a1];exact i2 q
theorem PA {l:As} {id:List UInt8} {k:Nat} (m:As) (h:D6 l id=some k):D6 (l++m) id=some k:=by
 obtain ⟨c,h1,h2,h3⟩:=Es h;have hk:=(List.getElem?_eq_some_iff.1 h1).1;refine JB (c:=c) (by rw [List.getElem?_append_left hk];exact h1) h2 λj d hj hd=>h3 j d hj ?_
 rwa [List.getElem?_append_left (by omega)] at hd
theorem Ov {l:As} {x:Ax} {i:Nat} (h:i≤l.length):(l++[x]).take i=l.take i:=by
 rw [List.take_append_of_le_length h]
def UU (l:As) (c:Ax):Bool:=(D6 l c.id).isNone&&decide (c.parents.length≤2)&&!(decide (c.parents.length=2)&&decide (c.parents[0]?=c.parents[1]?))&&c.parents.all λp=>(D6 l p).isSome
theorem Ro {l:As} {c:Ax} (h:Ew l=true) (hc:UU l c=true):Ew (l++[c])=true:=by
 refine PX λi d hi hd=>?_;by_cases e:i<l.length
 ·rw [List.getElem?_append_left e] at hd;have h1:=M1 h hd;unfold FW at h1 ⊢;rw [Ov (by omega)];exact h1
 ·have e2:i=l.length:=by simp at hi;omega
  subst e2;rw [List.getElem?_append_right (by omega),Nat.sub_self] at hd;obtain rfl:=Option.some.inj hd;unfold FW;rw [Ov (Nat.le_refl _),List.take_length];exact hc
theorem LF {l:As} (h:Ew l=true) (x:Ax):∀(n k:Nat),k<l.length→CF (l++[x]) n (some k)=CF l n (some k)
 | 0,_,_=>rfl
 | n+1,k,hk=>by
  obtain ⟨c,hc⟩:∃c,l[k]?=some c:=⟨_,List.getElem?_eq_getElem hk⟩;rw [CF,CF,List.getElem?_append_left hk,hc];simp only
  cases hp:c.parents with
  | nil=>rfl
  | cons p r=>
   simp only;obtain ⟨j,hj,hjk⟩:=DO h hc (p:=p) (by rw [hp];exact List.mem_cons_self ..);rw [hj,PA _ hj,LF h x n j (by omega)]
theorem Nc {l:As} (hm:Ew l=true) {k:Nat} {c x:Ax} (hc:l[k]?=some c) (hx:D6 l x.id=none) (hp:x.parents=[c.id]):Ew (l++[x])=true∧GV (l++[x]) x.id=Fq c.book x.book x.id (GV l c.id):=by
 have a0:=Km hm hc;have hk:=GT a0;have h1:Ew (l++[x])=true:=Ro hm (by rw [UU,hx,hp];simp [a0]);have a1:(l++[x])[l.length]?=some x:=by rw [List.getElem?_append_right (Nat.le_refl _),Nat.sub_self];rfl
 have a2:D6 (l++[x]) x.id=some l.length:=Km h1 a1;have e1:Bz (l++[x]) x.id=l.length::Bz l c.id:=by
  rw [Bz,a2,List.length_append,List.length_singleton,CF,a1];simp only [hp];rw [PA _ a0,LF hm x _ k hk,Bz,a0]
 have a3:(Bz l c.id).map (Iq (l++[x]))=(Bz l c.id).map (Iq l):=List.map_congr_left λj hj=>by
  have:=Mz j hj;rw [Iq,Iq,List.getElem?_append_left this]
 have h0:(Bz l c.id)[0]?=some k:=by
  rw [Bz,a0];obtain ⟨n,hn⟩:∃n,l.length=n+1:=⟨l.length - 1,by omega⟩;rw [hn];rfl
 refine ⟨h1,?_⟩;have e2:(Bz (l++[x]) x.id).reverse.map (Iq (l++[x]))=DX l c.id 0++[(x.id,x.book)]:=by
  rw [e1,List.reverse_cons,List.map_append,List.map_reverse,a3,←List.map_reverse];show _++[Iq (l++[x]) l.length]=_;rw [Gv a1];rfl
 rw [GV,e2,Kf _ (GX h0),Gv hc];rfl
def RZ (n:Nat):List UInt8:=Lib.itoa ((200+n:Nat):Int)
def Ns:Nat→List UInt8
 | 0=>[99]
 | n+1=>[99]++Lib.itoa (n:Int)
def Jm (ks:List Nat):Nat→List (List UInt8)×List (List UInt8)
 | 0=>(List.replicate 5 [48],List.replicate 5 [99])
 | n+1=>((Jm ks n).1.set (ks.getD n 0) (RZ n),(Jm ks n).2.set (ks.getD n 0) (Ns (n+1)))
def V1 (ks:List Nat) (n:Nat):Ah:=[Am (Jm ks n).1]
def Jg (ks:List Nat) (n:Nat):Ax:=⟨Ns n,if n=0 then [] else [Ns (n - 1)],V1 ks n,[]⟩
def Dz (ks:List Nat) (n:Nat):As:=(List.range (n+1)).map (Jg ks)
theorem I4 (ks:List Nat) (n:Nat):(Dz ks n).length=n+1:=by simp [Dz]
theorem K0 (ks:List Nat) {n j:Nat} (h:j≤n):(Dz ks n)[j]?=some (Jg ks j):=by
 rw [Dz,List.getElem?_map,List.getElem?_range (by omega)];rfl
theorem K1 (ks:List Nat) (n:Nat):Dz ks (n+1)=Dz ks n++[Jg ks (n+1)]:=by rw [Dz,List.range_succ,List.map_append];rfl
theorem Jz (ks:List Nat):∀n,(Jm ks n).1.length=5∧(Jm ks n).2.length=5
 | 0=>⟨rfl,rfl⟩
 | n+1=>by
  obtain ⟨h1,h2⟩:=Jz ks n;exact ⟨by simp [Jm,h1],by simp [Jm,h2]⟩
theorem J0 (ks:List Nat):∀n,∀t∈(Jm ks n).1,t=[48]∨∃j,j<n∧t=RZ j
 | 0,t,h=>.inl (List.mem_replicate.1 h).2
 | n+1,t,h=>by
  rcases List.mem_or_eq_of_mem_set h with h | h
  ·rcases J0 ks n t h with h | ⟨j,hj,h⟩
   ·exact .inl h
   ·exact .inr ⟨j,by omega,h⟩
  ·exact .inr ⟨n,by omega,h⟩
theorem KO:∀j,j<8→RZ j≠[]∧(RZ j).length<20∧Ae (RZ j) 0≠61∧RZ j≠[48]:=by decide +kernel
theorem UJ:∀n,n<8→∀j,j<n→RZ j≠RZ n:=by decide +kernel
theorem Uo:∀n,n<9→∀j,j<n→Ns j≠Ns n:=by decide +kernel
theorem L9:∀n,n<9→(Ns n).length≤100:=by decide +kernel
theorem TE (ks:List Nat) {n:Nat} (hn:n≤8):∀t∈(Jm ks n).1,t≠[]∧t.length<128 ^ 9∧Ae t 0≠61:=λt ht=>by
 rcases J0 ks n t ht with rfl | ⟨j,hj,rfl⟩
 ·exact ⟨by simp,by decide,by decide⟩
 ·obtain ⟨h1,h2,h3,-⟩:=KO j (by omega);exact ⟨h1,Nat.lt_trans h2 (by decide),h3⟩
theorem UB (ks:List Nat) {n:Nat} (hn:n≤8):∀t∈(Jm ks n).1,Dc t=true:=λt ht=>by
 rcases J0 ks n t ht with rfl | ⟨j,hj,rfl⟩
 ·have h:=HM 0 (by omega) (by omega)
  rwa [show Lib.itoa 0=[48] by decide +kernel] at h
 ·exact HM _ (by omega) (by omega)
theorem LP {r:Nat} {t:List UInt8} (ht:Dc t=true):SK (Ce r t)∨8≤r:=by
 by_cases hr:r<8
 ·left
  refine ⟨rfl,λx hx=>?_⟩;simp only [Ce,List.mem_cons,List.not_mem_nil,or_false] at hx;rcases hx with rfl | rfl
  ·exact Rn r hr
  ·exact ht
 ·right;omega
theorem PF (ks:List Nat) {n:Nat} (hn:n≤8):AX (V1 ks n)=true:=by
 refine Pw (by simp) λr hr=>?_;obtain ⟨j,hj,rfl⟩:=List.mem_map.1 hr;have hj:=List.mem_range.1 hj;have hm:Dc ((Jm ks n).1.getD j [])=true:=by
  rw [List.getD_eq_getElem?_getD,List.getElem?_eq_getElem (by rw [(Jz ks n).1];exact hj)];exact UB ks hn _ (List.getElem_mem _)
 exact (LP hm).resolve_right (by omega)
theorem Ub (ks:List Nat) {n:Nat} (hn:n<8):D6 (Dz ks n) (Ns (n+1))=none:=MW λj d hj hd e=>by
 rw [I4] at hj;rw [K0 ks (by omega)] at hd;obtain rfl:=Option.some.inj hd;exact Uo (n+1) (by omega) j (by omega) e
theorem IU (ks:List Nat) (hk:∀k∈ks,k<5):∀n,n≤8→Ew (Dz ks n)=true∧GV (Dz ks n) (Ns n)=Ft (Jm ks n).2
 | 0,_=>⟨rfl,by rw [show (Jm ks 0).2=List.replicate 5 [99] from rfl,←So (List.replicate 5 [48])];rfl⟩
 | n+1,hn=>by
  obtain ⟨h1,h2⟩:=IU ks hk n (by omega);have hx:(Jg ks (n+1)).parents=[(Jg ks n).id]:=rfl;obtain ⟨h3,h4⟩:=Nc h1 (K0 ks (Nat.le_refl n)) (x:=Jg ks (n+1)) (Ub ks (by omega)) hx;rw [K1];refine ⟨h3,?_⟩;have h5:GV (Dz ks n) (Jg ks n).id=Ft (Jm ks n).2:=h2;have hkn:ks.getD n 0<5:=by
   rw [List.getD_eq_getElem?_getD]
   cases e:ks[n]? with
   | none=>simp
   | some k=>exact hk k (List.mem_of_getElem? e)
  obtain ⟨l1,l2⟩:=Jz ks n;obtain ⟨v1,v2,v3,v4⟩:=KO n (by omega);refine h4.trans ?_;rw [h5];refine RR l1 l2 hkn (TE ks (by omega)) v1 (Nat.lt_trans v2 (by decide)) λe=>?_;have hm:(Jm ks n).1.getD (ks.getD n 0) []∈(Jm ks n).1:=by
   rw [List.getD_eq_getElem?_getD,List.getElem?_eq_getElem (by rw [l1];exact hkn)];exact List.getElem_mem _
  rcases J0 ks n _ hm with h | ⟨j,hj,h⟩
  ·exact v4 (e.symm.trans h)
  ·exact UJ n (by omega) j hj (h.symm.trans e)
theorem Pv (ts:List (List UInt8)) {k:Nat} {v:List UInt8} (hl:ts.length=5) (hk:k<5):FJ [Am ts] 0 k 1 v=[Am (ts.set k v)]:=by
 show [KZ (Am ts) k 1 v]=_
 congr 1
 unfold KZ Am;simp only
 congr 1
 apply List.ext_getElem?;intro i;rw [List.getElem?_modify,List.getElem?_map,List.getElem?_map];by_cases hi:i<5
 ·rw [List.getElem?_range hi];by_cases e:k=i
  ·subst e;simp [Ce,List.getD_eq_getElem?_getD,List.getElem?_set,hl,hk]
  ·simp [e,Ce,List.getD_eq_getElem?_getD,List.getElem?_set]
 ·rw [List.getElem?_eq_none (by simpa using hi)];rfl
def Fj (n:Nat):List (List (List UInt8)):=(List.range n).map λr=>Ce r [48]
theorem Pq (n:Nat):Fj (n+1)=Fj n++[Ce n [48]]:=by rw [Fj,List.range_succ,List.map_append];rfl
theorem RG (n:Nat):(Fj n).length=n:=by simp [Fj]
theorem Og (ks:List Nat):V1 ks 0=[⟨[65],2,Fj 5⟩]:=rfl
def Je (V:List Nat) (w:World) (P:World→Prop):Prop:=∀w',Chg V w w'→P w'
theorem Je.now {V:List Nat} {w:World} {P:World→Prop} (h:Je V w P):P w:=h w (Chg.refl _ _)
theorem Je.step {V V':List Nat} {w w':World} {P:World→Prop} (h:Je V w P) (x:Chg V w w') (hv:∀j,j∈V'→j∈V∨w.heap.size≤j):Je V' w' P:=λw2 x2=>h w2 ((Chg.trans x x2).mono λj hj hl=>by
 rcases List.mem_append.1 hj with hj | hj
 ·exact hj
 ·rcases hv j hj with h | h
  ·exact h
  ·omega)
theorem Je.ext {V:List Nat} {w w':World} {P:World→Prop} (h:Je V w P) (x:Ag w w'):Je V w' P:=h.step x.chg λ_=>.inl
def DJ (U:List Nat) (lo:Nat) (w:World) (v:Value) (l:As):Prop:=BA 4 lo 31 (λ_ w cs c=>Je (U++Ad v) w λw'=>H8 w' cs c) w v l
section
variable {U:List Nat} {lo:Nat} {w w':World} {v v':Value} {l:As}
theorem DJ.lt (h:DJ U lo w v l) {b:Nat} (hb:b∈Ad v):lo≤b∧b<w.heap.size:=BA.lt h hb
theorem DJ.ext (h:DJ U lo w v l) (x:Ag w w'):DJ U lo w' v l:=BA.ext' h x λ_ _ _ _ h=>h.ext x
theorem DJ.chg {S:List Nat} (h:DJ U lo w v l) (x:Chg S w w') (hs:∀b∈S,b∈U) (hn:∀b∈S,b∉Ad v):DJ U lo w' v l:=
 BA.chg h x (λb hb hm=>hn b hm hb) λ_ _ _ _ h=>h.step (x.mono λb hb _=>List.mem_append_left _ (hs b hb)) λ_ hj=>.inl hj
theorem DJ.list (h:DJ U lo w v l) (hl:l.length≤1000000):CB w v l:=
 A2.weak (BA.list (ok:=H5) h hl λ_ _ _=>trivial) λ_ _ _ _ h=>h.now
theorem DJ.len (h:DJ U lo w v l):∀p n k,v=.slice p n k→n≤k:=by
 obtain ⟨css,h1,h2,h3,h4⟩:=h;obtain ⟨_,⟨rfl,h0⟩ | ⟨g,cap,sp,rfl,hB,hn,a0,a1⟩⟩:=h3
 ·intro p n k e;obtain ⟨-,rfl,rfl⟩:=Value.slice.inj e;exact Nat.le_refl _
 ·intro p n k e;obtain ⟨-,rfl,rfl⟩:=Value.slice.inj e;omega
theorem DJ.snoc {w1:World} {c:Ax} {cs:List Value} {css:List (List Value)} (g1:css.length=l.length) (g2:∀cs∈css,cs.length=4) (g4:∀(i:Nat) x ds,l[i]?=some x→css[i]?=some ds→Je (U++Ad v) w λw'=>H8 w' ds x) (x:Ag w w1) (hlen:cs.length=4)
  (hc:Je (U++Ad v) w1 λw'=>H8 w' cs c) (hch:Chg (Ad v) w1 w') (hv:∀j,j∈Ad v'→j∈Ad v∨w1.heap.size≤j) (hO:E.Ay w' lo 31 4 v' (l.length+1) (css.flatten++cs)):DJ U lo w' v' (l++[c]):=by
 have a0:Chg (U++Ad v) w1 w':=hch.mono λb hb _=>List.mem_append_right _ hb;have a1:∀j,j∈U++Ad v'→j∈U++Ad v∨w1.heap.size≤j:=λj hj=>by
  rcases List.mem_append.1 hj with hj | hj
  ·exact .inl (List.mem_append_left _ hj)
  ·rcases hv j hj with h | h
   ·exact .inl (List.mem_append_right _ h)
   ·exact .inr h
 exact BA.snoc g1 g2 hO hlen (λi y ds hi hd=>((g4 i y ds hi hd).ext x).step a0 a1) (hc.step a0 a1)
end
end Go.Proofs.YtefaigjfkddelaaGreatDoor
