/-
  Joined by program out of the texts BlaN BlaQ MkhP PasO MkhQ PasS TextP BookT BookB BookC Mkh1.
-/
import Derived.Test.YtefaigjfkddelaaGreatDoorPnL
import Derived.Test.YtefaigjfkddelaaGreatDoorPnJ
import Derived.Test.YtefaigjfkddelaaGreatDoorPnO
import Derived.Test.YtefaigjfkddelaaGreatDoorPnP
import Derived.Test.YtefaigjfkddelaaGreatDoorPnH
import Derived.Test.YtefaigjfkddelaaGreatDoorPnG
import Derived.Test.YtefaigjfkddelaaGreatDoorPnE
import Derived.Test.YtefaigjfkddelaaGreatDoorPnK
import Derived.Test.YtefaigjfkddelaaGreatDoorPnB
namespace Go.Proofs.YtefaigjfkddelaaGreatDoor
open Tryz
open Go Go.E
def CO(t:AB)(i r q:Nat):Option (List UInt8):=(t[i]?.bind (·[r]?)).bind (·[q]?)
theorem Pe(t:AB)(k x y:Nat)(v:List UInt8)(i r q:Nat):CO (MA t k x y v) i r q=if i=k∧r=x∧q=y then(CO t i r q).map λ_=>v else CO t i r q:=by
 unfold CO MA;rw[AcA]
 cases h1:t[i]? with
 | none=>simp
 | some rows=>
  by_cases e1:k=i
  ·subst e1;simp only[eq_self,if_true,Option.map_eq_map,AbZ,AcJ,true_and,AcA]
   cases h2:rows[r]? with
   | none=>simp
   | some row=>
    by_cases e2:x=r
    ·subst e2;simp only[eq_self,if_true,AbZ,AcJ,true_and,AbS];by_cases e3:y=q
     ·subst e3;by_cases h3:y<row.length
      ·simp[h3]
      ·simp[h3]
     ·have a0:¬q=y:=λe=>e3 e.symm;simp[e3,a0]
    ·have a1:¬r=x:=λe=>e2 e.symm;simp[e2,a1]
  ·have a2:¬i=k:=λe=>e1 e.symm;simp[e1,a2]
theorem Yq{c:Ag}{ss:List BP}{had t:AB}{i k r q:Nat}{nm:List UInt8}{sh:BP}{x:List UInt8}(hr:AG sh.rows r=r)(hq:AG sh.cols q=q):J4 c ss had i k nm sh r q x t=if It (c.getD k ⟨[],0,[]⟩) r q=B3 nm ss x then MA t k r q (PY had i r q) else t:=by
 unfold J4;simp only[hr,hq];have h1:(0:Int)≤(r:Int):=Aez
 have h2:(0:Int)≤(q:Int):=Aez
 simp only[h1,h2,true_and,Adk]
theorem RF{c:Ag}{ss:List BP}{had:AB}{i k r:Nat}{nm:List UInt8}{sh:BP}{row:List (List UInt8)}(hr:AG sh.rows r=r):∀(n:Nat) (t:AB),(∀q:Nat,q<n→AG sh.cols q=q)→∀i' r' q',CO (EM c ss had i k nm sh r row n t) i' r' q'=if i'=k∧r'=r∧q'<n∧It (c.getD k ⟨[],0,[]⟩) r' q'=B3 nm ss (row.getD q' []) then(CO t i' r' q').map λ_=>PY had i r' q' else CO t i' r' q'
 | 0,t,_,i',r',q'=>by simp[EM]
 | n+1,t,hq,i',r',q'=>by
  have ih:=RF (c:=c) (ss:=ss) (had:=had) (i:=i) (k:=k) (nm:=nm) (row:=row) hr n t (λq h=>hq q Aez) i' r' q';have e:EM c ss had i k nm sh r row (n+1) t=J4 c ss had i k nm sh r n (row.getD n []) (EM c ss had i k nm sh r row n t):=by
   rw[EM,AcL,AcN];rfl
  rw[e,Yq hr (hq n Aez)];by_cases hw:q'=n
  ·subst hw;rw[if_neg Aez] at ih
   split
   ·rename_i hc;rw[Pe,ih];by_cases h1:i'=k∧r'=r
    ·obtain⟨rfl,rfl⟩:=h1;rw[if_pos ⟨rfl,rfl,rfl⟩,if_pos ⟨rfl,rfl,by omega,hc⟩]
    ·have h2:¬(i'=k∧r'=r∧q'=q'):=λh=>h1 ⟨h.1,h.2.1⟩;have h3:¬(i'=k∧r'=r∧q'<q'+1∧It (c.getD k ⟨[],0,[]⟩) r' q'=B3 nm ss (row.getD q' [])):=λh=>h1 ⟨h.1,h.2.1⟩;rw[if_neg h2,if_neg h3]
   ·rename_i hc;rw[ih,if_neg];rintro⟨-,rfl,-,h⟩;exact hc h
  ·have h4:q'<n+1↔q'<n:=Aez
   simp only[h4]
   split
   ·rw[Pe,if_neg (λh=>hw h.2.2),ih]
   ·rw[ih]
theorem RH{c:Ag}{ss:List BP}{had:AB}{i k:Nat}{s:Af}{sh:BP}:∀(n:Nat) (t:AB),(∀r:Nat,r<n→AG sh.rows r=r)→(∀r:Nat,r<n→∀q:Nat,q<(s.rows.getD r []).length→AG sh.cols q=q)→∀i' r' q',CO (F8 c ss had i k s sh n t) i' r' q'=if i'=k∧r'<n∧q'<(s.rows.getD r' []).length∧It (c.getD k ⟨[],0,[]⟩) r' q'=B3 s.name ss ((s.rows.getD r' []).getD q' []) then(CO t i' r' q').map λ_=>PY had i r' q' else CO t i' r' q'
 | 0,t,_,_,i',r',q'=>by simp[F8]
 | n+1,t,hr,hq,i',r',q'=>by
  have ih:=RH (c:=c) (ss:=ss) (had:=had) (i:=i) (k:=k) (s:=s) (sh:=sh) n t (λr h=>hr r Aez) (λr h=>hq r Aez) i' r' q';have e:F8 c ss had i k s sh (n+1) t=EM c ss had i k s.name sh n (s.rows.getD n []) (s.rows.getD n []).length (F8 c ss had i k s sh n t):=by
   rw[F8,AcL,AcN];rfl
  rw[e,RF (hr n Aez) _ _ (hq n Aez),ih];by_cases hw:r'=n
  ·subst hw;have h1:¬(i'=k∧r'<r'∧q'<(s.rows.getD r' []).length∧It (c.getD k ⟨[],0,[]⟩) r' q'=B3 s.name ss ((s.rows.getD r' []).getD q' [])):=Aez
   rw[if_neg h1];have h2:r'<r'+1:=Aez
   simp only[h2,true_and]
  ·have h1:r'<n+1↔r'<n:=Aez
   simp only[h1,hw,false_and,and_false,if_false]
theorem RE{p c:Ag}{had:AB}:∀(n:Nat) (t:AB),(∀i:Nat,i<n→IW c (p.getD i ⟨[],0,[]⟩).name=some i)→(∀i:Nat,i<n→∀r:Nat,r<(p.getD i ⟨[],0,[]⟩).rows.length→AG ((AL p c).getD i ⟨[],⟨[],0⟩,⟨[],0⟩,true⟩).rows r=r)→(∀i:Nat,i<n→∀r:Nat,r<(p.getD i ⟨[],0,[]⟩).rows.length→∀q:Nat,q<((p.getD i ⟨[],0,[]⟩).rows.getD r []).length→AG ((AL p c).getD i ⟨[],⟨[],0⟩,⟨[],0⟩,true⟩).cols q=q)→
  ∀i r q,CO (Ej p c had n t) i r q=if i<n∧r<(p.getD i ⟨[],0,[]⟩).rows.length∧q<((p.getD i ⟨[],0,[]⟩).rows.getD r []).length∧It (c.getD i ⟨[],0,[]⟩) r q=B3 (p.getD i ⟨[],0,[]⟩).name (AL p c) (((p.getD i ⟨[],0,[]⟩).rows.getD r []).getD q []) then(CO t i r q).map λ_=>PY had i r q else CO t i r q
 | 0,t,_,_,_,i,r,q=>by simp[Ej]
 | n+1,t,ha,hr,hq,i,r,q=>by
  have ih:=RE (p:=p) (c:=c) (had:=had) n t (λi h=>ha i Aez) (λi h=>hr i Aez) (λi h=>hq i Aez) i r q;have e:Ej p c had (n+1) t=F8 c (AL p c) had n n (p.getD n ⟨[],0,[]⟩) ((AL p c).getD n ⟨[],⟨[],0⟩,⟨[],0⟩,true⟩) (p.getD n ⟨[],0,[]⟩).rows.length (Ej p c had n t):=by
   rw[Ej,AcL,AcN];show(match IW c (p.getD n ⟨[],0,[]⟩).name with | none=>_ | some k=>_)=_;rw[ha n Aez];rfl
  rw[e,RH _ _ (hr n Aez) (hq n Aez),ih];by_cases hw:i=n
  ·subst hw;have h1:¬(i<i):=Aez
   have h2:i<i+1:=Aez
   simp only[h1,h2,false_and,if_false,true_and]
  ·have h1:i<n+1↔i<n:=Aez
   simp only[h1,hw,false_and,if_false]
theorem Wi{b:Ag}{id:List UInt8}{i r q:Nat}{s:Af}{row:List (List UInt8)}(hs:b[i]?=some s)(hr:s.rows[r]?=some row)(hq:q<row.length):CO (JA b id) i r q=some id:=by
 simp[CO,JA,hs,hr,hq]
theorem Wj{t:AB}{i r q:Nat}{v:List UInt8}(h:CO t i r q=some v):PY t i r q=v:=by
 unfold CO at h
 cases h1:t[i]? with
 | none=>simp[h1] at h
 | some rows=>
  rw[h1] at h;simp only[AcJ] at h
  cases h2:rows[r]? with
  | none=>simp[h2] at h
  | some row=>
   rw[h2] at h;exact Vl h1 h2 h
theorem Aao{t u:AB}{b:Ag}(ht:DK t b)(hu:DK u b)(h:∀i r q,CO t i r q=CO u i r q):t=u:=by
 have hm:t.map (λrows=>rows.map List.length)=u.map λrows=>rows.map List.length:=by rw[ht,hu]
 apply Ack;intro i;have h1:=congrArg (λl=>l[i]?) hm;simp only[AbA] at h1
 cases e1:t[i]? with
 | none=>
  cases e2:u[i]? with
  | none=>rfl
  | some y=>rw[e1,e2] at h1;simp at h1
 | some x=>
  cases e2:u[i]? with
  | none=>rw[e1,e2] at h1;simp at h1
  | some y=>
   rw[e1,e2] at h1;simp only[AbZ,Aa3] at h1
   congr 1
   apply Ack;intro r;have h2:=congrArg (λl=>l[r]?) h1;simp only[AbA] at h2
   cases e3:x[r]? with
   | none=>
    cases e4:y[r]? with
    | none=>rfl
    | some z=>rw[e3,e4] at h2;simp at h2
   | some a=>
    cases e4:y[r]? with
    | none=>rw[e3,e4] at h2;simp at h2
    | some z=>
     congr 1
     apply Ack;intro q;have h3:=h i r q
     simpa[CO,e1,e2,e3,e4] using h3
theorem QG{p:Ag}(hp:A5 p=true)(id:List UInt8){had:AB}(hf:DK had p):H7 p p id had=had:=by
 obtain⟨-,h2,h3⟩:=AP.1 hp;have a2:=KO h3;have a1:∀i:Nat,i<p.length→∃s,p[i]?=some s∧p.getD i ⟨[],0,[]⟩=s∧IW p s.name=some i∧(AL p p).getD i ⟨[],⟨[],0⟩,⟨[],0⟩,true⟩=⟨s.name,Cs s.rows.length,Cs s.cols.toNat,false⟩∧∀r∈s.rows,(r.length:Int)=s.cols:=λi hi=>by
  obtain⟨s,hs⟩:∃s,p[i]?=some s:=⟨_,Aak hi⟩;refine⟨s,hs,CR hs,TI h3 hs,?_,λr hr=>((Mo (h2 s (Aa9 hs))) r hr).1⟩;rw[a2,AaE,AbA,hs];rfl
 refine Aao (OE p p id had) hf λi r q=>?_;unfold H7;rw[RE p.length _ (λi hi=>?_) (λi hi r hr=>?_) (λi hi r hr q hq=>?_)]
 ·by_cases hi:i<p.length
  ·obtain⟨s,hs,e1,e2,e3,e4⟩:=a1 i hi;rw[e1];by_cases hr:r<s.rows.length
   ·obtain⟨row,a0⟩:∃x,s.rows[r]?=some x:=⟨_,Aak hr⟩;rw[CR a0];by_cases hq:q<row.length
    ·obtain⟨x,hx⟩:∃x,row[q]?=some x:=⟨_,Aak hq⟩;have hm:Bt x=true:=(Mo (h2 s (Aa9 hs)) row (Aa9 a0)).2 x (Aa9 hx);have a3:B3 s.name (AL p p) x=x:=Si hm λl hl=>Xj hp (Gv (Df hl).2.1) _;rw[CR hx,a3,if_pos,Wi hs a0 hq]
     ·obtain⟨rows,y,f1,f2,f3,-⟩:=hf.at hs a0;obtain⟨v,hv⟩:∃v,y[q]?=some v:=⟨_,Aak Aez⟩;have hc:CO had i r q=some v:=by simp[CO,f1,f2,hv]
      rw[AbZ,Wj hc,hc]
     ·refine⟨hi,hr,hq,?_⟩;show((s.rows.getD ((r:Nat):Int).toNat []).getD ((q:Nat):Int).toNat [])=x;rw[Adk,Adk,CR a0,CR hx]
    ·rw[if_neg (λh=>hq h.2.2.1)];obtain⟨rows,y,f1,f2,f3,-⟩:=hf.at hs a0;obtain⟨rows',y',g1,g2,g3,-⟩:=(FL p id).at hs a0;simp only[CO,f1,f2,g1,g2,AcJ];rw[AbK Aez,AbK Aez]
   ·rw[if_neg (λh=>hr h.2.1)];have hn:∀t,DK t p→CO t i r q=none:=λt ht=>by
     have h4:=congrArg (λl=>l[i]?) ht;simp only[AbA,hs] at h4
     cases e5:t[i]? with
     | none=>simp[CO,e5]
     | some rows=>
      rw[e5] at h4;simp only[AbZ,Aa3] at h4;have h5:=congrArg List.length h4;simp only[Acg] at h5;simp[CO,e5,AbK (show rows.length≤r by omega)]
    rw[hn _ (FL p id),hn _ hf]
  ·rw[if_neg (λh=>hi h.1)];have hn:∀t,DK t p→CO t i r q=none:=λt ht=>by
    have h4:=congrArg List.length ht;simp only[Acg] at h4;simp[CO,AbK (show t.length≤i by omega)]
   rw[hn _ (FL p id),hn _ hf]
 ·obtain⟨s,hs,e1,e2,e3,e4⟩:=a1 i hi;rw[e1];exact e2
 ·obtain⟨s,hs,e1,e2,e3,e4⟩:=a1 i hi;rw[e1] at hr;rw[e3];exact KL
 ·obtain⟨s,hs,e1,e2,e3,e4⟩:=a1 i hi;rw[e3];exact KL
theorem Vc{l:A7}{id:List UInt8}{k:Nat}(m:A7)(h:DM l id=some k):DM (l++m) id=some k:=by
 obtain⟨c,h1,h2,h3⟩:=Ez h;have hk:=(Aav.1 h1).1;refine JB (c:=c) (by rw[Abg hk];exact h1) h2 λj d hj hd=>h3 j d hj ?_
 rwa [Abg Aez] at hd
theorem Ts{l:A7}{x:A9}{i:Nat}(h:i≤l.length):(l++[x]).take i=l.take i:=by
 rw[AdV h]
def V2(l:A7)(c:A9):Bool:=(DM l c.id).isNone&&decide (c.parents.length≤2)&&!(decide (c.parents.length=2)&&decide (c.parents[0]?=c.parents[1]?))&&c.parents.all λp=>(DM l p).isSome
theorem Ps{l:A7}{c:A9}(h:EJ l=true)(hc:V2 l c=true):EJ (l++[c])=true:=by
 refine Q1 λi d hi hd=>?_;by_cases e:i<l.length
 ·rw[Abg e] at hd;have h1:=MN h hd;unfold Ib at h1 ⊢;rw[Ts Aez];exact h1
 ·have e2:i=l.length:=by simp at hi;omega
  subst e2;rw[Ace Aez,Adc] at hd;obtain rfl:=Aa5 hd;unfold Ib;rw[Ts (Ab9 _),Acs];exact hc
theorem Pn{l:A7}(h:EJ l=true)(x:A9):∀(n k:Nat),k<l.length→DI (l++[x]) n (some k)=DI l n (some k)
 | 0,_,_=>rfl
 | n+1,k,hk=>by
  obtain⟨c,hc⟩:∃c,l[k]?=some c:=⟨_,Aak hk⟩;rw[DI,DI,Abg hk,hc];simp only
  cases hp:c.parents with
  | nil=>rfl
  | cons p r=>
   simp only;obtain⟨j,hj,hjk⟩:=Em h hc (p:=p) AfK;rw[hj,Vc _ hj,Pn h x n j Aez]
theorem Rm{l:A7}(hm:EJ l=true){k:Nat}{c x:A9}(hc:l[k]?=some c)(hx:DM l x.id=none)(hp:x.parents=[c.id]):EJ (l++[x])=true∧Gc (l++[x]) x.id=H7 c.book x.book x.id (Gc l c.id):=by
 have a0:=K3 hm hc;have hk:=HB a0;have h1:EJ (l++[x])=true:=Ps hm (by rw[V2,hx,hp];simp[a0]);have a1:(l++[x])[l.length]?=some x:=by rw[Ace (Ab9 _),Adc];rfl
 have a2:DM (l++[x]) x.id=some l.length:=K3 h1 a1;have e1:Cq (l++[x]) x.id=l.length::Cq l c.id:=by
  rw[Cq,a2,Aax,Adg,DI,a1];simp only[hp];rw[Vc _ a0,Pn hm x _ k hk,Cq,a0]
 have a3:(Cq l c.id).map (Lz (l++[x]))=(Cq l c.id).map (Lz l):=AcQ λj hj=>by
  have:=Qw j hj;rw[Lz,Lz,Abg this]
 have h0:(Cq l c.id)[0]?=some k:=by
  rw[Cq,a0];obtain⟨n,hn⟩:∃n,l.length=n+1:=⟨l.length - 1,by omega⟩;rw[hn];rfl
 refine⟨h1,?_⟩;have e2:(Cq (l++[x]) x.id).reverse.map (Lz (l++[x]))=F7 l c.id 0++[(x.id,x.book)]:=by
  rw[e1,List.reverse_cons,Ac1,List.map_reverse,a3,←List.map_reverse];show _++[Lz (l++[x]) l.length]=_;rw[IZ a1];rfl
 rw[Gc,e2,NL _ (JE h0),IZ hc];rfl
theorem TR{l:A7}(hm:EJ l=true){k:Nat}{c x:A9}(hc:l[k]?=some c)(hb:A5 c.book=true)(hx:DM l x.id=none)(hp:x.parents=[c.id])(hbk:x.book=c.book):EJ (l++[x])=true∧Gc (l++[x]) x.id=Gc l c.id:=by
 obtain⟨h1,h2⟩:=Rm hm hc hx hp;refine⟨h1,?_⟩;have a0:=K3 hm hc;have h0:(Cq l c.id)[0]?=some k:=by
  rw[Cq,a0];obtain⟨n,hn⟩:∃n,l.length=n+1:=⟨l.length - 1,by have:=HB a0;omega⟩;rw[hn];rfl
 rw[h2,hbk];exact QG hb x.id (Np h0 hc)
def J3(k:Nat):List UInt8:=[UInt8.ofNat (65+k*7 % 26),UInt8.ofNat (48+k % 10),UInt8.ofNat (48+k / 10)]
theorem ML:∀i,i<20→∀j,j<20→J3 i=J3 j→i=j:=by decide +kernel
theorem Qj(k:Nat):(J3 k).length=3:=rfl
def X2(zs:List Int)(i:Nat):Nat:=(zs[i]?.getD 0).toNat
def OQ(zs:List Int)(k:Nat):Nat:=k - 1 - X2 zs (2*k) % min k 4
def Ik(zs:List Int)(k:Nat):List (List UInt8):=if 0<k∧X2 zs (2*k) % 16≠15 then[J3 (OQ zs k)] else[]
def scM(zs:List Int)(k:Nat):Nat:=X2 zs (2*k+1) % k
def JP(zs:List Int)(k:Nat):List (List UInt8):=if 1<k∧X2 zs (2*k) % 16≠15∧X2 zs (2*k+1) % 3=0∧scM zs k≠OQ zs k then[J3 (OQ zs k),J3 (scM zs k)] else Ik zs k
def TX(zs:List Int)(k:Nat):A9:=⟨J3 k,JP zs k,[],[]⟩
def EN(zs:List Int)(n:Nat):A7:=(List.range n).map (TX zs)
theorem Do(zs:List Int)(n:Nat):(EN zs n).length=n:=by simp[EN]
theorem Hx{zs:List Int}{n k:Nat}(h:k<n):(EN zs n)[k]?=some (TX zs k):=by simp[EN,h]
theorem Ou(zs:List Int)(n:Nat):EN zs (n+1)=EN zs n++[TX zs n]:=by simp[EN,AcL]
theorem N7{zs:List Int}{k:Nat}(h:0<k):OQ zs k<k:=by unfold OQ;omega
theorem UK{zs:List Int}{k:Nat}(h:0<k):scM zs k<k:=Aeq _ h
theorem Aad(zs:List Int)(k:Nat):(JP zs k).length≤2:=by
 unfold JP Ik
 split
 ·simp
 ·split<;>simp
theorem U6{zs:List Int}{k:Nat}:∀s∈JP zs k,s.length≤1000000:=λs hs=>by
 unfold JP Ik at hs
 split at hs
 ·simp at hs;rcases hs with rfl | rfl<;>simp[Qj]
 ·split at hs
  ·simp at hs;subst hs;simp[Qj]
  ·simp at hs
theorem U8{zs:List Int}{n j:Nat}(hn:n≤j)(hj:j<20):DM (EN zs n) (J3 j)=none:=by
 cases e:DM (EN zs n) (J3 j) with
 | none=>rfl
 | some k=>
  obtain⟨c,h1,h2,-⟩:=Ez e;have hk:=HB e;rw[Do] at hk;rw[Hx hk] at h1;obtain rfl:=Aa5 h1;have:=ML k Aez j hj h2;omega
theorem JQ{zs:List Int}{n j:Nat}(hn:n≤20)(hj:j<n):DM (EN zs n) (J3 j)=some j:=by
 refine JB (Hx hj) rfl λi d hi hd e=>?_;rw[Hx Aez] at hd;obtain rfl:=Aa5 hd;have:=ML i Aez j Aez e;omega
theorem U7{zs:List Int}{n:Nat}(hn:n<20):V2 (EN zs n) (TX zs n)=true:=by
 have h1:DM (EN zs n) (J3 n)=none:=U8 (Ab9 _) hn;unfold V2;simp only[TX,h1];unfold JP Ik
 split
 ·rename_i h;have h2:=JQ (zs:=zs) (n:=n) (j:=OQ zs n) Aez (N7 Aez);have h3:=JQ (zs:=zs) (n:=n) (j:=scM zs n) Aez (UK Aez);have h4:J3 (OQ zs n)≠J3 (scM zs n):=λe=>h.2.2.2 (ML _ (by have:=N7 (zs:=zs) (k:=n) Aez;omega) _ (by have:=UK (zs:=zs) (k:=n) Aez;omega) e).symm;simp[h2,h3,h4]
 ·split
  ·rename_i h;have h2:=JQ (zs:=zs) (n:=n) (j:=OQ zs n) Aez (N7 Aez);simp[h2]
  ·simp
theorem LK(zs:List Int):∀(n:Nat),n≤20→EJ (EN zs n)=true
 | 0,_=>rfl
 | n+1,h=>by
  rw[Ou];exact Ps (LK zs n Aez) (U7 Aez)
theorem OK{zs:List Int}{i:Nat}{z:Nat}(h:zs[i]?=some (z:Int)):X2 zs i=z:=by simp[X2,h]
def Dx(V:List Nat)(w:World)(P:World→Prop):Prop:=∀w',Chg V w w'→P w'
theorem Dx.now{V:List Nat}{w:World}{P:World→Prop}(h:Dx V w P):P w:=h w (Chg.refl _ _)
theorem Dx.step{V V':List Nat}{w w':World}{P:World→Prop}(h:Dx V w P)(x:Chg V w w')(hv:∀j,j∈V'→j∈V∨w.heap.size≤j):Dx V' w' P:=λw2 x2=>h w2 ((Chg.trans x x2).mono λj hj hl=>by
 rcases AbB.1 hj with hj | hj
 ·exact hj
 ·rcases hv j hj with h | h
  ·exact h
  ·omega)
theorem Dx.ext{V:List Nat}{w w':World}{P:World→Prop}(h:Dx V w P)(x:Ae w w'):Dx V w' P:=h.step x.chg λ_=>.inl
def C4(U:List Nat)(lo:Nat)(w:World)(v:Value)(l:A7):Prop:=B1 4 lo 31 (λ_ w cs c=>Dx (U++Ac v) w λw'=>C1 w' cs c) w v l
section
variable {U:List Nat} {lo:Nat} {w w':World} {v v':Value} {l:A7}
theorem C4.nil:C4 U lo w (.slice none 0 0) []:=B1.nil
theorem C4.slice(h:C4 U lo w v l):∃p c,v=.slice p l.length c:=B1.slice h
theorem C4.lt(h:C4 U lo w v l){b:Nat}(hb:b∈Ac v):lo≤b∧b<w.heap.size:=B1.lt h hb
theorem C4.ext(h:C4 U lo w v l)(x:Ae w w'):C4 U lo w' v l:=B1.ext' h x λ_ _ _ _ h=>h.ext x
theorem C4.list(h:C4 U lo w v l)(hl:l.length≤1000000):Dk w v l:=
 Ao.weak (B1.list (ok:=Km) h hl λ_ _ _=>trivial) λ_ _ _ _ h=>h.now
theorem C4.len(h:C4 U lo w v l):∀p n k,v=.slice p n k→n≤k:=by
 obtain⟨css,h1,h2,h3,h4⟩:=h;obtain⟨_,⟨rfl,h0⟩ | ⟨g,cap,sp,rfl,hB,hn,a0,a1⟩⟩:=h3
 ·intro p n k e;obtain⟨-,rfl,rfl⟩:=Acd e;exact Ab9 _
 ·intro p n k e;obtain⟨-,rfl,rfl⟩:=Acd e;omega
theorem C4.snoc{w1:World}{c:A9}{cs:List Value}{css:List (List Value)}(g1:css.length=l.length)(g2:∀cs∈css,cs.length=4)(g4:∀(i:Nat) x ds,l[i]?=some x→css[i]?=some ds→Dx (U++Ac v) w λw'=>C1 w' ds x)(x:Ae w w1)(hlen:cs.length=4)
  (hc:Dx (U++Ac v) w1 λw'=>C1 w' cs c) (hch:Chg (Ac v) w1 w') (hv:∀j,j∈Ac v'→j∈Ac v∨w1.heap.size≤j) (hO:E.A3 w' lo 31 4 v' (l.length+1) (css.flatten++cs)):C4 U lo w' v' (l++[c]):=by
 have a0:Chg (U++Ac v) w1 w':=hch.mono λb hb _=>Acz _ hb;have a1:∀j,j∈U++Ac v'→j∈U++Ac v∨w1.heap.size≤j:=λj hj=>by
  rcases AbB.1 hj with hj | hj
  ·exact .inl (Ac4 _ hj)
  ·rcases hv j hj with h | h
   ·exact .inl (Acz _ h)
   ·exact .inr h
 exact B1.snoc g1 g2 hO hlen (λi y ds hi hd=>((g4 i y ds hi hd).ext x).step a0 a1) (hc.step a0 a1)
end
def Ek(c:A9):List UInt8×List (List UInt8):=(c.id,c.parents)
theorem Qt:∀{l l':A7} {id:List UInt8},l'.map Ek=l.map Ek→DM l' id=DM l id
 | [],[],_,_=>rfl
 | [],_::_,_,h=>by simp at h
 | _::_,[],_,h=>by simp at h
 | c::l,d::l',id,h=>by
  simp only[AcE,Adv,Ek,Ach] at h;obtain⟨⟨h1,-⟩,h3⟩:=h;rw[DM,DM,h1,Qt h3]
theorem RR{l l':A7}(h:l'.map Ek=l.map Ek){i:Nat}{d:A9}(hd:l'[i]?=some d):∃c,l[i]?=some c∧d.id=c.id∧d.parents=c.parents:=by
 have h1:=congrArg (λx=>x[i]?) h;simp only[AbA,hd,AbZ] at h1
 cases e:l[i]? with
 | none=>rw[e] at h1;simp at h1
 | some c=>
  rw[e] at h1;simp only[AbZ,Aa3,Ek,Ach] at h1;exact⟨c,rfl,h1.1,h1.2⟩
theorem Yy{l l':A7}(h:l'.map Ek=l.map Ek):l'.length=l.length:=by
 have:=congrArg List.length h
 simpa using this
theorem RU{l:A7}{i:Nat}{x:A9}{nb:Ag}(hi:l[i]?=some x):(l.set i {x with book:=nb}).map Ek=l.map Ek:=by
 have a0:=(Aav.1 hi).1;rw[Ad5];apply Ack;intro j;rw[AbS];by_cases e:i=j
 ·subst e;rw[if_pos rfl,if_pos AeW,AbA,hi];rfl
 ·rw[if_neg e]
theorem RS{l l':A7}(hm:EJ l=true)(h:l'.map Ek=l.map Ek):EJ l'=true:=by
 refine Q1 λi d _ hd=>?_;obtain⟨c,hc,e1,e2⟩:=RR h hd;have h1:=MN hm hc;have ht:(l'.take i).map Ek=(l.take i).map Ek:=by rw[Ae4,Ae4,h]
 unfold Ib at h1 ⊢;rw[e1,e2,Qt ht];simp only[Qt ht];exact h1
theorem Wy{zs:List Int}{n:Nat}{l:A7}(h:l.map Ek=(EN zs n).map Ek):∀c∈l,c.id.length=3:=λc hc=>by
 obtain⟨i,hi⟩:=Acy hc;obtain⟨d,hd,e,-⟩:=RR h hi;have hin:i<n:=by have:=(Aav.1 hd).1;rwa [Do] at this
 rw[Hx hin] at hd;obtain rfl:=Aa5 hd;rw[e];rfl
theorem C4.book{lo:Nat}{w w':World}{g c i:Nat}{l:A7}{css:List (List Value)}{sp:List Value}{x:A9}{ds:List Value}{nb:Ag}{bv:Value}
  (g1:css.length=l.length) (g2:∀cs∈css,cs.length=4) (g4:∀(i:Nat) x ds,l[i]?=some x→css[i]?=some ds→Dx ([]++Ac (.slice (some ⟨g,0,none⟩) l.length c)) w λw'=>C1 w' ds x)
  (hlc:l.length≤c) (hsp:sp.length=(c - l.length)*4) (hlo:lo≤g) (hi:l[i]?=some x) (hd:css[i]?=some ds) (hc:Chg [g] w w') (hB:Blk w' g ((css.flatten++sp).set (i*4+2) bv) 31)
  (hb:Dx [g] w λw'=>B5 w' bv nb) (hm:A5 nb=true):C4 [] lo w' (.slice (some ⟨g,0,none⟩) l.length c) (l.set i {x with book:=nb}):=by
 have a1:=(Aav.1 hi).1;have hs:∀(i:Nat) x ds,l[i]?=some x→css[i]?=some ds→Dx [g] w' λw'=>C1 w' ds x:=λi x ds h1 h2=>(g4 i x ds h1 h2).step (V:=[g]) hc λ_=>.inl;have a2:Dx [g] w' λw'=>B5 w' bv nb:=hb.step hc λ_=>.inl;have a0:∀cs∈css.set i (ds.set 2 bv),cs.length=4:=λcs a3=>by
  rcases AcW a3 with h | rfl
  ·exact g2 cs h
  ·rw[Ado];exact g2 ds (Aa9 hd)
 refine⟨css.set i (ds.set 2 bv),by simp[g1],a0,⟨by rw[I0 a0];simp[g1],.inr ⟨g,c,sp,by simp,by rw[←Mk g2 hd Aez];exact hB,by simp;omega,by simp[hsp],hlo⟩⟩,λj y es hj he=>?_⟩;by_cases e:i=j
 ·subst e;rw[AbS,if_pos rfl,if_pos a1] at hj;rw[AbS,if_pos rfl,if_pos Aez] at he;obtain rfl:=Aa5 hj;obtain rfl:=Aa5 he;intro w2 x2;obtain⟨pv,bv0,rfl,k1,k2,k3,k4⟩:=hs i x ds hi hd w2 x2;exact⟨pv,bv,rfl,k1,k2,a2 w2 x2,hm⟩
 ·rw[AbS,if_neg e] at hj;rw[AbS,if_neg e] at he;exact hs j y es hj he
def Tr.fitB:{b:Bool}→Tr b→Bool
 | _,.leaf n=>decide (1≤n.kind)&&decide (n.kind≤6)&&decide (n.kids=[])&&Ar n
 | _,.neg a=>a.fitB
 | _,.two k a b=>decide (9≤k)&&decide (k≤19)&&a.fitB&&b.fitB
 | _,.call x ks=>CB x&&ks.fitB
 | _,.nil=>true
 | _,.snoc ks a=>ks.fitB&&a.fitB
theorem Tr.fit_of:∀{b:Bool} (t:Tr b),t.fitB=true→t.Fit
 | _,.leaf n,h=>by
  simp only[Tr.fitB,Abf,decide_eq_true_eq] at h
  exact⟨h.1.1.1,h.1.1.2,h.1.2,h.2⟩
 | _,.neg a,h=>Tr.fit_of a h
 | _,.two k a b,h=>by
  simp only[Tr.fitB,Abf,decide_eq_true_eq] at h
  exact⟨h.1.1.1,h.1.1.2,Tr.fit_of a h.1.2,Tr.fit_of b h.2⟩
 | _,.call x ks,h=>by
  simp only[Tr.fitB,Abf] at h
  exact⟨h.1,Tr.fit_of ks h.2⟩
 | _,.nil,_=>trivial
 | _,.snoc ks a,h=>by
  simp only[Tr.fitB,Abf] at h;exact⟨Tr.fit_of ks h.1,Tr.fit_of a h.2⟩
def Tr.numB{b:Bool}(t:Tr b):Bool:=t.toks.all λk=>decide (k.num≤9223372036854775807)
theorem Tr.num_of'{b:Bool}{t:Tr b}(h:t.numB=true):t.Num:=λk hk=>by
 have:=Ac2.1 h k hk
 simpa using this
def Tr.okB(t:Tr false):Bool:=t.fitB&&t.numB&&decide (t.text.length<300)&&decide (t.need≤12)
theorem Ty{t:Tr false}(hf:t.Fit)(hn:t.Num)(hl:t.text.length<300)(hd:t.need≤12):Bt (61::t.text)=true:=by
 have hp:AH t.text=.ok (t.flat 0):=by rw[G9 t hf hn,if_neg Aez,if_pos hd]
 rw[Bt,if_neg Ae0,if_neg (by simp[Ab]),if_pos (by simp[Ab])];show(match AH t.text with | .error _=>false | .ok l=>decide (BF l=t.text))=true;rw[hp];simp only;rw[FT hf];simp
theorem MR{t:Tr false}(h:t.okB=true):Bt (61::t.text)=true:=by
 simp only[Tr.okB,Abf,decide_eq_true_eq] at h;exact Ty (t.fit_of h.1.1.1) (Tr.num_of' h.1.1.2) h.1.2 h.2
theorem NU(n:Int)(b0:-9223372036854775808≤n)(b1:n≤9223372036854775807):Bt (Lib.itoa n)=true:=by
 obtain⟨c1,c2,c3⟩:=WH b0 b1;have a0:=Lib.itoa_length_le n b0 b1;have n39:¬(Lib.itoa n=[]∨Ab (Lib.itoa n) 0=39):=by
  rintro(h | h)
  ·exact c2 h
  ·omega
 rw[Bt,if_neg Aez,if_neg n39,if_neg Aez,c1];simp
def rfP(c r:Int):C3:=⟨[],c,r,false,false⟩
def lfR(x:C3):Tr false:=.leaf {kind:=5,ref:=x}
def lfN(z:Int):Tr false:=.leaf {kind:=1,num:=z}
def trN(n:Nat):Tr false:=
 let k:Nat:=n / 13
 match n % 13 with
 | 6=>lfR (rfP 0 (k % 5:Nat))
 | 7=>.two 16 (lfR (rfP 1 (k % 4:Nat))) (lfN 1)
 | 8=>.call [83,85,77] (.snoc .nil (.leaf {kind:=6,ref:=rfP 0 0,to:=rfP 1 (k % 5:Nat)}))
 | 9=>.two 18 (lfR ⟨[66],(k % 4:Nat),1,false,false⟩) (lfN 2)
 | 10=>.call [73,70] (.snoc (.snoc (.snoc .nil (.two 13 (lfR ⟨[],0,0,true,true⟩) (lfN 2))) (lfR (rfP 2 (k % 4:Nat)))) (.leaf {kind:=2,text:=[120]}))
 | 11=>.two 15 (lfR ⟨[67],0,0,false,false⟩) (.leaf {kind:=2,text:=[121]})
 | _=>.two 19 (lfN 1) (lfN (k % 2:Nat))
def E0(n:Nat):List UInt8:=
 if n % 13≤2 then[] else if n % 13≤4 then Lib.itoa (n / 13 % 9:Nat) else if n % 13=5 then[39,UInt8.ofNat (97+n / 13 % 5)] else 61::(trN n).text
theorem Abd:∀n,n<256→6≤n % 13→(trN n).okB=true:=by decide +kernel
theorem Wk:∀n,n<256→(E0 n).length≤40:=by decide +kernel
theorem Wl{n:Nat}(h:n<256):Bt (E0 n)=true:=by
 unfold E0
 split
 ·rw[Bt,if_neg Ae7,if_pos (.inl rfl)]
 split
 ·exact NU _ Aez Aez
 split
 ·rw[Bt,if_neg Ae7,if_pos (.inr (by simp[Ab]))]
 ·exact MR (Abd n h Aez)
theorem Z2:∀n,n<256→n % 13=5→[39,ch ((97+n / 13 % 5:Nat):Int)]=E0 n:=by decide +kernel
theorem Z3:∀n,n<256→n % 13=6→[61,65]++Lib.itoa ((1+n / 13 % 5:Nat):Int)=E0 n:=by decide +kernel
theorem Z4:∀n,n<256→n % 13=7→[61,66]++Lib.itoa ((1+n / 13 % 4:Nat):Int)++[43,49]=E0 n:=by decide +kernel
theorem Z5:∀n,n<256→n % 13=8→[61,83,85,77,40,65,49,58,66]++Lib.itoa ((1+n / 13 % 5:Nat):Int)++[41]=E0 n:=by decide +kernel
theorem Z6:∀n,n<256→n % 13=9→[61,66,33]++E2 ((n / 13 % 4:Nat):Int)++[50,42,50]=E0 n:=by decide +kernel
theorem XP:∀n,n<256→n % 13=10→[61,73,70,40,36,65,36,49,62,50,44,67]++Lib.itoa ((1+n / 13 % 4:Nat):Int)++[44,34,120,34,41]=E0 n:=by decide +kernel
theorem XQ:∀n,n<256→n % 13=11→[61,67,33,65,49,38,34,121,34]=E0 n:=by decide +kernel
theorem XR:∀n,n<256→n % 13=12→[61,49,47]++Lib.itoa ((n / 13 % 2:Nat):Int)=E0 n:=by decide +kernel
theorem Ze(n:Nat)(hn:n<256)(w:World):AF prog 52 [.int .i64 n] w (λr w'=>r=Am (E0 n)∧Ae w w'):=by
 refine AQ func52 ntmps52 ?_;refine Sa ?_;have h:n % 13=0∨n % 13=1∨n % 13=2∨n % 13=3∨n % 13=4∨n % 13=5∨n % 13=6∨n % 13=7∨n % 13=8∨n % 13=9∨n % 13=10∨n % 13=11∨n % 13=12:=Aez
 rcases h with h | h | h | h | h | h | h | h | h | h | h | h | h
 ·rw[show((n:Nat):Int) % 13=0 by omega];refine Sa ?_;exact QW.body1 rfl rfl ⟨by rw[E0,if_pos Aez],Chg.refl _ _⟩
 ·rw[show((n:Nat):Int) % 13=1 by omega];refine Sa ?_;exact QW.body1 rfl rfl ⟨by rw[E0,if_pos Aez],Chg.refl _ _⟩
 ·rw[show((n:Nat):Int) % 13=2 by omega];refine Sa ?_;exact QW.body1 rfl rfl ⟨by rw[E0,if_pos Aez],Chg.refl _ _⟩
 ·rw[show((n:Nat):Int) % 13=3 by omega];refine Sa ?_;have a0:=Lib.itoa_length_le ((n / 13 % 9:Nat):Int) Aez Aez;refine Ax rfl rfl (Dv ((n / 13 % 9:Nat):Int) Aez Aez w) ?_;rintro v w1 ⟨rfl,a1⟩;refine Sa ?_;exact QW.body1 rfl rfl ⟨by rw[E0,if_neg Aez,if_pos Aez],a1⟩
 ·rw[show((n:Nat):Int) % 13=4 by omega];refine Sa ?_;have a0:=Lib.itoa_length_le ((n / 13 % 9:Nat):Int) Aez Aez;refine Ax rfl rfl (Dv ((n / 13 % 9:Nat):Int) Aez Aez w) ?_;rintro v w1 ⟨rfl,a1⟩;refine Sa ?_;exact QW.body1 rfl rfl ⟨by rw[E0,if_neg Aez,if_pos Aez],a1⟩
 ·rw[show((n:Nat):Int) % 13=5 by omega];refine Sa ?_;refine Cx λX w1 a2 a1 hX=>?_;replace hX:Blk w1 X [.int .u8 ((97+n / 13 % 5:Nat):Int)] 5:=hX;refine Sa ?_;exact QW.body1 rfl rfl ⟨by rw[←Z2 n hn h];rfl,a1⟩
 ·rw[show((n:Nat):Int) % 13=6 by omega];refine Sa ?_;have a0:=Lib.itoa_length_le ((1+n / 13 % 5:Nat):Int) Aez Aez;refine Ax rfl rfl (Dv ((1+n / 13 % 5:Nat):Int) Aez Aez w) ?_;rintro v w1 ⟨rfl,a1⟩;generalize hT:Lib.itoa ((1+n / 13 % 5:Nat):Int)=T at a0 ⊢;refine Sa ?_;exact QW.body1 rfl rfl ⟨by rw[←Z3 n hn h,hT],a1⟩
 ·rw[show((n:Nat):Int) % 13=7 by omega];refine Sa ?_;have a0:=Lib.itoa_length_le ((1+n / 13 % 4:Nat):Int) Aez Aez;refine Ax rfl rfl (Dv ((1+n / 13 % 4:Nat):Int) Aez Aez w) ?_;rintro v w1 ⟨rfl,a1⟩;generalize hT:Lib.itoa ((1+n / 13 % 4:Nat):Int)=T at a0 ⊢;refine Sa ?_;exact QW.body1 rfl rfl ⟨by rw[←Z4 n hn h,hT],a1⟩
 ·rw[show((n:Nat):Int) % 13=8 by omega];refine Sa ?_;have a0:=Lib.itoa_length_le ((1+n / 13 % 5:Nat):Int) Aez Aez;refine Ax rfl rfl (Dv ((1+n / 13 % 5:Nat):Int) Aez Aez w) ?_;rintro v w1 ⟨rfl,a1⟩;generalize hT:Lib.itoa ((1+n / 13 % 5:Nat):Int)=T at a0 ⊢;refine Sa ?_;exact QW.body1 rfl rfl ⟨by rw[←Z5 n hn h,hT],a1⟩
 ·rw[show((n:Nat):Int) % 13=9 by omega];refine Sa ?_;have a0:(E2 ((n / 13 % 4:Nat):Int)).length≤10:=(by decide:∀k,k<4→(E2 ((k:Nat):Int)).length≤10) _ Aez;refine Ax rfl rfl (Oz ((n / 13 % 4:Nat):Int) Aez Aez w) ?_;rintro v w1 ⟨rfl,a1⟩;generalize hT:E2 ((n / 13 % 4:Nat):Int)=T at a0 ⊢;refine Sa ?_;exact QW.body1 rfl rfl ⟨by rw[←Z6 n hn h,hT],a1⟩
 ·rw[show((n:Nat):Int) % 13=10 by omega];refine Sa ?_;have a0:=Lib.itoa_length_le ((1+n / 13 % 4:Nat):Int) Aez Aez;refine Ax rfl rfl (Dv ((1+n / 13 % 4:Nat):Int) Aez Aez w) ?_;rintro v w1 ⟨rfl,a1⟩;generalize hT:Lib.itoa ((1+n / 13 % 4:Nat):Int)=T at a0 ⊢;refine Sa ?_;exact QW.body1 rfl rfl ⟨by rw[←XP n hn h,hT],a1⟩
 ·rw[show((n:Nat):Int) % 13=11 by omega];refine Sa ?_;exact QW.body1 rfl rfl ⟨by rw[←XQ n hn h],Chg.refl _ _⟩
 ·rw[show((n:Nat):Int) % 13=12 by omega];refine Sa ?_;have a0:=Lib.itoa_length_le ((n / 13 % 2:Nat):Int) Aez Aez;refine Ax rfl rfl (Dv ((n / 13 % 2:Nat):Int) Aez Aez w) ?_;rintro v w1 ⟨rfl,a1⟩;generalize hT:Lib.itoa ((n / 13 % 2:Nat):Int)=T at a0 ⊢;refine Sa ?_;exact QW.body1 rfl rfl ⟨by rw[←XR n hn h,hT],a1⟩
def GN(zs:List Int)(k:Nat):List UInt8:=match zs[k]? with
 | some z=>E0 z.toNat
 | none=>[]
def Il(zs:List Int)(C k:Nat):List (List UInt8):=(List.range C).map λc=>GN zs (k*C+c)
def AE(sh:Nat):Nat:=1+sh / 3 % 4
def AU(sh:Nat):Nat:=1+sh / 12 % 5
def BG(zs:List Int)(sh i:Nat):Af:={name:=[ch ((65+i+sh / 64*i:Nat):Int)],cols:=AE sh,rows:=(List.range (AU sh)).map λr=>Il zs (AE sh) (i*AU sh+r)}
def Dr(zs:List Int)(sh:Nat):Ag:=(List.range (1+sh % 3)).map (BG zs sh)
def Fe(zs:List Int)(C k j:Nat):List (List UInt8):=(List.range C).map λc=>if c<j then GN zs (k*C+c) else[]
theorem SM(zs:List Int)(C k j:Nat):(Fe zs C k j).length=C:=by simp[Fe]
theorem QB(zs:List Int)(C k:Nat):(Fe zs C k 0).map Am=List.replicate C (Am []):=by
 apply Ack;intro i;simp[Fe,Ada];by_cases h:i<C<;>simp[h]
theorem SN{zs:List Int}{C k j:Nat}(hj:j<C):((Fe zs C k j).map Am).set j (Am (GN zs (k*C+j)))=(Fe zs C k (j+1)).map Am:=by
 apply Ack;intro i;rw[AbS];simp only[Fe,AbA,Aeb,Acg,AdC];by_cases e:j=i
 ·subst e;simp[hj]
 ·by_cases h:i<C
  ·simp only[if_neg e,Adf h,AbZ,Function.comp];have:(i<j)=(i<j+1):=by apply propext;omega
   simp only[this]
  ·rw[if_neg e,AbK Afa];rfl
theorem M0{zs:List Int}{C k j:Nat}(h:j=C∨zs.length≤k*C+j):Fe zs C k j=Il zs C k:=by
 apply Ack;intro i;simp only[Fe,Il,AbA];by_cases hi:i<C
 ·simp only[Adf hi,AbZ,Aa3]
  split
  ·rfl
  ·rename_i h2;have h3:zs[k*C+i]?=none:=AbK (by rcases h with h | h<;>omega);rw[GN,h3]
 ·rw[AbK Afk];rfl
theorem Ns{zs:List Int}(hz:∀z∈zs,0≤z∧z≤255)(k:Nat):(GN zs k).length≤40:=by
 unfold GN
 split
 ·rename_i z h;have:=hz z (Aa9 h);exact Wk _ Aez
 ·simp
theorem QM.at{k:IntKind}{w:World}{p:Option Addr}{c:Nat}{zs:List Int}(h:QM k w (.slice p zs.length c) zs){i:Nat}{z:Int}(hi:zs[i]?=some z):∃a,p=some a∧w.cell? (a.add (((i:Nat):Int).toNat*1))=some (.int k z):=by
 obtain⟨_,⟨e,e2⟩ | ⟨a,cap,e,h⟩⟩:=h
 ·rw[e2] at hi;simp at hi
 ·simp only[Acj] at e;exact⟨a,e.1,by rw[show((i:Nat):Int).toNat*1=i by omega];exact h i z hi⟩
set_option maxRecDepth 8000 in
set_option maxHeartbeats 2000000 in
theorem X6(zs:List Int)(nv:Value)(sh:Nat)(w:World)(h:QM .u8 w nv zs)(hz:∀z∈zs,0≤z∧z≤255)(hl:zs.length≤80)(hsh:sh<256):AF prog 37 [nv,.int .u8 sh] w (λv w'=>∃u rv f lo,v=.agg ⟨[u]⟩∧w.heap.size≤lo∧BI lo w' u (Dr zs sh) rv f∧Ae w w'):=by
 obtain⟨p,c,rfl⟩:=h.slice;refine AQ func37 ntmps37 ?_;apply CW.seq;apply CW.region;refine Sl ?_;refine BX λR w1 c6 ba hR=>?_;have c7:=hR.lt;refine Sa ?_;refine BX λC w2 c8 az hC=>?_;have c9:=hC.lt;replace hR:=hR.ext az;have ca:=ba.size;have cb:=az.size;have am:=ba.trans az;have a5:(Dr zs sh).length=1+sh % 3:=by simp[Dr]
 have an:∀i,i<1+sh % 3→(Dr zs sh)[i]?=some (BG zs sh i):=λi hi=>by simp[Dr,Adf hi]
 refine Sa ?_;refine CW.loop (ι:=Nat×Option Addr×Nat) (λx w'=>x.1≤1+sh % 3∧Ae w w'∧Chg [C] w2 w'∧Blk w' C [.slice x.2.1 x.1 x.2.2] 29∧∃rv f,A3 w' w2.heap.size 41 3 (.slice x.2.1 x.1 x.2.2) x.1 (Br ((Dr zs sh).take x.1) rv).flatten∧De w2.heap.size w' x.1 (Dr zs sh) rv f (Ac (.slice x.2.1 x.1 x.2.2))) (λx=>[(0,.slice p zs.length c),(1,.int .u8 sh),(4,.pointer (some ⟨R,0,none⟩)),(5,.pointer (some ⟨C,0,none⟩)),(6,.int .i64 ((min (x.1*AU sh*AE sh) zs.length:Nat):Int)),(7,.int .i64 x.1)]) (λx=>1+sh % 3 - x.1) (0,none,0) ⟨by omega,am,Chg.refl _ _,hC,λ_=>.slice none 0 0,λ_ _=>0,A3.nil _ _ _ _,De.zero⟩ (Ai.cons rfl (Ai.cons rfl (Ai.cons rfl (Ai.cons rfl (Ai.cons (by simp;rfl) (Ai.cons rfl Ai.nil)))))) ?_;rintro⟨k,op,oc⟩ w5 ⟨hk,aw,b0,bb,rv,f,hO,hX⟩;dsimp only at hk bb hO hX;show CW _ _ _ _ _ [(0,.slice p zs.length c),(1,.int .u8 sh),(4,.pointer (some ⟨R,0,none⟩)),(5,.pointer (some ⟨C,0,none⟩)),(6,.int .i64 ((min (k*AU sh*AE sh) zs.length:Nat):Int)),(7,.int .i64 (k:Int))] _;have ce:=hR.chg b0 Ae0;have cf:=b0.size;have cg:=am.size;have hV:∀j,j∈Ac (Value.slice op k oc)→w2.heap.size≤j∧j<w5.heap.size:=λj hj=>hO.lt hj;have n2:C∉Ac (Value.slice op k oc):=λhb=>by have:=(hV C hb).1;omega
 refine Sa ?_;refine Av (λh6=>?_) λh6=>?_;rotate_left
 ·have h6:k=1+sh % 3:=by simp at h6;omega
  subst h6;rw[←a5,Acs] at hO;rw[←a5] at hX;refine Sa ?_;refine AR λw6 b1 bj=>?_;have ak:Ae w w6:=aw.step b1 Ae0;have bk:=hX.chg b1 (λi s hi hs y hy=>by have:=((hX.rows i s hi hs).lt hy).1;simp;omega);have bl:=hO.chg b1 (λj hj=>by have:=(hO.lt hj).1;simp;omega);refine Sa ?_;exact QW.body_c rfl rfl bj rfl rfl rfl ⟨_,rv,f,w2.heap.size,rfl,by omega,a5 ▸ BI.mk (rv:=rv) (f:=f) bl (λs hs=>by
   simp only[Dr,Acu] at hs;obtain⟨i,_,rfl⟩:=hs;simp[BG]) Aez bk,ak⟩
 have h6:k<1+sh % 3:=by simp at h6;omega
 have bm:k=0∨k=1∨k=2:=Aez
 have hm:0≤(sh:Int) / 64*(k:Int)∧(sh:Int) / 64*(k:Int)≤6:=by
  rcases bm with rfl | rfl | rfl<;>simp<;>omega
 refine Sa ?_;refine Cx λN w6 ci ak hN=>?_;replace hN:Blk w6 N [.int .u8 (65+(k:Int)+(sh:Int) / 64*(k:Int))] 5:=hN;refine Sa ?_;refine BX λT w7 cj bc hT=>?_;have ck:=hT.lt;refine Sa ?_;refine AR λw8 bn hT=>?_;have bo:=(ak.trans bc).size;have bp:=ak.size;have ao:Ae w5 w8:=(ak.trans bc).step bn (by simp;have:=ak.size;omega);have enm:[ch (65+(k:Int)+(sh:Int) / 64*(k:Int))]=(BG zs sh k).name:=by
  show _=[ch ((65+k+sh / 64*k:Nat):Int)];rw[show(65+(k:Int)+(sh:Int) / 64*(k:Int))=((65+k+sh / 64*k:Nat):Int) by push_cast;rfl]
 replace hT:Blk w8 T (Ap (BG zs sh k) (.slice none 0 0)) 41:=by
  have e:Ap (BG zs sh k) (.slice none 0 0)=[Am [ch (65+(k:Int)+(sh:Int) / 64*(k:Int))],.int .i64 (1+(sh:Int) / 3 % 4),.slice none 0 0]:=by
   rw[Ap,←enm];simp[BG,AE]
  rw[e];exact hT
 have bq:=ao.size;have br:AU sh≤5:=by unfold AU;omega
 have bs:AE sh≤4:=by unfold AE;omega
 have ab:∀r,r<AU sh→(BG zs sh k).rows[r]?=some (Il zs (AE sh) (k*AU sh+r)):=λr hr=>by simp[BG,Adf hr]
 have ap:(BG zs sh k).rows.length=AU sh:=by simp[BG]
 refine Sa ?_;refine CW.loop (ι:=Nat×Option Addr×Nat) (λx w'=>x.1≤AU sh∧Chg [T] w8 w'∧Blk w' T (Ap (BG zs sh k) (.slice x.2.1 x.1 x.2.2)) 41∧∃xs g,A3 w' w8.heap.size 26 1 (.slice x.2.1 x.1 x.2.2) x.1 xs∧CT w8.heap.size w' xs ((BG zs sh k).rows.take x.1) g (Ac (.slice x.2.1 x.1 x.2.2))) (λx=>[(0,.slice p zs.length c),(1,.int .u8 sh),(4,.pointer (some ⟨R,0,none⟩)),(5,.pointer (some ⟨C,0,none⟩)),(6,.int .i64 ((min ((k*AU sh+x.1)*AE sh) zs.length:Nat):Int)),(7,.int .i64 k),(8,.pointer (some ⟨T,0,none⟩)),(9,.int .i64 x.1)]) (λx=>AU sh - x.1) (0,none,0) ⟨by omega,Chg.refl _ _,hT,[],λ_=>0,A3.nil _ _ _ _,CT.nil⟩ HA ?_;rintro⟨r,tp,tc⟩ w9 ⟨hr,ax,bd,xs,g,al,ac⟩;dsimp only at hr bd al ac;show CW _ _ _ _ _ [(0,.slice p zs.length c),(1,.int .u8 sh),(4,.pointer (some ⟨R,0,none⟩)),(5,.pointer (some ⟨C,0,none⟩)),(6,.int .i64 ((min ((k*AU sh+r)*AE sh) zs.length:Nat):Int)),(7,.int .i64 (k:Int)),(8,.pointer (some ⟨T,0,none⟩)),(9,.int .i64 (r:Int))] _;have aa:Ae w5 w9:=ao.step ax Ae0;have cl:=ax.size;have bt:T<w8.heap.size:=hT.lt;refine Sa ?_;refine Av (λh7=>?_) λh7=>?_;rotate_left
 ·have h7:r=AU sh:=by simp[AU] at h7 ⊢;simp[AU] at hr;omega
  subst h7;rw[show(k*AU sh+AU sh)*AE sh=(k+1)*AU sh*AE sh by rw[Nat.succ_mul]];have bu:=bb.ext aa;rw[←ap,Acs] at ac;have hF:CS w8.heap.size w9 (.slice tp (AU sh) tc) (BG zs sh k).rows g:=⟨⟨xs,by rw[ap];exact al,by rw[ap] at ac;exact ac⟩,by omega⟩;refine Sa ?_;refine Cx λB2 wa aq ad a6=>?_;replace a6:Blk wa B2 (Ap (BG zs sh k) (.slice tp (AU sh) tc)) 41:=a6;have a7:=aa.trans ad;have bv:=a7.size;replace hF:=hF.ext ad;have be:=(hX.ext a7).push (an k h6) (hF.low Aez) (λx hx hb=>by
   have:=(hF.lt hx).1;have:=(hV x hb).2;omega) (λi t hi ar x hx hy=>by
   have:=((hX.rows i t hi ar).lt hx).2;have:=(hF.lt hy).1;omega)
  refine LW.append (lo:=w2.heap.size) (k:=k) rfl rfl rfl rfl rfl rfl (hO.ext a7) Aez a6 rfl rfl rfl (by show(k+1)*49≤_;omega) rfl ?_;intro v10 wd a1 a2 au;obtain⟨pd,cd,rfl⟩:=a2.slice;have ae:=(be.over au).chg a1 (λi t hi ar y hy=>be.apartV i t hi ar y hy);have bw:(Br ((Dr zs sh).take k) rv).flatten++Ap (BG zs sh k) (.slice tp (AU sh) tc)=(Br ((Dr zs sh).take (k+1)) λi=>if i=k then .slice tp (AU sh) tc else rv i).flatten:=by
   rw[KN (an k h6)];simp
  rw[bw] at a2;have cm:=(bu.ext ad).chg a1 n2;have bx:Chg [C] w2 wd:=(Chg.trans (b0.ext a7) a1).mono (λb hb bf=>by
   rcases AbB.1 hb with hb | hb
   ·exact hb
   ·have:=(hV b hb).1;omega)
  have bz:Ae w wd:=(aw.trans a7).step a1 (λb hb=>by have:=(hV b hb).1;omega);refine Sa ?_;refine BO λwe a3 b2=>?_;replace b2:Blk we C [.slice pd (k+1) cd] 29:=b2;refine Sa ?_;exact QW.again (k+1,pd,cd) ⟨by show k+1≤_;omega,bz.step a3 Ae0,bx.same a3,b2,_,_,a2.chg a3 (λb hb=>by have:=(a2.lt hb).1;simp;omega),ae.chg a3 (λi t hi ar y hy=>by have:=((ae.rows i t hi ar).lt hy).1;simp;omega)⟩ DL (by show 1+sh % 3 - (k+1)<1+sh % 3 - k;omega)
 have h7:r<AU sh:=by simp at h7;simp[AU];omega
 refine Sa ?_;refine LW.makeSlice (m:=AE sh) (by simp[BG];rfl) (by simp[BG];rfl) rfl rfl rfl rfl rfl Aez rfl rfl ?_;intro M wa cn ad hM;have co:=hM.lt;have c0:=ad.size;have c1:=(aw.trans aa).trans ad;have b3:=bd.ext ad;rw[←QB zs (AE sh) (k*AU sh+r)] at hM;refine Sa ?_;refine CW.loop (ι:=Nat) (λj w'=>j≤AE sh∧Chg [M] wa w'∧Blk w' M ((Fe zs (AE sh) (k*AU sh+r) j).map Am) 9) (λj=>[(0,.slice p zs.length c),(1,.int .u8 sh),(4,.pointer (some ⟨R,0,none⟩)),(5,.pointer (some ⟨C,0,none⟩)),(6,.int .i64 ((min ((k*AU sh+r)*AE sh+j) zs.length:Nat):Int)),(7,.int .i64 k),(8,.pointer (some ⟨T,0,none⟩)),(9,.int .i64 r),(10,.slice (some ⟨M,0,none⟩) (AE sh) (AE sh)),(11,.int .i64 j)]) (λj=>AE sh - j) 0 ⟨by omega,Chg.refl _ _,hM⟩ Pa ?_;rintro j wb ⟨hj,ay,af⟩;have bg:=b3.chg ay Ae0;have b4:Ae w9 wb:=ad.step ay Ae0;have c2:=ay.size;have bh:(k*AU sh+(r+1))*AE sh=(k*AU sh+r)*AE sh+AE sh:=by rw[←Nat.add_assoc,Nat.succ_mul]
 refine Sa ?_;by_cases h8:j<AE sh;rotate_left
 ·refine LW.know (t:=53) (c:=false) rfl (by simp[BG];omega) ?_;have a8:j=AE sh∨zs.length≤(k*AU sh+r)*AE sh+j:=.inl Aez;refine Sa ?_;have ag:=M0 (zs:=zs) (C:=AE sh) (k:=k*AU sh+r) a8;rw[ag] at af;have eat:min ((k*AU sh+r)*AE sh+j) zs.length=min ((k*AU sh+(r+1))*AE sh) zs.length:=by rw[bh];omega
  rw[eat];have b5:A4 (λa=>a=⟨M,0,none⟩) wb (.slice (some ⟨M,0,none⟩) (AE sh) (AE sh)) (Il zs (AE sh) (k*AU sh+r)):=by
   have av:(Il zs (AE sh) (k*AU sh+r)).length=AE sh:=by simp[Il]
   have:=(EY (lo:=M) (v:=.slice (some ⟨M,0,none⟩) (AE sh) (AE sh)) (l:=Il zs (AE sh) (k*AU sh+r)) (w:=wb) ⟨by simp,.inr ⟨M,AE sh,[],by rw[av],by simpa using af,by omega,by simp;omega,Ab9 _⟩⟩ Aez (λs hs=>by
    simp only[Il,Acu] at hs;obtain⟨i,_,rfl⟩:=hs;have:=Ns hz ((k*AU sh+r)*AE sh+i);omega))
   obtain⟨gM,g1,g2⟩:=this;have g1':=g1;obtain⟨g0,⟨e,_⟩ | ⟨a,cc,e,g3,g4⟩⟩:=g1
   ·simp at e
   ·simp only[Acj,Aa3] at e;refine⟨g0,.inr ⟨⟨M,0,none⟩,AE sh,by rw[av],λ_=>rfl,?_⟩⟩;rw[←e.1] at g4;exact g4
  refine Sa ?_;refine Cx λB2 wc aq a4 a6=>?_;replace a6:Blk wc B2 [.slice (some ⟨M,0,none⟩) (AE sh) (AE sh)] 26:=a6;have ah:∀b,b∈Ac (Value.slice tp r tc)→w8.heap.size≤b∧b<w9.heap.size:=λb hb=>al.lt hb;have a0:Ae w9 wc:=b4.trans a4;have c3:=a0.size;have ai:=(ac.ext a0).push (A4.ext b5 a4) (Kq (Ab9 _)) (λhn=>⟨by omega,λhb=>by have:=(ah _ hb).2;omega,λr' y a9 hy hf=>by
   obtain⟨_,_,sp',b6⟩:=ac.blk r' y a9 hy;have:=b6.lt;omega,[],by simpa using af.ext a4⟩)
  have b7:(BG zs sh k).rows.take r++[Il zs (AE sh) (k*AU sh+r)]=(BG zs sh k).rows.take (r+1):=by rw[Aco,ab r h7];rfl
  have b8:((BG zs sh k).rows.take r).length=r:=by simp[ap];omega
  rw[b7,b8] at ai;refine LW.append (lo:=w8.heap.size) (k:=r) rfl rfl rfl rfl rfl rfl (al.ext a0) Aez a6 rfl rfl rfl (by show(r+1)*25≤_;omega) rfl ?_;intro v10 wd a1 a2 au;obtain⟨pd,cd,rfl⟩:=a2.slice;have ae:=(ai.over au).chg a1 (λr' y a9 hy=>(ai.blk r' y a9 hy).2.1);have c4:=(bg.ext a4).chg a1 (λhb=>by have:=(ah _ hb).1;omega);refine Sa ?_;refine BO λwe a3 aj=>?_;replace aj:Blk we T (Ap (BG zs sh k) (.slice pd (r+1) cd)) 41:=aj;refine Sa ?_;exact QW.again (r+1,pd,cd) ⟨by show r+1≤_;omega,Chg.same (S:=[T]) ((Chg.trans (ax.ext a0) a1).mono (λb hb bf=>by
   rcases AbB.1 hb with hb | hb
   ·exact hb
   ·have:=(ah b hb).1;omega)) a3,aj,_,_,a2.chg a3 (λb hb=>by have:=(a2.lt hb).1;simp;omega),ae.chg a3 (λr' y a9 hy=>by have:=(ae.blk r' y a9 hy).1;simp;omega)⟩ HA (by show AU sh - (r+1)<AU sh - r;omega)
 refine LW.know (t:=53) (c:=true) rfl (by simp[BG];omega) ?_;refine Sa ?_;refine Av (λh9=>?_) λh9=>?_;rotate_left
 ·have a8:j=AE sh∨zs.length≤(k*AU sh+r)*AE sh+j:=.inr (by simp at h9;omega);refine Sa ?_;have ag:=M0 (zs:=zs) (C:=AE sh) (k:=k*AU sh+r) a8;rw[ag] at af;have eat:min ((k*AU sh+r)*AE sh+j) zs.length=min ((k*AU sh+(r+1))*AE sh) zs.length:=by rw[bh];omega
  rw[eat];have b5:A4 (λa=>a=⟨M,0,none⟩) wb (.slice (some ⟨M,0,none⟩) (AE sh) (AE sh)) (Il zs (AE sh) (k*AU sh+r)):=by
   have av:(Il zs (AE sh) (k*AU sh+r)).length=AE sh:=by simp[Il]
   have:=(EY (lo:=M) (v:=.slice (some ⟨M,0,none⟩) (AE sh) (AE sh)) (l:=Il zs (AE sh) (k*AU sh+r)) (w:=wb) ⟨by simp,.inr ⟨M,AE sh,[],by rw[av],by simpa using af,by omega,by simp;omega,Ab9 _⟩⟩ Aez (λs hs=>by
    simp only[Il,Acu] at hs;obtain⟨i,_,rfl⟩:=hs;have:=Ns hz ((k*AU sh+r)*AE sh+i);omega))
   obtain⟨gM,g1,g2⟩:=this;have g1':=g1;obtain⟨g0,⟨e,_⟩ | ⟨a,cc,e,g3,g4⟩⟩:=g1
   ·simp at e
   ·simp only[Acj,Aa3] at e;refine⟨g0,.inr ⟨⟨M,0,none⟩,AE sh,by rw[av],λ_=>rfl,?_⟩⟩;rw[←e.1] at g4;exact g4
  refine Sa ?_;refine Cx λB2 wc aq a4 a6=>?_;replace a6:Blk wc B2 [.slice (some ⟨M,0,none⟩) (AE sh) (AE sh)] 26:=a6;have ah:∀b,b∈Ac (Value.slice tp r tc)→w8.heap.size≤b∧b<w9.heap.size:=λb hb=>al.lt hb;have a0:Ae w9 wc:=b4.trans a4;have c3:=a0.size;have ai:=(ac.ext a0).push (A4.ext b5 a4) (Kq (Ab9 _)) (λhn=>⟨by omega,λhb=>by have:=(ah _ hb).2;omega,λr' y a9 hy hf=>by
   obtain⟨_,_,sp',b6⟩:=ac.blk r' y a9 hy;have:=b6.lt;omega,[],by simpa using af.ext a4⟩)
  have b7:(BG zs sh k).rows.take r++[Il zs (AE sh) (k*AU sh+r)]=(BG zs sh k).rows.take (r+1):=by rw[Aco,ab r h7];rfl
  have b8:((BG zs sh k).rows.take r).length=r:=by simp[ap];omega
  rw[b7,b8] at ai;refine LW.append (lo:=w8.heap.size) (k:=r) rfl rfl rfl rfl rfl rfl (al.ext a0) Aez a6 rfl rfl rfl (by show(r+1)*25≤_;omega) rfl ?_;intro v10 wd a1 a2 au;obtain⟨pd,cd,rfl⟩:=a2.slice;have ae:=(ai.over au).chg a1 (λr' y a9 hy=>(ai.blk r' y a9 hy).2.1);have c4:=(bg.ext a4).chg a1 (λhb=>by have:=(ah _ hb).1;omega);refine Sa ?_;refine BO λwe a3 aj=>?_;replace aj:Blk we T (Ap (BG zs sh k) (.slice pd (r+1) cd)) 41:=aj;refine Sa ?_;exact QW.again (r+1,pd,cd) ⟨by show r+1≤_;omega,Chg.same (S:=[T]) ((Chg.trans (ax.ext a0) a1).mono (λb hb bf=>by
   rcases AbB.1 hb with hb | hb
   ·exact hb
   ·have:=(ah b hb).1;omega)) a3,aj,_,_,a2.chg a3 (λb hb=>by have:=(a2.lt hb).1;simp;omega),ae.chg a3 (λr' y a9 hy=>by have:=(ae.blk r' y a9 hy).1;simp;omega)⟩ HA (by show AU sh - (r+1)<AU sh - r;omega)
 have h9:(k*AU sh+r)*AE sh+j<zs.length:=by simp at h9;omega
 rw[show min ((k*AU sh+r)*AE sh+j) zs.length=(k*AU sh+r)*AE sh+j by omega];obtain⟨z,b9⟩:∃z,zs[(k*AU sh+r)*AE sh+j]?=some z:=⟨_,Aak h9⟩;have c2:=hz z (Aa9 b9);obtain⟨m,rfl⟩:∃m:Nat,z=m:=⟨z.toNat,by omega⟩;obtain⟨a,rfl,cp⟩:=(h.ext ((aw.trans aa).trans b4)).at b9;refine Sw ?_;refine Ax rfl rfl (Ze m Aez wb) ?_;rintro v wc ⟨rfl,a4⟩;have c5:=af.ext a4;refine LW.idx_slice (j:=j) rfl rfl rfl rfl rfl Aez Aez (by show 0+((j:Nat):Int).toNat*1=_;omega) rfl ?_;refine LW.store rfl rfl rfl c5 (Acw (by show j+1≤_;rw[Acg,SM];omega)) rfl rfl λwd a1 bi=>?_;have ecell:E0 m=GN zs ((k*AU sh+r)*AE sh+j):=by rw[GN,b9];rfl
 rw[ecell,SN h8] at bi;refine Sa ?_;rw[show(((k*AU sh+r)*AE sh+j:Nat):Int)+1=((min ((k*AU sh+r)*AE sh+(j+1)) zs.length:Nat):Int) by omega];exact QW.again (j+1) ⟨by omega,(ay.ext a4).same a1,bi⟩ Pa Aez
theorem Vx:Bt []=true:=by rw[Bt,if_neg Ae7,if_pos (.inl rfl)]
theorem TW{zs:List Int}(hz:∀z∈zs,0≤z∧z≤255)(k:Nat):Bt (GN zs k)=true:=by
 unfold GN
 split
 ·rename_i z h;have:=hz z (Aa9 h);exact Wl Aez
 ·exact Vx
theorem Sn:∀x,x<9→D7 [ch ((65+x:Nat):Int)]=true:=by decide
theorem RL:∀y,y<9→∀x,x<y→Op.bytesLess [ch ((65+x:Nat):Int)] [ch ((65+y:Nat):Int)]=true:=by decide
theorem Wg{zs:List Int}{sh:Nat}(hz:∀z∈zs,0≤z∧z≤255)(hsh:sh<256):A5 (Dr zs sh)=true:=by
 have hm:∀i,i<3→i+sh / 64*i<9:=λi hi=>by
  have:i=0∨i=1∨i=2:=Aez
  rcases this with rfl | rfl | rfl<;>omega
 rw[AP];refine⟨by simp[Dr];omega,λs hs=>?_,?_⟩
 ·simp only[Dr,Acu,Adj] at hs;obtain⟨i,hi,rfl⟩:=hs;have h1:=Sn (i+sh / 64*i) (hm i Aez);have e:(65+(i+sh / 64*i):Nat)=65+i+sh / 64*i:=Aez
  rw[e] at h1;simp only[AJ,BG,Abf,Ac2];refine⟨⟨⟨⟨h1,decide_eq_true (by show(0:Int)≤((AE sh:Nat):Int);omega)⟩,decide_eq_true (by show((AE sh:Nat):Int)≤12;unfold AE;omega)⟩,by simp[AU];omega⟩,λr hr=>?_⟩;simp only[Acu,Adj] at hr;obtain⟨k,hk,rfl⟩:=hr;refine⟨by simp[Il],λc hc=>?_⟩;simp only[Il,Acu] at hc;obtain⟨j,_,rfl⟩:=hc;exact TW hz _
 ·unfold Dr;rw[Aej];refine List.Pairwise.imp_of_mem ?_ (List.pairwise_lt_range (n:=1+sh % 3));intro i j hi hj a0;simp only[Adj] at hi hj;have a1:i+sh / 64*i<j+sh / 64*j:=Nat.add_lt_add_of_lt_of_le a0 (Nat.mul_le_mul_left _ (Nat.le_of_lt a0));have:=RL (j+sh / 64*j) (hm j Aez) (i+sh / 64*i) a1;have e:∀i,(65+(i+sh / 64*i):Nat)=65+i+sh / 64*i:=λi=>by omega
  rw[e,e] at this;exact this
theorem Ao.bound{α:Type}{m:Nat}{ok:Addr→Prop}{R:Fg α}{w:World}{v:Value}{l:List α}(h:Ao m ok R w v l)(hm:0<m):Ao m (λa=>ok a∧a.block<w.heap.size) R w v l:=by
 have h0:=h;obtain⟨k0,⟨e1,e2⟩ | ⟨a,c,e1,h2,h3⟩⟩:=h
 ·exact⟨k0,.inl ⟨e1,e2⟩⟩
 ·refine⟨k0,.inr ⟨a,c,e1,λhn=>⟨h2 hn,?_⟩,h3⟩⟩;obtain⟨a',c',e3,h4⟩:=h0.lt hm hn;rw[e1] at e3;simp only[Acj,Aa3] at e3;rw[e3.1];exact h4
abbrev AaP(lo hi:Nat):Addr→Prop:=λa=>lo≤a.block∧a.block<hi
abbrev C6(lo hi:Nat):=Ak (AaP lo hi) (λ_=>AaP lo hi) (λ_ _=>AaP lo hi)
theorem Bq.mid{lo:Nat}{w:World}{v:Value}{b:Ag}(h:Bq lo w v b):C6 lo w.heap.size w v b:=
 Ao.map (Ao.bound h Aez) (λ_ h=>h) λ_ _ _ _ ⟨rv,e,hn,hr⟩=>⟨rv,e,hn,Ao.map (Ao.bound hr Aez) (λ_ h=>h) λ_ _ _ _ ⟨u,e,ht⟩=>⟨u,e,Ao.map (Ao.bound ht Aez) (λ_ h=>h) λ_ _ _ _ h=>h⟩⟩
theorem C6.off{lo hi X:Nat}{w w':World}{v:Value}{b:Ag}(h:C6 lo hi w v b)(x:Chg [X] w w')(hX:X<lo∨hi≤X):C6 lo hi w' v b:=
 Ak.chg h x (λa ha hm=>by have ha:lo≤a.block∧a.block<hi:=ha;simp at hm;omega) (λ_ a _ ha hm=>by have ha:lo≤a.block∧a.block<hi:=ha;simp at hm;omega) (λ_ _ _ _ a _ _ _ ha hm=>by have ha:lo≤a.block∧a.block<hi:=ha;simp at hm;omega)
theorem Yl{k:IntKind}{w:World}{p:Option Addr}{c:Nat}{zs:List Int}(h:QM k w (.slice p zs.length c) zs){i:Nat}{z:Int}(hi:zs[i]?=some z):∃a,p=some a∧w.cell? (a.add (((i:Nat):Int).toNat*1))=some (.int k z):=by
 obtain⟨h0,⟨e,e2⟩ | ⟨a,cap,e,h⟩⟩:=h
 ·rw[e2] at hi;simp at hi
 ·simp only[Acj] at e;exact⟨a,e.1,by rw[Adk,AcX];exact h i z hi⟩
theorem U5{w:World}{lo:Nat}{T:TypeId}{v:Value}{l:List (List UInt8)}(h:E.A3 w lo T 1 v l.length (l.map Am))(hl:l.length≤1000000)(hs:∀s∈l,s.length≤1000000):Eb w v l:=by
 obtain⟨h3,⟨rfl,h4⟩ | ⟨g,cap,sp,rfl,hB,_,_,_⟩⟩:=h
 ·exact⟨by omega,.inl ⟨rfl,AbX h4⟩⟩
 ·refine⟨by omega,.inr ⟨⟨g,0,none⟩,cap,rfl,λi x hi=>⟨[Am x],rfl,⟨rfl,by have:=hs x (Aa9 hi);omega⟩,λj u hj=>?_⟩⟩⟩
  match j,hj with
  | 0,hj=>
   obtain rfl:=Aa5 hj;have a0:=(Aav.1 hi).1;rw[An,An];refine hB.cell ?_;rw[AbW,Adb,AcX,Abg AeW,AbA,hi];rfl
theorem Wx{n:Nat}(h:n<8):AM (J3 n)=[.int .u8 (65+(n:Int)*7 % 26),.int .u8 (48+(n:Int) % 10),.int .u8 (48+(n:Int) / 10)]:=by
 rcases(by omega:n=0∨n=1∨n=2∨n=3∨n=4∨n=5∨n=6∨n=7) with rfl | rfl | rfl | rfl | rfl | rfl | rfl | rfl<;>rfl
set_option maxRecDepth 8000 in
set_option maxHeartbeats 8000000 in
theorem VP(zs:List Int)(p:Option Addr)(c:Nat)(w:World)(hzs:QM .u8 w (.slice p zs.length c) zs)(hzl:zs.length≤16)(hz:∀z∈zs,0≤z∧z≤255):AF prog 36 [.slice p zs.length c] w (λv w'=>C4 [] w.heap.size w' v (EN zs (zs.length / 2))∧Ae w w'):=by
 refine AQ func36 ntmps36 ?_;refine Sw ?_;refine CW.loop (ι:=Nat×Nat×Value) (λx w'=>x.2.1=2*x.1∧x.1≤zs.length / 2∧Ae w w'∧C4 [] w.heap.size w' x.2.2 (EN zs x.1)) (λx=>[(0,.slice p zs.length c),(3,x.2.2),(4,.int .i64 (x.2.1:Int))]) (λx=>zs.length / 2 - x.1) (0,0,.slice none 0 0) ⟨rfl,Ac8 _,Chg.refl _ _,C4.nil⟩ Bh ?_;rintro⟨n,i,ov⟩ w1 ⟨ag,hn,aa,a4⟩;dsimp only at ag hn a4;show CW _ _ _ _ _ [(0,.slice p zs.length c),(3,ov),(4,.int .i64 (i:Int))] _;have b6:i<40:=Aez
 have bw:=aa.size;refine Sw ?_;refine B6 (λh1=>?_) λh1=>?_;rotate_left
 ·have h1:n=zs.length / 2:=by simp at h1;omega
  subst h1;refine Sw ?_;exact QW.body1 rfl rfl ⟨a4,aa⟩
 have h1:i+1<zs.length:=by simp at h1;omega
 have b7:n<8:=Aez
 obtain⟨po,co,rfl⟩:=a4.slice;have ax:=(a4.list (by rw[Do];omega)).past;rw[Do] at a4;obtain⟨z,ah⟩:∃z,zs[i]?=some z:=⟨_,Aak Aez⟩;obtain⟨bx,ay⟩:=hz z (Aa9 ah);obtain⟨m,rfl⟩:∃m:Nat,z=m:=⟨z.toNat,by omega⟩;obtain⟨a,rfl,b8⟩:=Yl hzs ah;obtain⟨y,am⟩:∃z,zs[i+1]?=some z:=⟨_,Aak Aez⟩;obtain⟨bz,az⟩:=hz y (Aa9 am);obtain⟨my,rfl⟩:∃m:Nat,y=m:=⟨y.toNat,by omega⟩;obtain⟨a',ea,b9⟩:=Yl hzs am;obtain rfl:=Aa5 ea;refine Sw ?_;refine Av (λh2=>?_) λh2=>?_;rotate_left
 ·simp at h2;omega
 refine Sw ?_;have ba:(i:Int) / 2=(n:Int):=Aez
 rw[ba,Do];refine Cx λB w2 c0 b0 hB=>?_;replace hB:Blk w2 B [.int .u8 (65+(n:Int)*7 % 26),.int .u8 (48+(n:Int) % 10),.int .u8 (48+(n:Int) / 10)] 5:=hB;refine LW.string_any (bs:=J3 n) rfl rfl (.inr ⟨_,rfl,λj u hj=>by rw[Wx b7] at hj;rw[An];refine hB.cell ?_;rw[AbW];exact hj⟩) rfl rfl rfl rfl rfl rfl rfl ?_;refine Sw ?_;refine BX λR w3 c1 bb hR=>?_;refine Sw ?_;refine AR λw4 bc hR=>?_;replace hR:Blk w4 R [Am (J3 n),.slice none 0 0,.slice none 0 0,Am []] 31:=hR;have c2:=b0.size;have c3:=hR.lt;have a1:Ae w1 w4:=(b0.trans bb).step bc Ae0;apply LW.nil;apply QW.then_n;refine CW.seq_cut (ι:=Value) (λv w'=>Ae w1 w'∧w4.heap.size≤w'.heap.size∧Blk w' R [Am (J3 n),v,.slice none 0 0,Am []] 31∧E.A3 w' w4.heap.size 9 1 v (Ik zs n).length ((Ik zs n).map Am)) (λv=>[(0,.slice (some a) zs.length c),(3,.slice po n co),(4,.int .i64 (i:Int)),(5,.int .i64 (n:Int)),(6,.pointer (some ⟨R,0,none⟩))]) ?_ ?_
 ·have bd:=Aw (aa.trans a1) b8;have ab:X2 zs (2*n)=m:=by rw[←ag];exact OK ah
  refine Sw ?_;refine B6 (λh3=>?_) λh3=>?_;rotate_left
  ·have h3:n=0:=by simp at h3;omega
   refine Sw ?_;exact QW.head (.slice none 0 0) ⟨a1,Ab9 _,hR,by rw[Ik,if_neg Aez];exact E.A3.nil _ _ _ _⟩ Cu
  have h3:0<n:=by simp at h3;omega
  refine Sw ?_;obtain⟨mn,be,an⟩:∃q:Nat,Min.min (n:Int) 4=q∧q=min n 4:=⟨min n 4,by omega,rfl⟩;obtain⟨r,hr,b1⟩:∃q:Nat,(m:Int) % (mn:Int)=q∧q=m % mn:=⟨m % mn,by simp,rfl⟩;have c4:r<mn:=by rw[b1];exact Aeq _ Aez
  have bf:OQ zs n=n - 1 - r:=by rw[OQ,ab,←an,←b1]
  have ao:=ax.ext a1;have ap:=Hx (zs:=zs) (n:=n) (k:=OQ zs n) (N7 h3);obtain⟨pa,pq,pn,pb,eqp,-,a2⟩:=Dw.at ao ap;subst eqp;have aq:w4.cell? ((pa.add (((n:Int) - 1 - (r:Int)).toNat*4)).add 0)=some (Am (J3 (OQ zs n))):=by
   have h:=a2 0 _ rfl;rw[show((n:Int) - 1 - (r:Int))=((OQ zs n:Nat):Int) by rw[bf];omega];exact h
  refine Av (λh4=>?_) λh4=>?_;rotate_left
  ·have h4:m % 16=15:=by simp at h4;omega
   refine Sw ?_;exact QW.head (.slice none 0 0) ⟨a1,Ab9 _,hR,by rw[Ik,if_neg Aez];exact E.A3.nil _ _ _ _⟩ Cu
  have h4:¬m % 16=15:=by simp at h4;omega
  refine Sw ?_;refine CW.drawG (Ae w4) 18 (λw' h=>h) Ae1 λwa c5=>?_;refine BD ?_;refine GW.take 11 rfl rfl rfl rfl (λw' _=>Y.min rfl rfl be) rfl rfl Ae1 Ae1 Ae1 (λ_ _ _ h=>h) ?_;refine BD ?_;rw[hr];refine BD ?_;refine DR 17 λhS=>?_;refine Cx λC w5 b2 bg hC=>?_;have ai:=hS.trans bg;clear hS;apply LW.nil;refine QW.headed ai ?_;refine GW.tail rfl Ae1 (λhS=>?_);replace hC:Blk w5 C [Am (J3 (OQ zs n))] 9:=hC;have c8:=ai.size;refine LW.append (lo:=w4.heap.size) (k:=0) rfl rfl rfl rfl rfl rfl (E.A3.nil _ _ _ _) Aez hC rfl rfl rfl Ae2 rfl ?_;intro v6 w6 ar ac c9;obtain⟨p6,c6,rfl⟩:=ac.slice;have ae:=(hR.ext ai).chg ar AeM;refine Sa ?_;refine BO λw7 a6 ae=>?_;replace ae:Blk w7 R [Am (J3 n),.slice p6 1 c6,.slice none 0 0,Am []] 31:=ae;have bh:=ar.size;have b3:=a6.size;refine Sw ?_;exact QW.head (.slice p6 1 c6) ⟨((a1.trans ai).step ar AeM).step a6 Ae0,by omega,ae,by rw[Ik,if_pos ⟨h3,by omega⟩];exact ac.chg a6 (λb hb=>by have:=(ac.lt hb).1;simp;omega)⟩ Cu
 rintro pv w5 ⟨a0,a3,a7,a5⟩;show CW _ _ _ _ _ [(0,.slice (some a) zs.length c),(3,.slice po n co),(4,.int .i64 (i:Int)),(5,.int .i64 (n:Int)),(6,.pointer (some ⟨R,0,none⟩))] _;obtain⟨pp,pc,rfl⟩:=a5.slice;have bi:w5.cell? (a.add (((i:Int)+1).toNat*1))=some (.int .u8 (my:Int)):=Aw (aa.trans a0) b9;have b4:X2 zs (2*n+1)=my:=by rw[←ag];exact OK am
 have ab:X2 zs (2*n)=m:=by rw[←ag];exact OK ah
 refine CW.seq_cut (ι:=Value) (λv w'=>Ae w1 w'∧w4.heap.size≤w'.heap.size∧Blk w' R [Am (J3 n),v,.slice none 0 0,Am []] 31∧E.A3 w' w4.heap.size 9 1 v (JP zs n).length ((JP zs n).map Am)) (λv=>[(0,.slice (some a) zs.length c),(3,.slice po n co),(4,.int .i64 (i:Int)),(5,.int .i64 (n:Int)),(6,.pointer (some ⟨R,0,none⟩))]) ?_ ?_
 ·have old:¬(1<n∧X2 zs (2*n) % 16≠15∧X2 zs (2*n+1) % 3=0∧scM zs n≠OQ zs n)→JP zs n=Ik zs n:=λh=>by rw[JP,if_neg h]
  refine Sw ?_;refine B6 (λh3=>?_) λh3=>?_;rotate_left
  ·have h3:n≤1:=by simp at h3;omega
   refine Sw ?_;exact QW.head (.slice pp (Ik zs n).length pc) ⟨a0,a3,a7,by rw[old (λh=>by omega)];exact a5⟩ Cu
  have h3:1<n:=by simp at h3;omega
  refine Sw ?_;refine B6 (λh4=>?_) λh4=>?_;rotate_left
  ·have h4:(Ik zs n).length=0:=by simp at h4;rw[h4];rfl
   have h5:m % 16=15:=by
    rw[Ik,ab] at h4
    split at h4
    ·simp at h4
    ·omega
   refine Sw ?_;exact QW.head (.slice pp (Ik zs n).length pc) ⟨a0,a3,a7,by rw[old (λh=>by omega)];exact a5⟩ Cu
  have h4:m % 16≠15:=by
   simp at h4;rw[Ik,ab] at h4
   split at h4
   ·rename_i h;exact h.2
   ·simp at h4
  have au:Ik zs n=[J3 (OQ zs n)]:=by rw[Ik,if_pos (⟨by omega,by rw[ab];exact h4⟩:0<n∧X2 zs (2*n) % 16≠15)]
  refine Sw ?_;refine Av (λh5=>?_) λh5=>?_;rotate_left
  ·have h5:my % 3≠0:=by simp at h5;omega
   refine Sw ?_;exact QW.head (.slice pp (Ik zs n).length pc) ⟨a0,a3,a7,by rw[old (λh=>by omega)];exact a5⟩ Cu
  have h5:my % 3=0:=by simp at h5;omega
  rw[au] at a5 a7;obtain⟨ca,⟨-,h0⟩ | ⟨g,cap,sp,e5,bj,cb,bk,bl⟩⟩:=id a5
  ·simp at h0
  obtain⟨rfl,-,rfl⟩:=Acd e5;have cc:w5.cell? ((⟨g,0,none⟩:Addr).add 0)=some (Am (J3 (OQ zs n))):=bj.cell rfl;obtain⟨sc,bm,a8⟩:∃q:Nat,(my:Int) % (n:Int)=q∧q=scM zs n:=⟨my % n,by simp,by rw[scM,b4]⟩;have av:sc<n:=by rw[a8];exact UK Aez
  have ap:=Hx (zs:=zs) (n:=n) (k:=sc) av;obtain⟨pa,pq,pn,pb,eqp,-,a2⟩:=Dw.at (ax.ext a0) ap;subst eqp;have aq:w5.cell? ((pa.add ((sc:Int).toNat*4)).add 0)=some (Am (J3 sc)):=a2 0 _ rfl;rw[au,Adg];rw[Adg] at a7;refine Sw ?_;rw[bm];refine Sw ?_;refine Av (λh6=>?_) λh6=>?_;rotate_left
  ·have h6:J3 sc=J3 (OQ zs n):=by simpa using h6
   have h7:sc=OQ zs n:=ML _ Aez _ (by have:=N7 (zs:=zs) (k:=n) Aez;omega) h6;refine Sw ?_;exact QW.head (.slice (some ⟨g,0,none⟩) 1 pc) ⟨a0,a3,a7,by rw[old (λh=>h.2.2.2 Aez),au];exact a5⟩ Cu
  have h6:sc≠OQ zs n:=λe=>by rw[e] at h6;simp at h6
  have bn:JP zs n=[J3 (OQ zs n),J3 sc]:=by rw[JP,if_pos ⟨h3,by rw[ab];exact h4,by rw[b4];exact h5,by rw[←a8];exact h6⟩,←a8]
  refine Sw ?_;refine Cx λC w6 b2 aj hC=>?_;replace hC:Blk w6 C [Am (J3 sc)] 9:=hC;have bh:=aj.size;refine LW.append (lo:=w4.heap.size) (k:=1) rfl rfl rfl rfl rfl rfl (a5.ext aj) Aez hC rfl rfl rfl Ae2 rfl ?_;intro v7 w7 a6 aw cd;obtain⟨p7,c7,rfl⟩:=aw.slice;have ak:=(a7.ext aj).chg a6 AeC;refine Sw ?_;refine BO λw8 ad ak=>?_;replace ak:Blk w8 R [Am (J3 n),.slice p7 2 c7,.slice none 0 0,Am []] 31:=ak;have b3:=a6.size;have ce:=ad.size;refine Sw ?_;exact QW.head (.slice p7 2 c7) ⟨((a0.trans aj).step a6 AeC).step ad Ae0,by omega,ak,by rw[bn];exact aw.chg ad (λb hb=>by have:=(aw.lt hb).1;simp;omega)⟩ Cu
 rintro pv w6 ⟨a9,bo,ae,ac⟩;show CW _ _ _ _ _ [(0,.slice (some a) zs.length c),(3,.slice po n co),(4,.int .i64 (i:Int)),(5,.int .i64 (n:Int)),(6,.pointer (some ⟨R,0,none⟩))] _;obtain⟨pp,pc,rfl⟩:=ac.slice;refine Sw ?_;refine Cx λC w7 b2 al hC=>?_;replace hC:Blk w7 C [Am (J3 n),.slice pp (JP zs n).length pc,.slice none 0 0,Am []] 31:=hC;have bp:=a9.size;have b3:=al.size;have bq:=(a4.ext a9).ext al;have af:=ac.ext al;have hT:Dx ([]++Ac (.slice po n co)) w7 λw'=>C1 w' (Bl (TX zs n) (.slice pp (JP zs n).length pc) (.slice none 0 0)) (TX zs n):=λw' br=>by
  have bt:=af.chg br (λb hb=>by have h1:=(af.lt hb).1;intro hm;have h2:=(a4.lt (v:=.slice po n co) hm).2;have:=a1.size;omega);exact⟨_,_,rfl,U5 bt (by have:=Aad zs n;show(JP zs n).length≤_;omega) U6,by show(J3 n).length≤1000000;rw[Qj];omega,⟨by show 0≤_;omega,.inl ⟨rfl,rfl⟩⟩,rfl⟩
 obtain⟨css,g1,g2,g3,g4⟩:=id bq;have g1':css.length=n:=by rw[g1,Do]
 rw[Do] at g3;refine LW.append (lo:=w.heap.size) (k:=n) rfl rfl rfl rfl rfl rfl g3 (by have:=aa.size;omega) hC rfl rfl rfl Afl rfl ?_;intro v8 w8 ad bu bv;have b5:=C4.snoc g1 g2 g4 (Chg.refl _ _) rfl hT ad bv (by rw[Do];exact bu);rw[←Ou] at b5;refine Sw ?_;exact QW.again (n+1,i+2,v8) ⟨by show i+2=2*(n+1);omega,by show n+1≤_;omega,((aa.trans a9).trans al).step ad (λb hb=>(a4.lt hb).1),b5⟩ Bh (by show zs.length / 2 - (n+1)<zs.length / 2 - n;omega)
end Go.Proofs.YtefaigjfkddelaaGreatDoor
