/-
  Joined by program out of the texts BookP Less BookL BookW CodeP AliP AliQ FillP BlcP Byt Code1 Code2.
-/
import Derived.Test.YtcjjcnecopnpcaaGreatDoorMzG
import Derived.Test.YtcjjcnecopnpcaaGreatDoorMzE
import Derived.Test.YtcjjcnecopnpcaaGreatDoorTy
import Derived.Test.YtcjjcnecopnpcaaGreatDoorMzI
import Derived.Test.YtcjjcnecopnpcaaGreatDoorMzH
import Derived.Test.YtcjjcnecopnpcaaGreatDoorMzB
import Derived.Lib.EndianBits
namespace Go.Proofs.YtcjjcnecopnpcaaGreatDoor
open Tryz
open Go Go.E
structure Af where
 name:List UInt8
 cols:Int
 rows:List (List (List UInt8))
deriving DecidableEq
abbrev Ao:=List Af
def Pq(b:Ao)(nm:List UInt8):Option Nat:=b.findIdx? (λs=>decide (s.name=nm))
def Vs:Option Nat→Int
 | some i=>i
 | none=>-1
theorem Mt{b:Ao}{nm:List UInt8}{i:Nat}(h:Pq b nm=some i):∃s,b[i]?=some s∧s.name=nm:=by
 unfold Pq at h;rw[AbN] at h;obtain⟨a0,e,_⟩:=h;exact⟨b[i],B7 a0,by simpa using e⟩
theorem WM{b:Ao}{x:List UInt8}(h:∀i s,i<b.length→b[i]?=some s→s.name≠x):Pq b x=none:=by
 unfold Pq;rw[AcM];intro s hs;obtain⟨i,hi,rfl⟩:=List.getElem_of_mem hs;have:=h i _ hi (B7 hi)
 simpa using this
theorem WL{b:Ao}{x:List UInt8}{k:Nat}{s:Af}(hk:b[k]?=some s)(hs:s.name=x)(h:∀i u,i<k→b[i]?=some u→u.name≠x):Pq b x=some k:=by
 unfold Pq;rw[AbN];obtain⟨a0,e⟩:=Abu.1 hk;refine⟨a0,by rw[e];simpa using hs,λj hj=>?_⟩;have:=h j _ hj (B7 AdV)
 simpa using this
noncomputable def AX(s:Af):Bool:=DM s.name&&decide (0≤s.cols)&&decide (s.cols≤12)&&decide (s.rows.length≤24)&&s.rows.all λr=>decide ((r.length:Int)=s.cols)&&r.all Cs
noncomputable def GH:Option (List UInt8)→Ao→Bool
 | _,[]=>true
 | p,s::r=>(match p with | none=>true | some q=>Op.bytesLess q s.name)&&AX s&&GH (some s.name) r
noncomputable def Aw(b:Ao):Bool:=decide (b.length≤5)&&GH none b
def Aag:E6 (List UInt8):=λ_ _ cs s=>cs=[Av s]∧s.length≤1000000
abbrev Ak(ok:Addr→Prop):World→Value→List (List UInt8)→Prop:=Ab 1 ok Aag
def Abd(okT:Nat→Addr→Prop):E6 (List (List UInt8)):=λi w cs r=>∃v,cs=[v]∧Ak (okT i) w v r
abbrev Bn(okR:Addr→Prop)(okT:Nat→Addr→Prop):World→Value→List (List (List UInt8))→Prop:=Ab 1 okR (Abd okT)
def Au(s:Af)(rv:Value):List Value:=[Av s.name,.int .i64 s.cols,rv]
def Y6(okR:Nat→Addr→Prop)(okT:Nat→Nat→Addr→Prop):E6 Af:=λi w cs s=>∃rv,cs=Au s rv∧s.name.length≤1000000∧Bn (okR i) (okT i) w rv s.rows
abbrev Aa(okS:Addr→Prop)(okR:Nat→Addr→Prop)(okT:Nat→Nat→Addr→Prop):World→Value→Ao→Prop:=Ab 3 okS (Y6 okR okT)
abbrev G3:Addr→Prop:=λ_=>True
abbrev Bz:=Ak G3
abbrev Cy:=Bn G3 (λ_=>G3)
abbrev AR:=Aa G3 (λ_=>G3) (λ_ _=>G3)
theorem Ak.chg{S:List Nat}{ok:Addr→Prop}{w w':World}{v:Value}{l:List (List UInt8)}(h:Ak ok w v l)(x:Chg S w w')(hs:l≠[]→∀a,ok a→a.block∉S):Ak ok w' v l:=Ab.chg h x hs λ_ _ _ _ h=>h
theorem Bn.chg{S:List Nat}{okR:Addr→Prop}{okT:Nat→Addr→Prop}{w w':World}{v:Value}{l:List (List (List UInt8))}(h:Bn okR okT w v l)(x:Chg S w w')(hs:∀a,okR a→a.block∉S)(ht:∀i x a,l[i]?=some x→x≠[]→okT i a→a.block∉S):Bn okR okT w' v l:=
 Ab.chg h x (λ_=>hs) λi y _ hi ⟨v,h1,h2⟩=>⟨v,h1,h2.chg x (λhn a ha=>ht i y a hi hn ha)⟩
theorem Aa.chg{S:List Nat}{okS:Addr→Prop}{okR:Nat→Addr→Prop}{okT:Nat→Nat→Addr→Prop}{w w':World}{v:Value}{l:Ao}(h:Aa okS okR okT w v l)(x:Chg S w w')(hs:∀a,okS a→a.block∉S)(hr:∀i a,i<l.length→okR i a→a.block∉S)(ht:∀i s r y a,l[i]?=some s→s.rows[r]?=some y→y≠[]→okT i r a→a.block∉S):Aa okS okR okT w' v l:=
 Ab.chg h x (λ_=>hs) λi s _ hi ⟨v,h1,h2,h3⟩=>⟨v,h1,h2,h3.chg x (λa ha=>hr i a (Abu.1 hi).1 ha) (λr y a hr hn ha=>ht i s r y a hi hr hn ha)⟩
theorem Ak.ext{ok:Addr→Prop}{w w':World}{v:Value}{l:List (List UInt8)}(h:Ak ok w v l)(x:Ah w w'):Ak ok w' v l:=Ak.chg h x Aei
theorem Bn.ext{okR:Addr→Prop}{okT:Nat→Addr→Prop}{w w':World}{v:Value}{l:List (List (List UInt8))}(h:Bn okR okT w v l)(x:Ah w w'):Bn okR okT w' v l:=Bn.chg h x Aei Aei
theorem Aa.ext{okS:Addr→Prop}{okR:Nat→Addr→Prop}{okT:Nat→Nat→Addr→Prop}{w w':World}{v:Value}{l:Ao}(h:Aa okS okR okT w v l)(x:Ah w w'):Aa okS okR okT w' v l:=Aa.chg h x Aei Aei Aei
theorem Bn.of{okR:Addr→Prop}{okT:Nat→Addr→Prop}{w:World}{v:Value}{l:List (List (List UInt8))}(h:Bn okR okT w v l):Cy w v l:=
 Ab.map h (λ_ _=>trivial) λ_ _ _ _ ⟨v,h1,h2⟩=>⟨v,h1,Ab.map h2 (λ_ _=>trivial) λ_ _ _ _ h=>h⟩
theorem Aa.of{okS:Addr→Prop}{okR:Nat→Addr→Prop}{okT:Nat→Nat→Addr→Prop}{w:World}{v:Value}{l:Ao}(h:Aa okS okR okT w v l):AR w v l:=
 Ab.map h (λ_ _=>trivial) λ_ _ _ _ ⟨v,h1,h2,h3⟩=>⟨v,h1,h2,Bn.of h3⟩
theorem Ak.at{ok:Addr→Prop}{w:World}{p:Option Addr}{c:Nat}{l:List (List UInt8)}(h:Ak ok w (.slice p l.length c) l){i:Nat}{s:List UInt8}(hi:l[i]?=some s):∃a,p=some a∧ok a∧s.length≤1000000∧w.cell? (a.add (((i:Nat):Int).toNat*1))=some (Av s):=by
 obtain⟨a,u,h1,h2,⟨h3,h4⟩,h5⟩:=h.at1 hi;simp only[Ac7,and_true] at h3;subst h3;exact⟨a,h1,h2,h4,h5⟩
theorem Bn.at{okR:Addr→Prop}{okT:Nat→Addr→Prop}{w:World}{p:Option Addr}{c:Nat}{l:List (List (List UInt8))}(h:Bn okR okT w (.slice p l.length c) l){i:Nat}{r:List (List UInt8)}(hi:l[i]?=some r):∃a q k,p=some a∧okR a∧Ak (okT i) w (.slice q r.length k) r∧w.cell? (a.add (((i:Nat):Int).toNat*1))=some (.slice q r.length k):=by
 obtain⟨a,u,h1,h2,⟨v,h3,h4⟩,h5⟩:=h.at1 hi;simp only[Ac7,and_true] at h3;subst h3;obtain⟨q,k,rfl⟩:=h4.slice;exact⟨a,q,k,h1,h2,h4,h5⟩
theorem Aa.at{okS:Addr→Prop}{okR:Nat→Addr→Prop}{okT:Nat→Nat→Addr→Prop}{w:World}{p:Option Addr}{c:Nat}{l:Ao}(h:Aa okS okR okT w (.slice p l.length c) l){i:Nat}{s:Af}(hi:l[i]?=some s):∃a q k,p=some a∧okS a∧s.name.length≤1000000∧Bn (okR i) (okT i) w (.slice q s.rows.length k) s.rows∧∀j u,(Au s (.slice q s.rows.length k))[j]?=some u→w.cell? ((a.add (((i:Nat):Int).toNat*3)).add j)=some u:=by
 obtain⟨a,cs,h1,h2,h3,⟨rv,rfl,h4,h5⟩,h6⟩:=Ab.at h hi;obtain⟨q,k,rfl⟩:=h5.slice;exact⟨a,q,k,h1,h2,h4,h5,h6⟩
theorem Ic:∀a:List UInt8,Op.bytesLess a a=false
 | []=>rfl
 | x::l=>by simp[Op.bytesLess,Ic l]
theorem ED:∀{a b c:List UInt8},Op.bytesLess a b=true→Op.bytesLess b c=true→Op.bytesLess a c=true
 | [],b,[],h,k=>by cases b<;>simp[Op.bytesLess] at h k
 | [],_,_::_,_,_=>by simp[Op.bytesLess]
 | _::_,[],_,h,_=>by simp[Op.bytesLess] at h
 | _::_,_::_,[],_,k=>by simp[Op.bytesLess] at k
 | x::a,y::b,z::c,h,k=>by
  simp only[Op.bytesLess,Acn,AaG,decide_eq_true_eq,beq_iff_eq] at h k ⊢;rcases h with h | ⟨rfl,h⟩
  ·rcases k with k | ⟨rfl,k⟩
   ·exact .inl (UInt8.lt_trans h k)
   ·exact .inl h
  ·rcases k with k | ⟨rfl,k⟩
   ·exact .inl k
   ·exact .inr ⟨rfl,ED h k⟩
theorem Zl{a b:List UInt8}(h:Op.bytesLess a b=true):a≠b:=λe=>by
 subst e;rw[Ic] at h;cases h
theorem J2:∀{b:Ao} {p:Option (List UInt8)},GH p b=true→(∀s∈b,AX s=true∧∀q,p=some q→Op.bytesLess q s.name=true)∧b.Pairwise (λs u=>Op.bytesLess s.name u.name=true)
 | [],_,_=>⟨by simp,.nil⟩
 | s::r,p,h=>by
  simp only[GH,AaG] at h;obtain⟨⟨h1,h2⟩,h3⟩:=h;obtain⟨h4,h5⟩:=J2 h3;refine⟨λu hu=>?_,.cons (λu hu=>(h4 u hu).2 _ rfl) h5⟩;rcases AaH.1 hu with rfl | hu
  ·refine⟨h2,λq hq=>?_⟩;subst hq;exact h1
  ·refine⟨(h4 u hu).1,λq hq=>?_⟩;subst hq;exact ED h1 ((h4 u hu).2 _ rfl)
theorem Re:∀{b:Ao} {p:Option (List UInt8)},(∀s∈b,AX s=true∧∀q,p=some q→Op.bytesLess q s.name=true)→b.Pairwise (λs u=>Op.bytesLess s.name u.name=true)→GH p b=true
 | [],_,_,_=>rfl
 | s::r,p,h,k=>by
  obtain⟨k1,k2⟩:=AcX.1 k;simp only[GH,AaG];refine⟨⟨?_,(h s (Ab6 ..)).1⟩,Re (λu hu=>⟨(h u (Abk _ hu)).1,λq hq=>?_⟩) k2⟩
  ·cases p with
   | none=>rfl
   | some q=>exact(h s (Ab6 ..)).2 q rfl
  ·simp only[Aa3] at hq;rw[←hq];exact k1 u hu
theorem Co{b:Ao}:Aw b=true↔b.length≤5∧(∀s∈b,AX s=true)∧b.Pairwise (λs u=>Op.bytesLess s.name u.name=true):=by
 unfold Aw;rw[AaG,decide_eq_true_eq];constructor
 ·rintro⟨h1,h2⟩;exact⟨h1,λs hs=>((J2 h2).1 s hs).1,(J2 h2).2⟩
 ·rintro⟨h1,h2,h3⟩;exact⟨h1,Re (λs hs=>⟨h2 s hs,λq hq=>by cases hq⟩) h3⟩
theorem Aan{b:Ao}(h:b.Pairwise (λs u=>Op.bytesLess s.name u.name=true)){i:Nat}{s:Af}(hi:b[i]?=some s):Pq b s.name=some i:=by
 refine WL hi rfl λj u hj hu=>?_;obtain⟨hl,e⟩:=Abu.1 hi;obtain⟨a0,e'⟩:=Abu.1 hu;have:=AdA.1 h j i a0 hl hj;rw[e,e'] at this;exact Zl this
def Abi:E6 (List UInt8):=λ_ _ cs s=>cs=[Av s]∧s.length≤9223372036854775807
abbrev Gs:World→Value→List (List UInt8)→Prop:=Ab 1 G3 Abi
def Ab2:E6 (List (List UInt8)):=λ_ w cs r=>∃v,cs=[v]∧Gs w v r
abbrev HR:World→Value→List (List (List UInt8))→Prop:=Ab 1 G3 Ab2
def ZA:E6 Af:=λ_ w cs s=>∃rv,cs=Au s rv∧s.name.length≤1000000∧HR w rv s.rows
abbrev Fv:World→Value→Ao→Prop:=Ab 3 G3 ZA
theorem Gs.ext{w w':World}{v:Value}{l:List (List UInt8)}(h:Gs w v l)(x:Ah w w'):Gs w' v l:=Ab.ext' h x λ_ _ _ _ h=>h
theorem HR.ext{w w':World}{v:Value}{l:List (List (List UInt8))}(h:HR w v l)(x:Ah w w'):HR w' v l:=Ab.ext' h x λ_ _ _ _ ⟨v,e,h⟩=>⟨v,e,Gs.ext h x⟩
theorem Fv.ext{w w':World}{v:Value}{l:Ao}(h:Fv w v l)(x:Ah w w'):Fv w' v l:=Ab.ext' h x λ_ _ _ _ ⟨rv,e,hn,h⟩=>⟨rv,e,hn,HR.ext h x⟩
theorem Gs.at{w:World}{p:Option Addr}{c:Nat}{l:List (List UInt8)}(h:Gs w (.slice p l.length c) l){i:Nat}{s:List UInt8}(hi:l[i]?=some s):∃a,p=some a∧G3 a∧s.length≤9223372036854775807∧w.cell? (a.add (((i:Nat):Int).toNat*1))=some (Av s):=by
 obtain⟨a,u,h1,h2,⟨e,h3⟩,h4⟩:=Ab.at1 h hi;obtain rfl:=(List.cons.inj e).1;exact⟨a,h1,h2,h3,h4⟩
theorem HR.at{w:World}{p:Option Addr}{c:Nat}{l:List (List (List UInt8))}(h:HR w (.slice p l.length c) l){i:Nat}{r:List (List UInt8)}(hi:l[i]?=some r):∃a q k,p=some a∧G3 a∧Gs w (.slice q r.length k) r∧w.cell? (a.add (((i:Nat):Int).toNat*1))=some (.slice q r.length k):=by
 obtain⟨a,u,h1,h2,⟨u',e,h3⟩,h4⟩:=Ab.at1 h hi;obtain rfl:=(List.cons.inj e).1;obtain⟨q,k,rfl⟩:=Ab.slice h3;exact⟨a,q,k,h1,h2,h3,h4⟩
theorem Fv.at{w:World}{p:Option Addr}{c:Nat}{l:Ao}(h:Fv w (.slice p l.length c) l){i:Nat}{s:Af}(hi:l[i]?=some s):∃a q k,p=some a∧G3 a∧s.name.length≤1000000∧HR w (.slice q s.rows.length k) s.rows∧∀j u,(Au s (.slice q s.rows.length k))[j]?=some u→w.cell? ((a.add (((i:Nat):Int).toNat*3)).add j)=some u:=by
 obtain⟨a,cs,h1,h2,-,⟨rv,rfl,h3,h4⟩,h5⟩:=Ab.at h hi;obtain⟨q,k,rfl⟩:=Ab.slice h4;exact⟨a,q,k,h1,h2,h3,h4,h5⟩
theorem Ak.loose{ok:Addr→Prop}{w:World}{v:Value}{l:List (List UInt8)}(h:Ak ok w v l):Gs w v l:=Ab.map h (λ_ _=>trivial) λ_ _ _ _ ⟨e,h⟩=>⟨e,by omega⟩
theorem Bn.loose{okR:Addr→Prop}{okT:Nat→Addr→Prop}{w:World}{v:Value}{l:List (List (List UInt8))}(h:Bn okR okT w v l):HR w v l:=Ab.map h (λ_ _=>trivial) λ_ _ _ _ ⟨v,e,h⟩=>⟨v,e,Ak.loose h⟩
theorem Aa.loose{okS:Addr→Prop}{okR:Nat→Addr→Prop}{okT:Nat→Nat→Addr→Prop}{w:World}{v:Value}{l:Ao}(h:Aa okS okR okT w v l):Fv w v l:=Ab.map h (λ_ _=>trivial) λ_ _ _ _ ⟨rv,e,hn,h⟩=>⟨rv,e,hn,Bn.loose h⟩
theorem GI{s:List UInt8}(h:Cs s=true):s.length≤300:=by
 unfold Cs at h
 split at h
 ·cases h
 ·omega
def DT(n:Nat):List UInt8:=if h:n<128 then[UInt8.ofNat n] else UInt8.ofNat (n % 128+128)::DT (n / 128)
 termination_by n
 decreasing_by omega
def SJ:Nat→Nat→List UInt8→Option (Nat×Nat)
 | 0,_,_=>none
 | _+1,_,[]=>none
 | k+1,i,c::r=>if 128≤c.toNat then(match SJ k (i+1) r with | none=>none | some (n,m)=>some (c.toNat - 128+128*n,m+1)) else if c.toNat=0∧0<i then none else some (c.toNat,1)
def Zb(b:List UInt8)(i:Nat):Option (Nat×Nat):=match SJ 9 0 (b.drop i) with
 | none=>none
 | some (n,m)=>some (n,i+m)
def Fk(s:List UInt8):List UInt8:=DT s.length++s
def Aav(b:List UInt8)(i:Nat):Option (List UInt8×Nat):=match Zb b i with
 | none=>none
 | some (n,j)=>if n≤b.length - j then some ((b.drop j).take n,j+n) else none
def Fj(l:List (List UInt8)):List UInt8:=DT l.length++l.flatMap Fk
def QM(b:List UInt8):Nat→Nat→Option (List (List UInt8)×Nat)
 | 0,j=>some ([],j)
 | n+1,j=>match Aav b j with
  | none=>none
  | some (s,k)=>match QM b n k with
   | none=>none
   | some (l,m)=>some (s::l,m)
def AaT(b:List UInt8)(i:Nat):Option (List (List UInt8)×Nat):=match Zb b i with
 | none=>none
 | some (n,j)=>if n≤b.length - j then QM b n j else none
theorem H1{n:Nat}(h:n<128):DT n=[UInt8.ofNat n]:=by rw[DT,dif_pos h]
theorem Km{n:Nat}(h:128≤n):DT n=UInt8.ofNat (n % 128+128)::DT (n / 128):=by rw[DT,dif_neg AdV]
theorem Kw{n:Nat}(h:n<256):(UInt8.ofNat n).toNat=n:=by simp;omega
theorem Uc:∀(k i n:Nat) (r:List UInt8),0<k→n<128 ^ k→(0<i→0<n)→SJ k i (DT n++r)=some (n,(DT n).length)
 | 0,_,_,_,h,_,_=>by omega
 | k+1,i,n,r,_,h,hi=>by
  by_cases h1:n<128
  ·rw[H1 h1];show SJ (k+1) i (UInt8.ofNat n::r)=_;rw[SJ,Kw AdV,if_neg AdV];by_cases h2:n=0∧0<i
   ·exact absurd (hi h2.2) AdV
   ·rw[if_neg h2];rfl
  ·rw[Km AdV];show SJ (k+1) i (UInt8.ofNat (n % 128+128)::(DT (n / 128)++r))=_;have hk:0<k:=by
    rcases Adt k with e | e
    ·subst e;simp at h;omega
    ·exact e
   have ih:=Uc k (i+1) (n / 128) r hk (by rw[Nat.pow_succ] at h;omega) AdV;rw[SJ,Kw AdV,if_pos AdV,ih];simp only[Aa3,AbK,AaF,and_true];omega
theorem Yj(n:Nat):0<(DT n).length:=by
 by_cases h:n<128
 ·rw[H1 h];simp
 ·rw[Km AdV];simp
theorem M1{b p r:List UInt8}{i:Nat}(h:b.drop i=p++r):b.drop (i+p.length)=r:=by
 rw[←List.drop_drop,h,Ad6]
theorem Ub{b r:List UInt8}{i n:Nat}(h:b.drop i=DT n++r)(hn:n<128 ^ 9):Zb b i=some (n,i+(DT n).length):=by
 rw[Zb,h,Uc 9 0 n r AdZ hn AdV]
theorem Zc{b r s:List UInt8}{i:Nat}(h:b.drop i=Fk s++r)(hn:s.length<128 ^ 9):Aav b i=some (s,i+(Fk s).length):=by
 rw[Fk,B8] at h;rw[Aav,Ub h hn];have h2:=M1 h;have h3:(b.drop (i+(DT s.length).length)).length=(s++r).length:=by rw[h2]
 rw[Abs,B6] at h3;show(if s.length≤b.length - (i+(DT s.length).length) then _ else _)=_;rw[if_pos AdV,h2,AdS,Fk,B6,AcG]
theorem QN{b r:List UInt8}:∀{l:List (List UInt8)} {i:Nat},b.drop i=l.flatMap Fk++r→(∀s∈l,s.length<128 ^ 9)→QM b l.length i=some (l,i+(l.flatMap Fk).length)
 | [],i,_,_=>by simp[QM]
 | s::l,i,h,hs=>by
  rw[AbX,B8] at h;rw[AaF,QM,Zc h (hs s (Ab6 ..))];simp only;rw[QN (M1 h) λs h=>hs s (Abk _ h)];simp[AcG]
theorem Yk(s:List UInt8):0<(Fk s).length:=by
 have:=Yj s.length;rw[Fk,B6];omega
theorem Pe:∀(l:List (List UInt8)),l.length≤(l.flatMap Fk).length
 | []=>by simp
 | s::l=>by
  have:=Pe l;have:=Yk s;rw[AbX,B6,AaF];omega
theorem Ua{b r:List UInt8}{l:List (List UInt8)}{i:Nat}(h:b.drop i=Fj l++r)(hl:l.length<128 ^ 9)(hs:∀s∈l,s.length<128 ^ 9):AaT b i=some (l,i+(Fj l).length):=by
 rw[Fj,B8] at h;rw[AaT,Ub h hl];have h2:=M1 h;have h3:(b.drop (i+(DT l.length).length)).length=(l.flatMap Fk++r).length:=by rw[h2]
 rw[Abs,B6] at h3;have:=Pe l;show(if l.length≤b.length - (i+(DT l.length).length) then _ else _)=_;rw[if_pos AdV,QN h2 hs,Fj,B6,AcG]
section
variable {α:Type} [DecidableEq α]
def BI:List α→List α→Nat
 | [],_=>0
 | _::_,[]=>0
 | x::a,y::b=>if x=y then BI a b+1 else max (BI a (y::b)) (BI (x::a) b)
 termination_by a b=>a.length+b.length
def AG:List α→List α→Nat→Nat→List (Nat×Nat)
 | [],_,_,_=>[]
 | _::_,[],_,_=>[]
 | x::a,y::b,i,k=>if x=y then(i,k)::AG a b (i+1) (k+1) else if BI (x::a) b≤BI a (y::b) then AG a (y::b) (i+1) k else AG (x::a) b i (k+1)
 termination_by a b _ _=>a.length+b.length
theorem L9:∀(a:List α) (i k:Nat),AG a a i k=(List.range a.length).map λj=>(i+j,k+j)
 | [],_,_=>by simp[AG]
 | x::a,i,k=>by
  rw[AG,if_pos rfl,L9 a,AaF,List.range_succ_eq_map];simp only[Acb,Adn,Ac9,Ac7,true_and];apply Acq;intro j _;simp only[Function.comp,AbK];omega
theorem IX:∀(a b:List α) (i k:Nat),∀p∈AG a b i k,i≤p.1∧p.1<i+a.length∧k≤p.2∧p.2<k+b.length
 | [],_,_,_,p,h=>by simp[AG] at h
 | _::_,[],_,_,p,h=>by simp[AG] at h
 | x::a,y::b,i,k,p,h=>by
  rw[AG] at h;simp only[AaF]
  split at h
  ·rcases AaH.1 h with rfl | h
   ·simp
   ·have:=IX a b (i+1) (k+1) p h;omega
  split at h
  ·have:=IX a (y::b) (i+1) k p h;simp only[AaF] at this;omega
  ·have:=IX (x::a) b i (k+1) p h;simp only[AaF] at this;omega
 termination_by a b _ _=>a.length+b.length
theorem Ib{β:Type}[DecidableEq β]{f:α→β}:∀(a b:List α),(∀x∈a,∀y∈b,f x=f y→x=y)→BI (a.map f) (b.map f)=BI a b
 | [],_,_=>by simp[BI]
 | _::_,[],_=>by simp[BI]
 | x::a,y::b,h=>by
  have hxy:(f x=f y)↔(x=y):=⟨h x (Ab6 ..) y (Ab6 ..),λe=>by rw[e]⟩;have h1:=Ib (f:=f) a b λu hu v hv=>h u (Abk _ hu) v (Abk _ hv);have h2:=Ib (f:=f) a (y::b) λu hu v hv=>h u (Abk _ hu) v hv;have h3:=Ib (f:=f) (x::a) b λu hu v hv=>h u hu v (Abk _ hv);simp only[Acb] at h2 h3 ⊢;rw[BI,BI,h1,h2,h3];by_cases e:x=y
  ·rw[if_pos (hxy.2 e),if_pos e]
  ·rw[if_neg (λk=>e (hxy.1 k)),if_neg e]
 termination_by a b=>a.length+b.length
theorem Hy{β:Type}[DecidableEq β]{f:α→β}:∀(a b:List α) (i k:Nat),(∀x∈a,∀y∈b,f x=f y→x=y)→AG (a.map f) (b.map f) i k=AG a b i k
 | [],_,_,_,_=>by simp[AG]
 | _::_,[],_,_,_=>by simp[AG]
 | x::a,y::b,i,k,h=>by
  have hxy:(f x=f y)↔(x=y):=⟨h x (Ab6 ..) y (Ab6 ..),λe=>by rw[e]⟩;have g1:∀u∈a,∀v∈b,f u=f v→u=v:=λu hu v hv=>h u (Abk _ hu) v (Abk _ hv);have g2:∀u∈a,∀v∈y::b,f u=f v→u=v:=λu hu v hv=>h u (Abk _ hu) v hv;have g3:∀u∈x::a,∀v∈b,f u=f v→u=v:=λu hu v hv=>h u hu v (Abk _ hv);have l2:=Ib (f:=f) a (y::b) g2;have l3:=Ib (f:=f) (x::a) b g3;have h1:=Hy (f:=f) a b (i+1) (k+1) g1;have h2:=Hy (f:=f) a (y::b) (i+1) k g2;have h3:=Hy (f:=f) (x::a) b i (k+1) g3;simp only[Acb] at l2 l3 h2 h3 ⊢;rw[AG,AG,l2,l3,h1,h2,h3];by_cases e:x=y
  ·rw[if_pos (hxy.2 e),if_pos e]
  ·rw[if_neg (λk=>e (hxy.1 k)),if_neg e]
 termination_by a b _ _=>a.length+b.length
end
def BJ(n:Nat)(ps:List (Nat×Nat)):List Int:=ps.foldl (λl p=>l.set p.1 (p.2:Int)) (List.replicate n (-1))
def CZ(new:Int):List Int→Int
 | []=>new
 | k::r=>if 0≤k then k else CZ new r
def DI(new:Int):Int→List Int→List Int
 | _,[]=>[]
 | free,k::r=>if 0≤k then k::DI new (k+1) r else if free<CZ new r then free::DI new (free+1) r else -1::DI new free r
theorem EU(n:Nat)(ps:List (Nat×Nat)):(BJ n ps).length=n:=by
 unfold BJ;have:∀(ps:List (Nat×Nat)) (l:List Int),(ps.foldl (λl p=>l.set p.1 (p.2:Int)) l).length=l.length:=λps=>by
  induction ps with
  | nil=>simp
  | cons p r ih=>intro l;rw[AcN,ih,Acs]
 rw[this];simp
theorem ID(new:Int):∀(free:Int) (l:List Int),(DI new free l).length=l.length
 | _,[]=>rfl
 | free,k::r=>by
  rw[DI]
  split
  ·simp[ID new (k+1) r]
  split
  ·simp[ID new (free+1) r]
  ·simp[ID new free r]
theorem M4(new:Int):∀(free:Int) (l:List Int),(∀k∈l,0≤k)→DI new free l=l
 | _,[],_=>rfl
 | free,k::r,h=>by
  rw[DI,if_pos (h k (Ab6 ..)),M4 new (k+1) r λx hx=>h x (Abk _ hx)]
def LF(n:Nat):List Int:=(List.range n).map λ(i:Nat)=>(i:Int)
def AU{α:Type}[DecidableEq α](a b:List α):List Int:=DI b.length 0 (BJ a.length (AG a b 0 0))
theorem Gj{α:Type}[DecidableEq α](a b:List α):(AU a b).length=a.length:=by rw[AU,ID,EU]
theorem Kb:∀(n m:Nat),m≤n→BJ n ((List.range m).map λj=>(0+j,0+j))=LF m++List.replicate (n - m) (-1)
 | n,0,_=>by simp[BJ,LF]
 | n,m+1,h=>by
  have ih:=Kb n m AdV;unfold BJ at ih ⊢;rw[Ace,AbT,AdE,ih];simp only[Acb,Ac3,AcN,List.foldl_nil,Acd];rw[Ac1 _ _ (by simp[LF]),show m - (LF m).length=0 by simp[LF],show n - m=(n - (m+1))+1 by omega,Ac0,AcY];simp[LF,Ace]
theorem PN{α:Type}[DecidableEq α](a:List α):AU a a=LF a.length:=by
 rw[AU,L9,Kb _ _ (Abv _),AcP,List.replicate_zero,AbG];exact M4 _ _ _ λk hk=>by
  simp only[LF,AbJ] at hk;obtain⟨i,_,rfl⟩:=hk;omega
def D4(r:List (List UInt8)):List UInt8:=Fj (r.filter λs=>decide (s≠[]))
def Bb(a b:Af):List Int:=AU (a.rows.map D4) (b.rows.map D4)
def DD(a b:Af)(m:List Int):List (Nat×Nat):=(List.range a.rows.length).filterMap λi=>match (m[i]?:Option Int) with
 | none=>none
 | some (k:Int)=>if 0≤k∧k<b.rows.length∧D4 (a.rows.getD i [])=D4 (b.rows.getD k.toNat []) then some (i,k.toNat) else none
def He(s:Af)(rs:List Nat)(c:Nat):List UInt8:=Fj (rs.map λr=>(s.rows.getD r []).getD c [])
def BB(s:Af)(rs:List Nat):List (List UInt8):=(List.range s.cols.toNat).map (He s rs)
def DE(a b:Af)(m:List Int):List Int:=AU (BB a ((DD a b m).map Prod.fst)) (BB b ((DD a b m).map Prod.snd))
section
variable {α:Type} [DecidableEq α]
def Gd:List α→List α→Nat→List Int
 | [],_,_=>[]
 | _::a,[],k=>-1::Gd a [] k
 | x::a,y::b,k=>if x=y then(k:Int)::Gd a b (k+1) else if BI (x::a) b≤BI a (y::b) then -1::Gd a (y::b) k else Gd (x::a) b (k+1)
 termination_by a b _=>a.length+b.length
theorem KG:∀(a:List α) (k:Nat),Gd a [] k=List.replicate a.length (-1)
 | [],_=>by simp[Gd]
 | x::a,k=>by rw[Gd,KG a k,AaF,Ac0]
theorem JV:∀(a b:List α) (i k:Nat) (pre:List Int),pre.length=i→(AG a b i k).foldl (λl p=>l.set p.1 (p.2:Int)) (pre++List.replicate a.length (-1))=pre++Gd a b k
 | [],_,_,_,pre,_=>by simp[AG,Gd]
 | x::a,[],i,k,pre,_=>by
  rw[KG]
  simp[AG]
 | x::a,y::b,i,k,pre,h=>by
  rw[AG,Gd]
  split
  ·rw[AcN];simp only[AaF,Ac0];rw[Ac1 _ _ AdV,h,AcP,AcY];have:=JV a b (i+1) (k+1) (pre++[(k:Int)]) (by simp[h]);rw[B8,Adf] at this;rw[this,B8,Adf]
  split
  ·have:=JV a (y::b) (i+1) k (pre++[-1]) (by simp[h]);rw[B8,Adf] at this;simp only[AaF,Ac0];rw[this,B8,Adf]
  ·exact JV (x::a) b i (k+1) pre h
 termination_by a b _ _ _=>a.length+b.length
theorem J0(a b:List α):BJ a.length (AG a b 0 0)=Gd a b 0:=by
 have:=JV a b 0 0 [] rfl
 simpa[BJ] using this
theorem LB{new:Int}:∀{l:List Int} {last last':Int},Bw new last l=true→last'≤last→Bw new last' l=true
 | [],_,_,_,_=>rfl
 | z::r,last,last',h,hl=>by
  rw[Bw] at h ⊢
  split at h
  ·rename_i e;rw[if_pos e];exact LB h hl
  ·rename_i e;rw[if_neg e]
   split at h
   ·cases h
   ·rw[if_neg AdV];exact h
theorem Nu(new last:Int):∀n:Nat,Bw new last (List.replicate n (-1))=true
 | 0=>rfl
 | n+1=>by rw[Ac0,Bw,if_pos rfl,Nu new last n]
theorem IH:∀(a b:List α) (k:Nat),Bw ((k+b.length:Nat):Int) ((k:Int) - 1) (Gd a b k)=true
 | [],_,_=>by simp[Gd,Bw]
 | x::a,[],k=>by rw[KG];exact Nu _ _ _
 | x::a,y::b,k=>by
  rw[Gd]
  split
  ·rw[Bw,if_neg AdV,if_neg (by simp only[AaF];omega)];have:=IH a b (k+1);rw[show k+(y::b).length=k+1+b.length by simp only[AaF];omega];rw[show(((k+1:Nat):Int) - 1)=(k:Int) by omega] at this;exact this
  split
  ·rw[Bw,if_pos rfl];exact IH a (y::b) k
  ·have:=IH (x::a) b (k+1);rw[show k+(y::b).length=k+1+b.length by simp only[AaF];omega];exact LB this AdV
 termination_by a b _=>a.length+b.length
theorem MW{new:Int}:∀{l:List Int} {last:Int},Bw new last l=true→CZ new l≤new
 | [],_,_=>Adi _
 | z::r,last,h=>by
  rw[Bw] at h;rw[CZ]
  split at h
  ·rename_i e;rw[if_neg AdV];exact MW h
  ·split at h
   ·cases h
   ·rename_i e1 e2
    split
    ·omega
    ·exact MW h
theorem LC{new f:Int}:∀{l:List Int} {last:Int},-1≤last→Bw new last l=true→last≤f→f<CZ new l→Bw new f l=true
 | [],_,_,_,_,_=>rfl
 | z::r,last,h0,h,hl,hf=>by
  rw[Bw] at h ⊢;rw[CZ] at hf
  split at h
  ·rename_i e;rw[if_neg AdV] at hf;rw[if_pos e];exact LC h0 h hl hf
  ·rename_i e;rw[if_neg e]
   split at h
   ·cases h
   ·rw[if_pos AdV] at hf;rw[if_neg AdV];exact h
theorem IE{new:Int}:∀{l:List Int} {free:Int},0≤free→Bw new (free - 1) l=true→Bw new (free - 1) (DI new free l)=true
 | [],_,_,_=>rfl
 | k::r,free,h0,h=>by
  rw[Bw] at h;rw[DI];by_cases e:k=-1
  ·rw[if_pos e] at h;rw[if_neg AdV];by_cases hn:free<CZ new r
   ·rw[if_pos hn,Bw,if_neg AdV,if_neg (by have:=MW h;omega)];have h2:=LC (f:=free) AdV h AdV hn;have:=IE (free:=free+1) (l:=r) AdV (by rw[show free+1 - 1=free by omega];exact h2)
    rwa [show free+1 - 1=free by omega] at this
   ·rw[if_neg hn,Bw,if_pos rfl];exact IE h0 h
  ·rw[if_neg e] at h
   split at h
   ·cases h
   ·rename_i hc;rw[if_pos AdV,Bw,if_neg e,if_neg hc];have:=IE (free:=k+1) (l:=r) AdV (by rw[show k+1 - 1=k by omega];exact h)
    rwa [show k+1 - 1=k by omega] at this
theorem J7(a b:List α)(ha:a.length≤1048576)(hb:b.length≤1048576):Er ⟨AU a b,b.length⟩=true:=by
 have h1:Bw (b.length:Int) (-1) (AU a b)=true:=by
  rw[AU,J0];have:=IH a b 0;simp only[Acd] at this;exact IE (free:=0) (Adi _) this
 simp[Er,h1,Gj];omega
end
def Aj(a b:Af):Bl:={sheet:=a.name,rows:=⟨Bb a b,b.rows.length⟩,cols:=⟨DE a b (Bb a b),((b.cols.toNat:Nat):Int)⟩,gone:=false}
theorem FV{a b:Af}(ha:AX a=true)(hb:AX b=true):(Aj a b).May:=by
 have key:∀s:Af,AX s=true→s.rows.length≤24∧s.cols≤12:=λs h=>by
  simp only[AX,AaG,decide_eq_true_eq] at h;omega
 obtain⟨a1,a2⟩:=key a ha;obtain⟨b1,b2⟩:=key b hb;refine⟨?_,?_⟩
 ·have:=J7 (a.rows.map D4) (b.rows.map D4) AdY AdY
  simpa[Aj,Bb] using this
 ·have:=J7 (BB a ((DD a b (Bb a b)).map Prod.fst)) (BB b ((DD a b (Bb a b)).map Prod.snd)) (by simp[BB];omega) (by simp[BB];omega)
  simpa[Aj,DE,BB] using this
def DA(new:Int):List Int→List Int
 | []=>[]
 | k::r=>(if 0≤k then k else -1 - CZ new r)::DA new r
theorem K9(new:Int):∀l:List Int,(DA new l).length=l.length
 | []=>rfl
 | _::r=>by simp[DA,K9 new r]
theorem L8{new M:Int}(h0:0≤new)(h1:new≤M):∀{l:List Int},(∀z∈l,z≤M)→0≤CZ new l∧CZ new l≤M
 | [],_=>⟨h0,h1⟩
 | k::r,h=>by
  unfold CZ
  split
  ·exact⟨by assumption,h k Aei⟩
  ·exact L8 h0 h1 λz hz=>h z (by simp[hz])
theorem HZ{l:List Int}{j:Nat}{z:Int}(h:l[j]?=some z):l.drop j=z::l.drop (j+1):=by
 obtain⟨hj,rfl⟩:=Abu.1 h;exact AcL hj
def G4(new:Int)(l:List Int)(i:Nat):List Int:=l.take i++DA new (l.drop i)
theorem UO(new:Int)(l:List Int):G4 new l l.length=l:=by simp[G4,DA]
theorem S3(new:Int)(l:List Int):G4 new l 0=DA new l:=by simp[G4]
theorem YB{l:List Int}{j:Nat}{z:Int}(h:l[j]?=some z):l.take (j+1)=l.take j++[z]:=by rw[AbU,h];rfl
theorem Sv{new:Int}{l:List Int}{i:Nat}{z:Int}(h:l[i]?=some z)(hz:0≤z):G4 new l i=G4 new l (i+1)∧CZ new (l.drop i)=z:=by
 rw[G4,G4,HZ h,YB h,DA,if_pos hz,B8];exact⟨rfl,by rw[CZ,if_pos hz]⟩
theorem Sy{new:Int}{l:List Int}{i:Nat}{z:Int}(h:l[i]?=some z)(hz:¬0≤z):(G4 new l (i+1)).set i (-1 - CZ new (l.drop (i+1)))=G4 new l i∧CZ new (l.drop i)=CZ new (l.drop (i+1)):=by
 have hi:=(Abu.1 h).1;rw[G4,G4,HZ h,YB h,DA,if_neg hz,B8,Ac1 _ _ Aey,Abf,Nat.min_eq_left AdV,AcP];exact⟨rfl,by rw[CZ,if_neg hz]⟩
structure Jq(new:Int)(l:List Int)(j:Nat)(done:List Int)(free:Int):Prop where
 len:done.length=j
 done:done++DI new free (l.drop j)=DI new 0 l
 free0:0≤free
theorem Jq.start(new:Int)(l:List Int):Jq new l 0 [] 0:=⟨rfl,by simp,by omega⟩
theorem Jq.kept{new:Int}{l:List Int}{j:Nat}{done:List Int}{free z:Int}(h:Jq new l j done free)(hz:l[j]?=some z)(h0:0≤z):Jq new l (j+1) (done++[z]) (z+1):=
 ⟨by simp[h.len],by rw[←h.done,HZ hz,DI,if_pos h0];simp,by omega⟩
theorem Jq.fill{new:Int}{l:List Int}{j:Nat}{done:List Int}{free z:Int}(h:Jq new l j done free)(hz:l[j]?=some z)(h0:¬0≤z)(hf:free<CZ new (l.drop (j+1))):Jq new l (j+1) (done++[free]) (free+1):=
 ⟨by simp[h.len],by rw[←h.done,HZ hz,DI,if_neg h0,if_pos hf];simp,by have:=h.free0;omega⟩
theorem Jq.gone{new:Int}{l:List Int}{j:Nat}{done:List Int}{free z:Int}(h:Jq new l j done free)(hz:l[j]?=some z)(h0:¬0≤z)(hf:¬free<CZ new (l.drop (j+1))):Jq new l (j+1) (done++[-1]) free:=
 ⟨by simp[h.len],by rw[←h.done,HZ hz,DI,if_neg h0,if_neg hf];simp,h.free0⟩
theorem Jq.all{new:Int}{l:List Int}{done:List Int}{free:Int}(h:Jq new l l.length done free):done=DI new 0 l:=by
 rw[←h.done];simp[DI]
theorem Vo{new:Int}{l:List Int}{j:Nat}{z x:Int}{done:List Int}(hl:done.length=j)(hz:l[j]?=some z):(done++DA new (l.drop j)).set j x=(done++[x])++DA new (l.drop (j+1)):=by
 rw[HZ hz,DA,Ac1 _ _ AdV,hl,AcP];simp
theorem Za{new:Int}{l:List Int}{j:Nat}{z:Int}{done:List Int}(hl:done.length=j)(hz:l[j]?=some z):(done++DA new (l.drop j))[j]?=some (if 0≤z then z else -1 - CZ new (l.drop (j+1))):=by
 rw[HZ hz,DA,Aca AdV,hl,AcP];rfl
theorem Xv{new:Int}{l:List Int}{j:Nat}{z:Int}{done:List Int}(hz:l[j]?=some z)(h0:0≤z):done++DA new (l.drop j)=(done++[z])++DA new (l.drop (j+1)):=by
 rw[HZ hz,DA,if_pos h0];simp
theorem Yi{l m:List (List UInt8)}(hl:l.length<128 ^ 9)(hs:∀s∈l,s.length<128 ^ 9)(hm:m.length<128 ^ 9)(ht:∀s∈m,s.length<128 ^ 9)(h:Fj l=Fj m):l=m:=by
 have h1:=Ua (b:=Fj l) (r:=[]) (i:=0) Aei hl hs;have h2:=Ua (b:=Fj l) (r:=[]) (i:=0) (l:=m) (by rw[←h];simp) hm ht;rw[h1] at h2;simp only[Aa3,AbK] at h2;exact h2.1
theorem Rw{α β:Type}[DecidableEq α][DecidableEq β]{f:α→β}(a b:List α)(h:∀x∈a,∀y∈b,f x=f y→x=y):AU (a.map f) (b.map f)=AU a b:=by
 rw[AU,AU,Hy a b 0 0 h,Abr,Abr]
abbrev Ef(lo:Nat)(w:World)(v:Value)(l:List UInt8):Prop:=E.Own w lo 5 1 v l.length (AO l)
theorem Q2(l:List UInt8):(AO l).length=l.length:=by simp[AO]
theorem Jr(l m:List UInt8):AO (l++m)=AO l++AO m:=by simp[AO]
theorem S5(l:List UInt8):∀u∈AO l,u.oneCell'=true:=λu hu=>by
 simp only[AO,AbJ] at hu;obtain⟨b,_,rfl⟩:=hu;rfl
theorem Aa6:∀k,k<256→bits .or .u8 ((k:Nat):Int) 128=((k % 128+128:Nat):Int):=by decide +kernel
theorem AaY(m:Nat):bits .or .u8 ((UInt8.ofNat m).toNat:Int) 128=((UInt8.ofNat (m % 128+128)).toNat:Int):=by
 have e:(UInt8.ofNat m).toNat=m % 256:=Aei
 rw[e,Aa6 _ (Nat.mod_lt _ AdZ),Kw AdV]
 congr 1
 omega
theorem R6:∀(k n:Nat),0<k→n<128 ^ k→(DT n).length≤k
 | 0,_,h,_=>by omega
 | k+1,n,_,h=>by
  by_cases h1:n<128
  ·rw[H1 h1];simp
  ·have hk:0<k:=by
    rcases Adt k with e | e
    ·subst e;simp at h;omega
    ·exact e
   rw[Km AdV,AaF];have:=R6 k (n / 128) hk (by rw[Nat.pow_succ] at h;omega);omega
theorem EL{n:Nat}(h:n≤9223372036854775807):(DT n).length≤10:=R6 10 n AdZ (Nat.lt_of_le_of_lt h AdZ)
theorem R7{s:List UInt8}(h:s.length≤1000000):(Fk s).length≤1000010:=by
 have:=EL (n:=s.length) AdV;rw[Fk,B6];omega
theorem LG:∀{l:List (List UInt8)},(∀s∈l,s.length≤1000000)→(l.flatMap Fk).length≤l.length*1000010
 | [],_=>by simp
 | s::l,h=>by
  have:=LG (l:=l) λu hu=>h u (Abk _ hu);have:=R7 (h s (Ab6 ..));rw[AbX,B6,AaF,Acw];omega
set_option maxRecDepth 8000 in
theorem TH(n:Nat)(hn:n≤9223372036854775807)(w:World):AN prog 259 [.int .i64 (n:Int)] w (λv w'=>Ef w.heap.size w' v (DT n)∧Ah w w'):=by
 refine Bq func259 ntmps259 ?_;refine Su ?_;refine CW.loop (ι:=Nat×List UInt8×Value) (λx w'=>x.2.1++DT x.1=DT n∧x.1≤n∧Ah w w'∧E.Own w' w.heap.size 5 1 x.2.2 x.2.1.length (AO x.2.1)) (λx=>[(0,.int .i64 x.1),(3,x.2.2)]) (λx=>x.1) (n,[],.slice none 0 0) ⟨rfl,Abv _,Chg.refl _ _,Own.nil _ _ _ _⟩ LK ?_;rintro⟨m,out,ov⟩ w1 ⟨a2,a5,a3,hO⟩;dsimp only at a2 a5 hO;show CW _ _ _ _ _ [(0,.int .i64 (m:Int)),(3,ov)] _;have a8:out.length≤10:=by
  have:=congrArg List.length a2;rw[B6] at this;have:=EL hn;omega
 refine Su ?_;refine AB (λh1=>?_) λh1=>?_
 ·have h1:128≤m:=by simp at h1;omega
  refine Su ?_;refine LW.val rfl rfl rfl (Y.low (m:=m) rfl rfl rfl rfl rfl) ?_;refine LW.bits (z:=((UInt8.ofNat (m % 128+128)).toNat:Int)) rfl rfl rfl (AaY m) rfl ?_;refine CF λB w2 a6 a0 hB=>?_;refine LW.append (lo:=w.heap.size) (k:=out.length) rfl rfl rfl rfl rfl rfl (hO.ext a0) (by have:=a3.size;have:=a0.size;omega) hB rfl rfl rfl (by show(out.length+1)*2≤_;omega) rfl ?_;intro v3 w3 a4 a1 a7;replace a1:E.Own w3 w.heap.size 5 1 v3 (out.length+1) (AO out++AO [UInt8.ofNat (m % 128+128)]):=a1;rw[←Jr] at a1;refine Su ?_;refine LW.shr (m:=7) (z:=((m / 128:Nat):Int)) rfl rfl AdZ (by rw[show(2:Int) ^ 7=128 by decide];omega) rfl ?_;refine Su ?_;exact QW.again (m / 128,out++[UInt8.ofNat (m % 128+128)],v3) ⟨by
   rw[←a2,Km (n:=m) h1];simp,by show m / 128≤n;omega,(a3.trans a0).step a4 (λb hb=>by have:=(hO.lt hb).1;omega),by
   show E.Own _ _ _ _ v3 (out++[UInt8.ofNat (m % 128+128)]).length _;rw[B6];exact a1⟩ LK (by show m / 128<m;omega)
 have h1:m<128:=by simp at h1;omega
 refine Su ?_;refine CF λB w2 a6 a0 hB=>?_;replace hB:Blk w2 B (AO [UInt8.ofNat m]) 5:=by
  have e:(m:Int)=((UInt8.ofNat m).toNat:Int):=by rw[Kw AdV]
  rw[e] at hB;exact hB
 refine LW.append (lo:=w.heap.size) (k:=out.length) rfl rfl rfl rfl rfl rfl (hO.ext a0) (by have:=a3.size;have:=a0.size;omega) hB rfl rfl rfl (by show(out.length+1)*2≤_;omega) rfl ?_;intro v3 w3 a4 a1 a7;rw[←Jr] at a1;refine Su ?_;refine QW.body1 rfl rfl ⟨?_,(a3.trans a0).step a4 (λb hb=>by have:=(hO.lt hb).1;omega)⟩;rw[←a2,H1 h1];show E.Own _ _ _ _ v3 (out++[UInt8.ofNat m]).length _;rw[B6];exact a1
theorem Ef.app{lo:Nat}{w:World}{v:Value}{l m:List UInt8}(h:E.Own w lo 5 1 v (l.length+m.length) (AO l++AO m)):Ef lo w v (l++m):=by
 show E.Own _ _ _ _ v (l++m).length _;rw[B6,Jr];exact h
theorem Ef.bytes'{lo:Nat}{w:World}{p:Option Addr}{c:Nat}{l:List UInt8}(h:Ef lo w (.slice p l.length c) l):p=none∧l.length=0∨∃a,p=some a∧∀j u,(AO l)[j]?=some u→w.cell? (a.add j)=some u:=by
 obtain⟨hx,⟨e,e2⟩ | ⟨g,cap,sp,e,hB,h1,h2,h3⟩⟩:=h
 ·simp only[Acu] at e;exact .inl ⟨e.1,e2⟩
 ·simp only[Acu] at e;refine .inr ⟨_,e.1,λj u hj=>?_⟩;rw[A5];refine hB.cell ?_;rw[Acd,AbA (Abu.1 hj).1];exact hj
theorem Qw(s:List UInt8)(hs:s.length≤1000000)(w:World):AN prog 260 [Av s] w (λv w'=>Ef w.heap.size w' v (Fk s)∧Ah w w'):=by
 refine Bq func260 ntmps260 ?_;refine Su ?_;refine Ar rfl rfl (TH s.length AdV w) ?_;rintro v w1 ⟨hO,a0⟩;obtain⟨p,c,rfl⟩:=hO.slice;have:=EL (n:=s.length) AdV;refine Su ?_;refine LW.append_str (k:=(DT s.length).length) (xs:=AO (DT s.length)) (s:=s) rfl rfl rfl rfl rfl rfl rfl rfl rfl hO a0.size (by show((DT s.length).length+s.length)*2≤_;omega) rfl ?_;intro v2 w2 a1 a2 a3;refine Su ?_;exact QW.body1 rfl rfl ⟨Ef.app a2,a0.step a1 (λb hb=>by have:=(hO.lt hb).1;omega)⟩
theorem TD{ok:Addr→Prop}{w:World}{v:Value}{l:List (List UInt8)}(h:Ak ok w v l):∀s∈l,s.length≤1000000:=λs hs=>by
 obtain⟨i,hi⟩:=AcQ hs;obtain⟨p,c,rfl⟩:=h.slice;exact(Ak.at h hi).choose_spec.2.2.1
theorem Wb{l:List (List UInt8)}(h:∀s∈l,s.length≤1000000)(hl:l.length≤1000000)(k:Nat):(DT l.length++(l.take k).flatMap Fk).length≤10+1000000*1000010:=by
 have h1:=EL (n:=l.length) AdV;have h2:=LG (l:=l.take k) λs hs=>h s (AbD hs);have h3:(l.take k).length*1000010≤1000000*1000010:=Adk _ Aey;rw[B6];omega
theorem KW(l:List (List UInt8))(tv:Value)(w:World)(h:Bz w tv l):AN prog 210 [tv] w (λv w'=>Ef w.heap.size w' v (Fj l)∧Ah w w'):=by
 obtain⟨p,c,rfl⟩:=h.slice;have hl:=h.1;have hs:=TD h;refine Bq func210 ntmps210 ?_;refine Su ?_;refine Ar rfl rfl (TH l.length AdV w) ?_;rintro v w1 ⟨hO,a6⟩;refine Su ?_;refine CW.loop (ι:=Nat×Value) (λx w'=>x.1≤l.length∧Ah w w'∧Ef w.heap.size w' x.2 (DT l.length++(l.take x.1).flatMap Fk)) (λx=>[(3,x.2),(9,.slice p l.length c),(10,.int .i64 l.length),(11,.int .i64 x.1)]) (λx=>l.length - x.1) (0,v) ⟨by omega,a6,by rw[List.take_zero,AdJ,AbG];exact hO⟩ Bx ?_;rintro⟨k,ov⟩ w2 ⟨hk,a1,a0⟩;dsimp only at hk a0;show CW _ _ _ _ _ [(3,ov),(9,.slice p l.length c),(10,.int .i64 l.length),(11,.int .i64 (k:Int))] _;refine Su ?_;refine AB (λh1=>?_) λh1=>?_;rotate_left
 ·have h1:k=l.length:=by simp at h1;omega
  subst h1;refine Su ?_;refine QW.body1 rfl rfl ⟨?_,a1⟩;rw[Ack] at a0;exact a0
 have h1:k<l.length:=by simp at h1;omega
 obtain⟨s,a3⟩:∃s,l[k]?=some s:=⟨_,B7 h1⟩;obtain⟨a,rfl,-,a4,hc⟩:=Ak.at (Ak.ext h a1) a3;refine Su ?_;refine Ar rfl rfl (Qw s a4 w2) ?_;rintro u w3 ⟨a5,a2⟩;obtain⟨pu,cu,rfl⟩:=a5.slice;have hb:=Wb hs hl k;have ht:=R7 a4;have hq:=(Ef.bytes' a5);refine Su ?_;refine LW.append_any (lo:=w.heap.size) (k:=(DT l.length++(l.take k).flatMap Fk).length) (xs:=AO (DT l.length++(l.take k).flatMap Fk)) (news:=AO (Fk s)) rfl rfl rfl rfl rfl rfl (a0.ext a2) (by have:=a1.size;have:=a2.size;omega) (by rw[Q2];show _=_*1;omega) hq (S5 _) (by show(_+(Fk s).length)*2≤_;omega) rfl ?_;intro v4 w4 a7 a8 a9;refine Su ?_;exact QW.again (k+1,v4) ⟨h1,(a1.trans a2).step a7 (λb hb=>by have:=(a0.lt hb).1;omega),by
  have:=Ef.app a8;rw[B8] at this;show Ef _ _ v4 (DT l.length++(l.take (k+1)).flatMap Fk);rw[AbU,a3,Acl]
  simpa using this⟩ Bx (by show l.length - (k+1)<l.length - k;omega)
end Go.Proofs.YtcjjcnecopnpcaaGreatDoor
