/-
  Joined by program out of the texts BookP Less BookL BookW CodeP AliP AliQ FillP BlcP Byt Code1 Code2.
-/
import Derived.Test.YtcjjcnecopnpcaaGreatDoorMxG
import Derived.Test.YtcjjcnecopnpcaaGreatDoorMxE
import Derived.Test.YtcjjcnecopnpcaaGreatDoorTy
import Derived.Test.YtcjjcnecopnpcaaGreatDoorMxI
import Derived.Test.YtcjjcnecopnpcaaGreatDoorMxH
import Derived.Test.YtcjjcnecopnpcaaGreatDoorMxB
import Derived.Lib.EndianBits
namespace Go.Proofs.YtcjjcnecopnpcaaGreatDoor
open Tryz
open Go Go.E
structure Ae where
 name:List UInt8
 cols:Int
 rows:List (List (List UInt8))
deriving DecidableEq
abbrev An:=List Ae
def NG(b:An)(nm:List UInt8):Option Nat:=b.findIdx? (λs=>decide (s.name=nm))
def V0:Option Nat→Int
 | some i=>i
 | none=>-1
theorem Mr{b:An}{nm:List UInt8}{i:Nat}(h:NG b nm=some i):∃s,b[i]?=some s∧s.name=nm:=by
 unfold NG at h;rw[Ab2] at h;obtain⟨a0,e,_⟩:=h;exact⟨b[i],Aap a0,by simpa using e⟩
theorem WI{b:An}{x:List UInt8}(h:∀i s,i<b.length→b[i]?=some s→s.name≠x):NG b x=none:=by
 unfold NG;rw[Aco];intro s hs;obtain⟨i,hi,rfl⟩:=Ado hs;have:=h i _ hi (Aap hi)
 simpa using this
theorem WH{b:An}{x:List UInt8}{k:Nat}{s:Ae}(hk:b[k]?=some s)(hs:s.name=x)(h:∀i u,i<k→b[i]?=some u→u.name≠x):NG b x=some k:=by
 unfold NG;rw[Ab2];obtain⟨a0,e⟩:=Abg.1 hk;refine⟨a0,by rw[e];simpa using hs,λj hj=>?_⟩;have:=h j _ hj (Aap AdE)
 simpa using this
noncomputable def A7(s:Ae):Bool:=Do s.name&&decide (0≤s.cols)&&decide (s.cols≤12)&&decide (s.rows.length≤24)&&s.rows.all λr=>decide ((r.length:Int)=s.cols)&&r.all BN
noncomputable def G3:Option (List UInt8)→An→Bool
 | _,[]=>true
 | p,s::r=>(match p with | none=>true | some q=>Op.bytesLess q s.name)&&A7 s&&G3 (some s.name) r
noncomputable def Av(b:An):Bool:=decide (b.length≤5)&&G3 none b
def ZH:ED (List UInt8):=λ_ _ cs s=>cs=[Ao s]∧s.length≤1000000
abbrev A2(ok:Addr→Prop):World→Value→List (List UInt8)→Prop:=Ab 1 ok ZH
def Abb(okT:Nat→Addr→Prop):ED (List (List UInt8)):=λi w cs r=>∃v,cs=[v]∧A2 (okT i) w v r
abbrev Bb(okR:Addr→Prop)(okT:Nat→Addr→Prop):World→Value→List (List (List UInt8))→Prop:=Ab 1 okR (Abb okT)
def Am(s:Ae)(rv:Value):List Value:=[Ao s.name,.int .i64 s.cols,rv]
theorem TE(s:Ae)(rv:Value):(Am s rv).length=3:=rfl
def Aam(okR:Nat→Addr→Prop)(okT:Nat→Nat→Addr→Prop):ED Ae:=λi w cs s=>∃rv,cs=Am s rv∧s.name.length≤1000000∧Bb (okR i) (okT i) w rv s.rows
abbrev Aa(okS:Addr→Prop)(okR:Nat→Addr→Prop)(okT:Nat→Nat→Addr→Prop):World→Value→An→Prop:=Ab 3 okS (Aam okR okT)
abbrev HC:Addr→Prop:=λ_=>True
abbrev Ce:=A2 HC
abbrev BA:=Bb HC (λ_=>HC)
abbrev AA:=Aa HC (λ_=>HC) (λ_ _=>HC)
theorem A2.chg{S:List Nat}{ok:Addr→Prop}{w w':World}{v:Value}{l:List (List UInt8)}(h:A2 ok w v l)(x:Chg S w w')(hs:l≠[]→∀a,ok a→a.block∉S):A2 ok w' v l:=Ab.chg h x hs λ_ _ _ _ h=>h
theorem Bb.chg{S:List Nat}{okR:Addr→Prop}{okT:Nat→Addr→Prop}{w w':World}{v:Value}{l:List (List (List UInt8))}(h:Bb okR okT w v l)(x:Chg S w w')(hs:∀a,okR a→a.block∉S)(ht:∀i x a,l[i]?=some x→x≠[]→okT i a→a.block∉S):Bb okR okT w' v l:=
 Ab.chg h x (λ_=>hs) λi y _ hi ⟨v,h1,h2⟩=>⟨v,h1,h2.chg x (λhn a ha=>ht i y a hi hn ha)⟩
theorem Aa.chg{S:List Nat}{okS:Addr→Prop}{okR:Nat→Addr→Prop}{okT:Nat→Nat→Addr→Prop}{w w':World}{v:Value}{l:An}(h:Aa okS okR okT w v l)(x:Chg S w w')(hs:∀a,okS a→a.block∉S)(hr:∀i a,i<l.length→okR i a→a.block∉S)(ht:∀i s r y a,l[i]?=some s→s.rows[r]?=some y→y≠[]→okT i r a→a.block∉S):Aa okS okR okT w' v l:=
 Ab.chg h x (λ_=>hs) λi s _ hi ⟨v,h1,h2,h3⟩=>⟨v,h1,h2,h3.chg x (λa ha=>hr i a (Abg.1 hi).1 ha) (λr y a hr hn ha=>ht i s r y a hi hr hn ha)⟩
theorem A2.ext{ok:Addr→Prop}{w w':World}{v:Value}{l:List (List UInt8)}(h:A2 ok w v l)(x:Ai w w'):A2 ok w' v l:=A2.chg h x AdM
theorem Bb.ext{okR:Addr→Prop}{okT:Nat→Addr→Prop}{w w':World}{v:Value}{l:List (List (List UInt8))}(h:Bb okR okT w v l)(x:Ai w w'):Bb okR okT w' v l:=Bb.chg h x AdM AdM
theorem Aa.ext{okS:Addr→Prop}{okR:Nat→Addr→Prop}{okT:Nat→Nat→Addr→Prop}{w w':World}{v:Value}{l:An}(h:Aa okS okR okT w v l)(x:Ai w w'):Aa okS okR okT w' v l:=Aa.chg h x AdM AdM AdM
theorem A2.at{ok:Addr→Prop}{w:World}{p:Option Addr}{c:Nat}{l:List (List UInt8)}(h:A2 ok w (.slice p l.length c) l){i:Nat}{s:List UInt8}(hi:l[i]?=some s):∃a,p=some a∧ok a∧s.length≤1000000∧w.cell? (a.add (((i:Nat):Int).toNat*1))=some (Ao s):=by
 obtain⟨a,u,h1,h2,⟨h3,h4⟩,h5⟩:=h.at1 hi;simp only[Acu,and_true] at h3;subst h3;exact⟨a,h1,h2,h4,h5⟩
theorem Bb.at{okR:Addr→Prop}{okT:Nat→Addr→Prop}{w:World}{p:Option Addr}{c:Nat}{l:List (List (List UInt8))}(h:Bb okR okT w (.slice p l.length c) l){i:Nat}{r:List (List UInt8)}(hi:l[i]?=some r):∃a q k,p=some a∧okR a∧A2 (okT i) w (.slice q r.length k) r∧w.cell? (a.add (((i:Nat):Int).toNat*1))=some (.slice q r.length k):=by
 obtain⟨a,u,h1,h2,⟨v,h3,h4⟩,h5⟩:=h.at1 hi;simp only[Acu,and_true] at h3;subst h3;obtain⟨q,k,rfl⟩:=h4.slice;exact⟨a,q,k,h1,h2,h4,h5⟩
theorem Aa.at{okS:Addr→Prop}{okR:Nat→Addr→Prop}{okT:Nat→Nat→Addr→Prop}{w:World}{p:Option Addr}{c:Nat}{l:An}(h:Aa okS okR okT w (.slice p l.length c) l){i:Nat}{s:Ae}(hi:l[i]?=some s):∃a q k,p=some a∧okS a∧s.name.length≤1000000∧Bb (okR i) (okT i) w (.slice q s.rows.length k) s.rows∧∀j u,(Am s (.slice q s.rows.length k))[j]?=some u→w.cell? ((a.add (((i:Nat):Int).toNat*3)).add j)=some u:=by
 obtain⟨a,cs,h1,h2,h3,⟨rv,rfl,h4,h5⟩,h6⟩:=Ab.at h hi;obtain⟨q,k,rfl⟩:=h5.slice;exact⟨a,q,k,h1,h2,h4,h5,h6⟩
theorem HQ:∀a:List UInt8,Op.bytesLess a a=false
 | []=>rfl
 | x::l=>by simp[Op.bytesLess,HQ l]
theorem Ex:∀{a b c:List UInt8},Op.bytesLess a b=true→Op.bytesLess b c=true→Op.bytesLess a c=true
 | [],b,[],h,k=>by cases b<;>simp[Op.bytesLess] at h k
 | [],_,_::_,_,_=>by simp[Op.bytesLess]
 | _::_,[],_,h,_=>by simp[Op.bytesLess] at h
 | _::_,_::_,[],_,k=>by simp[Op.bytesLess] at k
 | x::a,y::b,z::c,h,k=>by
  simp only[Op.bytesLess,AbP,AaY,decide_eq_true_eq,beq_iff_eq] at h k ⊢;rcases h with h | ⟨rfl,h⟩
  ·rcases k with k | ⟨rfl,k⟩
   ·exact .inl (UInt8.lt_trans h k)
   ·exact .inl h
  ·rcases k with k | ⟨rfl,k⟩
   ·exact .inl k
   ·exact .inr ⟨rfl,Ex h k⟩
theorem YR{a b:List UInt8}(h:Op.bytesLess a b=true):a≠b:=λe=>by
 subst e;rw[HQ] at h;cases h
theorem Jv:∀{b:An} {p:Option (List UInt8)},G3 p b=true→(∀s∈b,A7 s=true∧∀q,p=some q→Op.bytesLess q s.name=true)∧b.Pairwise (λs u=>Op.bytesLess s.name u.name=true)
 | [],_,_=>⟨by simp,.nil⟩
 | s::r,p,h=>by
  simp only[G3,AaY] at h;obtain⟨⟨h1,h2⟩,h3⟩:=h;obtain⟨h4,h5⟩:=Jv h3;refine⟨λu hu=>?_,.cons (λu hu=>(h4 u hu).2 _ rfl) h5⟩;rcases AaT.1 hu with rfl | hu
  ·refine⟨h2,λq hq=>?_⟩;subst hq;exact h1
  ·refine⟨(h4 u hu).1,λq hq=>?_⟩;subst hq;exact Ex h1 ((h4 u hu).2 _ rfl)
theorem QZ:∀{b:An} {p:Option (List UInt8)},(∀s∈b,A7 s=true∧∀q,p=some q→Op.bytesLess q s.name=true)→b.Pairwise (λs u=>Op.bytesLess s.name u.name=true)→G3 p b=true
 | [],_,_,_=>rfl
 | s::r,p,h,k=>by
  obtain⟨k1,k2⟩:=Ac4.1 k;simp only[G3,AaY];refine⟨⟨?_,(h s (Abo ..)).1⟩,QZ (λu hu=>⟨(h u (Abj _ hu)).1,λq hq=>?_⟩) k2⟩
  ·cases p with
   | none=>rfl
   | some q=>exact(h s (Abo ..)).2 q rfl
  ·simp only[Aar] at hq;rw[←hq];exact k1 u hu
theorem Bm{b:An}:Av b=true↔b.length≤5∧(∀s∈b,A7 s=true)∧b.Pairwise (λs u=>Op.bytesLess s.name u.name=true):=by
 unfold Av;rw[AaY,decide_eq_true_eq];constructor
 ·rintro⟨h1,h2⟩;exact⟨h1,λs hs=>((Jv h2).1 s hs).1,(Jv h2).2⟩
 ·rintro⟨h1,h2,h3⟩;exact⟨h1,QZ (λs hs=>⟨h2 s hs,λq hq=>by cases hq⟩) h3⟩
theorem ZO{b:An}(h:b.Pairwise (λs u=>Op.bytesLess s.name u.name=true)){i:Nat}{s:Ae}(hi:b[i]?=some s):NG b s.name=some i:=by
 refine WH hi rfl λj u hj hu=>?_;obtain⟨hl,e⟩:=Abg.1 hi;obtain⟨a0,e'⟩:=Abg.1 hu;have:=Ady.1 h j i a0 hl hj;rw[e,e'] at this;exact YR this
def AaJ:ED (List UInt8):=λ_ _ cs s=>cs=[Ao s]∧s.length≤9223372036854775807
abbrev Ge:World→Value→List (List UInt8)→Prop:=Ab 1 HC AaJ
def Aba:ED (List (List UInt8)):=λ_ w cs r=>∃v,cs=[v]∧Ge w v r
abbrev HH:World→Value→List (List (List UInt8))→Prop:=Ab 1 HC Aba
def Zp:ED Ae:=λ_ w cs s=>∃rv,cs=Am s rv∧s.name.length≤1000000∧HH w rv s.rows
abbrev Fe:World→Value→An→Prop:=Ab 3 HC Zp
theorem Ge.ext{w w':World}{v:Value}{l:List (List UInt8)}(h:Ge w v l)(x:Ai w w'):Ge w' v l:=Ab.ext' h x λ_ _ _ _ h=>h
theorem HH.ext{w w':World}{v:Value}{l:List (List (List UInt8))}(h:HH w v l)(x:Ai w w'):HH w' v l:=Ab.ext' h x λ_ _ _ _ ⟨v,e,h⟩=>⟨v,e,Ge.ext h x⟩
theorem Fe.ext{w w':World}{v:Value}{l:An}(h:Fe w v l)(x:Ai w w'):Fe w' v l:=Ab.ext' h x λ_ _ _ _ ⟨rv,e,hn,h⟩=>⟨rv,e,hn,HH.ext h x⟩
theorem Ge.at{w:World}{p:Option Addr}{c:Nat}{l:List (List UInt8)}(h:Ge w (.slice p l.length c) l){i:Nat}{s:List UInt8}(hi:l[i]?=some s):∃a,p=some a∧HC a∧s.length≤9223372036854775807∧w.cell? (a.add (((i:Nat):Int).toNat*1))=some (Ao s):=by
 obtain⟨a,u,h1,h2,⟨e,h3⟩,h4⟩:=Ab.at1 h hi;obtain rfl:=(AdI e).1;exact⟨a,h1,h2,h3,h4⟩
theorem HH.at{w:World}{p:Option Addr}{c:Nat}{l:List (List (List UInt8))}(h:HH w (.slice p l.length c) l){i:Nat}{r:List (List UInt8)}(hi:l[i]?=some r):∃a q k,p=some a∧HC a∧Ge w (.slice q r.length k) r∧w.cell? (a.add (((i:Nat):Int).toNat*1))=some (.slice q r.length k):=by
 obtain⟨a,u,h1,h2,⟨u',e,h3⟩,h4⟩:=Ab.at1 h hi;obtain rfl:=(AdI e).1;obtain⟨q,k,rfl⟩:=Ab.slice h3;exact⟨a,q,k,h1,h2,h3,h4⟩
theorem Fe.at{w:World}{p:Option Addr}{c:Nat}{l:An}(h:Fe w (.slice p l.length c) l){i:Nat}{s:Ae}(hi:l[i]?=some s):∃a q k,p=some a∧HC a∧s.name.length≤1000000∧HH w (.slice q s.rows.length k) s.rows∧∀j u,(Am s (.slice q s.rows.length k))[j]?=some u→w.cell? ((a.add (((i:Nat):Int).toNat*3)).add j)=some u:=by
 obtain⟨a,cs,h1,h2,-,⟨rv,rfl,h3,h4⟩,h5⟩:=Ab.at h hi;obtain⟨q,k,rfl⟩:=Ab.slice h4;exact⟨a,q,k,h1,h2,h3,h4,h5⟩
theorem A2.loose{ok:Addr→Prop}{w:World}{v:Value}{l:List (List UInt8)}(h:A2 ok w v l):Ge w v l:=Ab.map h (λ_ _=>trivial) λ_ _ _ _ ⟨e,h⟩=>⟨e,by omega⟩
theorem Bb.loose{okR:Addr→Prop}{okT:Nat→Addr→Prop}{w:World}{v:Value}{l:List (List (List UInt8))}(h:Bb okR okT w v l):HH w v l:=Ab.map h (λ_ _=>trivial) λ_ _ _ _ ⟨v,e,h⟩=>⟨v,e,A2.loose h⟩
theorem Aa.loose{okS:Addr→Prop}{okR:Nat→Addr→Prop}{okT:Nat→Nat→Addr→Prop}{w:World}{v:Value}{l:An}(h:Aa okS okR okT w v l):Fe w v l:=Ab.map h (λ_ _=>trivial) λ_ _ _ _ ⟨rv,e,hn,h⟩=>⟨rv,e,hn,Bb.loose h⟩
theorem FA{s:List UInt8}(h:BN s=true):s.length≤300:=by
 unfold BN at h
 split at h
 ·cases h
 ·omega
def DJ(n:Nat):List UInt8:=if h:n<128 then[UInt8.ofNat n] else UInt8.ofNat (n % 128+128)::DJ (n / 128)
 termination_by n
 decreasing_by omega
def SO:Nat→Nat→List UInt8→Option (Nat×Nat)
 | 0,_,_=>none
 | _+1,_,[]=>none
 | k+1,i,c::r=>if 128≤c.toNat then(match SO k (i+1) r with | none=>none | some (n,m)=>some (c.toNat - 128+128*n,m+1)) else if c.toNat=0∧0<i then none else some (c.toNat,1)
def YJ(b:List UInt8)(i:Nat):Option (Nat×Nat):=match SO 9 0 (b.drop i) with
 | none=>none
 | some (n,m)=>some (n,i+m)
def EX(s:List UInt8):List UInt8:=DJ s.length++s
def ZV(b:List UInt8)(i:Nat):Option (List UInt8×Nat):=match YJ b i with
 | none=>none
 | some (n,j)=>if n≤b.length - j then some ((b.drop j).take n,j+n) else none
def EW(l:List (List UInt8)):List UInt8:=DJ l.length++l.flatMap EX
def QH(b:List UInt8):Nat→Nat→Option (List (List UInt8)×Nat)
 | 0,j=>some ([],j)
 | n+1,j=>match ZV b j with
  | none=>none
  | some (s,k)=>match QH b n k with
   | none=>none
   | some (l,m)=>some (s::l,m)
def Aa4(b:List UInt8)(i:Nat):Option (List (List UInt8)×Nat):=match YJ b i with
 | none=>none
 | some (n,j)=>if n≤b.length - j then QH b n j else none
theorem Hm{n:Nat}(h:n<128):DJ n=[UInt8.ofNat n]:=by rw[DJ,dif_pos h]
theorem Kh{n:Nat}(h:128≤n):DJ n=UInt8.ofNat (n % 128+128)::DJ (n / 128):=by rw[DJ,dif_neg AdE]
theorem Ks{n:Nat}(h:n<256):(UInt8.ofNat n).toNat=n:=by simp;omega
theorem Uo:∀(k i n:Nat) (r:List UInt8),0<k→n<128 ^ k→(0<i→0<n)→SO k i (DJ n++r)=some (n,(DJ n).length)
 | 0,_,_,_,h,_,_=>by omega
 | k+1,i,n,r,_,h,hi=>by
  by_cases h1:n<128
  ·rw[Hm h1];show SO (k+1) i (UInt8.ofNat n::r)=_;rw[SO,Ks AdE,if_neg AdE];by_cases h2:n=0∧0<i
   ·exact absurd (hi h2.2) AdE
   ·rw[if_neg h2];rfl
  ·rw[Kh AdE];show SO (k+1) i (UInt8.ofNat (n % 128+128)::(DJ (n / 128)++r))=_;have hk:0<k:=by
    rcases AcW k with e | e
    ·subst e;simp at h;omega
    ·exact e
   have ih:=Uo k (i+1) (n / 128) r hk (by rw[Nat.pow_succ] at h;omega) AdE;rw[SO,Ks AdE,if_pos AdE,ih];simp only[Aar,Abz,AaL,and_true];omega
theorem XZ(n:Nat):0<(DJ n).length:=by
 by_cases h:n<128
 ·rw[Hm h];simp
 ·rw[Kh AdE];simp
theorem My{b p r:List UInt8}{i:Nat}(h:b.drop i=p++r):b.drop (i+p.length)=r:=by
 rw[←List.drop_drop,h,Ads]
theorem Un{b r:List UInt8}{i n:Nat}(h:b.drop i=DJ n++r)(hn:n<128 ^ 9):YJ b i=some (n,i+(DJ n).length):=by
 rw[YJ,h,Uo 9 0 n r AdH hn AdE]
theorem YK{b r s:List UInt8}{i:Nat}(h:b.drop i=EX s++r)(hn:s.length<128 ^ 9):ZV b i=some (s,i+(EX s).length):=by
 rw[EX,AaR] at h;rw[ZV,Un h hn];have h2:=My h;have h3:(b.drop (i+(DJ s.length).length)).length=(s++r).length:=by rw[h2]
 rw[Acq,Aaq] at h3;show(if s.length≤b.length - (i+(DJ s.length).length) then _ else _)=_;rw[if_pos AdE,h2,AdB,EX,Aaq,Ac0]
theorem QI{b r:List UInt8}:∀{l:List (List UInt8)} {i:Nat},b.drop i=l.flatMap EX++r→(∀s∈l,s.length<128 ^ 9)→QH b l.length i=some (l,i+(l.flatMap EX).length)
 | [],i,_,_=>by simp[QH]
 | s::l,i,h,hs=>by
  rw[Ab6,AaR] at h;rw[AaL,QH,YK h (hs s (Abo ..))];simp only;rw[QI (My h) λs h=>hs s (Abj _ h)];simp[Ac0]
theorem Ya(s:List UInt8):0<(EX s).length:=by
 have:=XZ s.length;rw[EX,Aaq];omega
theorem OV:∀(l:List (List UInt8)),l.length≤(l.flatMap EX).length
 | []=>by simp
 | s::l=>by
  have:=OV l;have:=Ya s;rw[Ab6,Aaq,AaL];omega
theorem Um{b r:List UInt8}{l:List (List UInt8)}{i:Nat}(h:b.drop i=EW l++r)(hl:l.length<128 ^ 9)(hs:∀s∈l,s.length<128 ^ 9):Aa4 b i=some (l,i+(EW l).length):=by
 rw[EW,AaR] at h;rw[Aa4,Un h hl];have h2:=My h;have h3:(b.drop (i+(DJ l.length).length)).length=(l.flatMap EX++r).length:=by rw[h2]
 rw[Acq,Aaq] at h3;have:=OV l;show(if l.length≤b.length - (i+(DJ l.length).length) then _ else _)=_;rw[if_pos AdE,QI h2 hs,EW,Aaq,Ac0]
section
variable {α:Type} [DecidableEq α]
def C0:List α→List α→Nat
 | [],_=>0
 | _::_,[]=>0
 | x::a,y::b=>if x=y then C0 a b+1 else max (C0 a (y::b)) (C0 (x::a) b)
 termination_by a b=>a.length+b.length
def AC:List α→List α→Nat→Nat→List (Nat×Nat)
 | [],_,_,_=>[]
 | _::_,[],_,_=>[]
 | x::a,y::b,i,k=>if x=y then(i,k)::AC a b (i+1) (k+1) else if C0 (x::a) b≤C0 a (y::b) then AC a (y::b) (i+1) k else AC (x::a) b i (k+1)
 termination_by a b _ _=>a.length+b.length
theorem LC:∀(a:List α) (i k:Nat),AC a a i k=(List.range a.length).map λj=>(i+j,k+j)
 | [],_,_=>by simp[AC]
 | x::a,i,k=>by
  rw[AC,if_pos rfl,LC a,AaL,List.range_succ_eq_map];simp only[AbK,AbV,AbZ,Acu,true_and];apply Ab0;intro j _;simp only[Function.comp,Abz];omega
theorem IH:∀(a b:List α) (i k:Nat),∀p∈AC a b i k,i≤p.1∧p.1<i+a.length∧k≤p.2∧p.2<k+b.length
 | [],_,_,_,p,h=>by simp[AC] at h
 | _::_,[],_,_,p,h=>by simp[AC] at h
 | x::a,y::b,i,k,p,h=>by
  rw[AC] at h;simp only[AaL]
  split at h
  ·rcases AaT.1 h with rfl | h
   ·simp
   ·have:=IH a b (i+1) (k+1) p h;omega
  split at h
  ·have:=IH a (y::b) (i+1) k p h;simp only[AaL] at this;omega
  ·have:=IH (x::a) b i (k+1) p h;simp only[AaL] at this;omega
 termination_by a b _ _=>a.length+b.length
theorem HP{β:Type}[DecidableEq β]{f:α→β}:∀(a b:List α),(∀x∈a,∀y∈b,f x=f y→x=y)→C0 (a.map f) (b.map f)=C0 a b
 | [],_,_=>by simp[C0]
 | _::_,[],_=>by simp[C0]
 | x::a,y::b,h=>by
  have hxy:(f x=f y)↔(x=y):=⟨h x (Abo ..) y (Abo ..),λe=>by rw[e]⟩;have h1:=HP (f:=f) a b λu hu v hv=>h u (Abj _ hu) v (Abj _ hv);have h2:=HP (f:=f) a (y::b) λu hu v hv=>h u (Abj _ hu) v hv;have h3:=HP (f:=f) (x::a) b λu hu v hv=>h u hu v (Abj _ hv);simp only[AbK] at h2 h3 ⊢;rw[C0,C0,h1,h2,h3];by_cases e:x=y
  ·rw[if_pos (hxy.2 e),if_pos e]
  ·rw[if_neg (λk=>e (hxy.1 k)),if_neg e]
 termination_by a b=>a.length+b.length
theorem Hi{β:Type}[DecidableEq β]{f:α→β}:∀(a b:List α) (i k:Nat),(∀x∈a,∀y∈b,f x=f y→x=y)→AC (a.map f) (b.map f) i k=AC a b i k
 | [],_,_,_,_=>by simp[AC]
 | _::_,[],_,_,_=>by simp[AC]
 | x::a,y::b,i,k,h=>by
  have hxy:(f x=f y)↔(x=y):=⟨h x (Abo ..) y (Abo ..),λe=>by rw[e]⟩;have g1:∀u∈a,∀v∈b,f u=f v→u=v:=λu hu v hv=>h u (Abj _ hu) v (Abj _ hv);have g2:∀u∈a,∀v∈y::b,f u=f v→u=v:=λu hu v hv=>h u (Abj _ hu) v hv;have g3:∀u∈x::a,∀v∈b,f u=f v→u=v:=λu hu v hv=>h u hu v (Abj _ hv);have l2:=HP (f:=f) a (y::b) g2;have l3:=HP (f:=f) (x::a) b g3;have h1:=Hi (f:=f) a b (i+1) (k+1) g1;have h2:=Hi (f:=f) a (y::b) (i+1) k g2;have h3:=Hi (f:=f) (x::a) b i (k+1) g3;simp only[AbK] at l2 l3 h2 h3 ⊢;rw[AC,AC,l2,l3,h1,h2,h3];by_cases e:x=y
  ·rw[if_pos (hxy.2 e),if_pos e]
  ·rw[if_neg (λk=>e (hxy.1 k)),if_neg e]
 termination_by a b _ _=>a.length+b.length
end
def BK(n:Nat)(ps:List (Nat×Nat)):List Int:=ps.foldl (λl p=>l.set p.1 (p.2:Int)) (List.replicate n (-1))
def CD(new:Int):List Int→Int
 | []=>new
 | k::r=>if 0≤k then k else CD new r
def En(new:Int):Int→List Int→List Int
 | _,[]=>[]
 | free,k::r=>if 0≤k then k::En new (k+1) r else if free<CD new r then free::En new (free+1) r else -1::En new free r
theorem EJ(n:Nat)(ps:List (Nat×Nat)):(BK n ps).length=n:=by
 unfold BK;have:∀(ps:List (Nat×Nat)) (l:List Int),(ps.foldl (λl p=>l.set p.1 (p.2:Int)) l).length=l.length:=λps=>by
  induction ps with
  | nil=>simp
  | cons p r ih=>intro l;rw[Ac6,ih,AbS]
 rw[this];simp
theorem I1(new:Int):∀(free:Int) (l:List Int),(En new free l).length=l.length
 | _,[]=>rfl
 | free,k::r=>by
  rw[En]
  split
  ·simp[I1 new (k+1) r]
  split
  ·simp[I1 new (free+1) r]
  ·simp[I1 new free r]
theorem M2(new:Int):∀(free:Int) (l:List Int),(∀k∈l,0≤k)→En new free l=l
 | _,[],_=>rfl
 | free,k::r,h=>by
  rw[En,if_pos (h k (Abo ..)),M2 new (k+1) r λx hx=>h x (Abj _ hx)]
def A5(n:Nat):List Int:=(List.range n).map λ(i:Nat)=>(i:Int)
def Cp{α:Type}[DecidableEq α](a b:List α):List Int:=En b.length 0 (BK a.length (AC a b 0 0))
theorem FV{α:Type}[DecidableEq α](a b:List α):(Cp a b).length=a.length:=by rw[Cp,I1,EJ]
theorem JV:∀(n m:Nat),m≤n→BK n ((List.range m).map λj=>(0+j,0+j))=A5 m++List.replicate (n - m) (-1)
 | n,0,_=>by simp[BK,A5]
 | n,m+1,h=>by
  have ih:=JV n m AdE;unfold BK at ih ⊢;rw[AbJ,AbG,Ad1,ih];simp only[AbK,Acm,Ac6,List.foldl_nil,AbC];rw[Ach _ _ (by simp[A5]),show m - (A5 m).length=0 by simp[A5],show n - m=(n - (m+1))+1 by omega,Acf,AcA];simp[A5,AbJ]
theorem He{α:Type}[DecidableEq α](a:List α):Cp a a=A5 a.length:=by
 rw[Cp,LC,JV _ _ (Abi _),Acz,List.replicate_zero,Aby];exact M2 _ _ _ λk hk=>by
  simp only[A5,AbE] at hk;obtain⟨i,_,rfl⟩:=hk;omega
def CG(r:List (List UInt8)):List UInt8:=EW (r.filter λs=>decide (s≠[]))
def AO(a b:Ae):List Int:=Cp (a.rows.map CG) (b.rows.map CG)
def Cl(a b:Ae)(m:List Int):List (Nat×Nat):=(List.range a.rows.length).filterMap λi=>match (m[i]?:Option Int) with
 | none=>none
 | some (k:Int)=>if 0≤k∧k<b.rows.length∧CG (a.rows.getD i [])=CG (b.rows.getD k.toNat []) then some (i,k.toNat) else none
def Gg(s:Ae)(rs:List Nat)(c:Nat):List UInt8:=EW (rs.map λr=>(s.rows.getD r []).getD c [])
def Bf(s:Ae)(rs:List Nat):List (List UInt8):=(List.range s.cols.toNat).map (Gg s rs)
def CT(a b:Ae)(m:List Int):List Int:=Cp (Bf a ((Cl a b m).map Prod.fst)) (Bf b ((Cl a b m).map Prod.snd))
theorem RF(a:Ae):AO a a=A5 a.rows.length:=by rw[AO,He];simp
theorem Qs(a:Ae):(Cl a a (A5 a.rows.length)).map Prod.fst=(Cl a a (A5 a.rows.length)).map Prod.snd:=by
 unfold Cl;rw[List.map_filterMap,List.map_filterMap]
 congr 1
 funext i
 simp only[A5,Ab1];by_cases h:i<a.rows.length
 ·simp[h]
 ·rw[Abs Aeu];rfl
theorem Q4(a:Ae):CT a a (A5 a.rows.length)=A5 a.cols.toNat:=by
 rw[CT,Qs,He];simp[Bf]
section
variable {α:Type} [DecidableEq α]
def JU:List α→List α→Nat→List Int
 | [],_,_=>[]
 | _::a,[],k=>-1::JU a [] k
 | x::a,y::b,k=>if x=y then(k:Int)::JU a b (k+1) else if C0 (x::a) b≤C0 a (y::b) then -1::JU a (y::b) k else JU (x::a) b (k+1)
 termination_by a b _=>a.length+b.length
theorem KH:∀(a:List α) (k:Nat),JU a [] k=List.replicate a.length (-1)
 | [],_=>by simp[JU]
 | x::a,k=>by rw[JU,KH a k,AaL,Acf]
theorem JO:∀(a b:List α) (i k:Nat) (pre:List Int),pre.length=i→(AC a b i k).foldl (λl p=>l.set p.1 (p.2:Int)) (pre++List.replicate a.length (-1))=pre++JU a b k
 | [],_,_,_,pre,_=>by simp[AC,JU]
 | x::a,[],i,k,pre,_=>by
  rw[KH]
  simp[AC]
 | x::a,y::b,i,k,pre,h=>by
  rw[AC,JU]
  split
  ·rw[Ac6];simp only[AaL,Acf];rw[Ach _ _ AdE,h,Acz,AcA];have:=JO a b (i+1) (k+1) (pre++[(k:Int)]) (by simp[h]);rw[AaR,AcE] at this;rw[this,AaR,AcE]
  split
  ·have:=JO a (y::b) (i+1) k (pre++[-1]) (by simp[h]);rw[AaR,AcE] at this;simp only[AaL,Acf];rw[this,AaR,AcE]
  ·exact JO (x::a) b i (k+1) pre h
 termination_by a b _ _ _=>a.length+b.length
theorem Td(a b:List α):BK a.length (AC a b 0 0)=JU a b 0:=by
 have:=JO a b 0 0 [] rfl
 simpa[BK] using this
theorem LD{new:Int}:∀{l:List Int} {last last':Int},Bq new last l=true→last'≤last→Bq new last' l=true
 | [],_,_,_,_=>rfl
 | z::r,last,last',h,hl=>by
  rw[Bq] at h ⊢
  split at h
  ·rename_i e;rw[if_pos e];exact LD h hl
  ·rename_i e;rw[if_neg e]
   split at h
   ·cases h
   ·rw[if_neg AdE];exact h
theorem Nt(new last:Int):∀n:Nat,Bq new last (List.replicate n (-1))=true
 | 0=>rfl
 | n+1=>by rw[Acf,Bq,if_pos rfl,Nt new last n]
theorem I6:∀(a b:List α) (k:Nat),Bq ((k+b.length:Nat):Int) ((k:Int) - 1) (JU a b k)=true
 | [],_,_=>by simp[JU,Bq]
 | x::a,[],k=>by rw[KH];exact Nt _ _ _
 | x::a,y::b,k=>by
  rw[JU]
  split
  ·rw[Bq,if_neg AdE,if_neg (by simp only[AaL];omega)];have:=I6 a b (k+1);rw[show k+(y::b).length=k+1+b.length by simp only[AaL];omega];rw[show(((k+1:Nat):Int) - 1)=(k:Int) by omega] at this;exact this
  split
  ·rw[Bq,if_pos rfl];exact I6 a (y::b) k
  ·have:=I6 (x::a) b (k+1);rw[show k+(y::b).length=k+1+b.length by simp only[AaL];omega];exact LD this AdE
 termination_by a b _=>a.length+b.length
theorem MT{new:Int}:∀{l:List Int} {last:Int},Bq new last l=true→CD new l≤new
 | [],_,_=>AcK _
 | z::r,last,h=>by
  rw[Bq] at h;rw[CD]
  split at h
  ·rename_i e;rw[if_neg AdE];exact MT h
  ·split at h
   ·cases h
   ·rename_i e1 e2
    split
    ·omega
    ·exact MT h
theorem LF{new f:Int}:∀{l:List Int} {last:Int},-1≤last→Bq new last l=true→last≤f→f<CD new l→Bq new f l=true
 | [],_,_,_,_,_=>rfl
 | z::r,last,h0,h,hl,hf=>by
  rw[Bq] at h ⊢;rw[CD] at hf
  split at h
  ·rename_i e;rw[if_neg AdE] at hf;rw[if_pos e];exact LF h0 h hl hf
  ·rename_i e;rw[if_neg e]
   split at h
   ·cases h
   ·rw[if_pos AdE] at hf;rw[if_neg AdE];exact h
theorem I2{new:Int}:∀{l:List Int} {free:Int},0≤free→Bq new (free - 1) l=true→Bq new (free - 1) (En new free l)=true
 | [],_,_,_=>rfl
 | k::r,free,h0,h=>by
  rw[Bq] at h;rw[En];by_cases e:k=-1
  ·rw[if_pos e] at h;rw[if_neg AdE];by_cases hn:free<CD new r
   ·rw[if_pos hn,Bq,if_neg AdE,if_neg (by have:=MT h;omega)];have h2:=LF (f:=free) AdE h AdE hn;have:=I2 (free:=free+1) (l:=r) AdE (by rw[show free+1 - 1=free by omega];exact h2)
    rwa [show free+1 - 1=free by omega] at this
   ·rw[if_neg hn,Bq,if_pos rfl];exact I2 h0 h
  ·rw[if_neg e] at h
   split at h
   ·cases h
   ·rename_i hc;rw[if_pos AdE,Bq,if_neg e,if_neg hc];have:=I2 (free:=k+1) (l:=r) AdE (by rw[show k+1 - 1=k by omega];exact h)
    rwa [show k+1 - 1=k by omega] at this
theorem J0(a b:List α)(ha:a.length≤1048576)(hb:b.length≤1048576):Ey ⟨Cp a b,b.length⟩=true:=by
 have h1:Bq (b.length:Int) (-1) (Cp a b)=true:=by
  rw[Cp,Td];have:=I6 a b 0;simp only[AbC] at this;exact I2 (free:=0) (AcK _) this
 simp[Ey,h1,FV];omega
end
def Ag(a b:Ae):Bg:={sheet:=a.name,rows:=⟨AO a b,b.rows.length⟩,cols:=⟨CT a b (AO a b),((b.cols.toNat:Nat):Int)⟩,gone:=false}
theorem E5{a b:Ae}(ha:A7 a=true)(hb:A7 b=true):(Ag a b).May:=by
 have key:∀s:Ae,A7 s=true→s.rows.length≤24∧s.cols≤12:=λs h=>by
  simp only[A7,AaY,decide_eq_true_eq] at h;omega
 obtain⟨a1,a2⟩:=key a ha;obtain⟨b1,b2⟩:=key b hb;refine⟨?_,?_⟩
 ·have:=J0 (a.rows.map CG) (b.rows.map CG) AdG AdG
  simpa[Ag,AO] using this
 ·have:=J0 (Bf a ((Cl a b (AO a b)).map Prod.fst)) (Bf b ((Cl a b (AO a b)).map Prod.snd)) (by simp[Bf];omega) (by simp[Bf];omega)
  simpa[Ag,CT,Bf] using this
def D3(new:Int):List Int→List Int
 | []=>[]
 | k::r=>(if 0≤k then k else -1 - CD new r)::D3 new r
theorem KA(new:Int):∀l:List Int,(D3 new l).length=l.length
 | []=>rfl
 | _::r=>by simp[D3,KA new r]
theorem LB{new M:Int}(h0:0≤new)(h1:new≤M):∀{l:List Int},(∀z∈l,z≤M)→0≤CD new l∧CD new l≤M
 | [],_=>⟨h0,h1⟩
 | k::r,h=>by
  unfold CD
  split
  ·exact⟨by assumption,h k AdM⟩
  ·exact LB h0 h1 λz hz=>h z (by simp[hz])
theorem HN{l:List Int}{j:Nat}{z:Int}(h:l[j]?=some z):l.drop j=z::l.drop (j+1):=by
 obtain⟨hj,rfl⟩:=Abg.1 h;exact Ace hj
def Gn(new:Int)(l:List Int)(i:Nat):List Int:=l.take i++D3 new (l.drop i)
theorem UV(new:Int)(l:List Int):Gn new l l.length=l:=by simp[Gn,D3]
theorem S8(new:Int)(l:List Int):Gn new l 0=D3 new l:=by simp[Gn]
theorem Yt{l:List Int}{j:Nat}{z:Int}(h:l[j]?=some z):l.take (j+1)=l.take j++[z]:=by rw[Ab7,h];rfl
theorem S6{new:Int}{l:List Int}{i:Nat}{z:Int}(h:l[i]?=some z)(hz:0≤z):Gn new l i=Gn new l (i+1)∧CD new (l.drop i)=z:=by
 rw[Gn,Gn,HN h,Yt h,D3,if_pos hz,AaR];exact⟨rfl,by rw[CD,if_pos hz]⟩
theorem S7{new:Int}{l:List Int}{i:Nat}{z:Int}(h:l[i]?=some z)(hz:¬0≤z):(Gn new l (i+1)).set i (-1 - CD new (l.drop (i+1)))=Gn new l i∧CD new (l.drop i)=CD new (l.drop (i+1)):=by
 have hi:=(Abg.1 h).1;rw[Gn,Gn,HN h,Yt h,D3,if_neg hz,AaR,Ach _ _ (by rw[Acb];omega),Acb,AdA AdE,Acz];exact⟨rfl,by rw[CD,if_neg hz]⟩
structure Jk(new:Int)(l:List Int)(j:Nat)(done:List Int)(free:Int):Prop where
 len:done.length=j
 done:done++En new free (l.drop j)=En new 0 l
 free0:0≤free
theorem Jk.start(new:Int)(l:List Int):Jk new l 0 [] 0:=⟨rfl,by simp,by omega⟩
theorem Jk.kept{new:Int}{l:List Int}{j:Nat}{done:List Int}{free z:Int}(h:Jk new l j done free)(hz:l[j]?=some z)(h0:0≤z):Jk new l (j+1) (done++[z]) (z+1):=
 ⟨by simp[h.len],by rw[←h.done,HN hz,En,if_pos h0];simp,by omega⟩
theorem Jk.fill{new:Int}{l:List Int}{j:Nat}{done:List Int}{free z:Int}(h:Jk new l j done free)(hz:l[j]?=some z)(h0:¬0≤z)(hf:free<CD new (l.drop (j+1))):Jk new l (j+1) (done++[free]) (free+1):=
 ⟨by simp[h.len],by rw[←h.done,HN hz,En,if_neg h0,if_pos hf];simp,by have:=h.free0;omega⟩
theorem Jk.gone{new:Int}{l:List Int}{j:Nat}{done:List Int}{free z:Int}(h:Jk new l j done free)(hz:l[j]?=some z)(h0:¬0≤z)(hf:¬free<CD new (l.drop (j+1))):Jk new l (j+1) (done++[-1]) free:=
 ⟨by simp[h.len],by rw[←h.done,HN hz,En,if_neg h0,if_neg hf];simp,h.free0⟩
theorem Jk.all{new:Int}{l:List Int}{done:List Int}{free:Int}(h:Jk new l l.length done free):done=En new 0 l:=by
 rw[←h.done];simp[En]
theorem Vv{new:Int}{l:List Int}{j:Nat}{z x:Int}{done:List Int}(hl:done.length=j)(hz:l[j]?=some z):(done++D3 new (l.drop j)).set j x=(done++[x])++D3 new (l.drop (j+1)):=by
 rw[HN hz,D3,Ach _ _ AdE,hl,Acz];simp
theorem YI{new:Int}{l:List Int}{j:Nat}{z:Int}{done:List Int}(hl:done.length=j)(hz:l[j]?=some z):(done++D3 new (l.drop j))[j]?=some (if 0≤z then z else -1 - CD new (l.drop (j+1))):=by
 rw[HN hz,D3,Abx AdE,hl,Acz];rfl
theorem Xk{new:Int}{l:List Int}{j:Nat}{z:Int}{done:List Int}(hz:l[j]?=some z)(h0:0≤z):done++D3 new (l.drop j)=(done++[z])++D3 new (l.drop (j+1)):=by
 rw[HN hz,D3,if_pos h0];simp
theorem XY{l m:List (List UInt8)}(hl:l.length<128 ^ 9)(hs:∀s∈l,s.length<128 ^ 9)(hm:m.length<128 ^ 9)(ht:∀s∈m,s.length<128 ^ 9)(h:EW l=EW m):l=m:=by
 have h1:=Um (b:=EW l) (r:=[]) (i:=0) AdM hl hs;have h2:=Um (b:=EW l) (r:=[]) (i:=0) (l:=m) (by rw[←h];simp) hm ht;rw[h1] at h2;simp only[Aar,Abz] at h2;exact h2.1
theorem Rr{α β:Type}[DecidableEq α][DecidableEq β]{f:α→β}(a b:List α)(h:∀x∈a,∀y∈b,f x=f y→x=y):Cp (a.map f) (b.map f)=Cp a b:=by
 rw[Cp,Cp,Hi a b 0 0 h,AbA,AbA]
abbrev DT(lo:Nat)(w:World)(v:Value)(l:List UInt8):Prop:=E.Own w lo 5 1 v l.length (AK l)
theorem Qx(l:List UInt8):(AK l).length=l.length:=by simp[AK]
theorem Jl(l m:List UInt8):AK (l++m)=AK l++AK m:=by simp[AK]
theorem SD(l:List UInt8):∀u∈AK l,u.oneCell'=true:=λu hu=>by
 simp only[AK,AbE] at hu;obtain⟨b,_,rfl⟩:=hu;rfl
theorem Aag:∀k,k<256→bits .or .u8 ((k:Nat):Int) 128=((k % 128+128:Nat):Int):=by decide +kernel
theorem AaA(m:Nat):bits .or .u8 ((UInt8.ofNat m).toNat:Int) 128=((UInt8.ofNat (m % 128+128)).toNat:Int):=by
 have e:(UInt8.ofNat m).toNat=m % 256:=AdM
 rw[e,Aag _ (Nat.mod_lt _ AdH),Ks AdE]
 congr 1
 omega
theorem Rz:∀(k n:Nat),0<k→n<128 ^ k→(DJ n).length≤k
 | 0,_,h,_=>by omega
 | k+1,n,_,h=>by
  by_cases h1:n<128
  ·rw[Hm h1];simp
  ·have hk:0<k:=by
    rcases AcW k with e | e
    ·subst e;simp at h;omega
    ·exact e
   rw[Kh AdE,AaL];have:=Rz k (n / 128) hk (by rw[Nat.pow_succ] at h;omega);omega
theorem E4{n:Nat}(h:n≤9223372036854775807):(DJ n).length≤10:=Rz 10 n AdH (Nat.lt_of_le_of_lt h AdH)
theorem R0{s:List UInt8}(h:s.length≤1000000):(EX s).length≤1000010:=by
 have:=E4 (n:=s.length) AdE;rw[EX,Aaq];omega
theorem LH:∀{l:List (List UInt8)},(∀s∈l,s.length≤1000000)→(l.flatMap EX).length≤l.length*1000010
 | [],_=>by simp
 | s::l,h=>by
  have:=LH (l:=l) λu hu=>h u (Abj _ hu);have:=R0 (h s (Abo ..));rw[Ab6,Aaq,AaL,Acg];omega
set_option maxRecDepth 8000 in
theorem TS(n:Nat)(hn:n≤9223372036854775807)(w:World):AF prog 259 [.int .i64 (n:Int)] w (λv w'=>DT w.heap.size w' v (DJ n)∧Ai w w'):=by
 refine Bj func259 ntmps259 ?_;refine Su ?_;refine CW.loop (ι:=Nat×List UInt8×Value) (λx w'=>x.2.1++DJ x.1=DJ n∧x.1≤n∧Ai w w'∧E.Own w' w.heap.size 5 1 x.2.2 x.2.1.length (AK x.2.1)) (λx=>[(0,.int .i64 x.1),(3,x.2.2)]) (λx=>x.1) (n,[],.slice none 0 0) ⟨rfl,Abi _,Chg.refl _ _,Own.nil _ _ _ _⟩ LN ?_;rintro⟨m,out,ov⟩ w1 ⟨a2,a5,a3,hO⟩;dsimp only at a2 a5 hO;show CW _ _ _ _ _ [(0,.int .i64 (m:Int)),(3,ov)] _;have a8:out.length≤10:=by
  have:=congrArg List.length a2;rw[Aaq] at this;have:=E4 hn;omega
 refine Su ?_;refine A8 (λh1=>?_) λh1=>?_
 ·have h1:128≤m:=by simp at h1;omega
  refine Su ?_;refine LW.val rfl rfl rfl (Y.low (m:=m) rfl rfl rfl rfl rfl) ?_;refine LW.bits (z:=((UInt8.ofNat (m % 128+128)).toNat:Int)) rfl rfl rfl (AaA m) rfl ?_;refine Dt λB w2 a6 a0 hB=>?_;refine LW.append (lo:=w.heap.size) (k:=out.length) rfl rfl rfl rfl rfl rfl (hO.ext a0) (by have:=a3.size;have:=a0.size;omega) hB rfl rfl rfl (by show(out.length+1)*2≤_;omega) rfl ?_;intro v3 w3 a4 a1 a7;replace a1:E.Own w3 w.heap.size 5 1 v3 (out.length+1) (AK out++AK [UInt8.ofNat (m % 128+128)]):=a1;rw[←Jl] at a1;refine Su ?_;refine LW.shr (m:=7) (z:=((m / 128:Nat):Int)) rfl rfl AdH (by rw[show(2:Int) ^ 7=128 by decide];omega) rfl ?_;refine Su ?_;exact QW.again (m / 128,out++[UInt8.ofNat (m % 128+128)],v3) ⟨by
   rw[←a2,Kh (n:=m) h1];simp,by show m / 128≤n;omega,(a3.trans a0).step a4 (λb hb=>by have:=(hO.lt hb).1;omega),by
   show E.Own _ _ _ _ v3 (out++[UInt8.ofNat (m % 128+128)]).length _;rw[Aaq];exact a1⟩ LN (by show m / 128<m;omega)
 have h1:m<128:=by simp at h1;omega
 refine Su ?_;refine Dt λB w2 a6 a0 hB=>?_;replace hB:Blk w2 B (AK [UInt8.ofNat m]) 5:=by
  have e:(m:Int)=((UInt8.ofNat m).toNat:Int):=by rw[Ks AdE]
  rw[e] at hB;exact hB
 refine LW.append (lo:=w.heap.size) (k:=out.length) rfl rfl rfl rfl rfl rfl (hO.ext a0) (by have:=a3.size;have:=a0.size;omega) hB rfl rfl rfl (by show(out.length+1)*2≤_;omega) rfl ?_;intro v3 w3 a4 a1 a7;rw[←Jl] at a1;refine Su ?_;refine QW.body1 rfl rfl ⟨?_,(a3.trans a0).step a4 (λb hb=>by have:=(hO.lt hb).1;omega)⟩;rw[←a2,Hm h1];show E.Own _ _ _ _ v3 (out++[UInt8.ofNat m]).length _;rw[Aaq];exact a1
theorem DT.app{lo:Nat}{w:World}{v:Value}{l m:List UInt8}(h:E.Own w lo 5 1 v (l.length+m.length) (AK l++AK m)):DT lo w v (l++m):=by
 show E.Own _ _ _ _ v (l++m).length _;rw[Aaq,Jl];exact h
theorem DT.bytes'{lo:Nat}{w:World}{p:Option Addr}{c:Nat}{l:List UInt8}(h:DT lo w (.slice p l.length c) l):p=none∧l.length=0∨∃a,p=some a∧∀j u,(AK l)[j]?=some u→w.cell? (a.add j)=some u:=by
 obtain⟨hx,⟨e,e2⟩ | ⟨g,cap,sp,e,hB,h1,h2,h3⟩⟩:=h
 ·simp only[AbM] at e;exact .inl ⟨e.1,e2⟩
 ·simp only[AbM] at e;refine .inr ⟨_,e.1,λj u hj=>?_⟩;rw[Au];refine hB.cell ?_;rw[AbC,Abk (Abg.1 hj).1];exact hj
theorem Qj(s:List UInt8)(hs:s.length≤1000000)(w:World):AF prog 260 [Ao s] w (λv w'=>DT w.heap.size w' v (EX s)∧Ai w w'):=by
 refine Bj func260 ntmps260 ?_;refine Su ?_;refine Ay rfl rfl (TS s.length AdE w) ?_;rintro v w1 ⟨hO,a0⟩;obtain⟨p,c,rfl⟩:=hO.slice;have:=E4 (n:=s.length) AdE;refine Su ?_;refine LW.append_str (k:=(DJ s.length).length) (xs:=AK (DJ s.length)) (s:=s) rfl rfl rfl rfl rfl rfl rfl rfl rfl hO a0.size (by show((DJ s.length).length+s.length)*2≤_;omega) rfl ?_;intro v2 w2 a1 a2 a3;refine Su ?_;exact QW.body1 rfl rfl ⟨DT.app a2,a0.step a1 (λb hb=>by have:=(hO.lt hb).1;omega)⟩
theorem TM{ok:Addr→Prop}{w:World}{v:Value}{l:List (List UInt8)}(h:A2 ok w v l):∀s∈l,s.length≤1000000:=λs hs=>by
 obtain⟨i,hi⟩:=Acl hs;obtain⟨p,c,rfl⟩:=h.slice;exact(A2.at h hi).choose_spec.2.2.1
theorem VX{l:List (List UInt8)}(h:∀s∈l,s.length≤1000000)(hl:l.length≤1000000)(k:Nat):(DJ l.length++(l.take k).flatMap EX).length≤10+1000000*1000010:=by
 have h1:=E4 (n:=l.length) AdE;have h2:=LH (l:=l.take k) λs hs=>h s (Adm hs);have h3:(l.take k).length*1000010≤1000000*1000010:=AcM _ (by rw[Acb];omega);rw[Aaq];omega
theorem Lr(l:List (List UInt8))(tv:Value)(w:World)(h:Ce w tv l):AF prog 210 [tv] w (λv w'=>DT w.heap.size w' v (EW l)∧Ai w w'):=by
 obtain⟨p,c,rfl⟩:=h.slice;have hl:=h.1;have hs:=TM h;refine Bj func210 ntmps210 ?_;refine Su ?_;refine Ay rfl rfl (TS l.length AdE w) ?_;rintro v w1 ⟨hO,a6⟩;refine Su ?_;refine CW.loop (ι:=Nat×Value) (λx w'=>x.1≤l.length∧Ai w w'∧DT w.heap.size w' x.2 (DJ l.length++(l.take x.1).flatMap EX)) (λx=>[(3,x.2),(9,.slice p l.length c),(10,.int .i64 l.length),(11,.int .i64 x.1)]) (λx=>l.length - x.1) (0,v) ⟨by omega,a6,by rw[List.take_zero,AcQ,Aby];exact hO⟩ Bx ?_;rintro⟨k,ov⟩ w2 ⟨hk,a1,a0⟩;dsimp only at hk a0;show CW _ _ _ _ _ [(3,ov),(9,.slice p l.length c),(10,.int .i64 l.length),(11,.int .i64 (k:Int))] _;refine Su ?_;refine A8 (λh1=>?_) λh1=>?_;rotate_left
 ·have h1:k=l.length:=by simp at h1;omega
  subst h1;refine Su ?_;refine QW.body1 rfl rfl ⟨?_,a1⟩;rw[AbH] at a0;exact a0
 have h1:k<l.length:=by simp at h1;omega
 obtain⟨s,a3⟩:∃s,l[k]?=some s:=⟨_,Aap h1⟩;obtain⟨a,rfl,-,a4,hc⟩:=A2.at (A2.ext h a1) a3;refine Su ?_;refine Ay rfl rfl (Qj s a4 w2) ?_;rintro u w3 ⟨a5,a2⟩;obtain⟨pu,cu,rfl⟩:=a5.slice;have hb:=VX hs hl k;have ht:=R0 a4;have hq:=(DT.bytes' a5);refine Su ?_;refine LW.append_any (lo:=w.heap.size) (k:=(DJ l.length++(l.take k).flatMap EX).length) (xs:=AK (DJ l.length++(l.take k).flatMap EX)) (news:=AK (EX s)) rfl rfl rfl rfl rfl rfl (a0.ext a2) (by have:=a1.size;have:=a2.size;omega) (by rw[Qx];show _=_*1;omega) hq (SD _) (by show(_+(EX s).length)*2≤_;omega) rfl ?_;intro v4 w4 a7 a8 a9;refine Su ?_;exact QW.again (k+1,v4) ⟨h1,(a1.trans a2).step a7 (λb hb=>by have:=(a0.lt hb).1;omega),by
  have:=DT.app a8;rw[AaR] at this;show DT _ _ v4 (DJ l.length++(l.take (k+1)).flatMap EX);rw[Ab7,a3,AbF]
  simpa using this⟩ Bx (by show l.length - (k+1)<l.length - k;omega)
end Go.Proofs.YtcjjcnecopnpcaaGreatDoor
