/-
  Joined by program out of the texts BookP Less BookL BookW PasP PasQ PasW CodeP AliP AliQ FillP Byt Code1 Code2 OpenB.
-/
import Derived.Test.YtcjjcnecopnpcaaGreatDoorMyG
import Derived.Test.YtcjjcnecopnpcaaGreatDoorMyE
import Derived.Test.YtcjjcnecopnpcaaGreatDoorTy
import Derived.Test.YtcjjcnecopnpcaaGreatDoorMyI
import Derived.Test.YtcjjcnecopnpcaaGreatDoorMyH
import Derived.Test.YtcjjcnecopnpcaaGreatDoorMyB
import Derived.Lib.EndianBits
import Derived.Test.YtcjjcnecopnpcaaGreatDoorMyF
import Derived.Deep.Slices
namespace Go.Proofs.YtcjjcnecopnpcaaGreatDoor
open Tryz
open Go Go.E
structure Af where
 name:List UInt8
 cols:Int
 rows:List (List (List UInt8))
deriving DecidableEq
abbrev Ao:=List Af
def O2(b:Ao)(nm:List UInt8):Option Nat:=b.findIdx? (λs=>decide (s.name=nm))
def VU:Option Nat→Int
 | some i=>i
 | none=>-1
theorem MS{b:Ao}{nm:List UInt8}{i:Nat}(h:O2 b nm=some i):∃s,b[i]?=some s∧s.name=nm:=by
 unfold O2 at h;rw[AbI] at h;obtain⟨a0,e,_⟩:=h;exact⟨b[i],Aav a0,by simpa using e⟩
theorem X1{b:Ao}{x:List UInt8}(h:∀i s,i<b.length→b[i]?=some s→s.name≠x):O2 b x=none:=by
 unfold O2;rw[Ac9];intro s hs;obtain⟨i,hi,rfl⟩:=AcS hs;have:=h i _ hi (Aav hi)
 simpa using this
theorem X0{b:Ao}{x:List UInt8}{k:Nat}{s:Af}(hk:b[k]?=some s)(hs:s.name=x)(h:∀i u,i<k→b[i]?=some u→u.name≠x):O2 b x=some k:=by
 unfold O2;rw[AbI];obtain⟨a0,e⟩:=Abo.1 hk;refine⟨a0,by rw[e];simpa using hs,λj hj=>?_⟩;have:=h j _ hj (Aav Aeb)
 simpa using this
noncomputable def A6(s:Af):Bool:=D5 s.name&&decide (0≤s.cols)&&decide (s.cols≤12)&&decide (s.rows.length≤24)&&s.rows.all λr=>decide ((r.length:Int)=s.cols)&&r.all Ci
noncomputable def G0:Option (List UInt8)→Ao→Bool
 | _,[]=>true
 | p,s::r=>(match p with | none=>true | some q=>Op.bytesLess q s.name)&&A6 s&&G0 (some s.name) r
noncomputable def Ay(b:Ao):Bool:=decide (b.length≤5)&&G0 none b
def Aad:EC (List UInt8):=λ_ _ cs s=>cs=[Aq s]∧s.length≤1000000
abbrev AD(ok:Addr→Prop):World→Value→List (List UInt8)→Prop:=Ai 1 ok Aad
def Abu(okT:Nat→Addr→Prop):EC (List (List UInt8)):=λi w cs r=>∃v,cs=[v]∧AD (okT i) w v r
abbrev BA(okR:Addr→Prop)(okT:Nat→Addr→Prop):World→Value→List (List (List UInt8))→Prop:=Ai 1 okR (Abu okT)
def Az(s:Af)(rv:Value):List Value:=[Aq s.name,.int .i64 s.cols,rv]
def Aa5(okR:Nat→Addr→Prop)(okT:Nat→Nat→Addr→Prop):EC Af:=λi w cs s=>∃rv,cs=Az s rv∧s.name.length≤1000000∧BA (okR i) (okT i) w rv s.rows
abbrev Ac(okS:Addr→Prop)(okR:Nat→Addr→Prop)(okT:Nat→Nat→Addr→Prop):World→Value→Ao→Prop:=Ai 3 okS (Aa5 okR okT)
abbrev Io:Addr→Prop:=λ_=>True
abbrev Cw:=AD Io
abbrev CS:=BA Io (λ_=>Io)
abbrev Bu:=Ac Io (λ_=>Io) (λ_ _=>Io)
theorem AD.chg{S:List Nat}{ok:Addr→Prop}{w w':World}{v:Value}{l:List (List UInt8)}(h:AD ok w v l)(x:Chg S w w')(hs:l≠[]→∀a,ok a→a.block∉S):AD ok w' v l:=Ai.chg h x hs λ_ _ _ _ h=>h
theorem BA.chg{S:List Nat}{okR:Addr→Prop}{okT:Nat→Addr→Prop}{w w':World}{v:Value}{l:List (List (List UInt8))}(h:BA okR okT w v l)(x:Chg S w w')(hs:∀a,okR a→a.block∉S)(ht:∀i x a,l[i]?=some x→x≠[]→okT i a→a.block∉S):BA okR okT w' v l:=
 Ai.chg h x (λ_=>hs) λi y _ hi ⟨v,h1,h2⟩=>⟨v,h1,h2.chg x (λhn a ha=>ht i y a hi hn ha)⟩
theorem Ac.chg{S:List Nat}{okS:Addr→Prop}{okR:Nat→Addr→Prop}{okT:Nat→Nat→Addr→Prop}{w w':World}{v:Value}{l:Ao}(h:Ac okS okR okT w v l)(x:Chg S w w')(hs:∀a,okS a→a.block∉S)(hr:∀i a,i<l.length→okR i a→a.block∉S)(ht:∀i s r y a,l[i]?=some s→s.rows[r]?=some y→y≠[]→okT i r a→a.block∉S):Ac okS okR okT w' v l:=
 Ai.chg h x (λ_=>hs) λi s _ hi ⟨v,h1,h2,h3⟩=>⟨v,h1,h2,h3.chg x (λa ha=>hr i a (Abo.1 hi).1 ha) (λr y a hr hn ha=>ht i s r y a hi hr hn ha)⟩
theorem AD.ext{ok:Addr→Prop}{w w':World}{v:Value}{l:List (List UInt8)}(h:AD ok w v l)(x:Ah w w'):AD ok w' v l:=AD.chg h x Aej
theorem BA.ext{okR:Addr→Prop}{okT:Nat→Addr→Prop}{w w':World}{v:Value}{l:List (List (List UInt8))}(h:BA okR okT w v l)(x:Ah w w'):BA okR okT w' v l:=BA.chg h x Aej Aej
theorem Ac.ext{okS:Addr→Prop}{okR:Nat→Addr→Prop}{okT:Nat→Nat→Addr→Prop}{w w':World}{v:Value}{l:Ao}(h:Ac okS okR okT w v l)(x:Ah w w'):Ac okS okR okT w' v l:=Ac.chg h x Aej Aej Aej
theorem AD.at{ok:Addr→Prop}{w:World}{p:Option Addr}{c:Nat}{l:List (List UInt8)}(h:AD ok w (.slice p l.length c) l){i:Nat}{s:List UInt8}(hi:l[i]?=some s):∃a,p=some a∧ok a∧s.length≤1000000∧w.cell? (a.add (((i:Nat):Int).toNat*1))=some (Aq s):=by
 obtain⟨a,u,h1,h2,⟨h3,h4⟩,h5⟩:=h.at1 hi;simp only[AcC,and_true] at h3;subst h3;exact⟨a,h1,h2,h4,h5⟩
theorem BA.at{okR:Addr→Prop}{okT:Nat→Addr→Prop}{w:World}{p:Option Addr}{c:Nat}{l:List (List (List UInt8))}(h:BA okR okT w (.slice p l.length c) l){i:Nat}{r:List (List UInt8)}(hi:l[i]?=some r):∃a q k,p=some a∧okR a∧AD (okT i) w (.slice q r.length k) r∧w.cell? (a.add (((i:Nat):Int).toNat*1))=some (.slice q r.length k):=by
 obtain⟨a,u,h1,h2,⟨v,h3,h4⟩,h5⟩:=h.at1 hi;simp only[AcC,and_true] at h3;subst h3;obtain⟨q,k,rfl⟩:=h4.slice;exact⟨a,q,k,h1,h2,h4,h5⟩
theorem Ac.at{okS:Addr→Prop}{okR:Nat→Addr→Prop}{okT:Nat→Nat→Addr→Prop}{w:World}{p:Option Addr}{c:Nat}{l:Ao}(h:Ac okS okR okT w (.slice p l.length c) l){i:Nat}{s:Af}(hi:l[i]?=some s):∃a q k,p=some a∧okS a∧s.name.length≤1000000∧BA (okR i) (okT i) w (.slice q s.rows.length k) s.rows∧∀j u,(Az s (.slice q s.rows.length k))[j]?=some u→w.cell? ((a.add (((i:Nat):Int).toNat*3)).add j)=some u:=by
 obtain⟨a,cs,h1,h2,h3,⟨rv,rfl,h4,h5⟩,h6⟩:=Ai.at h hi;obtain⟨q,k,rfl⟩:=h5.slice;exact⟨a,q,k,h1,h2,h4,h5,h6⟩
theorem Iy:∀a:List UInt8,Op.bytesLess a a=false
 | []=>rfl
 | x::l=>by simp[Op.bytesLess,Iy l]
theorem EJ:∀{a b c:List UInt8},Op.bytesLess a b=true→Op.bytesLess b c=true→Op.bytesLess a c=true
 | [],b,[],h,k=>by cases b<;>simp[Op.bytesLess] at h k
 | [],_,_::_,_,_=>by simp[Op.bytesLess]
 | _::_,[],_,h,_=>by simp[Op.bytesLess] at h
 | _::_,_::_,[],_,k=>by simp[Op.bytesLess] at k
 | x::a,y::b,z::c,h,k=>by
  simp only[Op.bytesLess,Aci,Abr,decide_eq_true_eq,beq_iff_eq] at h k ⊢;rcases h with h | ⟨rfl,h⟩
  ·rcases k with k | ⟨rfl,k⟩
   ·exact .inl (UInt8.lt_trans h k)
   ·exact .inl h
  ·rcases k with k | ⟨rfl,k⟩
   ·exact .inl k
   ·exact .inr ⟨rfl,EJ h k⟩
theorem Zt{a b:List UInt8}(h:Op.bytesLess a b=true):a≠b:=λe=>by
 subst e;rw[Iy] at h;cases h
theorem JJ:∀{b:Ao} {p:Option (List UInt8)},G0 p b=true→(∀s∈b,A6 s=true∧∀q,p=some q→Op.bytesLess q s.name=true)∧b.Pairwise (λs u=>Op.bytesLess s.name u.name=true)
 | [],_,_=>⟨by simp,.nil⟩
 | s::r,p,h=>by
  simp only[G0,Abr] at h;obtain⟨⟨h1,h2⟩,h3⟩:=h;obtain⟨h4,h5⟩:=JJ h3;refine⟨λu hu=>?_,.cons (λu hu=>(h4 u hu).2 _ rfl) h5⟩;rcases Ab0.1 hu with rfl | hu
  ·refine⟨h2,λq hq=>?_⟩;subst hq;exact h1
  ·refine⟨(h4 u hu).1,λq hq=>?_⟩;subst hq;exact EJ h1 ((h4 u hu).2 _ rfl)
theorem RD:∀{b:Ao} {p:Option (List UInt8)},(∀s∈b,A6 s=true∧∀q,p=some q→Op.bytesLess q s.name=true)→b.Pairwise (λs u=>Op.bytesLess s.name u.name=true)→G0 p b=true
 | [],_,_,_=>rfl
 | s::r,p,h,k=>by
  obtain⟨k1,k2⟩:=AcW.1 k;simp only[G0,Abr];refine⟨⟨?_,(h s (AbC ..)).1⟩,RD (λu hu=>⟨(h u (Ab5 _ hu)).1,λq hq=>?_⟩) k2⟩
  ·cases p with
   | none=>rfl
   | some q=>exact(h s (AbC ..)).2 q rfl
  ·simp only[AaZ] at hq;rw[←hq];exact k1 u hu
theorem Ch{b:Ao}:Ay b=true↔b.length≤5∧(∀s∈b,A6 s=true)∧b.Pairwise (λs u=>Op.bytesLess s.name u.name=true):=by
 unfold Ay;rw[Abr,decide_eq_true_eq];constructor
 ·rintro⟨h1,h2⟩;exact⟨h1,λs hs=>((JJ h2).1 s hs).1,(JJ h2).2⟩
 ·rintro⟨h1,h2,h3⟩;exact⟨h1,RD (λs hs=>⟨h2 s hs,λq hq=>by cases hq⟩) h3⟩
theorem Aak{b:Ao}(h:b.Pairwise (λs u=>Op.bytesLess s.name u.name=true)){i:Nat}{s:Af}(hi:b[i]?=some s):O2 b s.name=some i:=by
 refine X0 hi rfl λj u hj hu=>?_;obtain⟨hl,e⟩:=Abo.1 hi;obtain⟨a0,e'⟩:=Abo.1 hu;have:=AdI.1 h j i a0 hl hj;rw[e,e'] at this;exact Zt this
def Abc:EC (List UInt8):=λ_ _ cs s=>cs=[Aq s]∧s.length≤9223372036854775807
abbrev FS:World→Value→List (List UInt8)→Prop:=Ai 1 Io Abc
def Abt:EC (List (List UInt8)):=λ_ w cs r=>∃v,cs=[v]∧FS w v r
abbrev GK:World→Value→List (List (List UInt8))→Prop:=Ai 1 Io Abt
def ZE:EC Af:=λ_ w cs s=>∃rv,cs=Az s rv∧s.name.length≤1000000∧GK w rv s.rows
abbrev C6:World→Value→Ao→Prop:=Ai 3 Io ZE
theorem FS.ext{w w':World}{v:Value}{l:List (List UInt8)}(h:FS w v l)(x:Ah w w'):FS w' v l:=Ai.ext' h x λ_ _ _ _ h=>h
theorem GK.ext{w w':World}{v:Value}{l:List (List (List UInt8))}(h:GK w v l)(x:Ah w w'):GK w' v l:=Ai.ext' h x λ_ _ _ _ ⟨v,e,h⟩=>⟨v,e,FS.ext h x⟩
theorem C6.ext{w w':World}{v:Value}{l:Ao}(h:C6 w v l)(x:Ah w w'):C6 w' v l:=Ai.ext' h x λ_ _ _ _ ⟨rv,e,hn,h⟩=>⟨rv,e,hn,GK.ext h x⟩
theorem FS.at{w:World}{p:Option Addr}{c:Nat}{l:List (List UInt8)}(h:FS w (.slice p l.length c) l){i:Nat}{s:List UInt8}(hi:l[i]?=some s):∃a,p=some a∧Io a∧s.length≤9223372036854775807∧w.cell? (a.add (((i:Nat):Int).toNat*1))=some (Aq s):=by
 obtain⟨a,u,h1,h2,⟨e,h3⟩,h4⟩:=Ai.at1 h hi;obtain rfl:=(List.cons.inj e).1;exact⟨a,h1,h2,h3,h4⟩
theorem GK.at{w:World}{p:Option Addr}{c:Nat}{l:List (List (List UInt8))}(h:GK w (.slice p l.length c) l){i:Nat}{r:List (List UInt8)}(hi:l[i]?=some r):∃a q k,p=some a∧Io a∧FS w (.slice q r.length k) r∧w.cell? (a.add (((i:Nat):Int).toNat*1))=some (.slice q r.length k):=by
 obtain⟨a,u,h1,h2,⟨u',e,h3⟩,h4⟩:=Ai.at1 h hi;obtain rfl:=(List.cons.inj e).1;obtain⟨q,k,rfl⟩:=Ai.slice h3;exact⟨a,q,k,h1,h2,h3,h4⟩
theorem C6.at{w:World}{p:Option Addr}{c:Nat}{l:Ao}(h:C6 w (.slice p l.length c) l){i:Nat}{s:Af}(hi:l[i]?=some s):∃a q k,p=some a∧Io a∧s.name.length≤1000000∧GK w (.slice q s.rows.length k) s.rows∧∀j u,(Az s (.slice q s.rows.length k))[j]?=some u→w.cell? ((a.add (((i:Nat):Int).toNat*3)).add j)=some u:=by
 obtain⟨a,cs,h1,h2,-,⟨rv,rfl,h3,h4⟩,h5⟩:=Ai.at h hi;obtain⟨q,k,rfl⟩:=Ai.slice h4;exact⟨a,q,k,h1,h2,h3,h4,h5⟩
theorem AD.loose{ok:Addr→Prop}{w:World}{v:Value}{l:List (List UInt8)}(h:AD ok w v l):FS w v l:=Ai.map h (λ_ _=>trivial) λ_ _ _ _ ⟨e,h⟩=>⟨e,by omega⟩
theorem BA.loose{okR:Addr→Prop}{okT:Nat→Addr→Prop}{w:World}{v:Value}{l:List (List (List UInt8))}(h:BA okR okT w v l):GK w v l:=Ai.map h (λ_ _=>trivial) λ_ _ _ _ ⟨v,e,h⟩=>⟨v,e,AD.loose h⟩
theorem Ac.loose{okS:Addr→Prop}{okR:Nat→Addr→Prop}{okT:Nat→Nat→Addr→Prop}{w:World}{v:Value}{l:Ao}(h:Ac okS okR okT w v l):C6 w v l:=Ai.map h (λ_ _=>trivial) λ_ _ _ _ ⟨rv,e,hn,h⟩=>⟨rv,e,hn,BA.loose h⟩
theorem Kx{s:List UInt8}(h:Ci s=true):s.length≤300:=by
 unfold Ci at h
 split at h
 ·cases h
 ·omega
theorem RE{s:Af}(h:A6 s=true):∀r∈s.rows,(r.length:Int)=s.cols∧∀t∈r,Ci t=true:=by
 simp only[A6,Abr,Ac5,decide_eq_true_eq] at h;exact λr hr=>⟨(h.2 r hr).1,λt ht=>(h.2 r hr).2 t ht⟩
theorem C6.strict{w:World}{v:Value}{b:Ao}(h:C6 w v b)(hb:Ay b=true):Bu w v b:=by
 have hm:=(Ch.1 hb).2.1;refine Ai.map h (λ_ _=>trivial) λi s cs hi ⟨rv,e,hn,hr⟩=>⟨rv,e,hn,?_⟩;have hc:=RE (hm s (Ab4 hi));refine Ai.map hr (λ_ _=>trivial) λr x cs hx ⟨u,e,ht⟩=>⟨u,e,?_⟩;exact Ai.map ht (λ_ _=>trivial) λc t cs ht ⟨e,_⟩=>⟨e,by have:=Kx ((hc x (Ab4 hx)).2 t (Ab4 ht));omega⟩
def Aac:Kb (List UInt8):=λ_ cs s=>cs=[Aq s]∧s.length≤9223372036854775807
abbrev Hv:World→Value→List (List UInt8)→Prop:=Dg 1 Aac
theorem Hv.ext{w w':World}{v:Value}{l:List (List UInt8)}(h:Hv w v l)(x:Ah w w'):Hv w' v l:=Dg.ext h x λ_ _ h=>h
theorem Hv.at{w:World}{p:Option Addr}{c:Nat}{l:List (List UInt8)}(h:Hv w (.slice p l.length c) l){i:Nat}{s:List UInt8}(hi:l[i]?=some s):∃a,p=some a∧s.length≤9223372036854775807∧w.cell? (a.add (((i:Nat):Int).toNat*1))=some (Aq s):=by
 obtain⟨a,cs,h1,h2,⟨rfl,h3⟩,h4⟩:=Dg.at h hi;exact⟨a,h1,h3,by have:=h4 0 _ rfl;rwa [KQ] at this⟩
def YD:Kb (List (List UInt8)):=λw cs r=>∃u,cs=[u]∧Hv w u r
abbrev HP:World→Value→List (List (List UInt8))→Prop:=Dg 1 YD
def LH:Kb Af:=λw cs s=>∃rv,cs=Az s rv∧s.name.length≤9223372036854775807∧HP w rv s.rows
abbrev Cd:World→Value→Ao→Prop:=Dg 3 LH
theorem YD.ext{w w':World}{cs:List Value}{r:List (List UInt8)}(h:YD w cs r)(x:Ah w w'):YD w' cs r:=let ⟨u,e,h1⟩:=h;⟨u,e,h1.ext x⟩
theorem HP.ext{w w':World}{v:Value}{l:List (List (List UInt8))}(h:HP w v l)(x:Ah w w'):HP w' v l:=Dg.ext h x λ_ _ h=>h.ext x
theorem LH.ext{w w':World}{cs:List Value}{s:Af}(h:LH w cs s)(x:Ah w w'):LH w' cs s:=let ⟨rv,e,h1,h2⟩:=h;⟨rv,e,h1,h2.ext x⟩
theorem Cd.ext{w w':World}{v:Value}{l:Ao}(h:Cd w v l)(x:Ah w w'):Cd w' v l:=Dg.ext h x λ_ _ h=>h.ext x
theorem HP.at{w:World}{p:Option Addr}{c:Nat}{l:List (List (List UInt8))}(h:HP w (.slice p l.length c) l){i:Nat}{r:List (List UInt8)}(hi:l[i]?=some r):∃a q k,p=some a∧Hv w (.slice q r.length k) r∧w.cell? (a.add (((i:Nat):Int).toNat*1))=some (.slice q r.length k):=by
 obtain⟨a,cs,h1,h2,⟨u,rfl,h3⟩,h4⟩:=Dg.at h hi;obtain⟨q,k,rfl⟩:=h3.slice;exact⟨a,q,k,h1,h3,by have:=h4 0 _ rfl;rwa [KQ] at this⟩
theorem Cd.at{w:World}{p:Option Addr}{c:Nat}{l:Ao}(h:Cd w (.slice p l.length c) l){i:Nat}{s:Af}(hi:l[i]?=some s):∃a q k,p=some a∧s.name.length≤9223372036854775807∧HP w (.slice q s.rows.length k) s.rows∧∀j u,(Az s (.slice q s.rows.length k))[j]?=some u→w.cell? ((a.add (((i:Nat):Int).toNat*3)).add j)=some u:=by
 obtain⟨a,cs,h1,h2,⟨rv,rfl,h3,h4⟩,h5⟩:=Dg.at h hi;obtain⟨q,k,rfl⟩:=h4.slice;exact⟨a,q,k,h1,h3,h4,h5⟩
def Xp(b:Ao):Prop:=b.length≤1000000∧∀s∈b,s.name.length≤1000000∧s.rows.length≤1000000∧∀r∈s.rows,r.length≤1000000
theorem Cd.loose{w:World}{v:Value}{b:Ao}(h:Cd w v b)(hb:Xp b):C6 w v b:=
 Dg.strong h hb.1 λi s cs hi ⟨rv,e,_,hr⟩=>by
  obtain⟨h1,h2,h3⟩:=hb.2 s (Ab4 hi);exact⟨rv,e,h1,Dg.strong hr h2 λj r ds hj ⟨u,e2,ht⟩=>⟨u,e2,Dg.strong ht (h3 r (Ab4 hj)) λ_ _ _ _ ⟨e3,h4⟩=>⟨e3,h4⟩⟩⟩
def GH(n:Nat):List UInt8:=if h:n<128 then[UInt8.ofNat n] else UInt8.ofNat (n % 128+128)::GH (n / 128)
 termination_by n
 decreasing_by omega
def JP(s:List UInt8):List UInt8:=GH s.length++s
def Jy(l:List (List UInt8)):List UInt8:=GH l.length++l.flatMap JP
theorem NW{n:Nat}(h:n<128):GH n=[UInt8.ofNat n]:=by rw[GH,dif_pos h]
theorem So{n:Nat}(h:128≤n):GH n=UInt8.ofNat (n % 128+128)::GH (n / 128):=by rw[GH,dif_neg Aeb]
theorem Tc{n:Nat}(h:n<256):(UInt8.ofNat n).toNat=n:=by simp;omega
section
variable {α:Type} [DecidableEq α]
def Do:List α→List α→Nat
 | [],_=>0
 | _::_,[]=>0
 | x::a,y::b=>if x=y then Do a b+1 else max (Do a (y::b)) (Do (x::a) b)
 termination_by a b=>a.length+b.length
def AX:List α→List α→Nat→Nat→List (Nat×Nat)
 | [],_,_,_=>[]
 | _::_,[],_,_=>[]
 | x::a,y::b,i,k=>if x=y then(i,k)::AX a b (i+1) (k+1) else if Do (x::a) b≤Do a (y::b) then AX a (y::b) (i+1) k else AX (x::a) b i (k+1)
 termination_by a b _ _=>a.length+b.length
theorem Mm:∀(a:List α) (i k:Nat),AX a a i k=(List.range a.length).map λj=>(i+j,k+j)
 | [],_,_=>by simp[AX]
 | x::a,i,k=>by
  rw[AX,if_pos rfl,Mm a,Abe,List.range_succ_eq_map];simp only[Ach,AcG,Acu,AcC,true_and];apply Acg;intro j _;simp only[Function.comp,AbJ];omega
theorem Jl:∀(a b:List α) (i k:Nat),∀p∈AX a b i k,i≤p.1∧p.1<i+a.length∧k≤p.2∧p.2<k+b.length
 | [],_,_,_,p,h=>by simp[AX] at h
 | _::_,[],_,_,p,h=>by simp[AX] at h
 | x::a,y::b,i,k,p,h=>by
  rw[AX] at h;simp only[Abe]
  split at h
  ·rcases Ab0.1 h with rfl | h
   ·simp
   ·have:=Jl a b (i+1) (k+1) p h;omega
  split at h
  ·have:=Jl a (y::b) (i+1) k p h;simp only[Abe] at this;omega
  ·have:=Jl (x::a) b i (k+1) p h;simp only[Abe] at this;omega
 termination_by a b _ _=>a.length+b.length
end
def Ce(n:Nat)(ps:List (Nat×Nat)):List Int:=ps.foldl (λl p=>l.set p.1 (p.2:Int)) (List.replicate n (-1))
def CP(new:Int):List Int→Int
 | []=>new
 | k::r=>if 0≤k then k else CP new r
def E7(new:Int):Int→List Int→List Int
 | _,[]=>[]
 | free,k::r=>if 0≤k then k::E7 new (k+1) r else if free<CP new r then free::E7 new (free+1) r else -1::E7 new free r
theorem Fb(n:Nat)(ps:List (Nat×Nat)):(Ce n ps).length=n:=by
 unfold Ce;have:∀(ps:List (Nat×Nat)) (l:List Int),(ps.foldl (λl p=>l.set p.1 (p.2:Int)) l).length=l.length:=λps=>by
  induction ps with
  | nil=>simp
  | cons p r ih=>intro l;rw[AcM,ih,Aco]
 rw[this];simp
theorem Ja(new:Int):∀(free:Int) (l:List Int),(E7 new free l).length=l.length
 | _,[]=>rfl
 | free,k::r=>by
  rw[E7]
  split
  ·simp[Ja new (k+1) r]
  split
  ·simp[Ja new (free+1) r]
  ·simp[Ja new free r]
theorem Ng(new:Int):∀(free:Int) (l:List Int),(∀k∈l,0≤k)→E7 new free l=l
 | _,[],_=>rfl
 | free,k::r,h=>by
  rw[E7,if_pos (h k (AbC ..)),Ng new (k+1) r λx hx=>h x (Ab5 _ hx)]
def B6(n:Nat):List Int:=(List.range n).map λ(i:Nat)=>(i:Int)
def DE{α:Type}[DecidableEq α](a b:List α):List Int:=E7 b.length 0 (Ce a.length (AX a b 0 0))
theorem G3{α:Type}[DecidableEq α](a b:List α):(DE a b).length=a.length:=by rw[DE,Ja,Fb]
theorem Kw:∀(n m:Nat),m≤n→Ce n ((List.range m).map λj=>(0+j,0+j))=B6 m++List.replicate (n - m) (-1)
 | n,0,_=>by simp[Ce,B6]
 | n,m+1,h=>by
  have ih:=Kw n m Aeb;unfold Ce at ih ⊢;rw[Acl,AbX,Adw,ih];simp only[Ach,AcF,AcM,List.foldl_nil,AbP];rw[Ac0 _ _ (by simp[B6]),show m - (B6 m).length=0 by simp[B6],show n - m=(n - (m+1))+1 by omega,Acy,AcX];simp[B6,Acl]
theorem K4{α:Type}[DecidableEq α](a:List α):DE a a=B6 a.length:=by
 rw[DE,Mm,Kw _ _ (Ab2 _),AcQ,List.replicate_zero,AbD];exact Ng _ _ _ λk hk=>by
  simp only[B6,AbZ] at hk;obtain⟨i,_,rfl⟩:=hk;omega
def EH(r:List (List UInt8)):List UInt8:=Jy (r.filter λs=>decide (s≠[]))
def Bb(a b:Af):List Int:=DE (a.rows.map EH) (b.rows.map EH)
def Dh(a b:Af)(m:List Int):List (Nat×Nat):=(List.range a.rows.length).filterMap λi=>match (m[i]?:Option Int) with
 | none=>none
 | some (k:Int)=>if 0≤k∧k<b.rows.length∧EH (a.rows.getD i [])=EH (b.rows.getD k.toNat []) then some (i,k.toNat) else none
def Hw(s:Af)(rs:List Nat)(c:Nat):List UInt8:=Jy (rs.map λr=>(s.rows.getD r []).getD c [])
def B9(s:Af)(rs:List Nat):List (List UInt8):=(List.range s.cols.toNat).map (Hw s rs)
def D3(a b:Af)(m:List Int):List Int:=DE (B9 a ((Dh a b m).map Prod.fst)) (B9 b ((Dh a b m).map Prod.snd))
theorem S8(a:Af):Bb a a=B6 a.rows.length:=by rw[Bb,K4];simp
theorem QR(a:Af):(Dh a a (B6 a.rows.length)).map Prod.fst=(Dh a a (B6 a.rows.length)).map Prod.snd:=by
 unfold Dh;rw[List.map_filterMap,List.map_filterMap]
 congr 1
 funext i
 simp only[B6,AbR];by_cases h:i<a.rows.length
 ·simp[h]
 ·rw[AbE AeQ];rfl
theorem Rc(a:Af):D3 a a (B6 a.rows.length)=B6 a.cols.toNat:=by
 rw[D3,QR,K4];simp[B9]
section
variable {α:Type} [DecidableEq α]
def Kv:List α→List α→Nat→List Int
 | [],_,_=>[]
 | _::a,[],k=>-1::Kv a [] k
 | x::a,y::b,k=>if x=y then(k:Int)::Kv a b (k+1) else if Do (x::a) b≤Do a (y::b) then -1::Kv a (y::b) k else Kv (x::a) b (k+1)
 termination_by a b _=>a.length+b.length
theorem Lz:∀(a:List α) (k:Nat),Kv a [] k=List.replicate a.length (-1)
 | [],_=>by simp[Kv]
 | x::a,k=>by rw[Kv,Lz a k,Abe,Acy]
theorem Ko:∀(a b:List α) (i k:Nat) (pre:List Int),pre.length=i→(AX a b i k).foldl (λl p=>l.set p.1 (p.2:Int)) (pre++List.replicate a.length (-1))=pre++Kv a b k
 | [],_,_,_,pre,_=>by simp[AX,Kv]
 | x::a,[],i,k,pre,_=>by
  rw[Lz]
  simp[AX]
 | x::a,y::b,i,k,pre,h=>by
  rw[AX,Kv]
  split
  ·rw[AcM];simp only[Abe,Acy];rw[Ac0 _ _ Aeb,h,AcQ,AcX];have:=Ko a b (i+1) (k+1) (pre++[(k:Int)]) (by simp[h]);rw[Abn,Adb] at this;rw[this,Abn,Adb]
  split
  ·have:=Ko a (y::b) (i+1) k (pre++[-1]) (by simp[h]);rw[Abn,Adb] at this;simp only[Abe,Acy];rw[this,Abn,Adb]
  ·exact Ko (x::a) b i (k+1) pre h
 termination_by a b _ _ _=>a.length+b.length
theorem Ud(a b:List α):Ce a.length (AX a b 0 0)=Kv a b 0:=by
 have:=Ko a b 0 0 [] rfl
 simpa[Ce] using this
theorem Mo{new:Int}:∀{l:List Int} {last last':Int},B0 new last l=true→last'≤last→B0 new last' l=true
 | [],_,_,_,_=>rfl
 | z::r,last,last',h,hl=>by
  rw[B0] at h ⊢
  split at h
  ·rename_i e;rw[if_pos e];exact Mo h hl
  ·rename_i e;rw[if_neg e]
   split at h
   ·cases h
   ·rw[if_neg Aeb];exact h
theorem Oc(new last:Int):∀n:Nat,B0 new last (List.replicate n (-1))=true
 | 0=>rfl
 | n+1=>by rw[Acy,B0,if_pos rfl,Oc new last n]
theorem Jd:∀(a b:List α) (k:Nat),B0 ((k+b.length:Nat):Int) ((k:Int) - 1) (Kv a b k)=true
 | [],_,_=>by simp[Kv,B0]
 | x::a,[],k=>by rw[Lz];exact Oc _ _ _
 | x::a,y::b,k=>by
  rw[Kv]
  split
  ·rw[B0,if_neg Aeb,if_neg (by simp only[Abe];omega)];have:=Jd a b (k+1);rw[show k+(y::b).length=k+1+b.length by simp only[Abe];omega];rw[show(((k+1:Nat):Int) - 1)=(k:Int) by omega] at this;exact this
  split
  ·rw[B0,if_pos rfl];exact Jd a (y::b) k
  ·have:=Jd (x::a) b (k+1);rw[show k+(y::b).length=k+1+b.length by simp only[Abe];omega];exact Mo this Aeb
 termination_by a b _=>a.length+b.length
theorem NC{new:Int}:∀{l:List Int} {last:Int},B0 new last l=true→CP new l≤new
 | [],_,_=>AcV _
 | z::r,last,h=>by
  rw[B0] at h;rw[CP]
  split at h
  ·rename_i e;rw[if_neg Aeb];exact NC h
  ·split at h
   ·cases h
   ·rename_i e1 e2
    split
    ·omega
    ·exact NC h
theorem Mp{new f:Int}:∀{l:List Int} {last:Int},-1≤last→B0 new last l=true→last≤f→f<CP new l→B0 new f l=true
 | [],_,_,_,_,_=>rfl
 | z::r,last,h0,h,hl,hf=>by
  rw[B0] at h ⊢;rw[CP] at hf
  split at h
  ·rename_i e;rw[if_neg Aeb] at hf;rw[if_pos e];exact Mp h0 h hl hf
  ·rename_i e;rw[if_neg e]
   split at h
   ·cases h
   ·rw[if_pos Aeb] at hf;rw[if_neg Aeb];exact h
theorem Jb{new:Int}:∀{l:List Int} {free:Int},0≤free→B0 new (free - 1) l=true→B0 new (free - 1) (E7 new free l)=true
 | [],_,_,_=>rfl
 | k::r,free,h0,h=>by
  rw[B0] at h;rw[E7];by_cases e:k=-1
  ·rw[if_pos e] at h;rw[if_neg Aeb];by_cases hn:free<CP new r
   ·rw[if_pos hn,B0,if_neg Aeb,if_neg (by have:=NC h;omega)];have h2:=Mp (f:=free) Aeb h Aeb hn;have:=Jb (free:=free+1) (l:=r) Aeb (by rw[show free+1 - 1=free by omega];exact h2)
    rwa [show free+1 - 1=free by omega] at this
   ·rw[if_neg hn,B0,if_pos rfl];exact Jb h0 h
  ·rw[if_neg e] at h
   split at h
   ·cases h
   ·rename_i hc;rw[if_pos Aeb,B0,if_neg e,if_neg hc];have:=Jb (free:=k+1) (l:=r) Aeb (by rw[show k+1 - 1=k by omega];exact h)
    rwa [show k+1 - 1=k by omega] at this
theorem JN(a b:List α)(ha:a.length≤1048576)(hb:b.length≤1048576):EK ⟨DE a b,b.length⟩=true:=by
 have h1:B0 (b.length:Int) (-1) (DE a b)=true:=by
  rw[DE,Ud];have:=Jd a b 0;simp only[AbP] at this;exact Jb (free:=0) (AcV _) this
 simp[EK,h1,G3];omega
end
def Ag(a b:Af):Br:={sheet:=a.name,rows:=⟨Bb a b,b.rows.length⟩,cols:=⟨D3 a b (Bb a b),((b.cols.toNat:Nat):Int)⟩,gone:=false}
theorem ER{a b:Af}(ha:A6 a=true)(hb:A6 b=true):(Ag a b).May:=by
 have key:∀s:Af,A6 s=true→s.rows.length≤24∧s.cols≤12:=λs h=>by
  simp only[A6,Abr,decide_eq_true_eq] at h;omega
 obtain⟨a1,a2⟩:=key a ha;obtain⟨b1,b2⟩:=key b hb;refine⟨?_,?_⟩
 ·have:=JN (a.rows.map EH) (b.rows.map EH) Aee Aee
  simpa[Ag,Bb] using this
 ·have:=JN (B9 a ((Dh a b (Bb a b)).map Prod.fst)) (B9 b ((Dh a b (Bb a b)).map Prod.snd)) (by simp[B9];omega) (by simp[B9];omega)
  simpa[Ag,D3,B9] using this
def DH(new:Int):List Int→List Int
 | []=>[]
 | k::r=>(if 0≤k then k else -1 - CP new r)::DH new r
theorem KY(new:Int):∀l:List Int,(DH new l).length=l.length
 | []=>rfl
 | _::r=>by simp[DH,KY new r]
theorem Mj{new M:Int}(h0:0≤new)(h1:new≤M):∀{l:List Int},(∀z∈l,z≤M)→0≤CP new l∧CP new l≤M
 | [],_=>⟨h0,h1⟩
 | k::r,h=>by
  unfold CP
  split
  ·exact⟨by assumption,h k Aej⟩
  ·exact Mj h0 h1 λz hz=>h z (by simp[hz])
theorem Is{l:List Int}{j:Nat}{z:Int}(h:l[j]?=some z):l.drop j=z::l.drop (j+1):=by
 obtain⟨hj,rfl⟩:=Abo.1 h;exact Acp hj
def GM(new:Int)(l:List Int)(i:Nat):List Int:=l.take i++DH new (l.drop i)
theorem V4(new:Int)(l:List Int):GM new l l.length=l:=by simp[GM,DH]
theorem T8(new:Int)(l:List Int):GM new l 0=DH new l:=by simp[GM]
theorem YO{l:List Int}{j:Nat}{z:Int}(h:l[j]?=some z):l.take (j+1)=l.take j++[z]:=by rw[AbO,h];rfl
theorem T6{new:Int}{l:List Int}{i:Nat}{z:Int}(h:l[i]?=some z)(hz:0≤z):GM new l i=GM new l (i+1)∧CP new (l.drop i)=z:=by
 rw[GM,GM,Is h,YO h,DH,if_pos hz,Abn];exact⟨rfl,by rw[CP,if_pos hz]⟩
theorem T7{new:Int}{l:List Int}{i:Nat}{z:Int}(h:l[i]?=some z)(hz:¬0≤z):(GM new l (i+1)).set i (-1 - CP new (l.drop (i+1)))=GM new l i∧CP new (l.drop i)=CP new (l.drop (i+1)):=by
 have hi:=(Abo.1 h).1;rw[GM,GM,Is h,YO h,DH,if_neg hz,Abn,Ac0 _ _ (by rw[Acj];omega),Acj,AdW Aeb,AcQ];exact⟨rfl,by rw[CP,if_neg hz]⟩
structure JC(new:Int)(l:List Int)(j:Nat)(done:List Int)(free:Int):Prop where
 len:done.length=j
 done:done++E7 new free (l.drop j)=E7 new 0 l
 free0:0≤free
theorem JC.start(new:Int)(l:List Int):JC new l 0 [] 0:=⟨rfl,by simp,by omega⟩
theorem JC.kept{new:Int}{l:List Int}{j:Nat}{done:List Int}{free z:Int}(h:JC new l j done free)(hz:l[j]?=some z)(h0:0≤z):JC new l (j+1) (done++[z]) (z+1):=
 ⟨by simp[h.len],by rw[←h.done,Is hz,E7,if_pos h0];simp,by omega⟩
theorem JC.fill{new:Int}{l:List Int}{j:Nat}{done:List Int}{free z:Int}(h:JC new l j done free)(hz:l[j]?=some z)(h0:¬0≤z)(hf:free<CP new (l.drop (j+1))):JC new l (j+1) (done++[free]) (free+1):=
 ⟨by simp[h.len],by rw[←h.done,Is hz,E7,if_neg h0,if_pos hf];simp,by have:=h.free0;omega⟩
theorem JC.gone{new:Int}{l:List Int}{j:Nat}{done:List Int}{free z:Int}(h:JC new l j done free)(hz:l[j]?=some z)(h0:¬0≤z)(hf:¬free<CP new (l.drop (j+1))):JC new l (j+1) (done++[-1]) free:=
 ⟨by simp[h.len],by rw[←h.done,Is hz,E7,if_neg h0,if_neg hf];simp,h.free0⟩
theorem JC.all{new:Int}{l:List Int}{done:List Int}{free:Int}(h:JC new l l.length done free):done=E7 new 0 l:=by
 rw[←h.done];simp[E7]
theorem VP{new:Int}{l:List Int}{j:Nat}{z x:Int}{done:List Int}(hl:done.length=j)(hz:l[j]?=some z):(done++DH new (l.drop j)).set j x=(done++[x])++DH new (l.drop (j+1)):=by
 rw[Is hz,DH,Ac0 _ _ Aeb,hl,AcQ];simp
theorem Zn{new:Int}{l:List Int}{j:Nat}{z:Int}{done:List Int}(hl:done.length=j)(hz:l[j]?=some z):(done++DH new (l.drop j))[j]?=some (if 0≤z then z else -1 - CP new (l.drop (j+1))):=by
 rw[Is hz,DH,AbU Aeb,hl,AcQ];rfl
theorem XP{new:Int}{l:List Int}{j:Nat}{z:Int}{done:List Int}(hz:l[j]?=some z)(h0:0≤z):done++DH new (l.drop j)=(done++[z])++DH new (l.drop (j+1)):=by
 rw[Is hz,DH,if_pos h0];simp
abbrev Ei(lo:Nat)(w:World)(v:Value)(l:List UInt8):Prop:=E.Own w lo 5 1 v l.length (AH l)
theorem QT(l:List UInt8):(AH l).length=l.length:=by simp[AH]
theorem JD(l m:List UInt8):AH (l++m)=AH l++AH m:=by simp[AH]
theorem TA(l:List UInt8):∀u∈AH l,u.oneCell'=true:=λu hu=>by
 simp only[AH,AbZ] at hu;obtain⟨b,_,rfl⟩:=hu;rfl
theorem Aaz:∀k,k<256→bits .or .u8 ((k:Nat):Int) 128=((k % 128+128:Nat):Int):=by decide +kernel
theorem AaV(m:Nat):bits .or .u8 ((UInt8.ofNat m).toNat:Int) 128=((UInt8.ofNat (m % 128+128)).toNat:Int):=by
 have e:(UInt8.ofNat m).toNat=m % 256:=Aej
 rw[e,Aaz _ (Nat.mod_lt _ Aef),Tc Aeb]
 congr 1
 omega
theorem Sr:∀(k n:Nat),0<k→n<128 ^ k→(GH n).length≤k
 | 0,_,h,_=>by omega
 | k+1,n,_,h=>by
  by_cases h1:n<128
  ·rw[NW h1];simp
  ·have hk:0<k:=by
    rcases AdE k with e | e
    ·subst e;simp at h;omega
    ·exact e
   rw[So Aeb,Abe];have:=Sr k (n / 128) hk (by rw[Nat.pow_succ] at h;omega);omega
theorem EP{n:Nat}(h:n≤9223372036854775807):(GH n).length≤10:=Sr 10 n Aef (Nat.lt_of_le_of_lt h Aef)
theorem Ss{s:List UInt8}(h:s.length≤1000000):(JP s).length≤1000010:=by
 have:=EP (n:=s.length) Aeb;rw[JP,Aa9];omega
theorem Mr:∀{l:List (List UInt8)},(∀s∈l,s.length≤1000000)→(l.flatMap JP).length≤l.length*1000010
 | [],_=>by simp
 | s::l,h=>by
  have:=Mr (l:=l) λu hu=>h u (Ab5 _ hu);have:=Ss (h s (AbC ..));rw[AbV,Aa9,Abe,Acz];omega
set_option maxRecDepth 8000 in
theorem UB(n:Nat)(hn:n≤9223372036854775807)(w:World):A9 prog 259 [.int .i64 (n:Int)] w (λv w'=>Ei w.heap.size w' v (GH n)∧Ah w w'):=by
 refine AG func259 ntmps259 ?_;refine Su ?_;refine CW.loop (ι:=Nat×List UInt8×Value) (λx w'=>x.2.1++GH x.1=GH n∧x.1≤n∧Ah w w'∧E.Own w' w.heap.size 5 1 x.2.2 x.2.1.length (AH x.2.1)) (λx=>[(0,.int .i64 x.1),(3,x.2.2)]) (λx=>x.1) (n,[],.slice none 0 0) ⟨rfl,Ab2 _,Chg.refl _ _,Own.nil _ _ _ _⟩ DT ?_;rintro⟨m,out,ov⟩ w1 ⟨a2,a5,a3,hO⟩;dsimp only at a2 a5 hO;show CW _ _ _ _ _ [(0,.int .i64 (m:Int)),(3,ov)] _;have a8:out.length≤10:=by
  have:=congrArg List.length a2;rw[Aa9] at this;have:=EP hn;omega
 refine Su ?_;refine Av (λh1=>?_) λh1=>?_
 ·have h1:128≤m:=by simp at h1;omega
  refine Su ?_;refine LW.val rfl rfl rfl (Y.low (m:=m) rfl rfl rfl rfl rfl) ?_;refine LW.bits (z:=((UInt8.ofNat (m % 128+128)).toNat:Int)) rfl rfl rfl (AaV m) rfl ?_;refine CR λB w2 a6 a0 hB=>?_;refine LW.append (lo:=w.heap.size) (k:=out.length) rfl rfl rfl rfl rfl rfl (hO.ext a0) (by have:=a3.size;have:=a0.size;omega) hB rfl rfl rfl (by show(out.length+1)*2≤_;omega) rfl ?_;intro v3 w3 a4 a1 a7;replace a1:E.Own w3 w.heap.size 5 1 v3 (out.length+1) (AH out++AH [UInt8.ofNat (m % 128+128)]):=a1;rw[←JD] at a1;refine Su ?_;refine LW.shr (m:=7) (z:=((m / 128:Nat):Int)) rfl rfl Aef (by rw[show(2:Int) ^ 7=128 by decide];omega) rfl ?_;refine Su ?_;exact QW.again (m / 128,out++[UInt8.ofNat (m % 128+128)],v3) ⟨by
   rw[←a2,So (n:=m) h1];simp,by show m / 128≤n;omega,(a3.trans a0).step a4 (λb hb=>by have:=(hO.lt hb).1;omega),by
   show E.Own _ _ _ _ v3 (out++[UInt8.ofNat (m % 128+128)]).length _;rw[Aa9];exact a1⟩ DT (by show m / 128<m;omega)
 have h1:m<128:=by simp at h1;omega
 refine Su ?_;refine CR λB w2 a6 a0 hB=>?_;replace hB:Blk w2 B (AH [UInt8.ofNat m]) 5:=by
  have e:(m:Int)=((UInt8.ofNat m).toNat:Int):=by rw[Tc Aeb]
  rw[e] at hB;exact hB
 refine LW.append (lo:=w.heap.size) (k:=out.length) rfl rfl rfl rfl rfl rfl (hO.ext a0) (by have:=a3.size;have:=a0.size;omega) hB rfl rfl rfl (by show(out.length+1)*2≤_;omega) rfl ?_;intro v3 w3 a4 a1 a7;rw[←JD] at a1;refine Su ?_;refine QW.body1 rfl rfl ⟨?_,(a3.trans a0).step a4 (λb hb=>by have:=(hO.lt hb).1;omega)⟩;rw[←a2,NW h1];show E.Own _ _ _ _ v3 (out++[UInt8.ofNat m]).length _;rw[Aa9];exact a1
theorem Ei.app{lo:Nat}{w:World}{v:Value}{l m:List UInt8}(h:E.Own w lo 5 1 v (l.length+m.length) (AH l++AH m)):Ei lo w v (l++m):=by
 show E.Own _ _ _ _ v (l++m).length _;rw[Aa9,JD];exact h
theorem Ei.bytes'{lo:Nat}{w:World}{p:Option Addr}{c:Nat}{l:List UInt8}(h:Ei lo w (.slice p l.length c) l):p=none∧l.length=0∨∃a,p=some a∧∀j u,(AH l)[j]?=some u→w.cell? (a.add j)=some u:=by
 obtain⟨hx,⟨e,e2⟩ | ⟨g,cap,sp,e,hB,h1,h2,h3⟩⟩:=h
 ·simp only[Acn] at e;exact .inl ⟨e.1,e2⟩
 ·simp only[Acn] at e;refine .inr ⟨_,e.1,λj u hj=>?_⟩;rw[A5];refine hB.cell ?_;rw[AbP,Ab6 (Abo.1 hj).1];exact hj
theorem QN(s:List UInt8)(hs:s.length≤1000000)(w:World):A9 prog 260 [Aq s] w (λv w'=>Ei w.heap.size w' v (JP s)∧Ah w w'):=by
 refine AG func260 ntmps260 ?_;refine Su ?_;refine Ap rfl rfl (UB s.length Aeb w) ?_;rintro v w1 ⟨hO,a0⟩;obtain⟨p,c,rfl⟩:=hO.slice;have:=EP (n:=s.length) Aeb;refine Su ?_;refine LW.append_str (k:=(GH s.length).length) (xs:=AH (GH s.length)) (s:=s) rfl rfl rfl rfl rfl rfl rfl rfl rfl hO a0.size (by show((GH s.length).length+s.length)*2≤_;omega) rfl ?_;intro v2 w2 a1 a2 a3;refine Su ?_;exact QW.body1 rfl rfl ⟨Ei.app a2,a0.step a1 (λb hb=>by have:=(hO.lt hb).1;omega)⟩
theorem U6{ok:Addr→Prop}{w:World}{v:Value}{l:List (List UInt8)}(h:AD ok w v l):∀s∈l,s.length≤1000000:=λs hs=>by
 obtain⟨i,hi⟩:=Ac7 hs;obtain⟨p,c,rfl⟩:=h.slice;exact(AD.at h hi).choose_spec.2.2.1
theorem W6{l:List (List UInt8)}(h:∀s∈l,s.length≤1000000)(hl:l.length≤1000000)(k:Nat):(GH l.length++(l.take k).flatMap JP).length≤10+1000000*1000010:=by
 have h1:=EP (n:=l.length) Aeb;have h2:=Mr (l:=l.take k) λs hs=>h s (Ad7 hs);have h3:(l.take k).length*1000010≤1000000*1000010:=Adj _ (by rw[Acj];omega);rw[Aa9];omega
theorem LQ(l:List (List UInt8))(tv:Value)(w:World)(h:Cw w tv l):A9 prog 210 [tv] w (λv w'=>Ei w.heap.size w' v (Jy l)∧Ah w w'):=by
 obtain⟨p,c,rfl⟩:=h.slice;have hl:=h.1;have hs:=U6 h;refine AG func210 ntmps210 ?_;refine Su ?_;refine Ap rfl rfl (UB l.length Aeb w) ?_;rintro v w1 ⟨hO,a6⟩;refine Su ?_;refine CW.loop (ι:=Nat×Value) (λx w'=>x.1≤l.length∧Ah w w'∧Ei w.heap.size w' x.2 (GH l.length++(l.take x.1).flatMap JP)) (λx=>[(3,x.2),(9,.slice p l.length c),(10,.int .i64 l.length),(11,.int .i64 x.1)]) (λx=>l.length - x.1) (0,v) ⟨by omega,a6,by rw[List.take_zero,AdR,AbD];exact hO⟩ Bl ?_;rintro⟨k,ov⟩ w2 ⟨hk,a1,a0⟩;dsimp only at hk a0;show CW _ _ _ _ _ [(3,ov),(9,.slice p l.length c),(10,.int .i64 l.length),(11,.int .i64 (k:Int))] _;refine Su ?_;refine Av (λh1=>?_) λh1=>?_;rotate_left
 ·have h1:k=l.length:=by simp at h1;omega
  subst h1;refine Su ?_;refine QW.body1 rfl rfl ⟨?_,a1⟩;rw[AbQ] at a0;exact a0
 have h1:k<l.length:=by simp at h1;omega
 obtain⟨s,a3⟩:∃s,l[k]?=some s:=⟨_,Aav h1⟩;obtain⟨a,rfl,-,a4,hc⟩:=AD.at (AD.ext h a1) a3;refine Su ?_;refine Ap rfl rfl (QN s a4 w2) ?_;rintro u w3 ⟨a5,a2⟩;obtain⟨pu,cu,rfl⟩:=a5.slice;have hb:=W6 hs hl k;have ht:=Ss a4;have hq:=(Ei.bytes' a5);refine Su ?_;refine LW.append_any (lo:=w.heap.size) (k:=(GH l.length++(l.take k).flatMap JP).length) (xs:=AH (GH l.length++(l.take k).flatMap JP)) (news:=AH (JP s)) rfl rfl rfl rfl rfl rfl (a0.ext a2) (by have:=a1.size;have:=a2.size;omega) (by rw[QT];show _=_*1;omega) hq (TA _) (by show(_+(JP s).length)*2≤_;omega) rfl ?_;intro v4 w4 a7 a8 a9;refine Su ?_;exact QW.again (k+1,v4) ⟨h1,(a1.trans a2).step a7 (λb hb=>by have:=(a0.lt hb).1;omega),by
  have:=Ei.app a8;rw[Abn] at this;show Ei _ _ v4 (GH l.length++(l.take (k+1)).flatMap JP);rw[AbO,a3,Acb]
  simpa using this⟩ Bl (by show l.length - (k+1)<l.length - k;omega)
open Go Go.E Go.ChangeShapes Go.WideShapes Go.ChangeAt Go.RowKit Go.Joins Go.ChangeMaps
section
variable {H:Type} {enc:TypeId×Value→H} {W:World} {base:Nat} {sp:Nat→Bool} {held:Bool}
theorem Qi{α:Type}[Inhabited α]{R:Kb α}{t e n m:Nat}{c:Value}{x:DataW H×List MemPlace}(ht:prog.underlying t=some (.slice e))(hc:prog.cellsOf e=m)(h:DataW.trod enc prog W base sp held n t [c]=some x)
  (hR:∀(k:Nat) (cs:List Value) (y:DataW H×List MemPlace),cs.length=m→DataW.trod enc prog W base sp held k e cs=some y→∃a,R W cs a):∃l,Dg m R W c l∧∀p n k,c=.slice p n k→n≤k:=by
 have a5:maxLen≤9223372036854775807:=Aef
 rcases Go.Deep.open_slice ht h with ⟨e1,_⟩ | ⟨a',len',cap',q,n,D,Pl,e1,_,hl,hm,a2,_,hx⟩
 ·have e2:c=.slice none 0 0:=by simpa using e1
  rw[e2];exact⟨[],⟨by simp,.inl ⟨rfl,rfl⟩⟩,λp n k e=>by obtain⟨-,rfl,rfl⟩:=AcN e;exact Ab2 _⟩
 ·have e2:c=.slice (some a') len' cap':=by simpa using e1
  rw[e2];have a3:len'≤q:=by rw[a2];split<;>omega
  have key:∀i,i<len'→∃z:α,∃cs:List Value,cs.length=m∧R W cs z∧∀j u,cs[j]?=some u→W.cell? ((a'.add (i*m)).add j)=some u:=λi hi=>by
   obtain⟨cs',h1,h2⟩:=hx i Aeb;rw[hc] at h1;obtain⟨_,a0,a4⟩:=World.cells?_some h1;obtain⟨z,hz⟩:=hR _ _ _ a0 h2;refine⟨z,cs',a0,hz,λj u hj=>?_⟩;have:=(Abo.1 hj).1;rw[a4 j Aeb];exact hj
  obtain⟨N,hN⟩:=Go.Deep.choose_lt key;refine⟨(List.range len').map N,⟨by simp;omega,.inr ⟨a',cap',by simp,λi z hi=>?_⟩⟩,λp n k e=>by obtain⟨-,rfl,rfl⟩:=AcN e;exact hl⟩;have a1:i<len':=by
   have:=(Abo.1 hi).1
   simpa using this
  have:N i=z:=by simpa[a1] using hi
  subst this;exact hN i a1
instance : Inhabited Af := ⟨⟨[], 0, []⟩⟩
theorem Xc{n:Nat}{c:Value}{x:DataW H×List MemPlace}(h:DataW.trod enc prog W base sp held n 47 [c]=some x):∃l,Hv W c l:=by
 obtain⟨l,h1,-⟩:=Qi (R:=Aac) (m:=1) underlying47 Aec h λm cs y hl hy=>by
  obtain⟨s,e0,_,hs⟩:=DataW.trod_string underlying9 hy;exact⟨s.data.toList,e0,QX hs⟩
 exact⟨l,h1⟩
theorem YE{n:Nat}{c:Value}{x:DataW H×List MemPlace}(h:DataW.trod enc prog W base sp held n 44 [c]=some x):∃l,HP W c l:=by
 obtain⟨l,h1,-⟩:=Qi (R:=YD) (m:=1) underlying44 Aec h λm cs y hl hy=>by
  match cs,hl with
  | [u],_=>
   obtain⟨l,hl⟩:=Xc hy;exact⟨l,u,rfl,hl⟩
 exact⟨l,h1⟩
set_option maxRecDepth 100000 in
theorem SR{n:Nat}{cs:List Value}{x:DataW H×List MemPlace}(h:DataW.trod enc prog W base sp held n 46 cs=some x):∃s,LH W cs s:=by
 have hu:=underlying46;have hC:prog.cellsOf 46=3:=by kernel_rfl
 obtain⟨xs,n',_,hx,hl,a0,hg⟩:=DataW.trod_struct hu h
 match cs,hl.trans hC with
 | [c0,c1,c2],_=>
  have g0:=hg 0 _ rfl;have g1:=hg 1 _ rfl;have g2:=hg 2 _ rfl
  match xs,a0 with
  | [y0,y1,y2],_=>
   have k1:prog.cellsOf 9=1:=by kernel_rfl
   have k2:prog.cellsOf 3=1:=by kernel_rfl
   have k3:prog.cellsOf 44=1:=by kernel_rfl
   obtain⟨s,e0,_,hs⟩:=DataW.trod_string underlying9 g0;obtain⟨z,e1,_,_⟩:=DataW.trod_int underlying3 g1;simp[k1,k2] at e0 e1;have g2':DataW.trod enc prog W base sp held n' 44 [c2]=some y2:=by simpa[k3] using g2
   obtain⟨rows,hr⟩:=YE g2';exact⟨⟨s.data.toList,z,rows⟩,c2,by rw[e0,e1];rfl,QX hs,hr⟩
theorem U2{n:Nat}{c:Value}{x:DataW H×List MemPlace}(h:DataW.trod enc prog W base sp held n 22 [c]=some x):∃l,Cd W c l:=by
 obtain⟨l,h1,-⟩:=Qi (R:=LH) (m:=3) underlying22 Aec h λm cs y hl hy=>SR hy;exact⟨l,h1⟩
set_option maxRecDepth 100000 in
theorem TB{n:Nat}{c:Value}{x:DataW H×List MemPlace}(h:DataW.trod enc prog W base sp held n 24 [c]=some x):∃b,Cd W c b:=by
 have hu:=underlying24;obtain⟨xs,n',_,hx,hl,a0,hg⟩:=DataW.trod_struct hu h;have g0:=hg 0 _ rfl
 match xs,a0 with
 | [y0],_=>
  have k3:prog.cellsOf 22=1:=by kernel_rfl
  have g0':DataW.trod enc prog W base sp held n' 22 [c]=some y0:=by simpa[k3] using g0
  exact U2 g0'
set_option maxRecDepth 100000 in
theorem Po{b0:Nat}{v:Value}{d:DataW H}{p:List MemPlace}(hv:Value.okWide prog W .any b0 24 v)(h:DataW.Trod enc prog W base sp held 24 v d p):∃u b,v=.agg ⟨[u]⟩∧Cd W u b:=by
 have hu:=underlying24;have hC:prog.cellsOf 24=1:=by kernel_rfl
 obtain⟨cs0,rfl,a0⟩:=okWide_struct hu hv;obtain⟨cs⟩:=cs0
 match cs,a0.trans hC with
 | [c0],_=>
  obtain⟨fuel,hf⟩:=h;have a1:DataW.trod enc prog W base sp held fuel 24 [c0]=some (d,p):=by simpa[Value.cells] using hf
  obtain⟨b,hb⟩:=TB a1;exact⟨c0,b,rfl,hb⟩
end
end Go.Proofs.YtcjjcnecopnpcaaGreatDoor
